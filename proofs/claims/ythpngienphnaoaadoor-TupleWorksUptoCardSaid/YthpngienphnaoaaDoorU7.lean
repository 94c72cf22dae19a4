import Derived.Test.YthpngienphnaoaaDoorU6
/-
  runes.Cut: its contract.
-/
namespace Go.Proofs.YthpngienphnaoaaDoor
open Go.RowKit Go.Proofs.YthpngienphnaoaaDoorW.PrintWords

/-- What Cut answers. -/
def cutS (b : List UInt8) (f t : Int) : List UInt8 × Int :=
  match textS b with
  | some l => if f < 0 ∨ t < f ∨ (l.length : Int) < t then ([], 1) else (encS ((l.drop f.toNat).take (t - f).toNat), 0)
  | none => ([], 10)
theorem cut_eq (s : ByteArray) (l : List Nat) (A G f x : Nat) (h2 : (s.extract f s.size).data.toList = encS (l.drop A)) (hx : x = offS (l.drop A) G) : (s.extract f s.size).extract 0 x = str (encS ((l.drop A).take G)) := by
  apply ByteArray.ext
  apply Array.ext'
  rw [ext_list, List.drop_zero, h2, hx, ← encS_take_drop (l.drop A) G]
  unfold offS
  rw [List.take_left]
  rfl
set_option maxHeartbeats 4000000 in
set_option maxRecDepth 100000 in
theorem cut_any (s : ByteArray) (a b : Int) (w : World) (hs : s.size ≤ 10000000) (hT : Lib.Utf8Tabs 0 1 w) :
    Calls Tryd.prog 25 #[.string s, .int .i64 a, .int .i64 b] w fun e w' => e = .returned (.tuple #[.string (str (cutS s.data.toList a b).1), .int .i64 (cutS s.data.toList a b).2]) ∧ Below w.heap.size w w' := by
  go_enter Tryd.func25, Tryd.ntmps25
  go_wp2_with fail
  refine (count_any s w hs hT).mono ?_
  rintro e w1 ⟨rfl, hb1⟩
  clear hT
  cases hl : textS s.data.toList with
  | none =>
    rw [count_no hl]
    have hc : cutS s.data.toList a b = ([], 10) := by unfold cutS; rw [hl]
    have HC := Lib.hid hc
    clear hc hl
    go_wp2_with fail
    go_ret2
    exact ⟨by rw [HC.out]; rfl, hb1⟩
  | some l =>
    rw [count_yes hl]
    obtain ⟨e1, e2, e3⟩ := textS_inv hl
    have HL := Lib.hid hl
    have HE := Lib.hid e1
    have HS := Lib.hid e2
    clear hl e1 e2
    by_cases c0 : a < 0 ∨ b < a ∨ (l.length : Int) < b
    · have hc : cutS s.data.toList a b = ([], 1) := by unfold cutS; rw [HL.out]; simp only; rw [if_pos c0]
      have HC := Lib.hid hc
      clear hc
      by_cases c1 : a < 0
      · clear c0
        go_wp2_with fail
        go_ret2
        exact ⟨by rw [HC.out]; rfl, hb1⟩
      · by_cases c2 : b < a
        · clear c0
          go_wp2_with fail
          go_ret2
          exact ⟨by rw [HC.out]; rfl, hb1⟩
        · have c3 : (l.length : Int) < b := by omega
          clear c0
          go_wp2_with fail
          go_ret2
          exact ⟨by rw [HC.out]; rfl, hb1⟩
    · have hc : cutS s.data.toList a b = (encS ((l.drop a.toNat).take (b - a).toNat), 0) := by unfold cutS; rw [HL.out]; simp only; rw [if_neg c0]
      have HC := Lib.hid hc
      have c1 : ¬ a < 0 := by omega
      have c2 : ¬ b < a := by omega
      have c3 : ¬ (l.length : Int) < b := by omega
      clear hc c0
      obtain ⟨A, rfl⟩ := Int.eq_ofNat_of_zero_le (show 0 ≤ a by omega)
      obtain ⟨G, hG⟩ := Int.eq_ofNat_of_zero_le (show 0 ≤ b - A by omega)
      obtain rfl : b = (A : Int) + G := by omega
      rw [hG] at HC
      clear hG
      go_wp2_with fail
      refine (offset_any s l A w1 HE.out HS.out hs (by omega)).mono ?_
      rintro e w3 ⟨rfl, hb3⟩
      have hb03 := below_then hb1 hb1.size hb3
      clear hb1 hb3
      have hf : offS l A ≤ s.size := by rw [← off_end HE.out l.length (Nat.le_refl _)]; exact off_mono l (by omega)
      have hrest : (s.extract (offS l A) s.size).data.toList = encS (l.drop A) := by rw [ext_list, HE.out]; exact drop_off l A _ (by rw [← HE.out]; exact Nat.le_of_eq Array.length_toList)
      obtain ⟨f, hfe⟩ : ∃ f, f = offS l A := ⟨_, rfl⟩
      rw [← hfe] at hf hrest ⊢
      have hxs : offS (l.drop A) G ≤ (s.extract f s.size).size := by rw [← off_end hrest (l.drop A).length (Nat.le_refl _)]; exact off_mono _ (by rw [List.length_drop]; omega)
      have hrs : (s.extract f s.size).size ≤ 10000000 := by rw [ByteArray.size_extract]; omega
      have hesz : (s.extract f s.size).size = s.size - f := by rw [ByteArray.size_extract]; omega
      have HCALL : Hid (∀ W : World, Calls Tryd.prog 40 #[.string (s.extract f s.size), .int .i64 G] W fun e w' => e = .returned (.int .i64 (offS (l.drop A) G)) ∧ Below W.heap.size W w') := by
        intro W
        exact offset_any (s.extract f s.size) (l.drop A) G W hrest (fun r hr => HS.out r (List.mem_of_mem_drop hr)) hrs (by omega)
      obtain ⟨x, hx⟩ : ∃ x, x = offS (l.drop A) G := ⟨_, rfl⟩
      rw [← hx] at hxs HCALL
      rw [hesz] at hxs
      have HX := Lib.hid hx
      have HR := Lib.hid hrest
      clear hx hrest hfe
      have eg : (A : Int) + G - A = G := by omega
      go_wp2_with fail
      refine (HCALL.out w3).mono ?_
      rintro e w4 ⟨rfl, hb4⟩
      have hb04 := below_then hb03 hb03.size hb4
      clear hb03 hb4 HCALL
      have hcs : ((s.extract f s.size).extract 0 x).size ≤ 10000000 := by rw [ByteArray.size_extract]; omega
      have hx1 : (x : Int) ≤ (s.size : Int) - f := by omega
      have HCL := Lib.hid (clone_any ((s.extract f s.size).extract 0 x) w4 hcs)
      go_wp2_with fail
      refine HCL.out.mono ?_
      rintro e w5 ⟨rfl, hb5⟩
      have hb05 := below_then hb04 hb04.size hb5
      go_wp2_with fail
      go_ret2
      refine ⟨?_, hb05⟩
      rw [HC.out]
      exact congrArg (fun v => Ending.returned (.tuple #[.string v, .int .i64 0])) (cut_eq s l A G f x HR.out HX.out)
end Go.Proofs.YthpngienphnaoaaDoor
