import Derived.Test.YthpngienphnaoaaDoorU4
/-
  runes.Splice: its contract.
-/
namespace Go.Proofs.YthpngienphnaoaaDoor
open Go.RowKit Go.Proofs.YthpngienphnaoaaDoorW.PrintWords

def str (l : List UInt8) : ByteArray := ⟨l.toArray⟩
/-- What Splice answers. -/
def splS (a b : List UInt8) (at_ gone : Int) : List UInt8 × Int :=
  match textS a, textS b with
  | some l, some m => if at_ < 0 ∨ (l.length : Int) < at_ ∨ gone < 0 ∨ (l.length : Int) - at_ < gone then ([], 1) else if 20000 < (l.length : Int) - gone + m.length then ([], 3) else (encS (l.take at_.toNat) ++ b ++ encS (l.drop (at_.toNat + gone.toNat)), 0)
  | _, _ => ([], 10)
theorem textS_inv {b : List UInt8} {l : List Nat} (h : textS b = some l) : b = encS l ∧ (∀ r ∈ l, scalar r) ∧ l.length ≤ 20000 := by
  unfold textS at h
  cases hr : runesL b with
  | none => rw [hr] at h; simp at h
  | some m =>
    rw [hr, Option.bind_some] at h
    split at h
    · injection h with h
      subst h
      exact ⟨(runesL_inv hr).1, (runesL_inv hr).2, by assumption⟩
    · cases h
theorem count_yes {s : ByteArray} {l : List Nat} (h : textS s.data.toList = some l) : cntS s.data.toList = ((l.length : Int), 0) := by rw [cntS_text, h]
theorem count_no {s : ByteArray} (h : textS s.data.toList = none) : cntS s.data.toList = (0, 10) := by rw [cntS_text, h]
theorem off_mono (l : List Nat) {i j : Nat} (h : i ≤ j) : offS l i ≤ offS l j := by
  unfold offS
  have e : l.take i = (l.take j).take i := by rw [List.take_take, Nat.min_eq_left h]
  rw [e]
  have := encS_take_drop (l.take j) i
  rw [← this, List.length_append]
  omega
theorem ext_list (s : ByteArray) (i j : Nat) : (s.extract i j).data.toList = (s.data.toList.take j).drop i := by
  rw [ByteArray.data_extract, Array.toList_extract]
  simp
  rw [List.drop_take]
theorem drop_off (l : List Nat) (i n : Nat) (h : (encS l).length ≤ n) : ((encS l).take n).drop (offS l i) = encS (l.drop i) := by
  rw [List.take_of_length_le h, ← encS_take_drop l i]
  unfold offS
  rw [List.drop_left]
theorem splice_eq (s p : ByteArray) (l : List Nat) (A G f x : Nat) (h1 : s.data.toList = encS l) (h2 : (s.extract f s.size).data.toList = encS (l.drop A)) (hf : f = offS l A) (hx : x = offS (l.drop A) G) (hz : (s.extract f s.size).size = s.size - f) :
    s.extract 0 f ++ p ++ (s.extract f s.size).extract x (s.size - f) = str (encS (l.take A) ++ p.data.toList ++ encS (l.drop (A + G))) := by
  have e1 : (s.extract 0 f).data.toList = encS (l.take A) := by
    rw [ext_list, List.drop_zero, h1, hf, ← encS_take_drop l A]
    unfold offS
    rw [List.take_left]
  have e2 : ((s.extract f s.size).extract x (s.size - f)).data.toList = encS (l.drop (A + G)) := by
    have hl : (encS (l.drop A)).length ≤ s.size - f := by rw [← h2, ← hz]; exact Nat.le_of_eq Array.length_toList
    rw [ext_list, h2, hx, drop_off _ _ _ hl, List.drop_drop]
  apply ByteArray.ext
  apply Array.ext'
  rw [ByteArray.data_append, ByteArray.data_append, Array.toList_append, Array.toList_append, e1, e2]
  rfl
theorem undrew' {wr w3 : World} (hb : Below wr.drew.heap.size wr.drew w3) : Below wr.heap.size wr w3 := ⟨hb.os, hb.tape, hb.output, hb.size, hb.block⟩
set_option maxHeartbeats 4000000 in
set_option maxRecDepth 100000 in
theorem splice_any (s p : ByteArray) (a g : Int) (w : World) (hs : s.size ≤ 10000000) (hp : p.size ≤ 10000000) (hT : Lib.Utf8Tabs 0 1 w) (ha : -9223372036854775808 ≤ a ∧ a ≤ 9223372036854775807) (hg : -9223372036854775808 ≤ g ∧ g ≤ 9223372036854775807) :
    Calls Tryd.prog 16 #[.string s, .int .i64 a, .int .i64 g, .string p] w fun e w' => e = .returned (.tuple #[.string (str (splS s.data.toList p.data.toList a g).1), .int .i64 (splS s.data.toList p.data.toList a g).2]) ∧ Below w.heap.size w w' := by
  go_enter Tryd.func16, Tryd.ntmps16
  go_wp2_with fail
  refine (count_any s w hs hT).mono ?_
  rintro e w1 ⟨rfl, hb1⟩
  have hT1 := tabs_below hT hb1
  cases hl : textS s.data.toList with
  | none =>
    rw [count_no hl]
    go_wp2_with fail
    refine (count_any p w1 hp hT1).mono ?_
    rintro e w2 ⟨rfl, hb2⟩
    have hb02 := below_then hb1 hb1.size hb2
    have hc : splS s.data.toList p.data.toList a g = ([], 10) := by unfold splS; rw [hl]
    have HC := Lib.hid hc
    clear hc hT hT1 hb1 hb2 hl
    obtain ⟨n2, hn2⟩ : ∃ n, n = cntS p.data.toList := ⟨_, rfl⟩
    rw [← hn2]
    clear hn2
    obtain ⟨n3, n4⟩ := n2
    go_wp2_with fail
    go_ret2
    exact ⟨by rw [HC.out]; rfl, hb02⟩
  | some l =>
    rw [count_yes hl]
    have HL := Lib.hid hl
    clear hl
    go_wp2_with fail
    refine (count_any p w1 hp hT1).mono ?_
    rintro e w2 ⟨rfl, hb2⟩
    have hb02 := below_then hb1 hb1.size hb2
    clear hT hT1 hb1 hb2
    cases hm : textS p.data.toList with
    | none =>
      rw [count_no hm]
      have hc : splS s.data.toList p.data.toList a g = ([], 10) := by unfold splS; rw [HL.out, hm]
      have HC := Lib.hid hc
      clear hc hm
      go_wp2_with fail
      go_ret2
      exact ⟨by rw [HC.out]; rfl, hb02⟩
    | some m =>
      rw [count_yes hm]
      have HM := Lib.hid hm
      obtain ⟨e1, e2, e3⟩ := textS_inv HL.out
      obtain ⟨e4, e5, e6⟩ := textS_inv hm
      have HE := Lib.hid e1
      have HS := Lib.hid e2
      clear hm e1 e2 e4 e5
      by_cases c1 : a < 0
      · have hc : splS s.data.toList p.data.toList a g = ([], 1) := by unfold splS; rw [HL.out, HM.out]; simp only; rw [if_pos (by omega)]
        have HC := Lib.hid hc
        clear hc
        go_wp2_with fail
        go_ret2
        exact ⟨by rw [HC.out]; rfl, hb02⟩
      · by_cases c2 : (l.length : Int) < a
        · have hc : splS s.data.toList p.data.toList a g = ([], 1) := by unfold splS; rw [HL.out, HM.out]; simp only; rw [if_pos (by omega)]
          have HC := Lib.hid hc
          clear hc
          go_wp2_with fail
          go_ret2
          exact ⟨by rw [HC.out]; rfl, hb02⟩
        · by_cases c3 : g < 0
          · have hc : splS s.data.toList p.data.toList a g = ([], 1) := by unfold splS; rw [HL.out, HM.out]; simp only; rw [if_pos (by omega)]
            have HC := Lib.hid hc
            clear hc
            go_wp2_with fail
            go_ret2
            exact ⟨by rw [HC.out]; rfl, hb02⟩
          · by_cases c4 : (l.length : Int) - a < g
            · have hc : splS s.data.toList p.data.toList a g = ([], 1) := by unfold splS; rw [HL.out, HM.out]; simp only; rw [if_pos (by omega)]
              have HC := Lib.hid hc
              clear hc
              go_wp2_with fail
              go_ret2
              exact ⟨by rw [HC.out]; rfl, hb02⟩
            · by_cases c5 : (20000 : Int) < (l.length : Int) - g + m.length
              · have hc : splS s.data.toList p.data.toList a g = ([], 3) := by unfold splS; rw [HL.out, HM.out]; simp only; rw [if_neg (by omega), if_pos c5]
                have HC := Lib.hid hc
                clear hc
                go_wp2_with fail
                go_ret2
                exact ⟨by rw [HC.out]; rfl, hb02⟩
              · have hc : splS s.data.toList p.data.toList a g = (encS (l.take a.toNat) ++ p.data.toList ++ encS (l.drop (a.toNat + g.toNat)), 0) := by unfold splS; rw [HL.out, HM.out]; simp only; rw [if_neg (by omega), if_neg c5]
                have HC := Lib.hid hc
                clear hc
                obtain ⟨A, rfl⟩ := Int.eq_ofNat_of_zero_le (show 0 ≤ a by omega)
                obtain ⟨G, rfl⟩ := Int.eq_ofNat_of_zero_le (show 0 ≤ g by omega)
                go_wp2_with fail
                refine (offset_any s l A w2 HE.out HS.out hs (by omega)).mono ?_
                rintro e w3 ⟨rfl, hb3⟩
                have hb03 := below_then hb02 hb02.size hb3
                clear hb02 hb3
                have hf : offS l A ≤ s.size := by rw [← off_end HE.out l.length (Nat.le_refl _)]; exact off_mono l (by omega)
                have hrest : (s.extract (offS l A) s.size).data.toList = encS (l.drop A) := by rw [ext_list, HE.out]; exact drop_off l A _ (by rw [← HE.out]; exact Nat.le_of_eq Array.length_toList)
                obtain ⟨f, hfe⟩ : ∃ f, f = offS l A := ⟨_, rfl⟩
                rw [← hfe] at hf hrest ⊢
                have HF := Lib.hid hfe
                have HR := Lib.hid hrest
                have hxs : offS (l.drop A) G ≤ (s.extract f s.size).size := by rw [← off_end hrest (l.drop A).length (Nat.le_refl _)]; exact off_mono _ (by rw [List.length_drop]; omega)
                have hrs : (s.extract f s.size).size ≤ 10000000 := by rw [ByteArray.size_extract]; omega
                have HSD : Hid (∀ r ∈ l.drop A, scalar r) := fun r hr => HS.out r (List.mem_of_mem_drop hr)
                have hesz : (s.extract f s.size).size = s.size - f := by rw [ByteArray.size_extract]; omega
                obtain ⟨x, hx⟩ : ∃ x, x = offS (l.drop A) G := ⟨_, rfl⟩
                rw [← hx] at hxs
                rw [hesz] at hxs
                have hx1 : (x : Int) ≤ ((s.size - f : Nat) : Int) := by omega
                have hx2 : (x : Int) ≤ (s.size : Int) - f := by omega
                have HCALL : Hid (∀ W : World, Calls Tryd.prog 40 #[.string (s.extract f s.size), .int .i64 G] W fun e w' => e = .returned (.int .i64 x) ∧ Below W.heap.size W w') := by
                  intro W
                  rw [hx]
                  exact offset_any (s.extract f s.size) (l.drop A) G W HR.out HSD.out hrs (by omega)
                have HX := Lib.hid hx
                clear hfe hrest hx
                go_wp2_with fail
                go_region_with (go_at_call 40; (with_reducible refine (HCALL.out _).mono ?_); rintro e w4 ⟨rfl, hb4⟩)
                all_goals
                  go_simp
                  go_wp2_with fail
                  go_ret2
                  refine ⟨?_, below_then hb03 hb03.size (undrew' hb4)⟩
                  rw [HC.out]
                  refine congrArg (fun v => Ending.returned (.tuple #[.string v, .int .i64 0])) ?_
                  exact splice_eq s p l A G f x HE.out HR.out HF.out HX.out hesz
end Go.Proofs.YthpngienphnaoaaDoor
