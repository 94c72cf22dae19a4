import Derived.Test.YthpngienphnaoaaDoorV5
/-
  blotterlaw01.RunesPlaces: it returns true.
-/
namespace Go.Proofs.YthpngienphnaoaaDoor
open Go.RowKit Go.Proofs.YthpngienphnaoaaDoorW.PrintWords

theorem str_nil : str [] = ⟨#[]⟩ := rfl
theorem cut_at {s : ByteArray} {l : List Nat} (h : s.data.toList = encS l) (F G : Nat) : str (encS ((l.drop F).take G)) = s.extract (offS l F) (offS l (F + G)) := by
  apply ByteArray.ext
  apply Array.ext'
  rw [ext_list, h]
  show encS ((l.drop F).take G) = _
  have e1 : encS l = encS (l.take (F + G)) ++ encS (l.drop (F + G)) := (encS_take_drop l _).symm
  have e2 : l.take (F + G) = l.take F ++ (l.drop F).take G := by rw [List.take_add]
  rw [e1]
  unfold offS
  rw [List.take_left, e2, encS_append, List.drop_left]
set_option maxHeartbeats 4000000 in
set_option maxRecDepth 100000 in
theorem places_any (s : ByteArray) (a b : Int) (w : World) (hs : s.size ≤ 2000000) (hE : Env w) :
    Calls Tryd.prog 14 #[.string s, .int .i64 a, .int .i64 b] w fun e w' => e = .returned (.bool true) ∧ Below w.heap.size w w' := by
  have CA := Lib.hid (awake_any w hE)
  have CC := Lib.hid (fun W (h : Env W) => cut_any s a b W (by omega) h.1)
  have CP := Lib.hid (fun W (h : Env W) => place_any s a W (by omega) h.1)
  have CQ := Lib.hid (fun W (h : Env W) => place_any s b W (by omega) h.1)
  have HE := Lib.hid hE
  clear hE
  by_cases hok : ∃ l, textS s.data.toList = some l ∧ 0 ≤ a ∧ a ≤ b ∧ b ≤ (l.length : Int)
  · obtain ⟨l, hl, h1, h2, h3⟩ := hok
    obtain ⟨e1, e2, e3⟩ := textS_inv hl
    have hc1 : cutS s.data.toList a b = (encS ((l.drop a.toNat).take (b - a).toNat), 0) := by unfold cutS; rw [hl]; simp only; rw [if_neg (by omega)]
    have hp1 : plcS s.data.toList a = (((offS l a.toNat : Nat) : Int), 0) := by unfold plcS; rw [hl]; simp only; rw [if_neg (by omega)]
    have hp2 : plcS s.data.toList b = (((offS l b.toNat : Nat) : Int), 0) := by unfold plcS; rw [hl]; simp only; rw [if_neg (by omega)]
    rw [hc1] at CC
    rw [hp1] at CP
    rw [hp2] at CQ
    have hcut := cut_at e1 a.toNat (b - a).toNat
    have hta : a.toNat + (b - a).toNat = b.toNat := by omega
    rw [hta] at hcut
    have hle1 : offS l a.toNat ≤ offS l b.toNat := off_mono l (by omega)
    have hle2 : offS l b.toNat ≤ s.size := by rw [← off_end e1 l.length (Nat.le_refl _)]; exact off_mono l (by omega)
    have hcnt : cntS (s.extract (offS l a.toNat) (offS l b.toNat)).data.toList = (b - a, 0) := by
      rw [← hcut, str_list, cntS_text, textS_enc _ (mem_take (mem_drop e2 _) _) (by rw [List.length_take, List.length_drop]; omega)]
      simp only
      rw [List.length_take, List.length_drop]
      congr 1
      omega
    rw [show (encS ((l.drop a.toNat).take (b - a).toNat), (0 : Int)).1 = encS ((l.drop a.toNat).take (b - a).toNat) from rfl, hcut] at CC
    obtain ⟨f, hf⟩ : ∃ f, f = offS l a.toNat := ⟨_, rfl⟩
    obtain ⟨g, hg⟩ : ∃ g, g = offS l b.toNat := ⟨_, rfl⟩
    rw [← hf] at CP CC hle1 hcnt
    rw [← hg] at CQ CC hle1 hle2 hcnt
    have CN : Hid (∀ W, Env W → Calls Tryd.prog 24 #[.string (s.extract f g)] W fun e w' => e = .returned (.tuple #[.int .i64 (b - a), .int .i64 0]) ∧ Below W.heap.size W w') := by
      intro W h
      have h := count_any (s.extract f g) W (by rw [ByteArray.size_extract]; omega) h.1
      rw [hcnt] at h
      exact h
    clear hl e1 e2 hc1 hp1 hp2 hcut hta hcnt hf hg
    have i1 : (f : Int) ≤ (g : Int) := by omega
    have i2 : (g : Int) ≤ (s.size : Int) := by omega
    have i3 : b ≤ 20000 := by omega
    go_enter Tryd.func14, Tryd.ntmps14
    go_wp2_with fail
    refine CA.out.mono ?_
    rintro e w1 ⟨rfl, hb1⟩
    have E1 := Lib.hid (env_below HE.out hb1)
    go_wp2_with fail
    refine (CC.out w1 E1.out).mono ?_
    rintro e w2 ⟨rfl, hb2⟩
    have E2 := Lib.hid (env_below E1.out hb2)
    have hb02 := below_then hb1 hb1.size hb2
    clear hb1 hb2
    go_wp2_with fail
    refine (CP.out w2 E2.out).mono ?_
    rintro e w3 ⟨rfl, hb3⟩
    have E3 := Lib.hid (env_below E2.out hb3)
    have hb03 := below_then hb02 hb02.size hb3
    clear hb02 hb3
    go_wp2_with fail
    refine (CQ.out w3 E3.out).mono ?_
    rintro e w4 ⟨rfl, hb4⟩
    have E4 := Lib.hid (env_below E3.out hb4)
    have hb04 := below_then hb03 hb03.size hb4
    clear hb03 hb4
    go_wp2_with fail
    refine (CN.out w4 E4.out).mono ?_
    rintro e w5 ⟨rfl, hb5⟩
    have hb05 := below_then hb04 hb04.size hb5
    clear hb04 hb5
    go_wp2_with fail
    go_ret
    exact ⟨rfl, hb05⟩
  · have hbad : ∃ x : Int, cutS s.data.toList a b = ([], x) ∧ (x == 0) = false := by
      unfold cutS
      cases hl : textS s.data.toList with
      | none => exact ⟨10, rfl, rfl⟩
      | some l =>
        refine ⟨1, ?_, rfl⟩
        simp only
        rw [if_pos ?_]
        have : ¬ (0 ≤ a ∧ a ≤ b ∧ b ≤ (l.length : Int)) := fun h => hok ⟨l, hl, h⟩
        omega
    obtain ⟨x, hx1, hx2⟩ := hbad
    rw [hx1] at CC
    rw [show (([], x) : List UInt8 × Int).1 = [] from rfl, str_nil] at CC
    have hx3 : (x != 0) = true := by rw [bne, hx2]; rfl
    obtain ⟨p1, hp1⟩ : ∃ p, p = plcS s.data.toList a := ⟨_, rfl⟩
    obtain ⟨p2, hp2⟩ : ∃ p, p = plcS s.data.toList b := ⟨_, rfl⟩
    rw [← hp1] at CP
    rw [← hp2] at CQ
    obtain ⟨p11, p12⟩ := p1
    obtain ⟨p21, p22⟩ := p2
    clear hok hx1 hp1 hp2
    go_enter Tryd.func14, Tryd.ntmps14
    go_wp2_with fail
    refine CA.out.mono ?_
    rintro e w1 ⟨rfl, hb1⟩
    have E1 := Lib.hid (env_below HE.out hb1)
    go_wp2_with fail
    refine (CC.out w1 E1.out).mono ?_
    rintro e w2 ⟨rfl, hb2⟩
    have E2 := Lib.hid (env_below E1.out hb2)
    have hb02 := below_then hb1 hb1.size hb2
    clear hb1 hb2
    go_wp2_with fail
    refine (CP.out w2 E2.out).mono ?_
    rintro e w3 ⟨rfl, hb3⟩
    have E3 := Lib.hid (env_below E2.out hb3)
    have hb03 := below_then hb02 hb02.size hb3
    clear hb02 hb3
    go_wp2_with fail
    refine (CQ.out w3 E3.out).mono ?_
    rintro e w4 ⟨rfl, hb4⟩
    have hb04 := below_then hb03 hb03.size hb4
    clear hb03 hb4
    go_wp2_with fail
    go_ret
    exact ⟨rfl, hb04⟩
end Go.Proofs.YthpngienphnaoaaDoor
