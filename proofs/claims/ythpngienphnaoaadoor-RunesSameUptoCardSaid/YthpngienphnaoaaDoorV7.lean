import Derived.Test.YthpngienphnaoaaDoorV5
/-
  blotterlaw01.RunesSame: it returns true.
-/
namespace Go.Proofs.YthpngienphnaoaaDoor
open Go.RowKit Go.Proofs.YthpngienphnaoaaDoorW.PrintWords

set_option maxHeartbeats 4000000 in
set_option maxRecDepth 100000 in
theorem runesSame_any (s : ByteArray) (w : World) (hs : s.size ≤ 2000000) (hE : Env w) :
    Calls Tryd.prog 6 #[.string s] w fun e w' => e = .returned (.bool true) ∧ Below w.heap.size w w' := by
  have CA := Lib.hid (fun W (h : Env W) => awake_any W h)
  have CC := Lib.hid (fun W (h : Env W) => count_any s W (by omega) h.1)
  have CX := Lib.hid (fun W (h : Env W) => ahead_any s s W (by omega) (by omega) h.1)
  have CY := Lib.hid (fun W (h : Env W) => behind_any s s W (by omega) (by omega) h.1)
  have HE := Lib.hid hE
  clear hE
  cases hl : textS s.data.toList with
  | none =>
    rw [count_no hl] at CC
    rw [show aheadS s.data.toList s.data.toList = (0, 10) by unfold aheadS; rw [hl]] at CX
    rw [show behindS s.data.toList s.data.toList = (0, 10) by unfold behindS; rw [hl]] at CY
    clear hl
    go_enter Tryd.func6, Tryd.ntmps6
    go_wp2_with fail
    refine (CA.out w HE.out).mono ?_
    rintro e w1 ⟨rfl, hb1⟩
    have E1 := Lib.hid (env_below HE.out hb1)
    have hc1 := hb1
    clear hb1
    go_wp2_with fail
    refine (CC.out w1 E1.out).mono ?_
    rintro e w2 ⟨rfl, hb2⟩
    have E2 := Lib.hid (env_below E1.out hb2)
    have hc2 := below_then hc1 hc1.size hb2
    clear hb2 hc1
    go_wp2_with fail
    refine (CX.out w2 E2.out).mono ?_
    rintro e w3 ⟨rfl, hb3⟩
    have E3 := Lib.hid (env_below E2.out hb3)
    have hc3 := below_then hc2 hc2.size hb3
    clear hb3 hc2
    go_wp2_with fail
    refine (CY.out w3 E3.out).mono ?_
    rintro e w4 ⟨rfl, hb4⟩
    have E4 := Lib.hid (env_below E3.out hb4)
    have hc4 := below_then hc3 hc3.size hb4
    clear hb4 hc3
    go_wp2_with fail
    go_ret
    exact ⟨rfl, hc4⟩
  | some l =>
    obtain ⟨e1, e2, e3⟩ := textS_inv hl
    rw [count_yes hl] at CC
    rw [show aheadS s.data.toList s.data.toList = ((l.length : Int), 0) by unfold aheadS; rw [hl]; simp only; rw [aheadN_self]] at CX
    rw [show behindS s.data.toList s.data.toList = (0, 0) by unfold behindS; rw [hl]; simp only; rw [behindN_self]; rfl] at CY
    have hx : (s ++ ByteArray.mk #[120]).data.toList = encS (l ++ [120]) := by
      rw [ByteArray.data_append, Array.toList_append, e1]
      exact x_enc l
    have hxs : ∀ r ∈ l ++ [120], scalar r := mem_app e2 (fun r hr => by simp at hr; subst hr; exact scalar_small _ (by omega))
    have hxl : (l ++ [120]).length = l.length + 1 := by simp
    have hsz : (s ++ ByteArray.mk #[120]).size ≤ 10000000 := by
      rw [ByteArray.size_append]
      show s.size + 1 ≤ _
      omega
    have CV := Lib.hid (fun W (h : Env W) => ahead_any s (s ++ ByteArray.mk #[120]) W (by omega) hsz h.1)
    have CW := Lib.hid (fun W (h : Env W) => behind_any s (s ++ ByteArray.mk #[120]) W (by omega) hsz h.1)
    by_cases h2 : l.length = 20000
    · have ht := textS_long (l ++ [120]) hxs (by omega)
      rw [← hx] at ht
      rw [show aheadS s.data.toList (s ++ ByteArray.mk #[120]).data.toList = (0, 10) by unfold aheadS; rw [hl, ht]] at CV
      rw [show behindS s.data.toList (s ++ ByteArray.mk #[120]).data.toList = (0, 10) by unfold behindS; rw [hl, ht]] at CW
      rw [h2] at CC CX
      clear hl e1 e2 e3 hx hxs hxl hsz h2 ht
      go_enter Tryd.func6, Tryd.ntmps6
      go_wp2_with fail
      refine (CA.out w HE.out).mono ?_
      rintro e w1 ⟨rfl, hb1⟩
      have E1 := Lib.hid (env_below HE.out hb1)
      have hc1 := hb1
      clear hb1
      go_wp2_with fail
      refine (CC.out w1 E1.out).mono ?_
      rintro e w2 ⟨rfl, hb2⟩
      have E2 := Lib.hid (env_below E1.out hb2)
      have hc2 := below_then hc1 hc1.size hb2
      clear hb2 hc1
      go_wp2_with fail
      refine (CX.out w2 E2.out).mono ?_
      rintro e w3 ⟨rfl, hb3⟩
      have E3 := Lib.hid (env_below E2.out hb3)
      have hc3 := below_then hc2 hc2.size hb3
      clear hb3 hc2
      go_wp2_with fail
      refine (CY.out w3 E3.out).mono ?_
      rintro e w4 ⟨rfl, hb4⟩
      have E4 := Lib.hid (env_below E3.out hb4)
      have hc4 := below_then hc3 hc3.size hb4
      clear hb4 hc3
      go_wp2_with fail
      refine (CV.out w4 E4.out).mono ?_
      rintro e w5 ⟨rfl, hb5⟩
      have E5 := Lib.hid (env_below E4.out hb5)
      have hc5 := below_then hc4 hc4.size hb5
      clear hb5 hc4
      go_wp2_with fail
      refine (CW.out w5 E5.out).mono ?_
      rintro e w6 ⟨rfl, hb6⟩
      have E6 := Lib.hid (env_below E5.out hb6)
      have hc6 := below_then hc5 hc5.size hb6
      clear hb6 hc5
      go_wp2_with fail
      go_ret
      exact ⟨rfl, hc6⟩
    · have ht := textS_enc (l ++ [120]) hxs (by omega)
      rw [← hx] at ht
      rw [show aheadS s.data.toList (s ++ ByteArray.mk #[120]).data.toList = ((l.length : Int), 0) by unfold aheadS; rw [hl, ht]; simp only; rw [aheadN_app]] at CV
      rw [show behindS s.data.toList (s ++ ByteArray.mk #[120]).data.toList = (0, 0) by unfold behindS; rw [hl, ht]; simp only; rw [behindN_app]; rfl] at CW
      clear hl e1 e2 hx hxs hxl hsz h2 ht
      go_enter Tryd.func6, Tryd.ntmps6
      go_wp2_with fail
      refine (CA.out w HE.out).mono ?_
      rintro e w1 ⟨rfl, hb1⟩
      have E1 := Lib.hid (env_below HE.out hb1)
      have hc1 := hb1
      clear hb1
      go_wp2_with fail
      refine (CC.out w1 E1.out).mono ?_
      rintro e w2 ⟨rfl, hb2⟩
      have E2 := Lib.hid (env_below E1.out hb2)
      have hc2 := below_then hc1 hc1.size hb2
      clear hb2 hc1
      go_wp2_with fail
      refine (CX.out w2 E2.out).mono ?_
      rintro e w3 ⟨rfl, hb3⟩
      have E3 := Lib.hid (env_below E2.out hb3)
      have hc3 := below_then hc2 hc2.size hb3
      clear hb3 hc2
      go_wp2_with fail
      refine (CY.out w3 E3.out).mono ?_
      rintro e w4 ⟨rfl, hb4⟩
      have E4 := Lib.hid (env_below E3.out hb4)
      have hc4 := below_then hc3 hc3.size hb4
      clear hb4 hc3
      go_wp2_with fail
      refine (CV.out w4 E4.out).mono ?_
      rintro e w5 ⟨rfl, hb5⟩
      have E5 := Lib.hid (env_below E4.out hb5)
      have hc5 := below_then hc4 hc4.size hb5
      clear hb5 hc4
      go_wp2_with fail
      refine (CW.out w5 E5.out).mono ?_
      rintro e w6 ⟨rfl, hb6⟩
      have E6 := Lib.hid (env_below E5.out hb6)
      have hc6 := below_then hc5 hc5.size hb6
      clear hb6 hc5
      go_wp2_with fail
      go_ret
      exact ⟨rfl, hc6⟩
end Go.Proofs.YthpngienphnaoaaDoor
