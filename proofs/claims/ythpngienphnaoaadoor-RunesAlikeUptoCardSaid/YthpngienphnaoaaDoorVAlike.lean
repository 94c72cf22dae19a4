import Derived.Test.YthpngienphnaoaaDoorVAlikeP
/-
  blotterlaw01.RunesAlike: it returns true.
-/
namespace Go.Proofs.YthpngienphnaoaaDoor
open Go.RowKit Go.Proofs.YthpngienphnaoaaDoorW.PrintWords

open PRunesAlike in
set_option maxHeartbeats 4000000 in
set_option maxRecDepth 100000 in
theorem runesAlike_any (s p : ByteArray) (w : World) (hs : s.size ≤ 2000000) (hp : p.size ≤ 2000000) (hE : Env w) :
    Calls Tryd.prog 4 #[.string s, .string p] w fun e w' => e = .returned (.bool true) ∧ Below w.heap.size w w' := by
  have CA := Lib.hid (fun W (h : Env W) => awake_any W h)
  have CX := Lib.hid (fun W (h : Env W) => ahead_any s p W (by omega) (by omega) h.1)
  have CY := Lib.hid (fun W (h : Env W) => behind_any s p W (by omega) (by omega) h.1)
  obtain ⟨k1, h1⟩ := Ahead_f s p (by omega) (by omega)
  obtain ⟨k2, h2⟩ := Behind_f s p (by omega) (by omega)
  have RX := Lib.hid (fun W (_ : Env W) => blotterref01_Ahead.calls k1 s p _ _ W (h1 k1 (Nat.le_refl _)))
  have RY := Lib.hid (fun W (_ : Env W) => blotterref01_Behind.calls k2 s p _ _ W h2)
  clear h1 h2
  have HE := Lib.hid hE
  clear hE
  obtain ⟨⟨c1, c2⟩, hc⟩ : ∃ c, c = aheadS s.data.toList p.data.toList := ⟨_, rfl⟩
  obtain ⟨⟨t1, t2⟩, ht⟩ : ∃ c, c = behindS s.data.toList p.data.toList := ⟨_, rfl⟩
  rw [← hc] at CX RX
  rw [← ht] at CY RY
  clear hc ht
  go_enter Tryd.func4, Tryd.ntmps4
  go_wp2_with fail
  refine (CA.out w HE.out).mono ?_
  rintro e w1 ⟨rfl, hb1⟩
  have E1 := Lib.hid (env_below HE.out hb1)
  have hc1 := hb1
  clear hb1
  go_wp2_with fail
  refine (CX.out w1 E1.out).mono ?_
  rintro e w2 ⟨rfl, hb2⟩
  have E2 := Lib.hid (env_below E1.out hb2)
  have hc2 := below_then hc1 hc1.size hb2
  clear hb2 hc1
  go_wp2_with fail
  refine (CY.out w2 E2.out).mono ?_
  rintro e w3 ⟨rfl, hb3⟩
  have E3 := Lib.hid (env_below E2.out hb3)
  have hc3 := below_then hc2 hc2.size hb3
  clear hb3 hc2
  go_wp2_with fail
  refine (RX.out w3 E3.out).mono ?_
  rintro e w4 ⟨rfl, hb4⟩
  have E4 := Lib.hid (env_below E3.out hb4)
  have hc4 := below_then hc3 hc3.size hb4
  clear hb4 hc3
  go_wp2_with fail
  refine (RY.out w4 E4.out).mono ?_
  rintro e w5 ⟨rfl, hb5⟩
  have E5 := Lib.hid (env_below E4.out hb5)
  have hc5 := below_then hc4 hc4.size hb5
  clear hb5 hc4
  go_wp2_with fail
  go_ret
  exact ⟨rfl, hc5⟩
end Go.Proofs.YthpngienphnaoaaDoor
