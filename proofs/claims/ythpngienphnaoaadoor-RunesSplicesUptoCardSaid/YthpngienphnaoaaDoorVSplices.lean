import Derived.Test.YthpngienphnaoaaDoorVSplicesP
/-
  blotterlaw01.RunesSplices: it returns true.
-/
namespace Go.Proofs.YthpngienphnaoaaDoor
open Go.RowKit Go.Proofs.YthpngienphnaoaaDoorW.PrintWords

open PRunesSplices in
set_option maxHeartbeats 4000000 in
set_option maxRecDepth 100000 in
theorem runesSplices_any (s : ByteArray) (a g : Int) (p : ByteArray) (w : World) (hs : s.size ≤ 2000000) (hp : p.size ≤ 2000000) (ha0 : -9223372036854775808 ≤ a) (ha1 : a ≤ 9223372036854775807) (hg0 : -9223372036854775808 ≤ g) (hg1 : g ≤ 9223372036854775807) (hE : Env w) :
    Calls Tryd.prog 3 #[.string s, .int .i64 a, .int .i64 g, .string p] w fun e w' => e = .returned (.bool true) ∧ Below w.heap.size w w' := by
  have CA := Lib.hid (fun W (h : Env W) => awake_any W h)
  have CS := Lib.hid (fun W (h : Env W) => splice_any s p a g W (by omega) (by omega) h.1 ⟨ha0, ha1⟩ ⟨hg0, hg1⟩)
  obtain ⟨k1, h1⟩ := Splice_f s p a g (by omega) (by omega)
  have RS := Lib.hid (fun W (_ : Env W) => blotterref01_Splice.calls k1 s a g p _ _ W h1)
  clear h1 ha0 ha1 hg0 hg1
  have HE := Lib.hid hE
  clear hE
  obtain ⟨⟨t1, t2⟩, ht⟩ : ∃ c, c = splS s.data.toList p.data.toList a g := ⟨_, rfl⟩
  rw [← ht] at CS RS
  clear ht
  simp only at CS RS
  obtain ⟨t, ht⟩ : ∃ t, t = str t1 := ⟨_, rfl⟩
  rw [← ht] at CS RS
  clear ht
  go_enter Tryd.func3, Tryd.ntmps3
  go_wp2_with fail
  refine (CA.out w HE.out).mono ?_
  rintro e w1 ⟨rfl, hb1⟩
  have E1 := Lib.hid (env_below HE.out hb1)
  have hc1 := hb1
  clear hb1
  go_wp2_with fail
  refine (CS.out w1 E1.out).mono ?_
  rintro e w2 ⟨rfl, hb2⟩
  have E2 := Lib.hid (env_below E1.out hb2)
  have hc2 := below_then hc1 hc1.size hb2
  clear hb2 hc1
  go_wp2_with fail
  refine (RS.out w2 E2.out).mono ?_
  rintro e w3 ⟨rfl, hb3⟩
  have E3 := Lib.hid (env_below E2.out hb3)
  have hc3 := below_then hc2 hc2.size hb3
  clear hb3 hc2
  go_wp2_with fail
  go_ret
  exact ⟨rfl, hc3⟩
end Go.Proofs.YthpngienphnaoaaDoor
