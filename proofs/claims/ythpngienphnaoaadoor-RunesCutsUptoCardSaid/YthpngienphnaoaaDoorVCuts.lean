import Derived.Test.YthpngienphnaoaaDoorVCutsP
/-
  blotterlaw01.RunesCuts: it returns true.
-/
namespace Go.Proofs.YthpngienphnaoaaDoor
open Go.RowKit Go.Proofs.YthpngienphnaoaaDoorW.PrintWords

open PRunesCuts in
set_option maxHeartbeats 4000000 in
set_option maxRecDepth 100000 in
theorem runesCuts_any (s : ByteArray) (a b : Int) (w : World) (hs : s.size ≤ 2000000) (hE : Env w) :
    Calls Tryd.prog 13 #[.string s, .int .i64 a, .int .i64 b] w fun e w' => e = .returned (.bool true) ∧ Below w.heap.size w w' := by
  have CA := Lib.hid (fun W (h : Env W) => awake_any W h)
  have CC := Lib.hid (fun W (h : Env W) => count_any s W (by omega) h.1)
  have CT := Lib.hid (fun W (h : Env W) => cut_any s a b W (by omega) h.1)
  have CP := Lib.hid (fun W (h : Env W) => place_any s a W (by omega) h.1)
  obtain ⟨k1, h1⟩ := Count_f s (by omega)
  obtain ⟨k2, h2⟩ := Cut_f s a b (by omega)
  obtain ⟨k3, h3⟩ := Place_f s a (by omega)
  have RC := Lib.hid (fun W (_ : Env W) => blotterref01_Count.calls k1 s _ _ W h1)
  have RT := Lib.hid (fun W (_ : Env W) => blotterref01_Cut.calls k2 s a b _ _ W h2)
  have RP := Lib.hid (fun W (_ : Env W) => blotterref01_Place.calls k3 s a _ _ W h3)
  clear h1 h2 h3
  have HE := Lib.hid hE
  clear hE
  obtain ⟨⟨c1, c2⟩, hc⟩ : ∃ c, c = cntS s.data.toList := ⟨_, rfl⟩
  obtain ⟨⟨t1, t2⟩, ht⟩ : ∃ c, c = cutS s.data.toList a b := ⟨_, rfl⟩
  obtain ⟨⟨p1, p2⟩, hp⟩ : ∃ c, c = plcS s.data.toList a := ⟨_, rfl⟩
  rw [← hc] at CC RC
  rw [← ht] at CT RT
  rw [← hp] at CP RP
  clear hc ht hp
  simp only at CT RT
  obtain ⟨t, ht⟩ : ∃ t, t = str t1 := ⟨_, rfl⟩
  rw [← ht] at CT RT
  clear ht
  go_enter Tryd.func13, Tryd.ntmps13
  go_wp2_with fail
  refine (CA.out w HE.out).mono ?_
  rintro e w1 ⟨rfl, hb1⟩
  have E1 := Lib.hid (env_below HE.out hb1)
  have hc1 := hb1
  clear hb1
  go_wp2_with fail
  refine (CC.out w1 E1.out).mono ?_
  rintro e w2 ⟨rfl, hb2⟩
  have E2 := Lib.hid (env_below E1.out hb2)
  have hc2 := below_then hc1 hc1.size hb2
  clear hb2 hc1
  go_wp2_with fail
  refine (CT.out w2 E2.out).mono ?_
  rintro e w3 ⟨rfl, hb3⟩
  have E3 := Lib.hid (env_below E2.out hb3)
  have hc3 := below_then hc2 hc2.size hb3
  clear hb3 hc2
  go_wp2_with fail
  refine (CP.out w3 E3.out).mono ?_
  rintro e w4 ⟨rfl, hb4⟩
  have E4 := Lib.hid (env_below E3.out hb4)
  have hc4 := below_then hc3 hc3.size hb4
  clear hb4 hc3
  go_wp2_with fail
  refine (RC.out w4 E4.out).mono ?_
  rintro e w5 ⟨rfl, hb5⟩
  have E5 := Lib.hid (env_below E4.out hb5)
  have hc5 := below_then hc4 hc4.size hb5
  clear hb5 hc4
  go_wp2_with fail
  refine (RT.out w5 E5.out).mono ?_
  rintro e w6 ⟨rfl, hb6⟩
  have E6 := Lib.hid (env_below E5.out hb6)
  have hc6 := below_then hc5 hc5.size hb6
  clear hb6 hc5
  go_wp2_with fail
  refine (RP.out w6 E6.out).mono ?_
  rintro e w7 ⟨rfl, hb7⟩
  have E7 := Lib.hid (env_below E6.out hb7)
  have hc7 := below_then hc6 hc6.size hb7
  clear hb7 hc6
  go_wp2_with fail
  go_ret
  exact ⟨rfl, hc7⟩
end Go.Proofs.YthpngienphnaoaaDoor
