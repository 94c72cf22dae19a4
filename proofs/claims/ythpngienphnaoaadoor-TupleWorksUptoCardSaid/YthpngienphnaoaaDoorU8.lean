import Derived.Test.YthpngienphnaoaaDoorU7
/-
  runes.both: its contract.
-/
namespace Go.Proofs.YthpngienphnaoaaDoor
open Go.RowKit Go.Proofs.YthpngienphnaoaaDoorW.PrintWords

theorem cnt_zero (b : List UInt8) : ((cntS b).2 == 0) = (textS b).isSome := by
  rw [cntS_text]
  cases textS b <;> rfl
set_option maxHeartbeats 4000000 in
set_option maxRecDepth 100000 in
theorem both_any (s p : ByteArray) (w : World) (hs : s.size ≤ 10000000) (hp : p.size ≤ 10000000) (hT : Lib.Utf8Tabs 0 1 w) :
    Calls Tryd.prog 43 #[.string s, .string p] w fun e w' => e = .returned (.bool ((textS s.data.toList).isSome && (textS p.data.toList).isSome)) ∧ Below w.heap.size w w' := by
  go_enter Tryd.func43, Tryd.ntmps43
  go_wp2_with fail
  refine (count_any s w hs hT).mono ?_
  rintro e w1 ⟨rfl, hb1⟩
  have hT1 := tabs_below hT hb1
  have z1 := cnt_zero s.data.toList
  have z2 := cnt_zero p.data.toList
  obtain ⟨q1, h1⟩ : ∃ q, q = cntS s.data.toList := ⟨_, rfl⟩
  rw [← h1] at z1 ⊢
  clear h1
  obtain ⟨c1, d1⟩ := q1
  replace z1 : (d1 == 0) = (textS s.data.toList).isSome := z1
  go_wp2_with fail
  refine (count_any p w1 hp hT1).mono ?_
  rintro e w2 ⟨rfl, hb2⟩
  have hb02 := below_then hb1 hb1.size hb2
  obtain ⟨q2, h2⟩ : ∃ q, q = cntS p.data.toList := ⟨_, rfl⟩
  rw [← h2] at z2 ⊢
  clear h2
  obtain ⟨c2, d2⟩ := q2
  replace z2 : (d2 == 0) = (textS p.data.toList).isSome := z2
  have Z1 := Lib.hid z1
  have Z2 := Lib.hid z2
  clear z1 z2
  by_cases hd : d1 = 0
  · subst hd
    go_wp2_with fail
    go_ret
    exact ⟨by rw [← Z1.out, ← Z2.out, show ((0 : Int) == 0) = true from rfl, Bool.true_and]; rfl, hb02⟩
  · have e : (d1 == 0) = false := by rw [beq_eq_false_iff_ne]; exact hd
    go_wp2_with fail
    go_ret
    exact ⟨by rw [← Z1.out, e, Bool.false_and]; rfl, hb02⟩
end Go.Proofs.YthpngienphnaoaaDoor
