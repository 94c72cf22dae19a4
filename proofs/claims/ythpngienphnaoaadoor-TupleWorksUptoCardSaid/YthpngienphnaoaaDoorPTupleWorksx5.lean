-- PRINTED BY print.sh 35421559b90ae4d0a3588c463048766b98c2df88dd9212a6774a882060cdf62d: not written by this session
import Derived.Test.YthpngienphnaoaaDoorPTupleWorksx0
import Derived.Test.YthpngienphnaoaaDoorPTupleWorksx1
namespace Go.Proofs.YthpngienphnaoaaDoor.PTupleWorks
open Go.RowKit Go.Proofs.YthpngienphnaoaaDoorW.PrintWords Go.Proofs.YthpngienphnaoaaDoorW.PrintLast Go.Proofs.YthpngienphnaoaaDoorW.PrintMore
attribute [local go_sem] max2_int min2_int max_two min_two max_three min_three max_four min_four   -- for this text's walks alone
set_option linter.unusedVariables false
set_option linter.unusedSimpArgs false

attribute [local go_sem high] eqA39
/-! ### blotterref11_one: function 69 -/
mutual
def blotterref11_one.j0 : Nat → Bool → Int → Int → ByteArray → Int → Int → ByteArray → Option (Int)
  | 0, _, _, _, _, _, _, _ => none
  | k + 1, x5, x164000, x164001, x164002, x165000, x165001, x165002 => if x5 = true then (blotterref11_one.j1 k x5 x164000 x164001 x164002 x165000 x165001 x165002) else (if x164000 = x165000 then (if x164001 < x165001 then (blotterref11_one.j1 k (decide (x164001 < x165001)) x164000 x164001 x164002 x165000 x165001 x165002) else (if x164001 = x165001 then (blotterref11_one.j1 k (Op.bytesLess x164002.toList x165002.toList) x164000 x164001 x164002 x165000 x165001 x165002) else (blotterref11_one.j1 k false x164000 x164001 x164002 x165000 x165001 x165002))) else (blotterref11_one.j1 k false x164000 x164001 x164002 x165000 x165001 x165002))
def blotterref11_one.j1 : Nat → Bool → Int → Int → ByteArray → Int → Int → ByteArray → Option (Int)
  | 0, _, _, _, _, _, _, _ => none
  | k + 1, x5, x164000, x164001, x164002, x165000, x165001, x165002 => if x5 = true then (some (-1)) else (if (x164000 == x165000 && (x164001 == x165001 && (x164002.toList == x165002.toList))) = true then (some 0) else (some 1))
end
def blotterref11_one.f (k : Nat) (a0_0 : Int) (a0_1 : Int) (a0_2 : ByteArray) (a1_0 : Int) (a1_1 : Int) (a1_2 : ByteArray) : Option (Int) := if a0_0 = a1_0 then (blotterref11_one.j0 k false a0_0 a0_1 a0_2 a1_0 a1_1 a1_2) else (blotterref11_one.j0 k (decide (a0_0 < a1_0)) a0_0 a0_1 a0_2 a1_0 a1_1 a1_2)
theorem blotterref11_one.mono_l : ∀ k, (∀ y0 y1 y2 y3 y4 y5 y6, LeO (blotterref11_one.j0 k y0 y1 y2 y3 y4 y5 y6) (blotterref11_one.j0 (k + 1) y0 y1 y2 y3 y4 y5 y6)) ∧ (∀ y0 y1 y2 y3 y4 y5 y6, LeO (blotterref11_one.j1 k y0 y1 y2 y3 y4 y5 y6) (blotterref11_one.j1 (k + 1) y0 y1 y2 y3 y4 y5 y6))
  | 0 => ⟨fun _ _ _ _ _ _ _ r h => by simp [blotterref11_one.j0] at h, fun _ _ _ _ _ _ _ r h => by simp [blotterref11_one.j1] at h⟩
  | k + 1 => by
    obtain ⟨ih0, ih1⟩ := blotterref11_one.mono_l k
    refine ⟨?_, ?_⟩
    · intro y0 y1 y2 y3 y4 y5 y6
      unfold blotterref11_one.j0
      repeat' first
      | (with_reducible exact ih0 _ _ _ _ _ _ _)
      | (with_reducible exact ih1 _ _ _ _ _ _ _)
      | (with_reducible exact LeO.refl _)
      | (with_reducible exact LeO.none _)
      | (with_reducible refine LeO.ite ?_ ?_)
      | (with_reducible refine LeO.bind ?_ (fun _ => ?_))
      | exact ih0 _ _ _ _ _ _ _
      | exact ih1 _ _ _ _ _ _ _
      | exact LeO.none _
      | refine LeO.ite ?_ ?_
      | refine LeO.bind ?_ (fun _ => ?_)
    · intro y0 y1 y2 y3 y4 y5 y6
      unfold blotterref11_one.j1
      repeat' first
      | (with_reducible exact ih0 _ _ _ _ _ _ _)
      | (with_reducible exact ih1 _ _ _ _ _ _ _)
      | (with_reducible exact LeO.refl _)
      | (with_reducible exact LeO.none _)
      | (with_reducible refine LeO.ite ?_ ?_)
      | (with_reducible refine LeO.bind ?_ (fun _ => ?_))
      | exact ih0 _ _ _ _ _ _ _
      | exact ih1 _ _ _ _ _ _ _
      | exact LeO.none _
      | refine LeO.ite ?_ ?_
      | refine LeO.bind ?_ (fun _ => ?_)
theorem blotterref11_one.mono : ∀ a0 a1 a2 a3 a4 a5 k, LeO (blotterref11_one.f k a0 a1 a2 a3 a4 a5) (blotterref11_one.f (k + 1) a0 a1 a2 a3 a4 a5) := by
  intro a0 a1 a2 a3 a4 a5 k
  obtain ⟨ih0, ih1⟩ := blotterref11_one.mono_l k
  unfold blotterref11_one.f
  repeat' first
      | (with_reducible exact ih0 _ _ _ _ _ _ _)
      | (with_reducible exact ih1 _ _ _ _ _ _ _)
      | (with_reducible exact LeO.refl _)
      | (with_reducible exact LeO.none _)
      | (with_reducible refine LeO.ite ?_ ?_)
      | (with_reducible refine LeO.bind ?_ (fun _ => ?_))
      | exact ih0 _ _ _ _ _ _ _
      | exact ih1 _ _ _ _ _ _ _
      | exact LeO.none _
      | refine LeO.ite ?_ ?_
      | refine LeO.bind ?_ (fun _ => ?_)
set_option maxHeartbeats 8000000 in
set_option maxRecDepth 100000 in
theorem blotterref11_one.calls (k : Nat) (a0_0 : Int) (a0_1 : Int) (a0_2 : ByteArray) (a1_0 : Int) (a1_1 : Int) (a1_2 : ByteArray) (r : Int) (w : World) (h : blotterref11_one.f k a0_0 a0_1 a0_2 a1_0 a1_1 a1_2 = some r) :
    Calls Tryd.prog 69 #[.agg #[.int .i64 a0_0, .int .i64 a0_1, .string a0_2], .agg #[.int .i64 a1_0, .int .i64 a1_1, .string a1_2]] w fun e w' => e = .returned (.int .i64 r) ∧ Below w.heap.size w w' := by
  have hu39 := Tryd.underlying39
  have HB := Aside0.mk (Below.refl w.heap.size w)
  have H : (if a0_0 = a1_0 then (blotterref11_one.j0 k false a0_0 a0_1 a0_2 a1_0 a1_1 a1_2) else (blotterref11_one.j0 k (decide (a0_0 < a1_0)) a0_0 a0_1 a0_2 a1_0 a1_1 a1_2)) = some r := h
  clear h
  have HC3 := Aside0.mk H
  clear H
  go_enter Tryd.func69, Tryd.ntmps69
  go_upto_region 1 with (first | ((with_reducible refine gate_dst (N := 2) rfl ?_); refine box_event ?hg (N := 2) ?hd (cs := #[.int .i64 a0_0, .int .i64 a0_1, .string a0_2]) (t := 39) ?hr ?_; (case hd => rfl); (case hg => rfl); (case hr => first | (go_simp; done) | (go_simp; rfl)); intro gb163 hg w4 hbox hb; have n0_ := Aside0.mk (below_step (by repeat (first | (with_reducible first | exact HB.out | apply below_alloc | apply pw_below_drewN | apply below_drew1) | exact HB.out)) hb); have n1_ := Aside0.mk (hbox); have n2_ := Aside0.mk ((by rw [hg]; exact (below_size (by repeat (first | (with_reducible first | exact HB.out | apply below_alloc | apply pw_below_drewN | apply below_drew1) | exact HB.out))) : w.heap.size ≤ gb163)); have n3_ := Aside0.mk ((by rw [hg]; exact (below_size (by repeat (first | (with_reducible first | exact HB.out | apply below_alloc | apply pw_below_drewN | apply below_drew1) | exact HB.out))) : w.heap.size ≤ gb163)); clear HB; have HB := n0_; have BK163 := n1_; have GW163 := n2_; have GE163 := n3_; clear n0_ n1_ n2_ n3_; clear hb hbox hg) | ((with_reducible refine gate_dst (N := 3) rfl ?_); refine box_event ?hg (N := 3) ?hd (cs := #[.int .i64 a1_0, .int .i64 a1_1, .string a1_2]) (t := 39) ?hr ?_; (case hd => rfl); (case hg => rfl); (case hr => first | (go_simp; done) | (go_simp; rfl)); intro gb164 hg w5 hbox hb; have n0_ := Aside0.mk (blk_below (g := gb163) (o := .cells #[.int .i64 a0_0, .int .i64 a0_1, .string a0_2] 39 (0, 0)) (by (with_reducible repeat (first | refine blk_drewN ?_ _ | refine blk_drew ?_ | refine blk_alloc ?_ _)); exact BK163.out) hb); have n1_ := Aside0.mk (below_step (by repeat (first | (with_reducible first | exact HB.out | apply below_alloc | apply pw_below_drewN | apply below_drew1 | refine below_set ?_ GE163.out) | exact HB.out)) hb); have n2_ := Aside0.mk (hbox); have n3_ := Aside0.mk ((by rw [hg]; exact (below_size (by repeat (first | (with_reducible first | exact HB.out | apply below_alloc | apply pw_below_drewN | apply below_drew1 | refine below_set ?_ GE163.out) | exact HB.out))) : w.heap.size ≤ gb164)); have n4_ := Aside0.mk ((by rw [hg]; exact (below_size (by repeat (first | (with_reducible first | exact HB.out | apply below_alloc | apply pw_below_drewN | apply below_drew1 | refine below_set ?_ GE163.out) | exact HB.out))) : w.heap.size ≤ gb164)); have n5_ := Aside0.mk ((by rw [hg]; exact Nat.ne_of_lt (blk_lt (g := gb163) (o := .cells #[.int .i64 a0_0, .int .i64 a0_1, .string a0_2] 39 (0, 0)) (by (with_reducible repeat (first | refine blk_drewN ?_ _ | refine blk_drew ?_ | refine blk_alloc ?_ _)); exact BK163.out)) : gb163 ≠ gb164)); have n6_ := Aside0.mk ((by rw [hg]; exact Nat.ne_of_gt (blk_lt (g := gb163) (o := .cells #[.int .i64 a0_0, .int .i64 a0_1, .string a0_2] 39 (0, 0)) (by (with_reducible repeat (first | refine blk_drewN ?_ _ | refine blk_drew ?_ | refine blk_alloc ?_ _)); exact BK163.out)) : gb164 ≠ gb163)); clear BK163; clear HB; have BK163 := n0_; have HB := n1_; have BK164 := n2_; have GW164 := n3_; have GE164 := n4_; have NB163_164 := n5_; have NB164_163 := n6_; clear n0_ n1_ n2_ n3_ n4_ n5_ n6_; clear hb hbox hg))
  (try simp only [Act.put, List.setIfInBounds_toArray, List.set_cons_zero, List.set_cons_succ])
  go_cut [5] (fun v5 wc => ∃ (kq : Nat) (x5_2 : Bool), v5 = .bool x5_2 ∧ Aside0 (blotterref11_one.j0 kq x5_2 a0_0 a0_1 a0_2 a1_0 a1_1 a1_2 = some r) ∧ Aside0 (kq ≤ k) ∧ Aside0 (wc.heap[gb163]? = some (.cells #[.int .i64 a0_0, .int .i64 a0_1, .string a0_2] 39 (0, 0))) ∧ Aside0 (wc.heap[gb164]? = some (.cells #[.int .i64 a1_0, .int .i64 a1_1, .string a1_2] 39 (0, 0))) ∧ Aside0 (Below w.heap.size w wc))
  case first =>
    have H := HC3.out
    clear HC3
    by_cases c6 : a0_0 = a1_0
    · rw [if_pos c6] at H
      have c6b0 : (a0_0 == a1_0) = true := beq_iff_eq.mpr c6
      have c6b1 : (a0_0 != a1_0) = false := bne_eq_false_iff_eq.mpr c6
      clear c6
      (first | rw [c6b0] | (simp only [i64_w, i32_w]; rw [c6b0]) | skip)
      have H' := Aside0.mk H
      clear H
      have hnb7 := NB163_164.out
      have hnc7 := NB164_163.out
      have hcz8_0 : w5.cell? ⟨gb163, 0, none⟩ = some (.int .i64 a0_0) := (blk_cell BK163.out 0).trans rfl
      have hcz8_1 : w5.cell? ⟨gb163, 1, none⟩ = some (.int .i64 a0_1) := (blk_cell BK163.out 1).trans rfl
      have hcz8_2 : w5.cell? ⟨gb163, 2, none⟩ = some (.string a0_2) := (blk_cell BK163.out 2).trans rfl
      have hfz8_0 := blk_frozen BK163.out 0
      have hfz8_1 := blk_frozen BK163.out 1
      have hfz8_2 := blk_frozen BK163.out 2
      have hcz9_0 : w5.cell? ⟨gb164, 0, none⟩ = some (.int .i64 a1_0) := (blk_cell BK164.out 0).trans rfl
      have hcz9_1 : w5.cell? ⟨gb164, 1, none⟩ = some (.int .i64 a1_1) := (blk_cell BK164.out 1).trans rfl
      have hcz9_2 : w5.cell? ⟨gb164, 2, none⟩ = some (.string a1_2) := (blk_cell BK164.out 2).trans rfl
      have hfz9_0 := blk_frozen BK164.out 0
      have hfz9_1 := blk_frozen BK164.out 1
      have hfz9_2 := blk_frozen BK164.out 2
      go_wp2
      go_meet
      case rel => exact ⟨_, (false), (by first | rfl | (simp; done) | (simp [*]; done)), H', ⟨by first | omega | exact Nat.le_refl _⟩, ⟨by (with_reducible repeat (first | refine blk_drewN ?_ _ | refine blk_drew ?_ | refine blk_alloc ?_ _)); exact BK163.out⟩, ⟨by (with_reducible repeat (first | refine blk_drewN ?_ _ | refine blk_drew ?_ | refine blk_alloc ?_ _)); exact BK164.out⟩, ⟨by repeat (first | (with_reducible first | exact HB.out | apply below_alloc | apply pw_below_drewN | apply below_drew1 | refine below_set ?_ GE163.out | refine below_set ?_ GE164.out) | exact HB.out)⟩⟩
    · rw [if_neg c6] at H
      have c6b0 : (a0_0 == a1_0) = false := beq_eq_false_iff_ne.mpr c6
      have c6b1 : (a0_0 != a1_0) = true := bne_iff_ne.mpr c6
      (first | rw [c6b0] | (simp only [i64_w, i32_w]; rw [c6b0]) | skip)
      have H' := Aside0.mk H
      clear H
      have hnb10 := NB163_164.out
      have hnc10 := NB164_163.out
      have hcz11_0 : w5.cell? ⟨gb163, 0, none⟩ = some (.int .i64 a0_0) := (blk_cell BK163.out 0).trans rfl
      have hcz11_1 : w5.cell? ⟨gb163, 1, none⟩ = some (.int .i64 a0_1) := (blk_cell BK163.out 1).trans rfl
      have hcz11_2 : w5.cell? ⟨gb163, 2, none⟩ = some (.string a0_2) := (blk_cell BK163.out 2).trans rfl
      have hfz11_0 := blk_frozen BK163.out 0
      have hfz11_1 := blk_frozen BK163.out 1
      have hfz11_2 := blk_frozen BK163.out 2
      have hcz12_0 : w5.cell? ⟨gb164, 0, none⟩ = some (.int .i64 a1_0) := (blk_cell BK164.out 0).trans rfl
      have hcz12_1 : w5.cell? ⟨gb164, 1, none⟩ = some (.int .i64 a1_1) := (blk_cell BK164.out 1).trans rfl
      have hcz12_2 : w5.cell? ⟨gb164, 2, none⟩ = some (.string a1_2) := (blk_cell BK164.out 2).trans rfl
      have hfz12_0 := blk_frozen BK164.out 0
      have hfz12_1 := blk_frozen BK164.out 1
      have hfz12_2 := blk_frozen BK164.out 2
      go_wp2
      go_meet
      case rel => exact ⟨_, (decide (a0_0 < a1_0)), (by first | rfl | (simp; done) | (simp [*]; done)), H', ⟨by first | omega | exact Nat.le_refl _⟩, ⟨by (with_reducible repeat (first | refine blk_drewN ?_ _ | refine blk_drew ?_ | refine blk_alloc ?_ _)); exact BK163.out⟩, ⟨by (with_reducible repeat (first | refine blk_drewN ?_ _ | refine blk_drew ?_ | refine blk_alloc ?_ _)); exact BK164.out⟩, ⟨by repeat (first | (with_reducible first | exact HB.out | apply below_alloc | apply pw_below_drewN | apply below_drew1 | refine below_set ?_ GE163.out | refine below_set ?_ GE164.out) | exact HB.out)⟩⟩
  case rest =>
    clear HC3
    try clear c1
    try clear p2
    try clear c6
    try clear c6b0
    try clear c6b1
    try clear c7
    try clear c10
    try clear hcz11_0
    try clear hcz11_1
    try clear hcz11_2
    try clear hcz12_0
    try clear hcz12_1
    try clear hcz12_2
    try clear hcz8_0
    try clear hcz8_1
    try clear hcz8_2
    try clear hcz9_0
    try clear hcz9_1
    try clear hcz9_2
    try clear hfz11_0
    try clear hfz11_1
    try clear hfz11_2
    try clear hfz12_0
    try clear hfz12_1
    try clear hfz12_2
    try clear hfz8_0
    try clear hfz8_1
    try clear hfz8_2
    try clear hfz9_0
    try clear hfz9_1
    try clear hfz9_2
    obtain ⟨kq, x5_2, rfl, HA, HJ2, BK163, BK164, HB⟩ := hcut
    cases kq with
    | zero => exact absurd HA.out (by simp [blotterref11_one.j0])
    | succ kj2 =>
      have H := HA.out
      clear HA
      simp only [blotterref11_one.j0] at H
      have HC13 := Aside0.mk H
      clear H
      go_upto_if 5 with (fail)
      go_cut [5] (fun v5 wc => ∃ (kq : Nat) (x5_12 : Bool), v5 = .bool x5_12 ∧ Aside0 (blotterref11_one.j1 kq x5_12 a0_0 a0_1 a0_2 a1_0 a1_1 a1_2 = some r) ∧ Aside0 (kq ≤ kj2) ∧ Aside0 (wc.heap[gb163]? = some (.cells #[.int .i64 a0_0, .int .i64 a0_1, .string a0_2] 39 (0, 0))) ∧ Aside0 (wc.heap[gb164]? = some (.cells #[.int .i64 a1_0, .int .i64 a1_1, .string a1_2] 39 (0, 0))) ∧ Aside0 (Below w.heap.size w wc))
      case first =>
        have H := HC13.out
        clear HC13
        by_cases c14 : x5_2 = true
        · subst c14
          have H1 : (blotterref11_one.j1 kj2 true a0_0 a0_1 a0_2 a1_0 a1_1 a1_2) = some r := by rw [if_pos rfl] at H; exact H
          clear H
          have H := H1
          clear H1
          have H' := Aside0.mk H
          clear H
          go_wp2
          go_meet
          case rel => exact ⟨_, (true), (by first | rfl | (simp; done) | (simp [*]; done)), H', ⟨by have := HJ2.out; first | omega | exact Nat.le_refl _⟩, ⟨by (with_reducible repeat (first | refine blk_drewN ?_ _ | refine blk_drew ?_ | refine blk_alloc ?_ _)); exact BK163.out⟩, ⟨by (with_reducible repeat (first | refine blk_drewN ?_ _ | refine blk_drew ?_ | refine blk_alloc ?_ _)); exact BK164.out⟩, ⟨by repeat (first | (with_reducible first | exact HB.out | apply below_alloc | apply pw_below_drewN | apply below_drew1 | refine below_set ?_ GE163.out | refine below_set ?_ GE164.out) | exact HB.out)⟩⟩
        · replace c14 := Bool.eq_false_iff.mpr c14
          subst c14
          have H1 : (if a0_0 = a1_0 then (if a0_1 < a1_1 then (blotterref11_one.j1 kj2 (decide (a0_1 < a1_1)) a0_0 a0_1 a0_2 a1_0 a1_1 a1_2) else (if a0_1 = a1_1 then (blotterref11_one.j1 kj2 (Op.bytesLess a0_2.toList a1_2.toList) a0_0 a0_1 a0_2 a1_0 a1_1 a1_2) else (blotterref11_one.j1 kj2 false a0_0 a0_1 a0_2 a1_0 a1_1 a1_2))) else (blotterref11_one.j1 kj2 false a0_0 a0_1 a0_2 a1_0 a1_1 a1_2)) = some r := by rw [if_neg (show ¬ (false = true) by decide)] at H; exact H
          clear H
          have H := H1
          clear H1
          by_cases c15 : a0_0 = a1_0
          · rw [if_pos c15] at H
            have c15b0 : (a0_0 == a1_0) = true := beq_iff_eq.mpr c15
            have c15b1 : (a0_0 != a1_0) = false := bne_eq_false_iff_eq.mpr c15
            clear c15
            (first | rw [c15b0] | (simp only [i64_w, i32_w]; rw [c15b0]) | skip)
            by_cases c16 : a0_1 < a1_1
            · rw [if_pos c16] at H
              have c16b0 : decide (a0_1 < a1_1) = true := decide_eq_true c16
              clear c16
              have H' := Aside0.mk H
              clear H
              have hnb17 := NB163_164.out
              have hnc17 := NB164_163.out
              have hcz18_0 : wc.cell? ⟨gb163, 0, none⟩ = some (.int .i64 a0_0) := (blk_cell BK163.out 0).trans rfl
              have hcz18_1 : wc.cell? ⟨gb163, 1, none⟩ = some (.int .i64 a0_1) := (blk_cell BK163.out 1).trans rfl
              have hcz18_2 : wc.cell? ⟨gb163, 2, none⟩ = some (.string a0_2) := (blk_cell BK163.out 2).trans rfl
              have hfz18_0 := blk_frozen BK163.out 0
              have hfz18_1 := blk_frozen BK163.out 1
              have hfz18_2 := blk_frozen BK163.out 2
              have hcz19_0 : wc.cell? ⟨gb164, 0, none⟩ = some (.int .i64 a1_0) := (blk_cell BK164.out 0).trans rfl
              have hcz19_1 : wc.cell? ⟨gb164, 1, none⟩ = some (.int .i64 a1_1) := (blk_cell BK164.out 1).trans rfl
              have hcz19_2 : wc.cell? ⟨gb164, 2, none⟩ = some (.string a1_2) := (blk_cell BK164.out 2).trans rfl
              have hfz19_0 := blk_frozen BK164.out 0
              have hfz19_1 := blk_frozen BK164.out 1
              have hfz19_2 := blk_frozen BK164.out 2
              go_wp2
              go_meet
              case rel => exact ⟨_, (decide (a0_1 < a1_1)), (by first | rfl | (simp; done) | (simp [*]; done)), H', ⟨by have := HJ2.out; first | omega | exact Nat.le_refl _⟩, ⟨by (with_reducible repeat (first | refine blk_drewN ?_ _ | refine blk_drew ?_ | refine blk_alloc ?_ _)); exact BK163.out⟩, ⟨by (with_reducible repeat (first | refine blk_drewN ?_ _ | refine blk_drew ?_ | refine blk_alloc ?_ _)); exact BK164.out⟩, ⟨by repeat (first | (with_reducible first | exact HB.out | apply below_alloc | apply pw_below_drewN | apply below_drew1 | refine below_set ?_ GE163.out | refine below_set ?_ GE164.out) | exact HB.out)⟩⟩
            · rw [if_neg c16] at H
              have c16b0 : decide (a0_1 < a1_1) = false := decide_eq_false c16
              clear c16
              by_cases c20 : a0_1 = a1_1
              · rw [if_pos c20] at H
                have c20b0 : (a0_1 == a1_1) = true := beq_iff_eq.mpr c20
                have c20b1 : (a0_1 != a1_1) = false := bne_eq_false_iff_eq.mpr c20
                clear c20
                have H' := Aside0.mk H
                clear H
                have hnb21 := NB163_164.out
                have hnc21 := NB164_163.out
                have hcz22_0 : wc.cell? ⟨gb163, 0, none⟩ = some (.int .i64 a0_0) := (blk_cell BK163.out 0).trans rfl
                have hcz22_1 : wc.cell? ⟨gb163, 1, none⟩ = some (.int .i64 a0_1) := (blk_cell BK163.out 1).trans rfl
                have hcz22_2 : wc.cell? ⟨gb163, 2, none⟩ = some (.string a0_2) := (blk_cell BK163.out 2).trans rfl
                have hfz22_0 := blk_frozen BK163.out 0
                have hfz22_1 := blk_frozen BK163.out 1
                have hfz22_2 := blk_frozen BK163.out 2
                have hcz23_0 : wc.cell? ⟨gb164, 0, none⟩ = some (.int .i64 a1_0) := (blk_cell BK164.out 0).trans rfl
                have hcz23_1 : wc.cell? ⟨gb164, 1, none⟩ = some (.int .i64 a1_1) := (blk_cell BK164.out 1).trans rfl
                have hcz23_2 : wc.cell? ⟨gb164, 2, none⟩ = some (.string a1_2) := (blk_cell BK164.out 2).trans rfl
                have hfz23_0 := blk_frozen BK164.out 0
                have hfz23_1 := blk_frozen BK164.out 1
                have hfz23_2 := blk_frozen BK164.out 2
                go_wp2
                go_meet
                case rel => exact ⟨_, ((Op.bytesLess a0_2.toList a1_2.toList)), (by first | rfl | (simp; done) | (simp [*]; done)), H', ⟨by have := HJ2.out; first | omega | exact Nat.le_refl _⟩, ⟨by (with_reducible repeat (first | refine blk_drewN ?_ _ | refine blk_drew ?_ | refine blk_alloc ?_ _)); exact BK163.out⟩, ⟨by (with_reducible repeat (first | refine blk_drewN ?_ _ | refine blk_drew ?_ | refine blk_alloc ?_ _)); exact BK164.out⟩, ⟨by repeat (first | (with_reducible first | exact HB.out | apply below_alloc | apply pw_below_drewN | apply below_drew1 | refine below_set ?_ GE163.out | refine below_set ?_ GE164.out) | exact HB.out)⟩⟩
              · rw [if_neg c20] at H
                have c20b0 : (a0_1 == a1_1) = false := beq_eq_false_iff_ne.mpr c20
                have c20b1 : (a0_1 != a1_1) = true := bne_iff_ne.mpr c20
                have H' := Aside0.mk H
                clear H
                have hnb24 := NB163_164.out
                have hnc24 := NB164_163.out
                have hcz25_0 : wc.cell? ⟨gb163, 0, none⟩ = some (.int .i64 a0_0) := (blk_cell BK163.out 0).trans rfl
                have hcz25_1 : wc.cell? ⟨gb163, 1, none⟩ = some (.int .i64 a0_1) := (blk_cell BK163.out 1).trans rfl
                have hcz25_2 : wc.cell? ⟨gb163, 2, none⟩ = some (.string a0_2) := (blk_cell BK163.out 2).trans rfl
                have hfz25_0 := blk_frozen BK163.out 0
                have hfz25_1 := blk_frozen BK163.out 1
                have hfz25_2 := blk_frozen BK163.out 2
                have hcz26_0 : wc.cell? ⟨gb164, 0, none⟩ = some (.int .i64 a1_0) := (blk_cell BK164.out 0).trans rfl
                have hcz26_1 : wc.cell? ⟨gb164, 1, none⟩ = some (.int .i64 a1_1) := (blk_cell BK164.out 1).trans rfl
                have hcz26_2 : wc.cell? ⟨gb164, 2, none⟩ = some (.string a1_2) := (blk_cell BK164.out 2).trans rfl
                have hfz26_0 := blk_frozen BK164.out 0
                have hfz26_1 := blk_frozen BK164.out 1
                have hfz26_2 := blk_frozen BK164.out 2
                go_wp2
                go_meet
                case rel => exact ⟨_, (false), (by first | rfl | (simp; done) | (simp [*]; done)), H', ⟨by have := HJ2.out; first | omega | exact Nat.le_refl _⟩, ⟨by (with_reducible repeat (first | refine blk_drewN ?_ _ | refine blk_drew ?_ | refine blk_alloc ?_ _)); exact BK163.out⟩, ⟨by (with_reducible repeat (first | refine blk_drewN ?_ _ | refine blk_drew ?_ | refine blk_alloc ?_ _)); exact BK164.out⟩, ⟨by repeat (first | (with_reducible first | exact HB.out | apply below_alloc | apply pw_below_drewN | apply below_drew1 | refine below_set ?_ GE163.out | refine below_set ?_ GE164.out) | exact HB.out)⟩⟩
          · rw [if_neg c15] at H
            have c15b0 : (a0_0 == a1_0) = false := beq_eq_false_iff_ne.mpr c15
            have c15b1 : (a0_0 != a1_0) = true := bne_iff_ne.mpr c15
            (first | rw [c15b0] | (simp only [i64_w, i32_w]; rw [c15b0]) | skip)
            have H' := Aside0.mk H
            clear H
            have hnb27 := NB163_164.out
            have hnc27 := NB164_163.out
            have hcz28_0 : wc.cell? ⟨gb163, 0, none⟩ = some (.int .i64 a0_0) := (blk_cell BK163.out 0).trans rfl
            have hcz28_1 : wc.cell? ⟨gb163, 1, none⟩ = some (.int .i64 a0_1) := (blk_cell BK163.out 1).trans rfl
            have hcz28_2 : wc.cell? ⟨gb163, 2, none⟩ = some (.string a0_2) := (blk_cell BK163.out 2).trans rfl
            have hfz28_0 := blk_frozen BK163.out 0
            have hfz28_1 := blk_frozen BK163.out 1
            have hfz28_2 := blk_frozen BK163.out 2
            have hcz29_0 : wc.cell? ⟨gb164, 0, none⟩ = some (.int .i64 a1_0) := (blk_cell BK164.out 0).trans rfl
            have hcz29_1 : wc.cell? ⟨gb164, 1, none⟩ = some (.int .i64 a1_1) := (blk_cell BK164.out 1).trans rfl
            have hcz29_2 : wc.cell? ⟨gb164, 2, none⟩ = some (.string a1_2) := (blk_cell BK164.out 2).trans rfl
            have hfz29_0 := blk_frozen BK164.out 0
            have hfz29_1 := blk_frozen BK164.out 1
            have hfz29_2 := blk_frozen BK164.out 2
            go_wp2
            go_meet
            case rel => exact ⟨_, (false), (by first | rfl | (simp; done) | (simp [*]; done)), H', ⟨by have := HJ2.out; first | omega | exact Nat.le_refl _⟩, ⟨by (with_reducible repeat (first | refine blk_drewN ?_ _ | refine blk_drew ?_ | refine blk_alloc ?_ _)); exact BK163.out⟩, ⟨by (with_reducible repeat (first | refine blk_drewN ?_ _ | refine blk_drew ?_ | refine blk_alloc ?_ _)); exact BK164.out⟩, ⟨by repeat (first | (with_reducible first | exact HB.out | apply below_alloc | apply pw_below_drewN | apply below_drew1 | refine below_set ?_ GE163.out | refine below_set ?_ GE164.out) | exact HB.out)⟩⟩
      case rest =>
        clear HC13
        try clear c1
        try clear c2
        try clear p2
        try clear c6
        try clear c6b0
        try clear c6b1
        try clear c7
        try clear c10
        try clear c14
        try clear c15
        try clear c15b0
        try clear c15b1
        try clear c16
        try clear c16b0
        try clear c17
        try clear c20
        try clear c20b0
        try clear c20b1
        try clear c21
        try clear c24
        try clear c27
        try clear hcz11_0
        try clear hcz11_1
        try clear hcz11_2
        try clear hcz12_0
        try clear hcz12_1
        try clear hcz12_2
        try clear hcz18_0
        try clear hcz18_1
        try clear hcz18_2
        try clear hcz19_0
        try clear hcz19_1
        try clear hcz19_2
        try clear hcz22_0
        try clear hcz22_1
        try clear hcz22_2
        try clear hcz23_0
        try clear hcz23_1
        try clear hcz23_2
        try clear hcz25_0
        try clear hcz25_1
        try clear hcz25_2
        try clear hcz26_0
        try clear hcz26_1
        try clear hcz26_2
        try clear hcz28_0
        try clear hcz28_1
        try clear hcz28_2
        try clear hcz29_0
        try clear hcz29_1
        try clear hcz29_2
        try clear hcz8_0
        try clear hcz8_1
        try clear hcz8_2
        try clear hcz9_0
        try clear hcz9_1
        try clear hcz9_2
        try clear hfz11_0
        try clear hfz11_1
        try clear hfz11_2
        try clear hfz12_0
        try clear hfz12_1
        try clear hfz12_2
        try clear hfz18_0
        try clear hfz18_1
        try clear hfz18_2
        try clear hfz19_0
        try clear hfz19_1
        try clear hfz19_2
        try clear hfz22_0
        try clear hfz22_1
        try clear hfz22_2
        try clear hfz23_0
        try clear hfz23_1
        try clear hfz23_2
        try clear hfz25_0
        try clear hfz25_1
        try clear hfz25_2
        try clear hfz26_0
        try clear hfz26_1
        try clear hfz26_2
        try clear hfz28_0
        try clear hfz28_1
        try clear hfz28_2
        try clear hfz29_0
        try clear hfz29_1
        try clear hfz29_2
        try clear hfz8_0
        try clear hfz8_1
        try clear hfz8_2
        try clear hfz9_0
        try clear hfz9_1
        try clear hfz9_2
        try clear p2
        obtain ⟨kq, x5_12, rfl, HA, HJ12, BK163, BK164, HB⟩ := hcut
        cases kq with
        | zero => exact absurd HA.out (by simp [blotterref11_one.j1])
        | succ kj12 =>
          have H := HA.out
          clear HA
          simp only [blotterref11_one.j1] at H
          by_cases c30 : x5_12 = true
          · subst c30
            have H1 : (some (-1)) = some r := by rw [if_pos rfl] at H; exact H
            clear H
            have H := H1
            clear H1
            obtain rfl := Option.some.inj H
            go_wp2
            go_ret
            exact ⟨by first | rfl | (simp [errW_none, errW_some] <;> rfl) | (simp [*, errW_none, errW_some] <;> rfl), by repeat (first | (with_reducible first | exact HB.out | apply below_alloc | apply pw_below_drewN | apply below_drew1 | refine below_set ?_ GE163.out | refine below_set ?_ GE164.out) | exact HB.out)⟩
          · replace c30 := Bool.eq_false_iff.mpr c30
            subst c30
            have H1 : (if (a0_0 == a1_0 && (a0_1 == a1_1 && (a0_2.toList == a1_2.toList))) = true then (some 0) else (some 1)) = some r := by rw [if_neg (show ¬ (false = true) by decide)] at H; exact H
            clear H
            have H := H1
            clear H1
            by_cases c31 : (a0_0 == a1_0 && (a0_1 == a1_1 && (a0_2.toList == a1_2.toList))) = true
            · rw [if_pos c31] at H
              have c31b0 : (a0_0 == a1_0 && (a0_1 == a1_1 && (a0_2.toList == a1_2.toList))) = true := c31
              (try (have c31b1 : decide (a0_0 = a1_0 && (a0_1 == a1_1 && (a0_2.toList == a1_2.toList))) = true := by simpa using c31))
              (try (have c31b2 : (a0_0 == a1_0 && (a0_1 == a1_1 && (a0_2.toList == a1_2.toList))) = true := by simpa using c31))
              clear c31
              obtain rfl := Option.some.inj H
              have hnb32 := NB163_164.out
              have hnc32 := NB164_163.out
              have hcz33_0 : wc.cell? ⟨gb163, 0, none⟩ = some (.int .i64 a0_0) := (blk_cell BK163.out 0).trans rfl
              have hcz33_1 : wc.cell? ⟨gb163, 1, none⟩ = some (.int .i64 a0_1) := (blk_cell BK163.out 1).trans rfl
              have hcz33_2 : wc.cell? ⟨gb163, 2, none⟩ = some (.string a0_2) := (blk_cell BK163.out 2).trans rfl
              have hfz33_0 := blk_frozen BK163.out 0
              have hfz33_1 := blk_frozen BK163.out 1
              have hfz33_2 := blk_frozen BK163.out 2
              have hcz34_0 : wc.cell? ⟨gb164, 0, none⟩ = some (.int .i64 a1_0) := (blk_cell BK164.out 0).trans rfl
              have hcz34_1 : wc.cell? ⟨gb164, 1, none⟩ = some (.int .i64 a1_1) := (blk_cell BK164.out 1).trans rfl
              have hcz34_2 : wc.cell? ⟨gb164, 2, none⟩ = some (.string a1_2) := (blk_cell BK164.out 2).trans rfl
              have hfz34_0 := blk_frozen BK164.out 0
              have hfz34_1 := blk_frozen BK164.out 1
              have hfz34_2 := blk_frozen BK164.out 2
              go_wp2
              go_ret
              exact ⟨by first | rfl | (simp [errW_none, errW_some] <;> rfl) | (simp [*, errW_none, errW_some] <;> rfl), by repeat (first | (with_reducible first | exact HB.out | apply below_alloc | apply pw_below_drewN | apply below_drew1 | refine below_set ?_ GE163.out | refine below_set ?_ GE164.out) | exact HB.out)⟩
            · rw [if_neg c31] at H
              have c31b0 : (a0_0 == a1_0 && (a0_1 == a1_1 && (a0_2.toList == a1_2.toList))) = false := by simpa using c31
              (try (have c31b1 : decide (a0_0 = a1_0 && (a0_1 == a1_1 && (a0_2.toList == a1_2.toList))) = false := by simpa using c31))
              (try (have c31b2 : (a0_0 == a1_0 && (a0_1 == a1_1 && (a0_2.toList == a1_2.toList))) = false := by simpa using c31))
              (try (have c31b3 : ¬ (a0_0 = a1_0 && (a0_1 == a1_1 && (a0_2.toList == a1_2.toList))) := by simpa using c31))
              clear c31
              obtain rfl := Option.some.inj H
              have hnb35 := NB163_164.out
              have hnc35 := NB164_163.out
              have hcz36_0 : wc.cell? ⟨gb163, 0, none⟩ = some (.int .i64 a0_0) := (blk_cell BK163.out 0).trans rfl
              have hcz36_1 : wc.cell? ⟨gb163, 1, none⟩ = some (.int .i64 a0_1) := (blk_cell BK163.out 1).trans rfl
              have hcz36_2 : wc.cell? ⟨gb163, 2, none⟩ = some (.string a0_2) := (blk_cell BK163.out 2).trans rfl
              have hfz36_0 := blk_frozen BK163.out 0
              have hfz36_1 := blk_frozen BK163.out 1
              have hfz36_2 := blk_frozen BK163.out 2
              have hcz37_0 : wc.cell? ⟨gb164, 0, none⟩ = some (.int .i64 a1_0) := (blk_cell BK164.out 0).trans rfl
              have hcz37_1 : wc.cell? ⟨gb164, 1, none⟩ = some (.int .i64 a1_1) := (blk_cell BK164.out 1).trans rfl
              have hcz37_2 : wc.cell? ⟨gb164, 2, none⟩ = some (.string a1_2) := (blk_cell BK164.out 2).trans rfl
              have hfz37_0 := blk_frozen BK164.out 0
              have hfz37_1 := blk_frozen BK164.out 1
              have hfz37_2 := blk_frozen BK164.out 2
              go_wp2
              go_ret
              exact ⟨by first | rfl | (simp [errW_none, errW_some] <;> rfl) | (simp [*, errW_none, errW_some] <;> rfl), by repeat (first | (with_reducible first | exact HB.out | apply below_alloc | apply pw_below_drewN | apply below_drew1 | refine below_set ?_ GE163.out | refine below_set ?_ GE164.out) | exact HB.out)⟩

end Go.Proofs.YthpngienphnaoaaDoor.PTupleWorks
