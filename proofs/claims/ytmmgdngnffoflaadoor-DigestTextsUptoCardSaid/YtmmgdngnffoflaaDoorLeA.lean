import Derived.Test.YtmmgdngnffoflaaDoorTgA
import Derived.Test.YtmmgdngnffoflaaDoorPDigestTextsx1
/-
  blotterlaw09.Lent, Kept: their contracts.
-/
namespace Go.Proofs.YtmmgdngnffoflaaDoor
open Go.RowKit Go.Proofs.YtmmgdngnffoflaaDoorW.PrintWords

theorem nums_get (xs : List Int) (j : Nat) (h : j < xs.length) : (nums .u8 xs)[j]? = some (.int .u8 (xs.getD j 0)) := by
  simp [nums, List.getElem?_eq_getElem h, List.getD_eq_getElem?_getD]
/-- A block of numbers that may be written over; nothing else has turned. -/
def Over (w wr : World) (base g n : Nat) : Prop := KeepBut w wr g none ∧ Below base w wr ∧ ∃ cs : Array Value, wr.heap[g]? = some (.cells cs 5 (0, 0)) ∧ ∀ j, j < n → ∃ x : Int, cs[j]? = some (.int .u8 x)
theorem Over.step {w wr : World} {base g n k : Nat} (h : Over w wr base g n) (hb : base ≤ g) (x : Int) : Over w (wr.setCell ⟨g, k, none⟩ (.int .u8 x)) base g n := by
  obtain ⟨a, aB, cs, b, c⟩ := h
  refine ⟨a.set_ k _, aB.setCell hb _, _, heap_setCell_same wr g k cs 5 _ b, fun j hj => ?_⟩
  by_cases e : k = j
  · subst e
    obtain ⟨y, hy⟩ := c k hj
    exact ⟨x, by simp [(Array.getElem?_eq_some_iff.1 hy).1]⟩
  · obtain ⟨y, hy⟩ := c j hj
    exact ⟨y, by rw [Array.getElem?_setIfInBounds, if_neg e]; exact hy⟩
theorem Over.at {w wr : World} {base g n k : Nat} (h : Over w wr base g n) (hk : k < n) : ∃ x : Int, wr.cell? ⟨g, k, none⟩ = some (.int .u8 x) ∧ ∀ j, wr.frozen? ⟨g, j, none⟩ = false := by
  obtain ⟨_, _, cs, b, c⟩ := h
  obtain ⟨x, hx⟩ := c k hk
  exact ⟨x, by rw [cell_of_row _ _ _ _ _ _ b]; exact hx, blk_frozen b⟩
set_option maxHeartbeats 4000000 in
set_option maxRecDepth 100000 in
theorem lent_any (A : Option Addr) (c : Nat) (l : List Int) (w : World) (hr : Kd.C (Kd.int .u8) w A l.length l) (_hcap : l.length ≤ c) (hl : l.length ≤ 100000000) :
    Calls Tryd.prog 14 #[.slice A l.length c] w fun e w' => ∃ g cap, e = .returned (.slice (some ⟨g, 0, none⟩) l.length cap) ∧ w'.ownsRow w.heap.size 5 1 (.slice (some ⟨g, 0, none⟩) (l.length + 2) cap) (l.length + 2) (nums .u8 (l ++ [171, 172])) ∧ Below w.heap.size w w' := by
  have h63 : l.length ≤ 9223372036854775807 := by omega
  go_enter Tryd.func14, Tryd.ntmps14
  obtain ⟨i0, hi, hz0, hz1, hz2⟩ := info_parts dinfo5
  go_wp2_with (at_make; refine wpList_make_own _ rfl _ _ 22 rfl w.heap.size 5 i0 (.int .u8 0) 1 Tryd.underlying22 hi hz0 hz1 _ _ _ (l.length + 2) rfl rfl (by omega) ?b2 ?b3 ?b4 ?_)
  case b2 => rw [hz2]; omega
  case b3 => unfold maxLen; omega
  case b4 => exact Nat.le_refl _
  intro w1 hown1 hg1
  have hb1 := (Below.refl w.heap.size w).grown hg1 (Nat.le_refl _) (by simp)
  clear hg1 hi hz0 hz1 hz2
  have hR1 := C_row (Kd.C_below hr hb1)
  go_wp2_with (at_builtin; refine print_append_row (w0 := w) w.heap.size rfl (.tmp 7) (.tmp 8) 22 5 .u8 1 rfl Tryd.underlying22 dinfo5 (by decide) _ [] l A _ c rfl rfl hown1 hR1 hb1 hb1.size (by simp; omega) ?_)
  intro v1 w2 hown2 hb2 hg2 _
  clear hown1 hR1 hg2 hb1
  have hR2 : ReadsInt (w2.alloc (.cells #[.int .u8 171, .int .u8 172] 5)) .u8 (some ⟨w2.heap.size, 0, none⟩) 2 [171, 172] := C_row (row_C (l := [171, 172]) (heap_alloc_new w2 _) (by decide))
  have ho2 := own_alloc hown2 (.cells #[.int .u8 171, .int .u8 172] 5)
  have hb3 := hb2.alloc hb2.size (.cells #[.int .u8 171, .int .u8 172] 5)
  have H2 := Lib.hid hown2
  clear hown2
  go_wp2_with (at_builtin; refine print_append_row (w0 := w) w.heap.size rfl (.tmp 10) (.tmp 11) 22 5 .u8 1 rfl Tryd.underlying22 dinfo5 (by decide) _ l [171, 172] (some ⟨w2.heap.size, 0, none⟩) 2 2 rfl rfl ho2 hR2 hb3 hb3.size (by omega) ?_)
  intro v3 w3 hown3 hb4 _ _
  obtain ⟨A3, c3, rfl⟩ := own_slice hown3
  obtain ⟨g, hA⟩ : ∃ g, A3 = some ⟨g, 0, none⟩ := by
    rcases hown3.2 with ⟨h, h0⟩ | ⟨g, cap, cur, h, _⟩
    · omega
    · injection h with h _ _; exact ⟨g, h⟩
  subst hA
  have hc3 : l.length ≤ c3 := by
    rcases hown3.2 with ⟨h, h0⟩ | ⟨g, cap, cur, h, _, _, h4, _⟩
    · omega
    · injection h with _ _ h; omega
  have H3 := Lib.hid hown3
  clear hown3 hR2 ho2 hb3 H2 hb2 hr
  go_wp2_with fail
  go_ret
  exact ⟨g, c3, rfl, H3.out, hb4⟩
set_option maxHeartbeats 4000000 in
set_option maxRecDepth 100000 in
theorem same_any (A : Option Addr) (c : Nat) (l : List Int) (A2 : Option Addr) (c2 : Nat) (w : World) (hr : Kd.C (Kd.int .u8) w A l.length l) (hc : l.length ≤ c) (hr2 : Kd.C (Kd.int .u8) w A2 l.length l) (hc2 : l.length ≤ c2) :
    Calls Tryd.prog 20 #[.slice A l.length c, .slice A2 l.length c2] w fun e w' => e = .returned (.bool true) ∧ Drawn0 w w' :=
  PDigestTexts.blotterlaw09_Same.calls A c l A2 c2 l true w hr hc hr2 hc2 (by simp [PDigestTexts.blotterlaw09_Same.f])
set_option maxHeartbeats 4000000 in
set_option maxRecDepth 100000 in
theorem kept_any (g cap base : Nat) (l : List Int) (A : Option Addr) (c : Nat) (w : World) (hown : w.ownsRow base 5 1 (.slice (some ⟨g, 0, none⟩) (l.length + 2) cap) (l.length + 2) (nums .u8 (l ++ [171, 172]))) (hr : Kd.C (Kd.int .u8) w A l.length l) (hcap : l.length ≤ c) (hl : l.length ≤ 100000000) (hbs : base ≤ w.heap.size) :
    Calls Tryd.prog 17 #[.slice (some ⟨g, 0, none⟩) l.length cap, .slice A l.length c] w fun e w' => e = .returned (.bool true) ∧ KeepBut w w' g none ∧ Below base w w' := by
  have h63 : l.length ≤ 9223372036854775807 := by omega
  obtain ⟨cur, hg, hcur, hcc, hc9, hbg⟩ : ∃ cur : Array Value, w.heap[g]? = some (.cells cur 5 (0, 0)) ∧ cur.toList.take (l.length + 2) = nums .u8 (l ++ [171, 172]) ∧ cur.size = cap ∧ l.length + 2 ≤ cap ∧ base ≤ g := by
    rcases hown.2 with ⟨h, h0⟩ | ⟨g', cap', cur, h, h2, h3, h4, h5, h6, h7⟩
    · omega
    · injection h with h _ h'
      injection h with h
      injection h with h _ _
      subst h
      subst h'
      exact ⟨cur, h3, by simpa using h7, by omega, h4, h2⟩
  have hat : ∀ j, j < l.length + 2 → w.cell? ⟨g, j, none⟩ = some (.int .u8 ((l ++ [171, 172]).getD j 0)) := by
    intro j hj
    rw [cell_of_row _ _ _ _ _ _ hg]
    have h1 : cur[j]? = (cur.toList.take (l.length + 2))[j]? := by rw [List.getElem?_take_of_lt hj, Array.getElem?_toList]
    rw [h1, hcur]
    have h2 : j < (l ++ [171, 172]).length := by simp; omega
    exact nums_get _ _ h2
  have hRg : ReadsInt w .u8 (some ⟨g, 0, none⟩) l.length l := ⟨rfl, by omega, fun _ => ⟨_, rfl, fun j hj => by
    rw [add_plain, hat j (by omega)]
    simp [List.getD_eq_getElem?_getD, List.getElem?_append_left hj]⟩⟩
  have hCg : Kd.C (Kd.int .u8) w (some ⟨g, 0, none⟩) l.length l := Kd.C_of_reads (readsInt_of.1 hRg)
  go_enter Tryd.func17, Tryd.ntmps17
  go_wp2_with fail
  refine (same_any (some ⟨g, 0, none⟩) cap l A c w hCg (by omega) hr hcap).mono ?_
  rintro e w1 ⟨rfl, hd⟩
  have c1 : w1.cell? ⟨g, l.length, none⟩ = some (.int .u8 171) := by
    have := hat l.length (by omega)
    rw [List.getD_eq_getElem?_getD, List.getElem?_append_right (Nat.le_refl _), Nat.sub_self] at this
    exact (hd.below.cell (World.block_lt_of_cell? w _ this)).trans this
  have c2 : w1.cell? ⟨g, l.length + 1, none⟩ = some (.int .u8 172) := by
    have := hat (l.length + 1) (by omega)
    rw [List.getD_eq_getElem?_getD, List.getElem?_append_right (by omega), Nat.add_sub_cancel_left] at this
    exact (hd.below.cell (World.block_lt_of_cell? w _ this)).trans this
  have HK0 : Hid (Over w w1 base g (l.length + 2)) := by
    refine ⟨KeepBut.of_below hd.below g none, hd.below.mono hbs, cur, (hd.below.block _ (blk_lt hg)).trans hg, fun j hj => ?_⟩
    have h1 := hat j hj
    rw [cell_of_row _ _ _ _ _ _ hg] at h1
    exact ⟨_, h1⟩
  clear hat hRg hCg hr hg hown hd hcur hcc
  go_wp2_with fail
  go_loopw [8] (fun i wr => ∃ k : Nat, k ≤ l.length + 2 ∧ i = .int .i64 k ∧ Hid (Over w wr base g (l.length + 2))) (fun i _ => l.length + 2 - (intOf i).toNat)
  case atStart => exact ⟨0, by omega, rfl, HK0⟩
  case round =>
    obtain ⟨k, hk, rfl, HK⟩ := hrel
    clear HK0 c1 c2
    by_cases hlt : k < l.length + 2
    · obtain ⟨x, hx, hf⟩ := HK.out.at hlt
      go_wp2_with fail
      go_roundw
      case rel => exact ⟨k + 1, by omega, by go_num, HK.out.step hbg _⟩
      case measure => simp [intOf]; omega
    · obtain rfl : k = l.length + 2 := by omega
      go_wp2_with fail
      go_ret
      exact ⟨rfl, HK.out.1, HK.out.2.1⟩
end Go.Proofs.YtmmgdngnffoflaaDoor
