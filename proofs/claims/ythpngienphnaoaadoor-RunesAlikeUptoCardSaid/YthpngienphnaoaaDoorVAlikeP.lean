import Derived.Test.YthpngienphnaoaaDoorU2RunesAlike
import Derived.Test.YthpngienphnaoaaDoorPRunesAlikex3
import Derived.Test.YthpngienphnaoaaDoorV8
/-
  The plain laws of the document's Ahead and Behind.
-/
namespace Go.Proofs.YthpngienphnaoaaDoor.PRunesAlike
open Go.RowKit Go.Proofs.YthpngienphnaoaaDoorW.PrintWords Go.Proofs.YthpngienphnaoaaDoorW.PrintLast Go.Proofs.YthpngienphnaoaaDoorW.PrintMore Go.Proofs.YthpngienphnaoaaDoor

theorem read_yes {s : ByteArray} {l : List Nat} (hs : s.size ≤ 10000000) (h : textS s.data.toList = some l) : ∃ k0, ∀ k, k0 ≤ k → blotterref01_read.f k s = some (ints l, true) := by
  obtain ⟨k, hk⟩ := read_f s hs
  suffices h9 : blotterref01_read.f k s = some (ints l, true) from ⟨k, fun _ hk' => at_rounds (g := fun k => blotterref01_read.f k s) (blotterref01_read.mono s) hk' h9⟩
  rw [hk]
  unfold textS at h
  cases hr : runesL s.data.toList with
  | none => rw [hr] at h; cases h
  | some l' =>
    rw [hr, Option.bind_some] at h
    by_cases h2 : l'.length ≤ 20000
    · rw [if_pos h2] at h
      injection h with h
      subst h
      simp only
      rw [decide_eq_true (by omega)]
    · rw [if_neg h2] at h; cases h
theorem read_no {s : ByteArray} (hs : s.size ≤ 10000000) (h : textS s.data.toList = none) : ∃ x, ∃ k0, ∀ k, k0 ≤ k → blotterref01_read.f k s = some (x, false) := by
  obtain ⟨k, hk⟩ := read_f s hs
  unfold textS at h
  cases hr : runesL s.data.toList with
  | none =>
    rw [hr] at hk
    exact ⟨_, k, fun _ hk' => at_rounds (g := fun k => blotterref01_read.f k s) (blotterref01_read.mono s) hk' hk⟩
  | some l' =>
    rw [hr] at hk
    rw [hr, Option.bind_some] at h
    by_cases h2 : l'.length ≤ 20000
    · rw [if_pos h2] at h; cases h
    · simp only at hk
      rw [decide_eq_false (by omega)] at hk
      exact ⟨_, k, fun _ hk' => at_rounds (g := fun k => blotterref01_read.f k s) (blotterref01_read.mono s) hk' hk⟩
theorem ints_length (l : List Nat) : (ints l).length = l.length := List.length_map _
theorem ints_take (l : List Nat) (k : Nat) : (ints l).take k = ints (l.take k) := List.map_take.symm
theorem ints_drop (l : List Nat) (k : Nat) : (ints l).drop k = ints (l.drop k) := List.map_drop.symm
theorem rd_at (l : List Nat) (j : Nat) (h : j < l.length) : rd (ints l) (j : Int) = (l[j] : Int) := by
  unfold rd ints
  rw [Int.toNat_natCast, List.getD_eq_getElem?_getD, List.getElem?_map, List.getElem?_eq_getElem h]; rfl
theorem alike_l0 (l m : List Nat) (hl : l.length ≤ 1000000) : ∀ (d j : Nat), j ≤ aheadN l m → aheadN l m - j = d → ∃ k, blotterref01_alike.l0 k (ints l) (ints m) (j : Int) = some (aheadN l m : Int) := by
  have hle := aheadN_le l m
  intro d
  induction d with
  | zero =>
    intro j hj hd
    have e : aheadN l m = j := by omega
    refine ⟨1, ?_⟩
    rw [blotterref01_alike.l0, ints_length, ints_length, e]
    by_cases h1 : j < l.length
    · rw [if_pos (by omega)]
      by_cases h2 : j < m.length
      · rw [if_pos (by omega), if_pos (by omega), rd_at l j h1, rd_at m j h2, if_neg]
        intro h
        have := aheadN_more hj h1 h2 (by omega)
        omega
      · rw [if_neg (by omega)]
    · rw [if_neg (by omega)]
  | succ d ih =>
    intro j hj hd
    obtain ⟨k, hk⟩ := ih (j + 1) (by omega) (by omega)
    refine ⟨k + 1, ?_⟩
    have h1 : j < l.length := by omega
    have h2 : j < m.length := by omega
    have he : l[j] = m[j] := by
      by_cases h : l[j] = m[j]
      · exact h
      · have := aheadN_stop hj h1 h2 h
        omega
    rw [blotterref01_alike.l0, ints_length, ints_length, if_pos (by omega), if_pos (by omega), if_pos (by omega), rd_at l j h1, rd_at m j h2, if_pos (by omega), w64 (n := (j : Int) + 1) (by omega) (by omega)]
    exact hk
theorem alike_f (l m : List Nat) (hl : l.length ≤ 1000000) : ∃ k0, ∀ k, k0 ≤ k → blotterref01_alike.f k (ints l) (ints m) = some (aheadN l m : Int) := by
  obtain ⟨k, hk⟩ := alike_l0 l m hl _ 0 (Nat.zero_le _) rfl
  exact ⟨k, fun _ hk' => at_rounds (g := fun k => blotterref01_alike.f k (ints l) (ints m)) (blotterref01_alike.mono _ _) hk' hk⟩
theorem turned_l0 (l : List Nat) (hl : l.length ≤ 1000000) : ∀ (i : Nat) (acc : List Int), i ≤ l.length → acc.length + i ≤ 1000000 → ∃ k, blotterref01_turned.l0 k (ints l) acc ((i : Int) - 1) = some (acc ++ ints (l.take i).reverse) := by
  intro i
  induction i with
  | zero =>
    intro acc _ _
    refine ⟨1, ?_⟩
    rw [blotterref01_turned.l0, if_neg (by omega)]
    simp [ints]
  | succ i ih =>
    intro acc hi ha
    obtain ⟨k, hk⟩ := ih (acc ++ [(l[i] : Int)]) (by omega) (by rw [List.length_append, List.length_singleton]; omega)
    refine ⟨k + 1, ?_⟩
    have e : ((i + 1 : Nat) : Int) - 1 = (i : Int) := by omega
    rw [e, blotterref01_turned.l0, ints_length, if_pos (by omega), if_pos (by omega), if_pos (by omega), if_pos (by omega), rd_at l i (by omega), w64 (n := (i : Int) - 1) (by omega) (by omega), hk, List.append_assoc]
    rw [List.take_succ_eq_append_getElem (by omega), List.reverse_append]
    rfl
theorem turned_f (l : List Nat) (hl : l.length ≤ 1000000) : ∃ k0, ∀ k, k0 ≤ k → blotterref01_turned.f k (ints l) = some (ints l.reverse) := by
  obtain ⟨k, hk⟩ := turned_l0 l hl l.length [] (Nat.le_refl _) (by simp; omega)
  rw [List.take_length, List.nil_append] at hk
  have h : blotterref01_turned.f k (ints l) = some (ints l.reverse) := by
    unfold blotterref01_turned.f
    rw [ints_length, w64 (n := (l.length : Int) - 1) (by omega) (by omega)]
    exact hk
  exact ⟨k, fun _ hk' => at_rounds (g := fun k => blotterref01_turned.f k (ints l)) (blotterref01_turned.mono _) hk' h⟩
theorem Ahead_f (s p : ByteArray) (hs : s.size ≤ 10000000) (hp : p.size ≤ 10000000) : ∃ k0, ∀ k, k0 ≤ k → blotterref01_Ahead.f k s p = some ((aheadS s.data.toList p.data.toList).1, (aheadS s.data.toList p.data.toList).2) := by
  cases hl : textS s.data.toList with
  | none =>
    obtain ⟨x, k1, hk1⟩ := read_no hs hl
    obtain ⟨y, k2, hk2⟩ : ∃ y, ∃ k0, ∀ k, k0 ≤ k → blotterref01_read.f k p = some y := by
      cases hm : textS p.data.toList with
      | none => obtain ⟨y, h⟩ := read_no hp hm; exact ⟨_, h⟩
      | some m => exact ⟨_, read_yes hp hm⟩
    refine ⟨max k1 k2, fun k hk => ?_⟩
    unfold blotterref01_Ahead.f aheadS
    rw [hk1 _ (by omega), Option.bind_some, hk2 _ (by omega), Option.bind_some, if_neg (show ¬ false = true from Bool.false_ne_true), hl]
  | some l =>
    obtain ⟨k1, hk1⟩ := read_yes hs hl
    cases hm : textS p.data.toList with
    | none =>
      obtain ⟨y, k2, hk2⟩ := read_no hp hm
      refine ⟨max k1 k2, fun k hk => ?_⟩
      unfold blotterref01_Ahead.f aheadS
      rw [hk1 _ (by omega), Option.bind_some, hk2 _ (by omega), Option.bind_some, if_pos rfl, if_neg (show ¬ false = true from Bool.false_ne_true), hl, hm]
    | some m =>
      obtain ⟨k2, hk2⟩ := read_yes hp hm
      obtain ⟨k3, hk3⟩ := alike_f l m (by have := (textS_inv hl).2.2; omega)
      refine ⟨max k1 (max k2 k3), fun k hk => ?_⟩
      unfold blotterref01_Ahead.f aheadS
      rw [hk1 _ (by omega), Option.bind_some, hk2 _ (by omega), Option.bind_some, if_pos rfl, if_pos rfl, hk3 _ (by omega), Option.bind_some, hl, hm]
theorem Behind_f (s p : ByteArray) (hs : s.size ≤ 10000000) (hp : p.size ≤ 10000000) : ∃ k, blotterref01_Behind.f k s p = some ((behindS s.data.toList p.data.toList).1, (behindS s.data.toList p.data.toList).2) := by
  obtain ⟨k0, hk0⟩ := Ahead_f s p hs hp
  by_cases hb : ∃ l m, textS s.data.toList = some l ∧ textS p.data.toList = some m
  · obtain ⟨l, m, hl, hm⟩ := hb
    obtain ⟨e1, e2, e3⟩ := textS_inv hl
    obtain ⟨e4, e5, e6⟩ := textS_inv hm
    have hle := aheadN_le l m
    obtain ⟨k1, hk1⟩ := read_yes hs hl
    obtain ⟨k2, hk2⟩ := read_yes hp hm
    obtain ⟨k3, hk3⟩ := turned_f (l.drop (aheadN l m)) (by rw [List.length_drop]; omega)
    obtain ⟨k4, hk4⟩ := turned_f (m.drop (aheadN l m)) (by rw [List.length_drop]; omega)
    obtain ⟨k5, hk5⟩ := alike_f (l.drop (aheadN l m)).reverse (m.drop (aheadN l m)).reverse (by rw [List.length_reverse, List.length_drop]; omega)
    obtain ⟨K, hK⟩ : ∃ K, K = max (max k0 k1) (max (max k2 k3) (max k4 k5)) := ⟨_, rfl⟩
    refine ⟨K, ?_⟩
    have ha : aheadS s.data.toList p.data.toList = ((aheadN l m : Int), 0) := by unfold aheadS; rw [hl, hm]
    have hc : behindS s.data.toList p.data.toList = ((behindN l m : Int), 0) := by unfold behindS; rw [hl, hm]
    unfold blotterref01_Behind.f
    rw [hk0 _ (by omega), Option.bind_some, ha, hc]
    simp only
    rw [if_pos trivial, hk1 _ (by omega), Option.bind_some, hk2 _ (by omega), Option.bind_some]
    simp only [ints_length]
    rw [if_pos (by omega), if_pos (by omega), Int.toNat_natCast, ints_drop, hk3 _ (by omega), Option.bind_some, if_pos (by omega), ints_drop, hk4 _ (by omega), Option.bind_some, hk5 _ (by omega), Option.bind_some]
    rfl
  · have ha : aheadS s.data.toList p.data.toList = (0, 10) := by
      unfold aheadS
      cases hl : textS s.data.toList with
      | none => rfl
      | some l =>
        cases hm : textS p.data.toList with
        | none => rfl
        | some m => exact absurd ⟨l, m, hl, hm⟩ hb
    have hc : behindS s.data.toList p.data.toList = (0, 10) := by
      unfold behindS
      cases hl : textS s.data.toList with
      | none => rfl
      | some l =>
        cases hm : textS p.data.toList with
        | none => rfl
        | some m => exact absurd ⟨l, m, hl, hm⟩ hb
    refine ⟨k0, ?_⟩
    unfold blotterref01_Behind.f
    rw [hk0 _ (Nat.le_refl _), Option.bind_some, ha, hc]
    rfl
end Go.Proofs.YthpngienphnaoaaDoor.PRunesAlike
