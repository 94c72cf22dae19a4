import Derived.Test.YthpngienphnaoaaDoorU9RunesCuts
import Derived.Test.YthpngienphnaoaaDoorPRunesCutsx3
import Derived.Test.YthpngienphnaoaaDoorV8
/-
  The plain laws of the document's Count, Cut, Place.
-/
namespace Go.Proofs.YthpngienphnaoaaDoor.PRunesCuts
open Go.RowKit Go.Proofs.YthpngienphnaoaaDoorW.PrintWords Go.Proofs.YthpngienphnaoaaDoorW.PrintLast Go.Proofs.YthpngienphnaoaaDoorW.PrintMore Go.Proofs.YthpngienphnaoaaDoor

theorem read_yes {s : ByteArray} {l : List Nat} (hs : s.size ≤ 10000000) (h : textS s.data.toList = some l) : ∃ k0, ∀ k, k0 ≤ k → blotterref01_read.f k s = some (ints l, true) := by
  obtain ⟨k, hk⟩ := read_f s hs
  suffices h9 : blotterref01_read.f k s = some (ints l, true) from ⟨k, fun _ hk' => at_rounds (g := fun k => blotterref01_read.f k s) (blotterref01_read.mono s) hk' h9⟩
  rw [hk]
  unfold textS at h
  cases hr : runesL s.data.toList with
  | none => rw [hr] at h; cases h
  | some l' =>
    rw [hr, Option.bind_some] at h
    by_cases h2 : l'.length ≤ 20000
    · rw [if_pos h2] at h
      injection h with h
      subst h
      simp only
      rw [decide_eq_true (by omega)]
    · rw [if_neg h2] at h; cases h
theorem read_no {s : ByteArray} (hs : s.size ≤ 10000000) (h : textS s.data.toList = none) : ∃ x, ∃ k0, ∀ k, k0 ≤ k → blotterref01_read.f k s = some (x, false) := by
  obtain ⟨k, hk⟩ := read_f s hs
  unfold textS at h
  cases hr : runesL s.data.toList with
  | none =>
    rw [hr] at hk
    exact ⟨_, k, fun _ hk' => at_rounds (g := fun k => blotterref01_read.f k s) (blotterref01_read.mono s) hk' hk⟩
  | some l' =>
    rw [hr] at hk
    rw [hr, Option.bind_some] at h
    by_cases h2 : l'.length ≤ 20000
    · rw [if_pos h2] at h; cases h
    · simp only at hk
      rw [decide_eq_false (by omega)] at hk
      exact ⟨_, k, fun _ hk' => at_rounds (g := fun k => blotterref01_read.f k s) (blotterref01_read.mono s) hk' hk⟩
theorem write_yes {l : List Nat} (h : ∀ r ∈ l, scalar r) (hl : l.length ≤ 100000000) : ∃ k0, ∀ k, k0 ≤ k → blotterref01_write.f k (ints l) = some (str (encS l)) := by
  obtain ⟨k, hk⟩ := write_f l h hl
  exact ⟨k, fun _ hk' => at_rounds (g := fun k => blotterref01_write.f k (ints l)) (blotterref01_write.mono _) hk' hk⟩
theorem ints_length (l : List Nat) : (ints l).length = l.length := List.length_map _
theorem ints_take (l : List Nat) (k : Nat) : (ints l).take k = ints (l.take k) := List.map_take.symm
theorem ints_drop (l : List Nat) (k : Nat) : (ints l).drop k = ints (l.drop k) := List.map_drop.symm
theorem nil_str : str [] = ⟨#[]⟩ := rfl
theorem Count_f (s : ByteArray) (hs : s.size ≤ 10000000) : ∃ k, blotterref01_Count.f k s = some ((cntS s.data.toList).1, (cntS s.data.toList).2) := by
  cases hl : textS s.data.toList with
  | none =>
    obtain ⟨x, k, hk⟩ := read_no hs hl
    refine ⟨k, ?_⟩
    unfold blotterref01_Count.f
    rw [hk k (Nat.le_refl _), Option.bind_some, if_neg (show ¬ false = true from Bool.false_ne_true), count_no hl]
  | some l =>
    obtain ⟨k, hk⟩ := read_yes hs hl
    refine ⟨k, ?_⟩
    unfold blotterref01_Count.f
    rw [hk k (Nat.le_refl _), Option.bind_some, if_pos rfl, count_yes hl, ints_length]
theorem Cut_f (s : ByteArray) (a b : Int) (hs : s.size ≤ 10000000) : ∃ k, blotterref01_Cut.f k s a b = some (str (cutS s.data.toList a b).1, (cutS s.data.toList a b).2) := by
  cases hl : textS s.data.toList with
  | none =>
    obtain ⟨x, k, hk⟩ := read_no hs hl
    refine ⟨k, ?_⟩
    unfold blotterref01_Cut.f
    rw [hk k (Nat.le_refl _), Option.bind_some, if_neg (show ¬ false = true from Bool.false_ne_true)]
    unfold cutS
    rw [hl]; rfl
  | some l =>
    obtain ⟨e1, e2, e3⟩ := textS_inv hl
    obtain ⟨k1, hk1⟩ := read_yes hs hl
    have hw : ∀ r ∈ (l.take b.toNat).drop a.toNat, scalar r := mem_drop (mem_take e2 _) _
    obtain ⟨k2, hk2⟩ := write_yes hw (by rw [List.length_drop, List.length_take]; omega)
    refine ⟨max k1 k2, ?_⟩
    unfold blotterref01_Cut.f cutS
    rw [hk1 _ (Nat.le_max_left ..), Option.bind_some, if_pos rfl, hl]
    simp only [ints_length]
    by_cases h1 : a < 0
    · rw [if_pos h1, if_pos (by omega)]; rfl
    · rw [if_neg h1]
      by_cases h2 : b < a
      · rw [if_pos h2, if_pos (by omega)]; rfl
      · rw [if_neg h2]
        by_cases h3 : b > (l.length : Int)
        · rw [if_pos h3, if_pos (by omega)]; rfl
        · rw [if_neg h3, if_pos (by omega), if_pos (by omega), if_pos (by omega), if_neg (by omega), ints_take, ints_drop, hk2 _ (Nat.le_max_right ..), Option.bind_some, List.drop_take, show b.toNat - a.toNat = (b - a).toNat by omega]
theorem Place_f (s : ByteArray) (a : Int) (hs : s.size ≤ 10000000) : ∃ k, blotterref01_Place.f k s a = some ((plcS s.data.toList a).1, (plcS s.data.toList a).2) := by
  obtain ⟨k, hk⟩ := Cut_f s 0 a hs
  refine ⟨k, ?_⟩
  unfold blotterref01_Place.f
  rw [hk, Option.bind_some]
  unfold cutS plcS
  cases hl : textS s.data.toList with
  | none => rfl
  | some l =>
    simp only
    by_cases h : a < 0 ∨ (l.length : Int) < a
    · rw [if_pos (by omega), if_pos h]; rfl
    · rw [if_neg (by omega), if_neg h]
      simp only
      rw [str_size, show (0 : Int).toNat = 0 from rfl, List.drop_zero, show (a - 0).toNat = a.toNat by omega]; rfl
end Go.Proofs.YthpngienphnaoaaDoor.PRunesCuts
