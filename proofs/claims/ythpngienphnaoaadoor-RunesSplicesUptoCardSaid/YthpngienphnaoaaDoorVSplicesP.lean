import Derived.Test.YthpngienphnaoaaDoorU9RunesSplices
import Derived.Test.YthpngienphnaoaaDoorRfS
import Derived.Test.YthpngienphnaoaaDoorV8
/-
  The plain law of the document's Splice.
-/
namespace Go.Proofs.YthpngienphnaoaaDoor.PRunesSplices
open Go.RowKit Go.Proofs.YthpngienphnaoaaDoorW.PrintWords Go.Proofs.YthpngienphnaoaaDoorW.PrintLast Go.Proofs.YthpngienphnaoaaDoorW.PrintMore Go.Proofs.YthpngienphnaoaaDoor

theorem read_yes {s : ByteArray} {l : List Nat} (hs : s.size ≤ 10000000) (h : textS s.data.toList = some l) : ∃ k0, ∀ k, k0 ≤ k → blotterref01_read.f k s = some (ints l, true) := by
  obtain ⟨k, hk⟩ := read_f s hs
  suffices h9 : blotterref01_read.f k s = some (ints l, true) from ⟨k, fun _ hk' => at_rounds (g := fun k => blotterref01_read.f k s) (blotterref01_read.mono s) hk' h9⟩
  rw [hk]
  unfold textS at h
  cases hr : runesL s.data.toList with
  | none => rw [hr] at h; cases h
  | some l' =>
    rw [hr, Option.bind_some] at h
    by_cases h2 : l'.length ≤ 20000
    · rw [if_pos h2] at h
      injection h with h
      subst h
      simp only
      rw [decide_eq_true (by omega)]
    · rw [if_neg h2] at h; cases h
theorem read_no {s : ByteArray} (hs : s.size ≤ 10000000) (h : textS s.data.toList = none) : ∃ x, ∃ k0, ∀ k, k0 ≤ k → blotterref01_read.f k s = some (x, false) := by
  obtain ⟨k, hk⟩ := read_f s hs
  unfold textS at h
  cases hr : runesL s.data.toList with
  | none =>
    rw [hr] at hk
    exact ⟨_, k, fun _ hk' => at_rounds (g := fun k => blotterref01_read.f k s) (blotterref01_read.mono s) hk' hk⟩
  | some l' =>
    rw [hr] at hk
    rw [hr, Option.bind_some] at h
    by_cases h2 : l'.length ≤ 20000
    · rw [if_pos h2] at h; cases h
    · simp only at hk
      rw [decide_eq_false (by omega)] at hk
      exact ⟨_, k, fun _ hk' => at_rounds (g := fun k => blotterref01_read.f k s) (blotterref01_read.mono s) hk' hk⟩
theorem write_yes {l : List Nat} (h : ∀ r ∈ l, scalar r) (hl : l.length ≤ 100000000) : ∃ k0, ∀ k, k0 ≤ k → blotterref01_write.f k (ints l) = some (str (encS l)) := by
  obtain ⟨k, hk⟩ := write_f l h hl
  exact ⟨k, fun _ hk' => at_rounds (g := fun k => blotterref01_write.f k (ints l)) (blotterref01_write.mono _) hk' hk⟩
theorem ints_length (l : List Nat) : (ints l).length = l.length := List.length_map _
theorem ints_take (l : List Nat) (k : Nat) : (ints l).take k = ints (l.take k) := List.map_take.symm
theorem ints_drop (l : List Nat) (k : Nat) : (ints l).drop k = ints (l.drop k) := List.map_drop.symm
theorem j0_true (k : Nat) (a g : Int) (x y : List Int) : blotterref01_Splice.j0 (k + 1) a g x y true = some ((⟨#[]⟩ : ByteArray), 10) := by
  rw [blotterref01_Splice.j0, if_pos rfl]
theorem j1_true (k : Nat) (a g : Int) (x y : List Int) : blotterref01_Splice.j1 (k + 1) a g x y true = some ((⟨#[]⟩ : ByteArray), 1) := by
  rw [blotterref01_Splice.j1, if_pos rfl]
theorem Splice_f (s p : ByteArray) (a g : Int) (hs : s.size ≤ 10000000) (hp : p.size ≤ 10000000) : ∃ k, blotterref01_Splice.f k s a g p = some (str (splS s.data.toList p.data.toList a g).1, (splS s.data.toList p.data.toList a g).2) := by
  cases hl : textS s.data.toList with
  | none =>
    obtain ⟨x, k1, hk1⟩ := read_no hs hl
    obtain ⟨y, k2, hk2⟩ : ∃ y, ∃ k0, ∀ k, k0 ≤ k → blotterref01_read.f k p = some y := by
      cases hm : textS p.data.toList with
      | none => obtain ⟨y, h⟩ := read_no hp hm; exact ⟨_, h⟩
      | some m => exact ⟨_, read_yes hp hm⟩
    refine ⟨max k1 k2 + 1, ?_⟩
    unfold blotterref01_Splice.f
    rw [hk1 _ (by omega), Option.bind_some, hk2 _ (by omega), Option.bind_some, if_neg (show ¬ false = true from Bool.false_ne_true), j0_true]
    unfold splS
    rw [hl]; rfl
  | some l =>
    obtain ⟨k1, hk1⟩ := read_yes hs hl
    cases hm : textS p.data.toList with
    | none =>
      obtain ⟨y, k2, hk2⟩ := read_no hp hm
      refine ⟨max k1 k2 + 1, ?_⟩
      unfold blotterref01_Splice.f
      rw [hk1 _ (by omega), Option.bind_some, hk2 _ (by omega), Option.bind_some, if_pos rfl]
      show blotterref01_Splice.j0 (max k1 k2 + 1) a g (ints l) y true = _
      rw [j0_true]
      unfold splS
      rw [hl, hm]; rfl
    | some m =>
      obtain ⟨k2, hk2⟩ := read_yes hp hm
      obtain ⟨e1, e2, e3⟩ := textS_inv hl
      obtain ⟨e4, e5, e6⟩ := textS_inv hm
      obtain ⟨k3, hk3⟩ := write_yes (mem_take e2 a.toNat) (by rw [List.length_take]; omega)
      obtain ⟨k4, hk4⟩ := write_yes e5 (by omega)
      obtain ⟨k5, hk5⟩ := write_yes (mem_drop e2 (a.toNat + g.toNat)) (by rw [List.length_drop]; omega)
      obtain ⟨K, hK⟩ : ∃ K, K = max (max k1 k2) (max k3 (max k4 k5)) := ⟨_, rfl⟩
      refine ⟨K + 1 + 1, ?_⟩
      unfold blotterref01_Splice.f
      rw [hk1 _ (by omega), Option.bind_some, hk2 _ (by omega), Option.bind_some, if_pos rfl]
      show blotterref01_Splice.j0 (K + 1 + 1) a g (ints l) (ints m) false = _
      rw [blotterref01_Splice.j0, if_neg (by decide)]
      unfold splS
      rw [hl, hm]
      simp only [ints_length]
      by_cases h1 : a < 0
      · rw [if_pos h1, j1_true, if_pos (by omega)]; rfl
      · rw [if_neg h1]
        by_cases h2 : a > (l.length : Int)
        · rw [if_pos h2, j1_true, if_pos (by omega)]; rfl
        · rw [if_neg h2]
          by_cases h3 : g < 0
          · rw [if_pos h3, j1_true, if_pos (by omega)]; rfl
          · rw [if_neg h3, w64 (n := (l.length : Int) - a) (by omega) (by omega)]
            by_cases h4 : g > (l.length : Int) - a
            · rw [decide_eq_true h4, j1_true, if_pos (by omega)]; rfl
            · rw [if_neg (show ¬ (a < 0 ∨ (l.length : Int) < a ∨ g < 0 ∨ (l.length : Int) - a < g) by omega), decide_eq_false h4, blotterref01_Splice.j1, if_neg (by decide)]
              simp only [ints_length]
              rw [w64 (n := (l.length : Int) - g) (by omega) (by omega), w64 (n := (l.length : Int) - g + m.length) (by omega) (by omega)]
              by_cases h5 : (l.length : Int) - g + m.length > 20000
              · rw [if_pos h5, if_pos (show 20000 < (l.length : Int) - g + m.length by omega)]; rfl
              · have z1 : (str (encS (l.take a.toNat))).size ≤ 80000 := by rw [str_size]; have := encS_le4 (l.take a.toNat); rw [List.length_take] at this; omega
                have z2 : (str (encS m)).size ≤ 80000 := by rw [str_size]; have := encS_le4 m; omega
                have z3 : (str (encS (l.drop (a.toNat + g.toNat)))).size ≤ 80000 := by rw [str_size]; have := encS_le4 (l.drop (a.toNat + g.toNat)); rw [List.length_drop] at this; omega
                rw [if_neg h5, if_neg (show ¬ 20000 < (l.length : Int) - g + m.length by omega), if_pos (by omega), if_pos (by omega), ints_take, hk3 _ (by omega), Option.bind_some, hk4 _ (by omega), Option.bind_some, if_pos (by omega), w64 (n := a + g) (by omega) (by omega), if_pos (by omega), if_pos (by omega), ints_drop, show (a + g).toNat = a.toNat + g.toNat by omega, hk5 _ (by omega), Option.bind_some, if_pos (by rw [ByteArray.size_append]; omega), str_app, str_app, e4]
end Go.Proofs.YthpngienphnaoaaDoor.PRunesSplices
