import Derived.Test.YthpngienphnaoaaDoorU0
import Derived.Test.YthpngienphnaoaaDoorWWords
import Derived.Lib.SpaceU
import Derived.Lib.SplitLaws
/-
  Plain laws of runes and bytes: how far two rows are alike; the last rune of a text; the lines of bytes.
-/
namespace Go.Proofs.YthpngienphnaoaaDoor
open Go.RowKit Go.Proofs.YthpngienphnaoaaDoorW.PrintWords

/-- How many runes two rows begin with alike. -/
def aheadN : List Nat → List Nat → Nat
  | a :: l, b :: m => if a = b then aheadN l m + 1 else 0
  | _, _ => 0
theorem aheadN_cons (a b : Nat) (l m : List Nat) : aheadN (a :: l) (b :: m) = if a = b then aheadN l m + 1 else 0 := rfl
theorem aheadN_le (l m : List Nat) : aheadN l m ≤ l.length ∧ aheadN l m ≤ m.length := by
  induction l generalizing m with
  | nil => simp [aheadN]
  | cons a l ih =>
    cases m with
    | nil => simp [aheadN]
    | cons b m =>
      have := ih m
      unfold aheadN
      split
      · simp only [List.length_cons]; omega
      · simp
theorem aheadN_drop (l m : List Nat) (j : Nat) (h : j ≤ aheadN l m) : aheadN l m = j + aheadN (l.drop j) (m.drop j) := by
  induction j generalizing l m with
  | zero => simp
  | succ j ih =>
    cases l with
    | nil => simp [aheadN] at h
    | cons a l =>
      cases m with
      | nil => simp [aheadN] at h
      | cons b m =>
        rw [aheadN_cons] at h ⊢
        by_cases e : a = b
        · rw [if_pos e] at h ⊢
          rw [List.drop_succ_cons, List.drop_succ_cons]
          have := ih l m (by omega)
          omega
        · rw [if_neg e] at h
          omega
theorem aheadN_take (l m : List Nat) : l.take (aheadN l m) = m.take (aheadN l m) := by
  induction l generalizing m with
  | nil => simp [aheadN]
  | cons a l ih =>
    cases m with
    | nil => simp [aheadN]
    | cons b m =>
      unfold aheadN
      split
      · rename_i e
        rw [List.take_succ_cons, List.take_succ_cons, ih m, e]
      · simp
theorem aheadN_self (l : List Nat) : aheadN l l = l.length := by
  induction l with
  | nil => rfl
  | cons a l ih => unfold aheadN; rw [if_pos rfl, ih]; rfl
theorem aheadN_comm (l m : List Nat) : aheadN l m = aheadN m l := by
  induction l generalizing m with
  | nil => cases m <;> rfl
  | cons a l ih =>
    cases m with
    | nil => rfl
    | cons b m =>
      unfold aheadN
      by_cases e : a = b
      · rw [if_pos e, if_pos e.symm, ih m]
      · rw [if_neg e, if_neg (Ne.symm e)]
/-- One step of the loop that counts. -/
theorem aheadN_more {l m : List Nat} {j : Nat} (h : j ≤ aheadN l m) (h1 : j < l.length) (h2 : j < m.length) (e : l[j] = m[j]) : j + 1 ≤ aheadN l m := by
  rw [aheadN_drop l m j h, List.drop_eq_getElem_cons h1, List.drop_eq_getElem_cons h2]
  unfold aheadN
  rw [if_pos e]
  omega
theorem aheadN_stop {l m : List Nat} {j : Nat} (h : j ≤ aheadN l m) (h1 : j < l.length) (h2 : j < m.length) (e : l[j] ≠ m[j]) : aheadN l m = j := by
  rw [aheadN_drop l m j h, List.drop_eq_getElem_cons h1, List.drop_eq_getElem_cons h2]
  unfold aheadN
  rw [if_neg e]
  omega
theorem aheadN_end1 {l m : List Nat} {j : Nat} (h : j ≤ aheadN l m) (h1 : l.length ≤ j) : aheadN l m = j := by
  have := aheadN_le l m
  omega
theorem aheadN_end2 {l m : List Nat} {j : Nat} (h : j ≤ aheadN l m) (h1 : m.length ≤ j) : aheadN l m = j := by
  have := aheadN_le l m
  omega

theorem getD_app (p q : List UInt8) (i k : Nat) (h : k = p.length + i) : (p ++ q).getD k 0 = q.getD i 0 := by
  subst h
  rw [List.getD_eq_getElem?_getD, List.getD_eq_getElem?_getD, List.getElem?_append_right (by omega), Nat.add_sub_cancel_left]
/-- How a rune is written: one byte below 128, or a leading one and some that go on. -/
theorem encR_forms (r : Nat) (hr : scalar r) : (∃ x : UInt8, r < 128 ∧ encR r = [x] ∧ x.toNat = r) ∨ (∃ a b : UInt8, encR r = [a, b] ∧ 192 ≤ a.toNat ∧ 128 ≤ b.toNat ∧ b.toNat < 192) ∨
    (∃ a b c : UInt8, encR r = [a, b, c] ∧ 192 ≤ a.toNat ∧ (128 ≤ b.toNat ∧ b.toNat < 192) ∧ 128 ≤ c.toNat ∧ c.toNat < 192) ∨ (∃ a b c d : UInt8, encR r = [a, b, c, d] ∧ 192 ≤ a.toNat ∧ (128 ≤ b.toNat ∧ b.toNat < 192) ∧ (128 ≤ c.toNat ∧ c.toNat < 192) ∧ 128 ≤ d.toNat ∧ d.toNat < 192) := by
  unfold scalar at hr
  unfold encR
  by_cases h1 : r < 128
  · rw [if_pos h1]
    exact .inl ⟨_, h1, rfl, ofNat_toNat' (by omega)⟩
  · rw [if_neg h1]
    by_cases h2 : r < 2048
    · rw [if_pos h2]
      exact .inr (.inl ⟨_, _, rfl, by rw [ofNat_toNat' (by omega)]; omega, by rw [ofNat_toNat' (by omega)]; omega, by rw [ofNat_toNat' (by omega)]; omega⟩)
    · rw [if_neg h2]
      by_cases h3 : r < 65536
      · rw [if_pos h3]
        exact .inr (.inr (.inl ⟨_, _, _, rfl, by rw [ofNat_toNat' (by omega)]; omega, ⟨by rw [ofNat_toNat' (by omega)]; omega, by rw [ofNat_toNat' (by omega)]; omega⟩, by rw [ofNat_toNat' (by omega)]; omega, by rw [ofNat_toNat' (by omega)]; omega⟩))
      · rw [if_neg h3]
        exact .inr (.inr (.inr ⟨_, _, _, _, rfl, by rw [ofNat_toNat' (by omega)]; omega, ⟨by rw [ofNat_toNat' (by omega)]; omega, by rw [ofNat_toNat' (by omega)]; omega⟩, ⟨by rw [ofNat_toNat' (by omega)]; omega, by rw [ofNat_toNat' (by omega)]; omega⟩, by rw [ofNat_toNat' (by omega)]; omega, by rw [ofNat_toNat' (by omega)]; omega⟩))
theorem start_yes {b : UInt8} (h : 192 ≤ b.toNat) : Lib.runeStartB b = true := by
  have := b.toNat_lt
  unfold Lib.runeStartB
  rw [bne_iff_ne]
  omega
theorem start_no {b : UInt8} (h0 : 128 ≤ b.toNat) (h : b.toNat < 192) : Lib.runeStartB b = false := by
  unfold Lib.runeStartB
  rw [bne_eq_false_iff_eq]
  omega
/-- The last rune of a text. -/
theorem decLast (l : List Nat) (r : Nat) (hr : scalar r) : Lib.decodeLastL (encS (l ++ [r])) = (r, (encR r).length) := by
  have e0 : encS (l ++ [r]) = encS l ++ encR r := by rw [encS_append]; simp [encS]
  rw [e0]
  generalize encS l = p
  have hd := dec_enc_head r hr []
  rw [List.append_nil] at hd
  have hp := encR_pos r
  have hne : p ++ encR r ≠ [] := fun h => by have := congrArg List.length h; rw [List.length_append, List.length_nil] at this; omega
  have hdec : ∀ L : List UInt8, Lib.decodeL L = decL L := fun L => by unfold Lib.decodeL; rw [decode_decL]; rfl
  unfold Lib.decodeLastL
  rw [if_neg hne]
  rcases encR_forms r hr with ⟨x, h1, e, hx⟩ | ⟨a, b, e, ha, hb0, hb1⟩ | ⟨a, b, c, e, ha, ⟨hb0, hb1⟩, hc0, hc1⟩ | ⟨a, b, c, d, e, ha, ⟨hb0, hb1⟩, ⟨hc0, hc1⟩, hd0, hd1⟩
  · rw [e, getD_app p [x] 0 _ (by simp)]
    simp only [List.getD_cons_zero]
    rw [if_pos (by omega), hx]; rfl
  · have hs : Lib.lastStart (p ++ encR r) = p.length := by
      unfold Lib.lastStart
      rw [e]
      simp only
      rw [if_neg (by simp), getD_app p [a, b] 0 _ (by simp)]
      simp only [List.getD_cons_zero]
      rw [if_pos (start_yes ha)]
      simp
    rw [hs, List.drop_left, hdec, hd]
    rw [if_neg (by rw [e, getD_app p [a, b] 1 _ (by simp)]; simp only [List.getD_cons_succ, List.getD_cons_zero]; omega)]
    simp only
    rw [if_pos (by simp)]
  · have hs : Lib.lastStart (p ++ encR r) = p.length := by
      unfold Lib.lastStart
      rw [e]
      simp only
      rw [if_neg (by simp), getD_app p [a, b, c] 1 _ (by simp), if_neg (by simp only [List.getD_cons_succ, List.getD_cons_zero]; rw [start_no hb0 hb1]; decide), if_neg (by simp), getD_app p [a, b, c] 0 _ (by simp)]
      simp only [List.getD_cons_zero]
      rw [if_pos (start_yes ha)]
      simp
    rw [hs, List.drop_left, hdec, hd]
    rw [if_neg (by rw [e, getD_app p [a, b, c] 2 _ (by simp)]; simp only [List.getD_cons_succ, List.getD_cons_zero]; omega)]
    simp only
    rw [if_pos (by simp)]
  · have hs : Lib.lastStart (p ++ encR r) = p.length := by
      unfold Lib.lastStart
      rw [e]
      simp only
      have g2 : ¬ Lib.runeStartB ((p ++ [a, b, c, d]).getD ((p ++ [a, b, c, d]).length - 2) 0) = true := by rw [getD_app p [a, b, c, d] 2 _ (by simp)]; simp only [List.getD_cons_succ, List.getD_cons_zero]; rw [start_no hc0 hc1]; decide
      have g3 : ¬ Lib.runeStartB ((p ++ [a, b, c, d]).getD ((p ++ [a, b, c, d]).length - 3) 0) = true := by rw [getD_app p [a, b, c, d] 1 _ (by simp)]; simp only [List.getD_cons_succ, List.getD_cons_zero]; rw [start_no hb0 hb1]; decide
      have g4 : Lib.runeStartB ((p ++ [a, b, c, d]).getD ((p ++ [a, b, c, d]).length - 4) 0) = true := by rw [getD_app p [a, b, c, d] 0 _ (by simp)]; exact start_yes ha
      rw [if_neg (by simp), if_neg g2, if_neg (by simp), if_neg g3, if_neg (by simp), if_pos g4]
      simp
    rw [hs, List.drop_left, hdec, hd]
    rw [if_neg (by rw [e, getD_app p [a, b, c, d] 3 _ (by simp)]; simp only [List.getD_cons_succ, List.getD_cons_zero]; omega)]
    simp only
    rw [if_pos (by simp)]

/-- The lines of bytes. -/
def linesL : List UInt8 → List (List UInt8)
  | [] => [[]]
  | b :: t => if b = 10 then [] :: linesL t else match linesL t with
    | [] => [[b]]
    | x :: r => (b :: x) :: r
theorem linesL_ne (l : List UInt8) : linesL l ≠ [] := by
  cases l with
  | nil => simp [linesL]
  | cons b t =>
    unfold linesL
    split
    · simp
    · split <;> simp
theorem linesL_app (a b : List UInt8) : linesL (a ++ 10 :: b) = linesL a ++ linesL b := by
  induction a with
  | nil => simp [linesL]
  | cons x a ih =>
    rw [List.cons_append, linesL, linesL, ih]
    by_cases h : x = 10
    · rw [if_pos h, if_pos h]; rfl
    · rw [if_neg h, if_neg h]
      cases hl : linesL a with
      | nil => exact absurd hl (linesL_ne a)
      | cons y r => rfl
theorem linesL_length (l : List UInt8) : (linesL l).length = l.count 10 + 1 := by
  induction l with
  | nil => rfl
  | cons b t ih =>
    unfold linesL
    by_cases h : b = 10
    · rw [if_pos h, h, List.count_cons_self, List.length_cons, ih]
    · rw [if_neg h, List.count_cons_of_ne h]
      cases hl : linesL t with
      | nil => exact absurd hl (linesL_ne t)
      | cons y r => rw [hl] at ih; exact ih
/-- strings.Split at a line's end. -/
theorem splitK_lines (l : List UInt8) : Lib.splitK [10] 0 (l.count 10) l = linesL l := by
  induction l with
  | nil => rfl
  | cons b t ih =>
    by_cases h : b = 10
    · subst h
      have hix : Lib.index (10 :: t) [10] = 0 := by rw [Lib.index]; simp [List.isPrefixOf]
      rw [List.count_cons_self, Lib.splitK, hix, if_neg (by decide), linesL, if_pos rfl]
      simpa using ih
    · have hp : ([10] : List UInt8).isPrefixOf (b :: t) = false := by simp [List.isPrefixOf, Ne.symm h]
      have hix : Lib.index (b :: t) [10] = if Lib.index t [10] == -1 then -1 else Lib.index t [10] + 1 := by rw [Lib.index, hp]; simp
      rw [List.count_cons_of_ne h, linesL, if_neg h, ← ih]
      cases hk : t.count 10 with
      | zero => rfl
      | succ k =>
        by_cases hm : Lib.index t [10] = -1
        · rw [hm] at hix
          rw [Lib.splitK, hix, if_pos (by decide), Lib.splitK, hm, if_pos (by decide)]
        · have hge := Lib.index_ge t [10]
          obtain ⟨j, hj⟩ : ∃ j : Nat, Lib.index t [10] = j := ⟨(Lib.index t [10]).toNat, by omega⟩
          rw [if_neg (fun e => hm (beq_iff_eq.1 e)), hj] at hix
          rw [Lib.splitK, hix, if_neg (fun e => by have := beq_iff_eq.1 e; omega), Lib.splitK, hj, if_neg (fun e => by have := beq_iff_eq.1 e; omega)]
          have e1 : ((j : Int) + 1).toNat = j + 1 := by omega
          have e2 : (j : Int).toNat = j := by omega
          rw [e1, e2]
          simp
theorem splitB_lines (s sep : ByteArray) (hsep : sep = ⟨#[10]⟩) : (Lib.splitB sep 0 (Lib.countB s sep) s).map (·.data.toList) = linesL s.data.toList := by
  subst hsep
  rw [Lib.splitB_data]
  have hc : Lib.countB s ⟨#[10]⟩ = s.data.toList.count 10 := Lib.count_one 10 s.data.toList
  rw [hc]
  exact splitK_lines _
/-- Lines, joined again. -/
def joinL : List (List UInt8) → List UInt8
  | [] => []
  | x :: r => x ++ r.flatMap (fun y => 10 :: y)
theorem join_lines (l : List UInt8) : joinL (linesL l) = l := by
  induction l with
  | nil => rfl
  | cons b t ih =>
    unfold linesL
    cases hl : linesL t with
    | nil => exact absurd hl (linesL_ne t)
    | cons y r =>
      rw [hl] at ih
      by_cases h : b = 10
      · rw [if_pos h]
        show [] ++ (y :: r).flatMap (fun y => 10 :: y) = b :: t
        rw [List.flatMap_cons, List.nil_append, h, List.cons_append]
        exact congrArg (List.cons 10) ih
      · rw [if_neg h]
        show (b :: y) ++ r.flatMap (fun y => 10 :: y) = b :: t
        rw [List.cons_append]
        exact congrArg (List.cons b) ih
end Go.Proofs.YthpngienphnaoaaDoor
