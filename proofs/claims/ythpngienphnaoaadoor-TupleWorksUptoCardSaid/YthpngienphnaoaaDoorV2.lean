import Derived.Test.YthpngienphnaoaaDoorU5
import Derived.Test.YthpngienphnaoaaDoorU7
import Derived.Test.YthpngienphnaoaaDoorV1
/-
  Plain laws behind the statements on runes.
-/
namespace Go.Proofs.YthpngienphnaoaaDoor
open Go.RowKit Go.Proofs.YthpngienphnaoaaDoorW.PrintWords

theorem str_list (l : List UInt8) : (str l).data.toList = l := by simp [str]
theorem str_of (s : ByteArray) : str s.data.toList = s := by
  apply ByteArray.ext
  simp [str]
theorem textS_enc (l : List Nat) (h : ∀ r ∈ l, scalar r) (hl : l.length ≤ 20000) : textS (encS l) = some l := by
  unfold textS
  rw [runesL_enc l h, Option.bind_some, if_pos hl]
theorem textS_long (l : List Nat) (h : ∀ r ∈ l, scalar r) (hl : 20000 < l.length) : textS (encS l) = none := by
  unfold textS
  rw [runesL_enc l h, Option.bind_some, if_neg (by omega)]
theorem mem_take {l : List Nat} (h : ∀ r ∈ l, scalar r) (k : Nat) : ∀ r ∈ l.take k, scalar r := fun r hr => h r (List.mem_of_mem_take hr)
theorem mem_drop {l : List Nat} (h : ∀ r ∈ l, scalar r) (k : Nat) : ∀ r ∈ l.drop k, scalar r := fun r hr => h r (List.mem_of_mem_drop hr)
theorem mem_app {l m : List Nat} (h : ∀ r ∈ l, scalar r) (h' : ∀ r ∈ m, scalar r) : ∀ r ∈ l ++ m, scalar r := fun r hr => (List.mem_append.1 hr).elim (h r) (h' r)

/-- What Ahead answers. -/
def aheadS (a b : List UInt8) : Int × Int :=
  match textS a, textS b with
  | some l, some m => ((aheadN l m : Int), 0)
  | _, _ => (0, 10)
/-- How many runes two rows end with alike, behind those that they begin with alike. -/
def behindN (l m : List Nat) : Nat := aheadN (l.drop (aheadN l m)).reverse (m.drop (aheadN l m)).reverse
/-- What Behind answers. -/
def behindS (a b : List UInt8) : Int × Int :=
  match textS a, textS b with
  | some l, some m => ((behindN l m : Int), 0)
  | _, _ => (0, 10)
theorem behindN_le (l m : List Nat) : aheadN l m + behindN l m ≤ l.length ∧ aheadN l m + behindN l m ≤ m.length := by
  have h1 := aheadN_le l m
  have h2 := aheadN_le (l.drop (aheadN l m)).reverse (m.drop (aheadN l m)).reverse
  unfold behindN
  rw [List.length_reverse, List.length_reverse, List.length_drop, List.length_drop] at h2
  omega
theorem rev_take (l : List Nat) (k : Nat) : (l.reverse.take k).reverse = l.drop (l.length - k) := by
  rw [List.take_reverse, List.reverse_reverse]
/-- What two rows are not alike in makes the one of the other. -/
theorem alike_back (l m : List Nat) : l.take (aheadN l m) ++ (m.drop (aheadN l m)).take (m.length - behindN l m - aheadN l m) ++ l.drop (l.length - behindN l m) = m := by
  have hle := behindN_le l m
  have h1 := aheadN_take l m
  have h2 := aheadN_take (l.drop (aheadN l m)).reverse (m.drop (aheadN l m)).reverse
  have h3 := congrArg List.reverse h2
  rw [rev_take, rev_take, List.drop_drop, List.drop_drop, List.length_drop, List.length_drop] at h3
  change l.drop (aheadN l m + (l.length - aheadN l m - behindN l m)) = m.drop (aheadN l m + (m.length - aheadN l m - behindN l m)) at h3
  rw [show aheadN l m + (l.length - aheadN l m - behindN l m) = l.length - behindN l m by omega] at h3
  rw [h3, h1]
  generalize aheadN l m = A at *
  generalize behindN l m = B at *
  have e : A + (m.length - A - B) = A + (m.length - B - A) := by omega
  rw [e, List.append_assoc]
  conv => rhs; rw [← List.take_append_drop A m]
  congr 1
  conv => rhs; rw [← List.take_append_drop (m.length - B - A) (m.drop A)]
  rw [List.drop_drop]
theorem behindN_self (l : List Nat) : behindN l l = 0 := by
  have h : ∀ k, k = l.length → aheadN (l.drop k).reverse (l.drop k).reverse = 0 := fun k hk => by rw [hk, List.drop_length]; rfl
  exact h _ (aheadN_self l)
theorem aheadN_app (l t : List Nat) : aheadN l (l ++ t) = l.length := by
  induction l with
  | nil => cases t <;> rfl
  | cons a l ih => rw [List.cons_append, aheadN_cons, if_pos rfl, ih]; rfl
theorem behindN_app (l t : List Nat) : behindN l (l ++ t) = 0 := by
  have h : ∀ k, k = l.length → aheadN (l.drop k).reverse ((l ++ t).drop k).reverse = 0 := fun k hk => by rw [hk, List.drop_length]; cases ((l ++ t).drop l.length).reverse <;> rfl
  exact h _ (aheadN_app l t)
theorem ascii_enc (b : UInt8) (h : b.toNat < 128) : encR b.toNat = [b] ∧ scalar b.toNat := by
  refine ⟨?_, by unfold scalar; omega⟩
  unfold encR
  rw [if_pos h]
  simp
theorem x_enc (l : List Nat) : encS l ++ [120] = encS (l ++ [120]) := by rw [encS_append]; rfl
theorem nl_enc (l m : List Nat) : encS l ++ [10] ++ encS m = encS (l ++ 10 :: m) := by
  rw [encS_append, encS_cons, ← List.append_assoc]; rfl
theorem scalar_small (r : Nat) (h : r < 128) : scalar r := by unfold scalar; omega
end Go.Proofs.YthpngienphnaoaaDoor
