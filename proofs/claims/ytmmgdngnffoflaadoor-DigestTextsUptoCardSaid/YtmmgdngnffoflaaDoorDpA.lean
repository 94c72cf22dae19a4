import Derived.Test.YtmmgdngnffoflaaDoorDeA
/-
  Base 64: what was written is read again; how long it is.
-/
namespace Go.Proofs.YtmmgdngnffoflaaDoor
open Go.RowKit Go.Proofs.YtmmgdngnffoflaaDoorW.PrintWords

theorem sgn_all : (List.range 64).all (fun n => decide (idxS (sgn (n : Int)) = (n : Int)) && decide (sgn (n : Int) ≠ 61)) = true := by kernel_rfl
theorem idxS_sgn (n : Int) (h0 : 0 ≤ n) (h1 : n < 64) : idxS (sgn n) = n := by
  have h := List.all_eq_true.1 sgn_all n.toNat (List.mem_range.2 (by omega))
  rw [Bool.and_eq_true] at h
  have h' := of_decide_eq_true h.1
  rwa [Int.toNat_of_nonneg h0] at h'
theorem sgn_ne (n : Int) (h0 : 0 ≤ n) (h1 : n < 64) : sgn n ≠ 61 := by
  have h := List.all_eq_true.1 sgn_all n.toNat (List.mem_range.2 (by omega))
  rw [Bool.and_eq_true] at h
  have h' := of_decide_eq_true h.2
  rwa [Int.toNat_of_nonneg h0] at h'
/-- The signs without what fills up. -/
def encC : List Int → List UInt8
  | a :: b :: c :: r => sgn (a / 4) :: sgn (a % 4 * 16 + b / 16) :: sgn (b % 16 * 4 + c / 64) :: sgn (c % 64) :: encC r
  | [a, b] => [sgn (a / 4), sgn (a % 4 * 16 + b / 16), sgn (b % 16 * 4)]
  | [a] => [sgn (a / 4), sgn (a % 4 * 16)]
  | [] => []
def encN (n : Nat) : Nat := (3 - n % 3) % 3
theorem encB_C (l : List Int) : encB l = encC l ++ List.replicate (encN l.length) 61 := by
  fun_induction encB l with
  | case1 a b c r ih => simp only [encC, List.cons_append, ih, List.length_cons]; rw [show encN (r.length + 1 + 1 + 1) = encN r.length by unfold encN; omega]
  | case2 a b => rfl
  | case3 a => rfl
  | case4 => rfl
theorem bytes_tail {a : Int} {l : List Int} (h : Bytes (a :: l)) : (0 ≤ a ∧ a ≤ 255) ∧ Bytes l := ⟨h a (List.mem_cons_self ..), fun x hx => h x (List.mem_cons_of_mem _ hx)⟩
theorem encC_ne (l : List Int) (h : Bytes l) : ∀ x ∈ encC l, x ≠ 61 := by
  fun_induction encC l with
  | case1 a b c r ih =>
    obtain ⟨ha, h⟩ := bytes_tail h
    obtain ⟨hb, h⟩ := bytes_tail h
    obtain ⟨hc, h⟩ := bytes_tail h
    intro x hx
    simp only [List.mem_cons] at hx
    rcases hx with rfl | rfl | rfl | rfl | hx
    · exact sgn_ne _ (by omega) (by omega)
    · exact sgn_ne _ (by omega) (by omega)
    · exact sgn_ne _ (by omega) (by omega)
    · exact sgn_ne _ (by omega) (by omega)
    · exact ih h x hx
  | case2 a b =>
    obtain ⟨ha, h⟩ := bytes_tail h
    obtain ⟨hb, h⟩ := bytes_tail h
    intro x hx
    simp only [List.mem_cons, List.not_mem_nil, or_false] at hx
    rcases hx with rfl | rfl | rfl
    · exact sgn_ne _ (by omega) (by omega)
    · exact sgn_ne _ (by omega) (by omega)
    · exact sgn_ne _ (by omega) (by omega)
  | case3 a =>
    obtain ⟨ha, h⟩ := bytes_tail h
    intro x hx
    simp only [List.mem_cons, List.not_mem_nil, or_false] at hx
    rcases hx with rfl | rfl
    · exact sgn_ne _ (by omega) (by omega)
    · exact sgn_ne _ (by omega) (by omega)
  | case4 => simp
theorem drop_reps (n : Nat) (l : List UInt8) : (List.replicate n (61 : UInt8) ++ l).dropWhile (· == 61) = l.dropWhile (· == 61) := by
  induction n with
  | zero => rfl
  | succ n ih => rw [List.replicate_succ, List.cons_append, List.dropWhile_cons_of_pos (by rfl), ih]
theorem drop_ne (l : List UInt8) (h : ∀ x ∈ l, x ≠ 61) : l.dropWhile (· == 61) = l := by
  cases l with
  | nil => rfl
  | cons x l => rw [List.dropWhile_cons_of_neg (by simpa using h x (List.mem_cons_self ..))]
theorem trim_enc (l : List Int) (h : Bytes l) : Lib.trimRightB (encB l) 61 = encC l := by
  unfold Lib.trimRightB
  rw [encB_C, List.reverse_append, List.reverse_replicate, drop_reps, drop_ne _ (fun x hx => encC_ne l h x (List.mem_reverse.1 hx)), List.reverse_reverse]
theorem go_0 {n U : Int} {acc : List Int} {r : List UInt8} (h0 : 0 ≤ n) (h1 : n < 64) : decGo (sgn n :: r) (U, 0, acc) = decGo r (U * 64 + n, 6, acc) := by
  rw [decGo, step_low (idxS_sgn n h0 h1) (by omega)]; rfl
theorem go_2 {n U : Int} {acc : List Int} {r : List UInt8} (h0 : 0 ≤ n) (h1 : n < 64) : decGo (sgn n :: r) (U, 2, acc) = decGo r (0, 0, acc ++ [U * 64 + n]) := by
  rw [decGo, step_2 (idxS_sgn n h0 h1) (by omega)]; rfl
theorem go_4 {n U : Int} {acc : List Int} {r : List UInt8} (h0 : 0 ≤ n) (h1 : n < 64) : decGo (sgn n :: r) (U, 4, acc) = decGo r ((U * 64 + n) % 4, 2, acc ++ [(U * 64 + n) / 4]) := by
  rw [decGo, step_4 (idxS_sgn n h0 h1) (by omega)]; rfl
theorem go_6 {n U : Int} {acc : List Int} {r : List UInt8} (h0 : 0 ≤ n) (h1 : n < 64) : decGo (sgn n :: r) (U, 6, acc) = decGo r ((U * 64 + n) % 16, 4, acc ++ [(U * 64 + n) / 16]) := by
  rw [decGo, step_6 (idxS_sgn n h0 h1) (by omega)]; rfl
theorem go_enc (l : List Int) (h : Bytes l) (acc : List Int) : decGo (encC l) (0, 0, acc) = some (acc ++ l) := by
  fun_induction encC l generalizing acc with
  | case1 a b c r ih =>
    obtain ⟨ha, h⟩ := bytes_tail h
    obtain ⟨hb, h⟩ := bytes_tail h
    obtain ⟨hc, h⟩ := bytes_tail h
    rw [go_0 (by omega) (by omega), go_6 (by omega) (by omega), go_4 (by omega) (by omega), go_2 (by omega) (by omega), ih h]
    rw [List.append_assoc, List.append_assoc, List.append_assoc]
    have e1 : (0 * 64 + a / 4) * 64 + (a % 4 * 16 + b / 16) = a * 16 + b / 16 := by omega
    rw [e1]
    have e2 : (a * 16 + b / 16) / 16 = a := by omega
    have e3 : (a * 16 + b / 16) % 16 = b / 16 := by omega
    rw [e2, e3]
    have e4 : (b / 16 * 64 + (b % 16 * 4 + c / 64)) = b * 4 + c / 64 := by omega
    rw [e4]
    have e5 : (b * 4 + c / 64) / 4 = b := by omega
    have e6 : (b * 4 + c / 64) % 4 * 64 + c % 64 = c := by omega
    rw [e5, e6]
    rfl
  | case2 a b =>
    obtain ⟨ha, h⟩ := bytes_tail h
    obtain ⟨hb, h⟩ := bytes_tail h
    rw [go_0 (by omega) (by omega), go_6 (by omega) (by omega), go_4 (by omega) (by omega), decGo]
    have e1 : (0 * 64 + a / 4) * 64 + (a % 4 * 16 + b / 16) = a * 16 + b / 16 := by omega
    rw [e1]
    have e2 : (a * 16 + b / 16) / 16 = a := by omega
    have e3 : (a * 16 + b / 16) % 16 = b / 16 := by omega
    rw [e2, e3]
    have e5 : (b / 16 * 64 + b % 16 * 4) / 4 = b := by omega
    rw [e5]
    show some ((acc ++ [a]) ++ [b]) = _
    rw [List.append_assoc]; rfl
  | case3 a =>
    obtain ⟨ha, h⟩ := bytes_tail h
    rw [go_0 (by omega) (by omega), go_6 (by omega) (by omega), decGo]
    have e1 : ((0 * 64 + a / 4) * 64 + a % 4 * 16) / 16 = a := by omega
    rw [e1]
  | case4 => simp [decGo]
theorem encB_length (l : List Int) : (encB l).length = (l.length + 2) / 3 * 4 := by
  fun_induction encB l <;> simp_all <;> omega
/-- There and back. -/
theorem dec_enc (l : List Int) (h : Bytes l) : decF (encB l) = (l, 0) := by
  unfold decF
  rw [if_pos (by rw [encB_length]; omega), trim_enc l h, go_enc l h []]
  simp
/-- What is read has one text. -/
theorem dec_one (s : List UInt8) : decF s = ([], 100) ∨ (decF s).2 = 0 ∧ encB (decF s).1 = s := by
  unfold decF
  split
  · split
    · split
      · exact .inr ⟨rfl, by assumption⟩
      · exact .inl rfl
    · exact .inl rfl
  · exact .inl rfl
theorem dec_bytes_go (s : List UInt8) : ∀ (U n : Int) (acc out : List Int), (n = 0 ∧ U = 0 ∨ n = 2 ∧ 0 ≤ U ∧ U < 4 ∨ n = 4 ∧ 0 ≤ U ∧ U < 16 ∨ n = 6 ∧ 0 ≤ U ∧ U < 64) → Bytes acc → decGo s (U, n, acc) = some out → Bytes out := by
  induction s with
  | nil => intro U n acc out _ h e; simp only [decGo, Option.some.injEq] at e; exact e ▸ h
  | cons c r ih =>
    intro U n acc out hU h e
    have hi := idxS_le c
    by_cases hd : idxS c < 0
    · rw [decGo, decStep, if_pos hd] at e; simp at e
    · have app : ∀ x : Int, 0 ≤ x → x ≤ 255 → Bytes (acc ++ [x]) := fun x h0 h1 y hy => by
        rcases List.mem_append.1 hy with hy | hy
        · exact h y hy
        · rw [List.mem_singleton.1 hy]; exact ⟨h0, h1⟩
      rcases hU with ⟨rfl, rfl⟩ | ⟨rfl, h0, h1⟩ | ⟨rfl, h0, h1⟩ | ⟨rfl, h0, h1⟩
      · rw [decGo, step_low rfl hd] at e
        exact ih _ _ _ _ (by omega) h e
      · rw [decGo, step_2 rfl hd] at e
        exact ih _ _ _ _ (by omega) (app _ (by omega) (by omega)) e
      · rw [decGo, step_4 rfl hd] at e
        exact ih _ _ _ _ (by omega) (app _ (by omega) (by omega)) e
      · rw [decGo, step_6 rfl hd] at e
        exact ih _ _ _ _ (by omega) (app _ (by omega) (by omega)) e
theorem dec_bytes (s : List UInt8) : Bytes (decF s).1 := by
  have hnil : Bytes ([] : List Int) := fun _ h => by simp at h
  unfold decF
  split
  · split
    · split
      · exact dec_bytes_go _ 0 0 [] _ (.inl ⟨rfl, rfl⟩) hnil (by assumption)
      · exact hnil
    · exact hnil
  · exact hnil
theorem dec_len (s : List UInt8) : 4 * (decF s).1.length ≤ 3 * s.length + 8 := by
  rcases dec_one s with h | ⟨_, h⟩
  · rw [h]; simp
  · have := encB_length (decF s).1
    rw [h] at this
    omega
end Go.Proofs.YtmmgdngnffoflaaDoor
