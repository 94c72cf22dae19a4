import Derived.Test.YthpngienphnaoaaDoorTA
/-
  How rows stand and how their keys stand, in plain words.
-/
namespace Go.Proofs.YthpngienphnaoaaDoor
open Go.RowKit Go.Proofs.YthpngienphnaoaaDoorW.PrintWords Go.Proofs.YthpngienphnaoaaDoor.PTupleWorks

/-- They part at a byte, and there the first is less. -/
def DL (a b : List UInt8) : Prop := ∃ p c d u v, a = p ++ c :: u ∧ b = p ++ d :: v ∧ c < d
theorem less_self (x : UInt8) (a b : List UInt8) : Op.bytesLess (x :: a) (x :: b) = Op.bytesLess a b := by
  rw [Op.bytesLess]; simp
theorem DL_less {a b : List UInt8} (h : DL a b) : Op.bytesLess a b = true ∧ Op.bytesLess b a = false ∧ a ≠ b := by
  obtain ⟨p, c, d, u, v, rfl, rfl, h⟩ := h
  induction p with
  | nil =>
    have h' : c.toNat < d.toNat := UInt8.lt_iff_toNat_lt.1 h
    have h1 : ¬ d < c := fun e => by have := UInt8.lt_iff_toNat_lt.1 e; omega
    have h2 : ¬ d = c := fun e => by subst e; omega
    refine ⟨?_, ?_, fun e => h2 ?_⟩
    · show Op.bytesLess (c :: u) (d :: v) = true
      rw [Op.bytesLess]; simp [h]
    · show Op.bytesLess (d :: v) (c :: u) = false
      rw [Op.bytesLess]; simp [h1, h2]
    · have e : c :: u = d :: v := e
      injection e with e _
      exact e.symm
  | cons x p ih =>
    obtain ⟨i1, i2, i3⟩ := ih
    refine ⟨(less_self x _ _).trans i1, (less_self x _ _).trans i2, fun e => i3 ?_⟩
    have e : x :: (p ++ c :: u) = x :: (p ++ d :: v) := e
    injection e
theorem DL_append {a b : List UInt8} (h : DL a b) (u v : List UInt8) : DL (a ++ u) (b ++ v) := by
  obtain ⟨p, c, d, u', v', rfl, rfl, h⟩ := h
  exact ⟨p, c, d, u' ++ u, v' ++ v, by rw [List.append_assoc]; rfl, by rw [List.append_assoc]; rfl, h⟩
theorem DL_front {a b : List UInt8} (h : DL a b) (w : List UInt8) : DL (w ++ a) (w ++ b) := by
  obtain ⟨p, c, d, u', v', rfl, rfl, h⟩ := h
  exact ⟨w ++ p, c, d, u', v', by rw [List.append_assoc], by rw [List.append_assoc], h⟩
theorem front_less (x z : List UInt8) : Op.bytesLess (x ++ z) x = false ∧ (z ≠ [] → Op.bytesLess x (x ++ z) = true) := by
  induction x with
  | nil => exact ⟨by cases z <;> rfl, fun h => by cases z with | nil => exact absurd rfl h | cons => rfl⟩
  | cons b x ih => exact ⟨(less_self b _ _).trans ih.1, fun h => (less_self b _ _).trans (ih.2 h)⟩
theorem valN_fold (l : List UInt8) : ∀ u : Nat, l.foldl (fun u b => u * 256 + b.toNat) u = u * 256 ^ l.length + valN l := by
  induction l with
  | nil => intro u; simp [valN]
  | cons b l ih =>
    intro u
    rw [List.foldl_cons, ih, List.length_cons, Nat.pow_succ]
    have e : valN (b :: l) = b.toNat * 256 ^ l.length + valN l := by
      unfold valN; rw [List.foldl_cons, Nat.zero_mul, Nat.zero_add]; exact ih b.toNat
    rw [e, Nat.add_mul, Nat.mul_assoc, Nat.mul_comm 256]
    omega
theorem valN_cons (b : UInt8) (l : List UInt8) : valN (b :: l) = b.toNat * 256 ^ l.length + valN l := by
  have h := valN_fold l b.toNat
  unfold valN at h ⊢
  rw [List.foldl_cons, Nat.zero_mul, Nat.zero_add]
  exact h
theorem valN_DL : ∀ (l m : List UInt8), l.length = m.length → valN l < valN m → DL l m := by
  intro l
  induction l with
  | nil =>
    intro m hl h
    have : m = [] := List.eq_nil_of_length_eq_zero hl.symm
    subst this
    exact absurd h (Nat.lt_irrefl _)
  | cons b l ih =>
    intro m hl h
    cases m with
    | nil => cases hl
    | cons c m =>
      have hl' : l.length = m.length := by simpa using hl
      rw [valN_cons, valN_cons, hl'] at h
      have v1 := valN_lt l
      have v2 := valN_lt m
      rw [hl'] at v1
      by_cases h1 : b < c
      · exact ⟨[], b, c, l, m, rfl, rfl, h1⟩
      · by_cases h2 : b = c
        · subst h2
          exact DL_front (ih m hl' (by omega)) [b]
        · exfalso
          have h3 : c.toNat < b.toNat := by
            have e1 : ¬ b.toNat < c.toNat := fun e => h1 (UInt8.lt_iff_toNat_lt.2 e)
            have e2 : ¬ b.toNat = c.toNat := fun e => h2 (UInt8.toNat_inj.1 e)
            omega
          have h4 : (c.toNat + 1) * 256 ^ m.length ≤ b.toNat * 256 ^ m.length := Nat.mul_le_mul_right _ h3
          rw [Nat.add_mul, Nat.one_mul] at h4
          omega
theorem eight_DL {n k : Int} (h : n < k) (h0 : -9223372036854775808 ≤ n) (h1 : k ≤ 9223372036854775807) : DL (eightL n) (eightL k) := by
  refine valN_DL _ _ (by rw [eightL_length, eightL_length]) ?_
  rw [valN_eight n (by omega), valN_eight k h1]
  unfold upN; omega
theorem cmpI (x y : Int) : (Lib.compareInt x y = -1 ∧ x < y) ∨ (Lib.compareInt x y = 0 ∧ x = y) ∨ (Lib.compareInt x y = 1 ∧ y < x) := by
  unfold Lib.compareInt
  by_cases h : x < y
  · rw [if_pos h]; exact .inl ⟨rfl, h⟩
  · rw [if_neg h]
    by_cases h2 : x > y
    · rw [if_pos h2]; exact .inr (.inr ⟨rfl, h2⟩)
    · rw [if_neg h2]; exact .inr (.inl ⟨rfl, by omega⟩)
theorem cmpI_flip (x y : Int) : Lib.compareInt x y = -Lib.compareInt y x := by
  rcases cmpI x y with ⟨a, b⟩ | ⟨a, b⟩ | ⟨a, b⟩ <;> rcases cmpI y x with ⟨c, d⟩ | ⟨c, d⟩ | ⟨c, d⟩ <;> omega
/-- How bytes stand: before (parted, or one the other's front), the same, behind. -/
def BL (a b : List UInt8) : Prop := DL a b ∨ ∃ d v, b = a ++ d :: v
theorem cmpB : ∀ (x y : List UInt8), (Lib.compareBytes x y = -1 ∧ BL x y) ∨ (Lib.compareBytes x y = 0 ∧ x = y) ∨ (Lib.compareBytes x y = 1 ∧ BL y x) := by
  intro x
  induction x with
  | nil =>
    intro y
    cases y with
    | nil => exact .inr (.inl ⟨rfl, rfl⟩)
    | cons b y => exact .inl ⟨rfl, .inr ⟨b, y, rfl⟩⟩
  | cons a x ih =>
    intro y
    cases y with
    | nil => exact .inr (.inr ⟨rfl, .inr ⟨a, x, rfl⟩⟩)
    | cons b y =>
      rw [Lib.compareBytes]
      by_cases h1 : a < b
      · rw [if_pos h1]; exact .inl ⟨rfl, .inl ⟨[], a, b, x, y, rfl, rfl, h1⟩⟩
      · rw [if_neg h1]
        by_cases h2 : b < a
        · rw [if_pos h2]; exact .inr (.inr ⟨rfl, .inl ⟨[], b, a, y, x, rfl, rfl, h2⟩⟩)
        · rw [if_neg h2]
          have hab : a = b := by
            have e1 : ¬ a.toNat < b.toNat := fun e => h1 (UInt8.lt_iff_toNat_lt.2 e)
            have e2 : ¬ b.toNat < a.toNat := fun e => h2 (UInt8.lt_iff_toNat_lt.2 e)
            exact UInt8.toNat_inj.1 (by omega)
          subst hab
          have bl : ∀ {u v : List UInt8}, BL u v → BL (a :: u) (a :: v) := by
            intro u v h
            rcases h with h | ⟨d, w, rfl⟩
            · exact .inl (DL_front h [a])
            · exact .inr ⟨d, w, rfl⟩
          rcases ih y with ⟨i, j⟩ | ⟨i, j⟩ | ⟨i, j⟩
          · exact .inl ⟨i, bl j⟩
          · exact .inr (.inl ⟨i, by rw [j]⟩)
          · exact .inr (.inr ⟨i, bl j⟩)
theorem BL_ne {a b : List UInt8} (h : BL a b) : a ≠ b ∧ Op.bytesLess a b = true ∧ Op.bytesLess b a = false := by
  rcases h with h | ⟨d, v, rfl⟩
  · obtain ⟨i, j, k⟩ := DL_less h
    exact ⟨k, i, j⟩
  · have := front_less a (d :: v)
    refine ⟨fun e => ?_, this.2 (by simp), this.1⟩
    have := congrArg List.length e
    rw [List.length_append, List.length_cons] at this
    omega
theorem cmpB_flip (x y : List UInt8) : Lib.compareBytes x y = -Lib.compareBytes y x := by
  rcases cmpB x y with ⟨a, b⟩ | ⟨a, b⟩ | ⟨a, b⟩ <;> rcases cmpB y x with ⟨c, d⟩ | ⟨c, d⟩ | ⟨c, d⟩
  · have := (BL_ne b).2.1; rw [(BL_ne d).2.2] at this; cases this
  · exact absurd d.symm (BL_ne b).1
  · omega
  · exact absurd b.symm (BL_ne d).1
  · omega
  · exact absurd b (BL_ne d).1
  · omega
  · exact absurd d (BL_ne b).1
  · have := (BL_ne b).2.1; rw [(BL_ne d).2.2] at this; cases this
theorem orI3 (a b c : Int) : orI [a, b, c] = if a = 0 then if b = 0 then c else b else a := by
  simp only [orI]
  by_cases h : c = 0
  · subst h; simp
  · simp [h]
theorem ordP_flip (p q : S39) : ordP p q = -ordP q p := by
  unfold ordP
  rw [orI3, orI3, cmpI_flip p.f0 q.f0, cmpI_flip p.f1 q.f1, cmpB_flip p.f2.data.toList q.f2.data.toList]
  by_cases h1 : Lib.compareInt q.f0 p.f0 = 0
  · rw [if_pos (by omega), if_pos h1]
    by_cases h2 : Lib.compareInt q.f1 p.f1 = 0
    · rw [if_pos (by omega), if_pos h2]
    · rw [if_neg (by omega), if_neg h2]
  · rw [if_neg (by omega), if_neg h1]
theorem ordP_cases (p q : S39) : ordP p q = -1 ∨ (ordP p q = 0 ∧ p = q) ∨ ordP p q = 1 := by
  unfold ordP
  rw [orI3]
  rcases cmpI p.f0 q.f0 with ⟨a, b⟩ | ⟨a, b⟩ | ⟨a, b⟩
  · rw [a]; exact .inl rfl
  · rw [a, if_pos rfl]
    rcases cmpI p.f1 q.f1 with ⟨c, d⟩ | ⟨c, d⟩ | ⟨c, d⟩
    · rw [c]; exact .inl rfl
    · rw [c, if_pos rfl]
      rcases cmpB p.f2.data.toList q.f2.data.toList with ⟨e, f⟩ | ⟨e, f⟩ | ⟨e, f⟩
      · exact .inl e
      · refine .inr (.inl ⟨e, ?_⟩)
        obtain ⟨x0, x1, x2⟩ := p
        obtain ⟨y0, y1, y2⟩ := q
        have hb : x0 = y0 := b
        have hd : x1 = y1 := d
        have hf : x2 = y2 := by apply ByteArray.ext; apply Array.ext'; exact f
        rw [hb, hd, hf]
      · exact .inr (.inr e)
    · rw [c]; exact .inr (.inr rfl)
  · rw [a]; exact .inr (.inr rfl)
theorem ordP_self (p : S39) : ordP p p = 0 := by
  have := ordP_flip p p
  omega
theorem ordL_flip : ∀ (l m : List S39), ordL l m = -ordL m l := by
  intro l
  induction l with
  | nil => intro m; cases m <;> rfl
  | cons p l ih =>
    intro m
    cases m with
    | nil => rfl
    | cons q m =>
      rw [ordL, ordL, ordP_flip p q, ih m]
      by_cases h : ordP q p = 0
      · rw [if_pos (by omega), if_pos h]
      · rw [if_neg (by omega), if_neg h]
theorem ordL_self (l : List S39) : ordL l l = 0 := by have := ordL_flip l l; omega
theorem ordL_cases : ∀ (l m : List S39), ordL l m = -1 ∨ (ordL l m = 0 ∧ l = m) ∨ ordL l m = 1 := by
  intro l
  induction l with
  | nil =>
    intro m
    cases m with
    | nil => exact .inr (.inl ⟨rfl, rfl⟩)
    | cons => exact .inl rfl
  | cons p l ih =>
    intro m
    cases m with
    | nil => exact .inr (.inr rfl)
    | cons q m =>
      rw [ordL]
      rcases ordP_cases p q with h | ⟨h, rfl⟩ | h
      · rw [if_neg (by omega)]; exact .inl h
      · rw [if_pos h]
        rcases ih m with i | ⟨i, rfl⟩ | i
        · exact .inl i
        · exact .inr (.inl ⟨i, rfl⟩)
        · exact .inr (.inr i)
      · rw [if_neg (by omega)]; exact .inr (.inr h)
theorem esc_BL {s t : List UInt8} (h : BL s t) : DL (escL s ++ [0, 0]) (escL t ++ [0, 0]) := by
  have esc_app : ∀ a b : List UInt8, escL (a ++ b) = escL a ++ escL b := fun a b => by unfold escL; rw [List.flatMap_append]
  rcases h with ⟨p, c, d, u, v, rfl, rfl, h⟩ | ⟨d, v, rfl⟩
  · rw [esc_app, esc_app, escL_cons, escL_cons]
    have hd : d ≠ 0 := by
      intro e
      subst e
      have := UInt8.lt_iff_toNat_lt.1 h
      have e0 : (0 : UInt8).toNat = 0 := rfl
      omega
    rw [if_neg hd]
    by_cases hc : c = 0
    · subst hc
      rw [if_pos rfl]
      exact ⟨escL p, 0, d, 255 :: (escL u ++ [0, 0]), escL v ++ [0, 0], by simp, by simp, h⟩
    · rw [if_neg hc]
      exact ⟨escL p, c, d, escL u ++ [0, 0], escL v ++ [0, 0], by simp, by simp, h⟩
  · rw [esc_app, escL_cons]
    by_cases hd : d = 0
    · subst hd
      rw [if_pos rfl]
      exact ⟨escL s ++ [0], 0, 255, [], escL v ++ [0, 0], by simp, by simp, by decide⟩
    · rw [if_neg hd]
      refine ⟨escL s, 0, d, [0], escL v ++ [0, 0], by simp, by simp, ?_⟩
      have e : ¬ d.toNat = 0 := fun e => hd (UInt8.toNat_inj.1 e)
      exact UInt8.lt_iff_toNat_lt.2 (by have e0 : (0 : UInt8).toNat = 0 := rfl; omega)
theorem keyP_DL {p q : S39} {a b : List UInt8} (h : ordP p q = -1) (ha : keyP p = some a) (hb : keyP q = some b) (hp : -9223372036854775808 ≤ p.f1) (hq : q.f1 ≤ 9223372036854775807) : DL a b := by
  unfold ordP at h
  rw [orI3] at h
  unfold keyP at ha hb
  obtain ⟨x0, x1, x2⟩ := p
  obtain ⟨y0, y1, y2⟩ := q
  simp only at h ha hb hp hq
  by_cases p1 : x0 = 1 ∧ x2.data.toList = []
  · rw [if_pos p1] at ha
    injection ha with ha
    subst ha
    obtain ⟨p1, p2⟩ := p1
    subst p1
    by_cases q1 : y0 = 1 ∧ y2.data.toList = []
    · rw [if_pos q1] at hb
      injection hb with hb
      subst hb
      obtain ⟨q1, q2⟩ := q1
      subst q1
      rw [if_pos (by decide), p2, q2] at h
      rcases cmpI x1 y1 with ⟨c, d⟩ | ⟨c, d⟩ | ⟨c, d⟩
      · exact DL_front (eight_DL d hp hq) [1]
      · rw [c, if_pos rfl] at h; exact absurd h (by decide)
      · rw [c, if_neg (by decide)] at h; exact absurd h (by decide)
    · rw [if_neg q1] at hb
      by_cases q3 : y0 = 2 ∧ y1 = 0
      · rw [if_pos q3] at hb
        injection hb with hb
        subst hb
        exact ⟨[], 1, 2, eightL x1, escL y2.data.toList ++ [0, 0], rfl, rfl, by decide⟩
      · rw [if_neg q3] at hb; cases hb
  · rw [if_neg p1] at ha
    by_cases p3 : x0 = 2 ∧ x1 = 0
    · rw [if_pos p3] at ha
      injection ha with ha
      subst ha
      obtain ⟨p3, p4⟩ := p3
      subst p3; subst p4
      by_cases q1 : y0 = 1 ∧ y2.data.toList = []
      · obtain ⟨q1, _⟩ := q1
        subst q1
        rw [if_neg (by decide)] at h
        exact absurd h (by decide)
      · rw [if_neg q1] at hb
        by_cases q3 : y0 = 2 ∧ y1 = 0
        · rw [if_pos q3] at hb
          injection hb with hb
          subst hb
          obtain ⟨q3, q4⟩ := q3
          subst q3; subst q4
          rw [if_pos (by decide), if_pos (by decide)] at h
          rcases cmpB x2.data.toList y2.data.toList with ⟨c, d⟩ | ⟨c, d⟩ | ⟨c, d⟩
          · exact DL_front (esc_BL d) [2]
          · omega
          · omega
        · rw [if_neg q3] at hb; cases hb
    · rw [if_neg p3] at ha; cases ha
theorem keyP_head {p : S39} {a : List UInt8} (h : keyP p = some a) : ∃ c r, a = c :: r ∧ c ≠ 255 := by
  unfold keyP at h
  split at h
  · injection h with h; exact ⟨1, _, h.symm, by decide⟩
  · split at h
    · injection h with h; exact ⟨2, _, h.symm, by decide⟩
    · cases h
def Bnd (l : List S39) : Prop := ∀ p ∈ l, -9223372036854775808 ≤ p.f1 ∧ p.f1 ≤ 9223372036854775807
theorem keyL_inv {p : S39} {l : List S39} {x : List UInt8} (h : keyL (p :: l) = some x) : ∃ a b, keyP p = some a ∧ keyL l = some b ∧ x = a ++ b := by
  rw [keyL_cons] at h
  cases hk : keyP p with
  | none => rw [hk] at h; cases h
  | some a =>
    rw [hk] at h
    cases hm : keyL l with
    | none => rw [hm] at h; cases h
    | some b =>
      rw [hm] at h
      injection h with h
      exact ⟨a, b, rfl, rfl, h.symm⟩
theorem ordL_BL : ∀ (l m : List S39) (x y : List UInt8), Bnd l → Bnd m → ordL l m = -1 → keyL l = some x → keyL m = some y → BL x y := by
  intro l
  induction l with
  | nil =>
    intro m x y _ _ h hx hy
    injection hx with hx
    subst hx
    cases m with
    | nil => exact absurd h (by decide)
    | cons q m =>
      obtain ⟨a, b, h1, h2, rfl⟩ := keyL_inv hy
      obtain ⟨c, r, rfl, _⟩ := keyP_head h1
      exact .inr ⟨c, r ++ b, rfl⟩
  | cons p l ih =>
    intro m x y hl hm h hx hy
    cases m with
    | nil => exact absurd (show (1 : Int) = -1 from h) (by decide)
    | cons q m =>
      obtain ⟨a, b, h1, h2, rfl⟩ := keyL_inv hx
      obtain ⟨c, d, h3, h4, rfl⟩ := keyL_inv hy
      rw [ordL] at h
      by_cases h0 : ordP p q = 0
      · rw [if_pos h0] at h
        rcases ordP_cases p q with e | ⟨_, e⟩ | e
        · omega
        · subst e
          rw [h1] at h3
          injection h3 with h3
          subst h3
          rcases ih m b d (fun p hp => hl p (List.mem_cons_of_mem _ hp)) (fun p hp => hm p (List.mem_cons_of_mem _ hp)) h h2 h4 with i | ⟨i, j, rfl⟩
          · exact .inl (DL_front i a)
          · exact .inr ⟨i, j, by rw [List.append_assoc]⟩
        · omega
      · rw [if_neg h0] at h
        exact .inl (DL_append (keyP_DL h h1 h3 (hl p (List.mem_cons_self ..)).1 (hm q (List.mem_cons_self ..)).2) b d)
/-- Order of rows and of their keys. -/
theorem order_keys {l m : List S39} {x y : List UInt8} (hl : Bnd l) (hm : Bnd m) (hx : keyL l = some x) (hy : keyL m = some y) :
    (ordL l m = -1 ∧ Op.bytesLess x y = true ∧ x ≠ y) ∨ (ordL l m = 0 ∧ Op.bytesLess x y = false ∧ x = y) ∨ (ordL l m = 1 ∧ Op.bytesLess x y = false ∧ x ≠ y) := by
  rcases ordL_cases l m with h | ⟨h, rfl⟩ | h
  · have := BL_ne (ordL_BL l m x y hl hm h hx hy)
    exact .inl ⟨h, this.2.1, this.1⟩
  · rw [hx] at hy
    injection hy with hy
    subst hy
    refine .inr (.inl ⟨h, ?_, rfl⟩)
    have := (front_less x []).1
    rw [List.append_nil] at this
    exact this
  · have h' : ordL m l = -1 := by have := ordL_flip m l; omega
    have := BL_ne (ordL_BL m l y x hm hl h' hy hx)
    exact .inr (.inr ⟨h, this.2.2, fun e => this.1 e.symm⟩)
theorem readL_app : ∀ (l : List S39) (x z : List UInt8), Bnd l → keyL l = some x → readL (x ++ z) = (readL z).map (fun t => l ++ t) := by
  intro l
  induction l with
  | nil => intro x z _ h; injection h with h; subst h; show readL z = _; cases readL z <;> rfl
  | cons p l ih =>
    intro x z hb h
    obtain ⟨a, b, h1, h2, rfl⟩ := keyL_inv h
    have hp := hb p (List.mem_cons_self ..)
    rw [List.append_assoc, readL_keyP hp.2 hp.1 h1, ih b z (fun p hp => hb p (List.mem_cons_of_mem _ hp)) h2]
    cases readL z <;> rfl
/-- Rows begin with each other as their keys do. -/
theorem begins_keys {l m : List S39} {x y : List UInt8} (hl : Bnd l) (hm : Bnd m) (hx : keyL l = some x) (hy : keyL m = some y) : (∃ z, y = x ++ z) ↔ ∃ t, m = l ++ t := by
  constructor
  · rintro ⟨z, rfl⟩
    have h1 := readL_keyL m _ hm hy
    rw [readL_app l x z hl hx] at h1
    cases hz : readL z with
    | none => rw [hz] at h1; cases h1
    | some t => rw [hz] at h1; injection h1 with h1; exact ⟨t, h1.symm⟩
  · rintro ⟨t, rfl⟩
    rw [keyL_append, hx, Option.bind_some] at hy
    cases ht : keyL t with
    | none => rw [ht] at hy; cases hy
    | some z => rw [ht] at hy; injection hy with hy; exact ⟨z, hy.symm⟩
theorem aftR_form : ∀ r : List UInt8, (∃ b, b ∈ r ∧ b ≠ 255) → ∃ u c k, r.reverse = u ++ c :: List.replicate k 255 ∧ c ≠ 255 ∧ aftR r = u ++ [c + 1] := by
  intro r
  induction r with
  | nil => rintro ⟨b, h, _⟩; cases h
  | cons x r ih =>
    rintro ⟨b, h, hb⟩
    by_cases hx : x = 255
    · subst hx
      have hbr : b ∈ r := by
        rcases List.mem_cons.1 h with e | e
        · exact absurd e hb
        · exact e
      obtain ⟨u, c, k, h1, h2, h3⟩ := ih ⟨b, hbr, hb⟩
      refine ⟨u, c, k + 1, ?_, h2, ?_⟩
      · rw [List.reverse_cons, h1, List.append_assoc, List.cons_append, ← List.replicate_succ']
      · rw [aftR, if_pos rfl]; exact h3
    · exact ⟨r.reverse, x, 0, by rw [List.reverse_cons]; rfl, hx, by rw [aftR, if_neg hx]⟩
theorem less_mid : ∀ (u y : List UInt8) (c : UInt8) (w : List UInt8), c ≠ 255 → Op.bytesLess y (u ++ c :: w) = false → Op.bytesLess y (u ++ [c + 1]) = true → ∃ z, y = u ++ c :: z ∧ Op.bytesLess z w = false := by
  intro u
  induction u with
  | nil =>
    intro y c w hc h1 h2
    cases y with
    | nil => cases h1
    | cons b y =>
      have h1 : Op.bytesLess (b :: y) (c :: w) = false := h1
      have h2 : Op.bytesLess (b :: y) [c + 1] = true := h2
      rw [Op.bytesLess] at h1 h2
      have hs := u8_succ hc
      have e0 : Op.bytesLess y [] = false := by cases y <;> rfl
      rw [e0, Bool.and_false, Bool.or_false, decide_eq_true_eq] at h2
      rw [Bool.or_eq_false_iff] at h1
      obtain ⟨h1, h3⟩ := h1
      have h1 : ¬ b < c := by simpa using h1
      have e1 := UInt8.lt_iff_toNat_lt.1 h2
      have e2 : ¬ b.toNat < c.toNat := fun e => h1 (UInt8.lt_iff_toNat_lt.2 e)
      have e3 : b = c := UInt8.toNat_inj.1 (by omega)
      subst e3
      refine ⟨y, rfl, ?_⟩
      simpa using h3
  | cons a u ih =>
    intro y c w hc h1 h2
    cases y with
    | nil => cases h1
    | cons b y =>
      have h1 : Op.bytesLess (b :: y) (a :: (u ++ c :: w)) = false := h1
      have h2 : Op.bytesLess (b :: y) (a :: (u ++ [c + 1])) = true := h2
      rw [Op.bytesLess] at h1 h2
      rw [Bool.or_eq_false_iff] at h1
      obtain ⟨h1, h3⟩ := h1
      rw [h1, Bool.false_or, Bool.and_eq_true] at h2
      obtain ⟨h4, h5⟩ := h2
      have e : b = a := by simpa using h4
      subst e
      obtain ⟨z, rfl, hz⟩ := ih y c w hc (by simpa using h3) h5
      exact ⟨z, rfl, hz⟩
theorem less_top : ∀ (k : Nat) (z : List UInt8), Op.bytesLess z (List.replicate k 255) = false → ∃ t, z = List.replicate k 255 ++ t := by
  intro k
  induction k with
  | zero => intro z _; exact ⟨z, rfl⟩
  | succ k ih =>
    intro z h
    cases z with
    | nil => cases h
    | cons b z =>
      rw [List.replicate_succ, Op.bytesLess, Bool.or_eq_false_iff] at h
      obtain ⟨h1, h2⟩ := h
      have h1 : ¬ b < 255 := by simpa using h1
      have e2 : ¬ b.toNat < 255 := fun e => h1 (UInt8.lt_iff_toNat_lt.2 e)
      have e3 := b.toNat_lt
      have e4 : b = 255 := UInt8.toNat_inj.1 (by show b.toNat = 255; omega)
      subst e4
      obtain ⟨t, rfl⟩ := ih z (by simpa using h2)
      exact ⟨t, rfl⟩
/-- What lies between a text and what After says of it. -/
theorem after_keys {x : List UInt8} (hx : ∃ b, b ∈ x ∧ b ≠ 255) (y : List UInt8) : Op.bytesLess x (aftL x) = true ∧ ((∃ z, y = x ++ z) → Op.bytesLess y x = false ∧ Op.bytesLess y (aftL x) = true) ∧ (Op.bytesLess y x = false → Op.bytesLess y (aftL x) = true → ∃ z, y = x ++ z) := by
  obtain ⟨b, hb, hb2⟩ := hx
  obtain ⟨u, c, k, h1, h2, h3⟩ := aftR_form x.reverse ⟨b, List.mem_reverse.2 hb, hb2⟩
  rw [List.reverse_reverse] at h1
  have h3 : aftL x = u ++ [c + 1] := h3
  have hD : DL x (aftL x) := ⟨u, c, c + 1, List.replicate k 255, [], h1, h3, UInt8.lt_iff_toNat_lt.2 (by rw [u8_succ h2]; omega)⟩
  refine ⟨(DL_less hD).1, ?_, ?_⟩
  · rintro ⟨z, rfl⟩
    refine ⟨(front_less x z).1, ?_⟩
    have := DL_append hD z []
    rw [List.append_nil] at this
    exact (DL_less this).1
  · intro g1 g2
    rw [h1] at g1
    rw [h3] at g2
    obtain ⟨z, rfl, hz⟩ := less_mid u y c _ h2 g1 g2
    obtain ⟨t, rfl⟩ := less_top k z hz
    exact ⟨t, by rw [h1, List.append_assoc, List.cons_append]⟩
theorem keyL_some {l : List S39} (h : (keyS l).2 = 0) : keyL l = some (keyS l).1 ∧ ∃ b, b ∈ (keyS l).1 ∧ b ≠ 255 := by
  have a3 := (keyS_len (l := l)).2.2 h
  unfold keyS at h ⊢
  rw [if_neg (by omega)] at h ⊢
  cases hk : keyL l with
  | none => rw [hk] at h; exact absurd h (by decide)
  | some k =>
    rw [hk] at h
    simp only at h ⊢
    by_cases h2 : 100 < k.length
    · rw [if_pos h2] at h; exact absurd h (by decide)
    · rw [if_neg h2]
      refine ⟨rfl, ?_⟩
      cases l with
      | nil => exact absurd a3.1 (by simp)
      | cons p l =>
        obtain ⟨a, b, h1, h2, rfl⟩ := keyL_inv hk
        obtain ⟨c, r, rfl, hc⟩ := keyP_head h1
        exact ⟨c, List.mem_cons_self .., hc⟩
end Go.Proofs.YthpngienphnaoaaDoor
