import Derived.Test.YthpngienphnaoaaDoorTA
import Derived.Laws.AppendOwnNone
import Derived.Test.YthpngienphnaoaaDoorPTupleWorksx3
import Derived.Test.YthpngienphnaoaaDoorRfU
import Derived.Test.YthpngienphnaoaaDoorPTupleWorksx4
/-
  blotterlaw11.TupleMore: it returns true.
-/
namespace Go.Proofs.YthpngienphnaoaaDoor
open Go.RowKit Go.Proofs.YthpngienphnaoaaDoorW.PrintWords Go.Proofs.YthpngienphnaoaaDoor.PTupleWorks

theorem reps39_eq {w : World} : ∀ (ys : List S39) (inner : List Value), Reps (k39.K w) 3 ys inner → inner = cellsP ys := by
  intro ys
  induction ys with
  | nil => intro inner h; exact List.eq_nil_of_length_eq_zero (by rw [h.1]; rfl)
  | cons q ys ih =>
    intro inner h
    have h0 := k39_open (h.2 0 q rfl)
    rw [Nat.zero_mul, List.drop_zero] at h0
    have h1 : inner.drop 3 = cellsP ys := by
      refine ih _ ⟨by rw [List.length_drop, h.1, List.length_cons]; omega, fun j p hj => ?_⟩
      have := h.2 (j + 1) p (by simpa using hj)
      rw [List.drop_drop]
      rw [show 3 + j * 3 = (j + 1) * 3 by omega]
      exact this
    have h2 := List.take_append_drop 3 inner
    rw [h0, h1] at h2
    exact h2.symm
theorem cellsP_append (l m : List S39) : cellsP (l ++ m) = cellsP l ++ cellsP m := by unfold cellsP; rw [List.flatMap_append]
theorem cellsP_one (l : List S39) : ∀ u ∈ cellsP l, u.oneCell' = true := by
  intro u hu
  obtain ⟨p, _, hp⟩ := List.mem_flatMap.1 hu
  exact cellP_one p u hp
theorem run_none39 {w : World} (base : Nat) (ty : TypeId) (v : Value) (n : Nat) (xs : List Value) (hown : w.ownsRow base 39 3 v n xs) (c : Nat) :
    (Builtin.append_ #[37, 37] ty #[v, .slice none 0 c]).run Tryd.prog w = .ok v w := by
  obtain ⟨i, hi, _⟩ := info_parts info39
  rcases hown.2 with ⟨rfl, rfl⟩ | ⟨g, cap, cur, rfl, _, _, hnc, _⟩
  · simp [Builtin.append_, run_underlying Tryd.underlying37, sizeOf, typeInfo, hi, Builtin.lenOf, Builtin.firstCells]
  · simp [Builtin.append_, run_underlying Tryd.underlying37, sizeOf, typeInfo, hi, Builtin.lenOf, Builtin.firstCells, hnc, storeCells]
/-- Parts behind a row of the call's own. -/
theorem wpList_append_parts {w : World} {ops : Array Oper} {rest : List Oper} {o : Oper} {a : Act} {Q : Exit → Act → World → Prop} (hgd : o.guard = none) (s x : Operand)
    (ho : o.op = .call { callee := .builtin .append, args := #[s, x], argTypes := #[37, 37] })
    (base : Nat) (v : Value) (n : Nat) (l : List S39) (hs : a.eval s = v) (hown : w.ownsRow base 39 3 v n (cellsP l))
    (A : Option Addr) (m c : Nat) (ys : List S39) (hx : a.eval x = .slice A m c) (hr : Kd.C k39 w A m ys) (h63 : n + m ≤ 1000000000) (hbase : base ≤ w.heap.size)
    (h : ∀ v' w', w'.ownsRow base 39 3 v' (n + m) (cellsP (l ++ ys)) → w.grownBy w' v.ownBlock → wpList Tryd.prog ops Q rest (a.put o.dst v') w') : wpList Tryd.prog ops Q (o :: rest) a w := by
  obtain ⟨i, hi, hz0, hz1, hz2⟩ := info_parts info39
  cases A with
  | none =>
    have hm : m = 0 := by
      rcases Nat.eq_zero_or_pos m with h0 | h0
      · exact h0
      · obtain ⟨ad, e, _⟩ := hr.2.2 h0
        cases e
    have hy : ys = [] := List.eq_nil_of_length_eq_zero (by rw [hr.1, hm])
    subst hm; subst hy
    refine wpList_plain hgd fun K hK => ?_
    have hrun := run_none39 base o.type v n _ hown c
    unfold Oper.wp
    simp [execOp, ho, resolve, invoke, builtin, hs, hx, hrun, Result.andThen]
    exact hK _ _ (h v w (by rw [List.append_nil]; exact hown) (World.grownBy.refl _ _))
  | some ad =>
    obtain ⟨inner, hreps, hcell⟩ := ReadsRow.inner_ hr
    obtain rfl := reps39_eq ys inner hreps
    refine wpList_append_own _ hgd s x 37 ho base 39 i (.agg #[.int .i64 0, .int .i64 0, .string ⟨#[]⟩]) 3 32 Tryd.underlying37 hi hz0 hz1 hz2 rfl (by decide) v n (cellsP l) hs hown ad m c (cellsP ys) hx (by rw [cellsP_length, hr.1]) hcell (cellsP_one ys) (by unfold maxLen; omega) (by omega) hbase ?_
    intro v' w' h1 h2 _
    exact h v' w' (by rw [cellsP_append]; exact h1) h2
/-- Key of two rows, one behind the other. -/
theorem keyS_two {l m : List S39} (hl : (keyS l).2 = 0) (hm : (keyS m).2 = 0) : keyS (l ++ m) = if 8 < l.length + m.length then ([], 110) else if 100 < (keyS l).1.length + (keyS m).1.length then ([], 2) else ((keyS l).1 ++ (keyS m).1, 0) := by
  have a1 := (keyS_len (l := l)).2.2 hl
  have a2 := (keyS_len (l := m)).2.2 hm
  have hk : ∀ r : List S39, (keyS r).2 = 0 → keyL r = some (keyS r).1 := by
    intro r hr
    have a3 := (keyS_len (l := r)).2.2 hr
    unfold keyS at hr ⊢
    rw [if_neg (by omega)] at hr ⊢
    cases hk : keyL r with
    | none => rw [hk] at hr; exact absurd hr (by decide)
    | some k =>
      rw [hk] at hr
      simp only at hr ⊢
      by_cases h2 : 100 < k.length
      · rw [if_pos h2] at hr; exact absurd hr (by decide)
      · rw [if_neg h2]
  have k1 := hk l hl
  have k2 := hk m hm
  generalize (keyS l).1 = x at k1 ⊢
  generalize (keyS m).1 = y at k2 ⊢
  unfold keyS
  rw [List.length_append]
  by_cases h8 : 8 < l.length + m.length
  · rw [if_pos (by omega), if_pos h8]
  · rw [if_neg (by omega), if_neg h8, keyL_append, k1, k2]
    simp only [Option.bind_some, Option.map_some]
    rw [List.length_append]
theorem partsOk_append {l m : List S39} (h1 : PartsOk l) (h2 : PartsOk m) : PartsOk (l ++ m) := fun p hp => (List.mem_append.1 hp).elim (h1 p) (h2 p)
set_option maxHeartbeats 16000000 in
set_option maxRecDepth 100000 in
theorem tupleMore_any (A : Option Addr) (c : Nat) (l : List S39) (B : Option Addr) (d : Nat) (m : List S39) (w : World) (hr : Kd.C k39 w A l.length l) (hc : l.length ≤ c) (hok : PartsOk l)
    (hr2 : Kd.C k39 w B m.length m) (hc2 : m.length ≤ d) (hok2 : PartsOk m) (hl : l.length ≤ 1048576) (hm : m.length ≤ 1048576) (hE : Env w) :
    Calls Tryd.prog 12 #[.slice A l.length c, .slice B m.length d] w fun e w' => e = .returned (.bool true) ∧ Below w.heap.size w w' := by
  have CA := Lib.hid (fun W (h : Env W) => awakeT_any W h)
  have kl1 := (keyS_len (l := l)).1
  have kl2 := (keyS_len (l := m)).1
  have h3 : (keyS l).2 = 0 → (keyS m).2 = 0 → keyS (l ++ m) = if 8 < l.length + m.length then ([], 110) else if 100 < (keyS l).1.length + (keyS m).1.length then ([], 2) else ((keyS l).1 ++ (keyS m).1, 0) := keyS_two
  obtain ⟨X, hX⟩ : ∃ X, X = str (keyS l).1 := ⟨_, rfl⟩
  obtain ⟨E1, hE1⟩ : ∃ E, E = (keyS l).2 := ⟨_, rfl⟩
  obtain ⟨Y, hY⟩ : ∃ X, X = str (keyS m).1 := ⟨_, rfl⟩
  obtain ⟨E2, hE2⟩ : ∃ E, E = (keyS m).2 := ⟨_, rfl⟩
  obtain ⟨Z, hZ⟩ : ∃ X, X = str (keyS (l ++ m)).1 := ⟨_, rfl⟩
  obtain ⟨E3, hE3⟩ : ∃ E, E = (keyS (l ++ m)).2 := ⟨_, rfl⟩
  have CX := Lib.hid (key_row l hok hX hE1)
  have CY := Lib.hid (key_row m hok2 hY hE2)
  have CZ := Lib.hid (key_row (l ++ m) (partsOk_append hok hok2) hZ hE3)
  have hXs : X.size ≤ 100 := by rw [hX, str_size]; exact kl1
  have hYs : Y.size ≤ 100 := by rw [hY, str_size]; exact kl2
  have H3 : Hid (E1 = 0 → E2 = 0 → (8 < l.length + m.length ∧ E3 = 110) ∨ (¬ 8 < l.length + m.length ∧ 100 < X.size + Y.size ∧ E3 = 2) ∨ (E3 = 0 ∧ Z = X ++ Y)) := by
    intro a1 a2
    have h3 := h3 (hE1.symm.trans a1) (hE2.symm.trans a2)
    rw [h3] at hE3 hZ
    have z1 : X.size = (keyS l).1.length := by rw [hX, str_size]
    have z2 : Y.size = (keyS m).1.length := by rw [hY, str_size]
    by_cases h8 : 8 < l.length + m.length
    · rw [if_pos h8] at hE3
      exact .inl ⟨h8, hE3⟩
    · rw [if_neg h8] at hE3 hZ
      by_cases h9 : 100 < (keyS l).1.length + (keyS m).1.length
      · rw [if_pos h9] at hE3
        exact .inr (.inl ⟨h8, by omega, hE3⟩)
      · rw [if_neg h9] at hE3 hZ
        refine .inr (.inr ⟨hE3, ?_⟩)
        rw [hZ, hX, hY]
        apply ByteArray.ext
        apply Array.ext'
        rw [ByteArray.data_append, Array.toList_append, str_list, str_list, str_list]
  clear h3 kl1 kl2 hX hE1 hY hE2 hZ hE3 hok hok2
  have HE := Lib.hid hE
  obtain ⟨n, hn⟩ : ∃ n, n = l.length := ⟨_, rfl⟩
  obtain ⟨k, hk⟩ : ∃ k, k = m.length := ⟨_, rfl⟩
  rw [← hn] at hr hc H3 hl ⊢
  rw [← hk] at hr2 hc2 H3 hm ⊢
  have HN := Lib.hid hn
  have HK := Lib.hid hk
  have HR := Lib.hid hr
  have HR2 := Lib.hid hr2
  clear hE hn hk hr hr2
  go_enter Tryd.func12, Tryd.ntmps12
  go_wp2_with fail
  refine (CA.out w HE.out).mono ?_
  rintro e w1 ⟨rfl, hb1⟩
  have HC1 := Lib.hid (CX.out n A c w1 HN.out (env_below HE.out hb1) (Kd.C_below HR.out hb1) hc)
  go_wp2_with fail
  refine HC1.out.mono ?_
  rintro e w2 ⟨rfl, hb2⟩
  have hb02 := below_then hb1 hb1.size hb2
  clear hb1 hb2 HC1
  have HC2 := Lib.hid (CY.out k B d w2 HK.out (env_below HE.out hb02) (Kd.C_below HR2.out hb02) hc2)
  go_wp2_with fail
  refine HC2.out.mono ?_
  rintro e w3 ⟨rfl, hb3⟩
  have HB3 := Lib.hid (below_then hb02 hb02.size hb3)
  clear hb02 hb3 HC2
  go_wp2_with (at_builtin; refine wpList_append_parts rfl (.tmp 24) (.tmp 25) rfl w.heap.size (.slice none 0 0) 0 [] rfl (nil_own _ _) A n c l rfl (Kd.C_below HR.out HB3.out) (by omega) HB3.out.size ?_)
  intro v4 w4 ho4 hg4
  have HB4 := Lib.hid (HB3.out.grown hg4 HB3.out.size (fun b hb => by simp [Value.ownBlock] at hb))
  obtain ⟨A4, c4, rfl⟩ := own_slice ho4
  have HO4 := Lib.hid ho4
  clear hg4 ho4
  go_wp2_with (at_builtin; refine wpList_append_parts rfl (.tmp 27) (.tmp 28) rfl w.heap.size (.slice A4 n c4) n l rfl HO4.out B k d m rfl (Kd.C_below HR2.out HB4.out) (by omega) HB4.out.size ?_)
  intro v5 w5 ho5 hg5
  have HB5 := Lib.hid (HB4.out.grown hg5 HB4.out.size (fun b hb => own_base' HO4.out hb))
  obtain ⟨A5, c5, rfl, hc5⟩ := own_sliceC ho5
  have HC5 := Lib.hid (CZ.out (n + k) A5 c5 w5 (by rw [HN.out, HK.out, List.length_append]) (env_below HE.out HB5.out) (C_of_own ho5 (by rw [HN.out, HK.out, List.length_append])) hc5)
  clear ho5 hg5
  go_wp2_with fail
  refine HC5.out.mono ?_
  rintro e w6 ⟨rfl, hb6⟩
  have HB6 := Lib.hid (below_then HB5.out HB5.out.size hb6)
  clear hb6 HC5
  by_cases h1 : E1 = 0
  · subst h1
    by_cases h2 : E2 = 0
    · subst h2
      rcases H3.out rfl rfl with ⟨a1, rfl⟩ | ⟨a1, a2, rfl⟩ | ⟨rfl, rfl⟩
      · have g1 : (8 : Int) < (n : Int) + (k : Int) := by omega
        have g2 : (8 : Int) < ((n + k : Nat) : Int) := by omega
        go_wp2_with fail
        go_ret
        exact ⟨rfl, HB6.out⟩
      · have g1 : (100 : Int) < (X.size : Int) + (Y.size : Int) := by omega
        go_wp2_with fail
        go_ret
        exact ⟨rfl, HB6.out⟩
      · go_wp2_with fail
        go_ret
        exact ⟨rfl, HB6.out⟩
    · have h2' : (E2 == 0) = false := by rw [beq_eq_false_iff_ne]; exact h2
      go_wp2_with fail
      go_ret
      exact ⟨rfl, HB6.out⟩
  · have h1' : (E1 == 0) = false := by rw [beq_eq_false_iff_ne]; exact h1
    go_wp2_with fail
    go_ret
    exact ⟨rfl, HB6.out⟩
end Go.Proofs.YthpngienphnaoaaDoor

/-
  How rows stand and how their keys stand, in plain words.
-/
namespace Go.Proofs.YthpngienphnaoaaDoor
open Go.RowKit Go.Proofs.YthpngienphnaoaaDoorW.PrintWords Go.Proofs.YthpngienphnaoaaDoor.PTupleWorks

/-- They part at a byte, and there the first is less. -/
def DL (a b : List UInt8) : Prop := ∃ p c d u v, a = p ++ c :: u ∧ b = p ++ d :: v ∧ c < d
theorem less_self (x : UInt8) (a b : List UInt8) : Op.bytesLess (x :: a) (x :: b) = Op.bytesLess a b := by
  rw [Op.bytesLess]; simp
theorem DL_less {a b : List UInt8} (h : DL a b) : Op.bytesLess a b = true ∧ Op.bytesLess b a = false ∧ a ≠ b := by
  obtain ⟨p, c, d, u, v, rfl, rfl, h⟩ := h
  induction p with
  | nil =>
    have h' : c.toNat < d.toNat := UInt8.lt_iff_toNat_lt.1 h
    have h1 : ¬ d < c := fun e => by have := UInt8.lt_iff_toNat_lt.1 e; omega
    have h2 : ¬ d = c := fun e => by subst e; omega
    refine ⟨?_, ?_, fun e => h2 ?_⟩
    · show Op.bytesLess (c :: u) (d :: v) = true
      rw [Op.bytesLess]; simp [h]
    · show Op.bytesLess (d :: v) (c :: u) = false
      rw [Op.bytesLess]; simp [h1, h2]
    · have e : c :: u = d :: v := e
      injection e with e _
      exact e.symm
  | cons x p ih =>
    obtain ⟨i1, i2, i3⟩ := ih
    refine ⟨(less_self x _ _).trans i1, (less_self x _ _).trans i2, fun e => i3 ?_⟩
    have e : x :: (p ++ c :: u) = x :: (p ++ d :: v) := e
    injection e
theorem DL_append {a b : List UInt8} (h : DL a b) (u v : List UInt8) : DL (a ++ u) (b ++ v) := by
  obtain ⟨p, c, d, u', v', rfl, rfl, h⟩ := h
  exact ⟨p, c, d, u' ++ u, v' ++ v, by rw [List.append_assoc]; rfl, by rw [List.append_assoc]; rfl, h⟩
theorem DL_front {a b : List UInt8} (h : DL a b) (w : List UInt8) : DL (w ++ a) (w ++ b) := by
  obtain ⟨p, c, d, u', v', rfl, rfl, h⟩ := h
  exact ⟨w ++ p, c, d, u', v', by rw [List.append_assoc], by rw [List.append_assoc], h⟩
theorem front_less (x z : List UInt8) : Op.bytesLess (x ++ z) x = false ∧ (z ≠ [] → Op.bytesLess x (x ++ z) = true) := by
  induction x with
  | nil => exact ⟨by cases z <;> rfl, fun h => by cases z with | nil => exact absurd rfl h | cons => rfl⟩
  | cons b x ih => exact ⟨(less_self b _ _).trans ih.1, fun h => (less_self b _ _).trans (ih.2 h)⟩
theorem valN_fold (l : List UInt8) : ∀ u : Nat, l.foldl (fun u b => u * 256 + b.toNat) u = u * 256 ^ l.length + valN l := by
  induction l with
  | nil => intro u; simp [valN]
  | cons b l ih =>
    intro u
    rw [List.foldl_cons, ih, List.length_cons, Nat.pow_succ]
    have e : valN (b :: l) = b.toNat * 256 ^ l.length + valN l := by
      unfold valN; rw [List.foldl_cons, Nat.zero_mul, Nat.zero_add]; exact ih b.toNat
    rw [e, Nat.add_mul, Nat.mul_assoc, Nat.mul_comm 256]
    omega
theorem valN_cons (b : UInt8) (l : List UInt8) : valN (b :: l) = b.toNat * 256 ^ l.length + valN l := by
  have h := valN_fold l b.toNat
  unfold valN at h ⊢
  rw [List.foldl_cons, Nat.zero_mul, Nat.zero_add]
  exact h
theorem valN_DL : ∀ (l m : List UInt8), l.length = m.length → valN l < valN m → DL l m := by
  intro l
  induction l with
  | nil =>
    intro m hl h
    have : m = [] := List.eq_nil_of_length_eq_zero hl.symm
    subst this
    exact absurd h (Nat.lt_irrefl _)
  | cons b l ih =>
    intro m hl h
    cases m with
    | nil => cases hl
    | cons c m =>
      have hl' : l.length = m.length := by simpa using hl
      rw [valN_cons, valN_cons, hl'] at h
      have v1 := valN_lt l
      have v2 := valN_lt m
      rw [hl'] at v1
      by_cases h1 : b < c
      · exact ⟨[], b, c, l, m, rfl, rfl, h1⟩
      · by_cases h2 : b = c
        · subst h2
          exact DL_front (ih m hl' (by omega)) [b]
        · exfalso
          have h3 : c.toNat < b.toNat := by
            have e1 : ¬ b.toNat < c.toNat := fun e => h1 (UInt8.lt_iff_toNat_lt.2 e)
            have e2 : ¬ b.toNat = c.toNat := fun e => h2 (UInt8.toNat_inj.1 e)
            omega
          have h4 : (c.toNat + 1) * 256 ^ m.length ≤ b.toNat * 256 ^ m.length := Nat.mul_le_mul_right _ h3
          rw [Nat.add_mul, Nat.one_mul] at h4
          omega
theorem eight_DL {n k : Int} (h : n < k) (h0 : -9223372036854775808 ≤ n) (h1 : k ≤ 9223372036854775807) : DL (eightL n) (eightL k) := by
  refine valN_DL _ _ (by rw [eightL_length, eightL_length]) ?_
  rw [valN_eight n (by omega), valN_eight k h1]
  unfold upN; omega
theorem cmpI (x y : Int) : (Lib.compareInt x y = -1 ∧ x < y) ∨ (Lib.compareInt x y = 0 ∧ x = y) ∨ (Lib.compareInt x y = 1 ∧ y < x) := by
  unfold Lib.compareInt
  by_cases h : x < y
  · rw [if_pos h]; exact .inl ⟨rfl, h⟩
  · rw [if_neg h]
    by_cases h2 : x > y
    · rw [if_pos h2]; exact .inr (.inr ⟨rfl, h2⟩)
    · rw [if_neg h2]; exact .inr (.inl ⟨rfl, by omega⟩)
theorem cmpI_flip (x y : Int) : Lib.compareInt x y = -Lib.compareInt y x := by
  rcases cmpI x y with ⟨a, b⟩ | ⟨a, b⟩ | ⟨a, b⟩ <;> rcases cmpI y x with ⟨c, d⟩ | ⟨c, d⟩ | ⟨c, d⟩ <;> omega
/-- How bytes stand: before (parted, or one the other's front), the same, behind. -/
def BL (a b : List UInt8) : Prop := DL a b ∨ ∃ d v, b = a ++ d :: v
theorem cmpB : ∀ (x y : List UInt8), (Lib.compareBytes x y = -1 ∧ BL x y) ∨ (Lib.compareBytes x y = 0 ∧ x = y) ∨ (Lib.compareBytes x y = 1 ∧ BL y x) := by
  intro x
  induction x with
  | nil =>
    intro y
    cases y with
    | nil => exact .inr (.inl ⟨rfl, rfl⟩)
    | cons b y => exact .inl ⟨rfl, .inr ⟨b, y, rfl⟩⟩
  | cons a x ih =>
    intro y
    cases y with
    | nil => exact .inr (.inr ⟨rfl, .inr ⟨a, x, rfl⟩⟩)
    | cons b y =>
      rw [Lib.compareBytes]
      by_cases h1 : a < b
      · rw [if_pos h1]; exact .inl ⟨rfl, .inl ⟨[], a, b, x, y, rfl, rfl, h1⟩⟩
      · rw [if_neg h1]
        by_cases h2 : b < a
        · rw [if_pos h2]; exact .inr (.inr ⟨rfl, .inl ⟨[], b, a, y, x, rfl, rfl, h2⟩⟩)
        · rw [if_neg h2]
          have hab : a = b := by
            have e1 : ¬ a.toNat < b.toNat := fun e => h1 (UInt8.lt_iff_toNat_lt.2 e)
            have e2 : ¬ b.toNat < a.toNat := fun e => h2 (UInt8.lt_iff_toNat_lt.2 e)
            exact UInt8.toNat_inj.1 (by omega)
          subst hab
          have bl : ∀ {u v : List UInt8}, BL u v → BL (a :: u) (a :: v) := by
            intro u v h
            rcases h with h | ⟨d, w, rfl⟩
            · exact .inl (DL_front h [a])
            · exact .inr ⟨d, w, rfl⟩
          rcases ih y with ⟨i, j⟩ | ⟨i, j⟩ | ⟨i, j⟩
          · exact .inl ⟨i, bl j⟩
          · exact .inr (.inl ⟨i, by rw [j]⟩)
          · exact .inr (.inr ⟨i, bl j⟩)
theorem BL_ne {a b : List UInt8} (h : BL a b) : a ≠ b ∧ Op.bytesLess a b = true ∧ Op.bytesLess b a = false := by
  rcases h with h | ⟨d, v, rfl⟩
  · obtain ⟨i, j, k⟩ := DL_less h
    exact ⟨k, i, j⟩
  · have := front_less a (d :: v)
    refine ⟨fun e => ?_, this.2 (by simp), this.1⟩
    have := congrArg List.length e
    rw [List.length_append, List.length_cons] at this
    omega
theorem cmpB_flip (x y : List UInt8) : Lib.compareBytes x y = -Lib.compareBytes y x := by
  rcases cmpB x y with ⟨a, b⟩ | ⟨a, b⟩ | ⟨a, b⟩ <;> rcases cmpB y x with ⟨c, d⟩ | ⟨c, d⟩ | ⟨c, d⟩
  · have := (BL_ne b).2.1; rw [(BL_ne d).2.2] at this; cases this
  · exact absurd d.symm (BL_ne b).1
  · omega
  · exact absurd b.symm (BL_ne d).1
  · omega
  · exact absurd b (BL_ne d).1
  · omega
  · exact absurd d (BL_ne b).1
  · have := (BL_ne b).2.1; rw [(BL_ne d).2.2] at this; cases this
theorem orI3 (a b c : Int) : orI [a, b, c] = if a = 0 then if b = 0 then c else b else a := by
  simp only [orI]
  by_cases h : c = 0
  · subst h; simp
  · simp [h]
theorem ordP_flip (p q : S39) : ordP p q = -ordP q p := by
  unfold ordP
  rw [orI3, orI3, cmpI_flip p.f0 q.f0, cmpI_flip p.f1 q.f1, cmpB_flip p.f2.data.toList q.f2.data.toList]
  by_cases h1 : Lib.compareInt q.f0 p.f0 = 0
  · rw [if_pos (by omega), if_pos h1]
    by_cases h2 : Lib.compareInt q.f1 p.f1 = 0
    · rw [if_pos (by omega), if_pos h2]
    · rw [if_neg (by omega), if_neg h2]
  · rw [if_neg (by omega), if_neg h1]
theorem ordP_cases (p q : S39) : ordP p q = -1 ∨ (ordP p q = 0 ∧ p = q) ∨ ordP p q = 1 := by
  unfold ordP
  rw [orI3]
  rcases cmpI p.f0 q.f0 with ⟨a, b⟩ | ⟨a, b⟩ | ⟨a, b⟩
  · rw [a]; exact .inl rfl
  · rw [a, if_pos rfl]
    rcases cmpI p.f1 q.f1 with ⟨c, d⟩ | ⟨c, d⟩ | ⟨c, d⟩
    · rw [c]; exact .inl rfl
    · rw [c, if_pos rfl]
      rcases cmpB p.f2.data.toList q.f2.data.toList with ⟨e, f⟩ | ⟨e, f⟩ | ⟨e, f⟩
      · exact .inl e
      · refine .inr (.inl ⟨e, ?_⟩)
        obtain ⟨x0, x1, x2⟩ := p
        obtain ⟨y0, y1, y2⟩ := q
        have hb : x0 = y0 := b
        have hd : x1 = y1 := d
        have hf : x2 = y2 := by apply ByteArray.ext; apply Array.ext'; exact f
        rw [hb, hd, hf]
      · exact .inr (.inr e)
    · rw [c]; exact .inr (.inr rfl)
  · rw [a]; exact .inr (.inr rfl)
theorem ordP_self (p : S39) : ordP p p = 0 := by
  have := ordP_flip p p
  omega
theorem ordL_flip : ∀ (l m : List S39), ordL l m = -ordL m l := by
  intro l
  induction l with
  | nil => intro m; cases m <;> rfl
  | cons p l ih =>
    intro m
    cases m with
    | nil => rfl
    | cons q m =>
      rw [ordL, ordL, ordP_flip p q, ih m]
      by_cases h : ordP q p = 0
      · rw [if_pos (by omega), if_pos h]
      · rw [if_neg (by omega), if_neg h]
theorem ordL_self (l : List S39) : ordL l l = 0 := by have := ordL_flip l l; omega
theorem ordL_cases : ∀ (l m : List S39), ordL l m = -1 ∨ (ordL l m = 0 ∧ l = m) ∨ ordL l m = 1 := by
  intro l
  induction l with
  | nil =>
    intro m
    cases m with
    | nil => exact .inr (.inl ⟨rfl, rfl⟩)
    | cons => exact .inl rfl
  | cons p l ih =>
    intro m
    cases m with
    | nil => exact .inr (.inr rfl)
    | cons q m =>
      rw [ordL]
      rcases ordP_cases p q with h | ⟨h, rfl⟩ | h
      · rw [if_neg (by omega)]; exact .inl h
      · rw [if_pos h]
        rcases ih m with i | ⟨i, rfl⟩ | i
        · exact .inl i
        · exact .inr (.inl ⟨i, rfl⟩)
        · exact .inr (.inr i)
      · rw [if_neg (by omega)]; exact .inr (.inr h)
theorem esc_BL {s t : List UInt8} (h : BL s t) : DL (escL s ++ [0, 0]) (escL t ++ [0, 0]) := by
  have esc_app : ∀ a b : List UInt8, escL (a ++ b) = escL a ++ escL b := fun a b => by unfold escL; rw [List.flatMap_append]
  rcases h with ⟨p, c, d, u, v, rfl, rfl, h⟩ | ⟨d, v, rfl⟩
  · rw [esc_app, esc_app, escL_cons, escL_cons]
    have hd : d ≠ 0 := by
      intro e
      subst e
      have := UInt8.lt_iff_toNat_lt.1 h
      have e0 : (0 : UInt8).toNat = 0 := rfl
      omega
    rw [if_neg hd]
    by_cases hc : c = 0
    · subst hc
      rw [if_pos rfl]
      exact ⟨escL p, 0, d, 255 :: (escL u ++ [0, 0]), escL v ++ [0, 0], by simp, by simp, h⟩
    · rw [if_neg hc]
      exact ⟨escL p, c, d, escL u ++ [0, 0], escL v ++ [0, 0], by simp, by simp, h⟩
  · rw [esc_app, escL_cons]
    by_cases hd : d = 0
    · subst hd
      rw [if_pos rfl]
      exact ⟨escL s ++ [0], 0, 255, [], escL v ++ [0, 0], by simp, by simp, by decide⟩
    · rw [if_neg hd]
      refine ⟨escL s, 0, d, [0], escL v ++ [0, 0], by simp, by simp, ?_⟩
      have e : ¬ d.toNat = 0 := fun e => hd (UInt8.toNat_inj.1 e)
      exact UInt8.lt_iff_toNat_lt.2 (by have e0 : (0 : UInt8).toNat = 0 := rfl; omega)
theorem keyP_DL {p q : S39} {a b : List UInt8} (h : ordP p q = -1) (ha : keyP p = some a) (hb : keyP q = some b) (hp : -9223372036854775808 ≤ p.f1) (hq : q.f1 ≤ 9223372036854775807) : DL a b := by
  unfold ordP at h
  rw [orI3] at h
  unfold keyP at ha hb
  obtain ⟨x0, x1, x2⟩ := p
  obtain ⟨y0, y1, y2⟩ := q
  simp only at h ha hb hp hq
  by_cases p1 : x0 = 1 ∧ x2.data.toList = []
  · rw [if_pos p1] at ha
    injection ha with ha
    subst ha
    obtain ⟨p1, p2⟩ := p1
    subst p1
    by_cases q1 : y0 = 1 ∧ y2.data.toList = []
    · rw [if_pos q1] at hb
      injection hb with hb
      subst hb
      obtain ⟨q1, q2⟩ := q1
      subst q1
      rw [if_pos (by decide), p2, q2] at h
      rcases cmpI x1 y1 with ⟨c, d⟩ | ⟨c, d⟩ | ⟨c, d⟩
      · exact DL_front (eight_DL d hp hq) [1]
      · rw [c, if_pos rfl] at h; exact absurd h (by decide)
      · rw [c, if_neg (by decide)] at h; exact absurd h (by decide)
    · rw [if_neg q1] at hb
      by_cases q3 : y0 = 2 ∧ y1 = 0
      · rw [if_pos q3] at hb
        injection hb with hb
        subst hb
        exact ⟨[], 1, 2, eightL x1, escL y2.data.toList ++ [0, 0], rfl, rfl, by decide⟩
      · rw [if_neg q3] at hb; cases hb
  · rw [if_neg p1] at ha
    by_cases p3 : x0 = 2 ∧ x1 = 0
    · rw [if_pos p3] at ha
      injection ha with ha
      subst ha
      obtain ⟨p3, p4⟩ := p3
      subst p3; subst p4
      by_cases q1 : y0 = 1 ∧ y2.data.toList = []
      · obtain ⟨q1, _⟩ := q1
        subst q1
        rw [if_neg (by decide)] at h
        exact absurd h (by decide)
      · rw [if_neg q1] at hb
        by_cases q3 : y0 = 2 ∧ y1 = 0
        · rw [if_pos q3] at hb
          injection hb with hb
          subst hb
          obtain ⟨q3, q4⟩ := q3
          subst q3; subst q4
          rw [if_pos (by decide), if_pos (by decide)] at h
          rcases cmpB x2.data.toList y2.data.toList with ⟨c, d⟩ | ⟨c, d⟩ | ⟨c, d⟩
          · exact DL_front (esc_BL d) [2]
          · omega
          · omega
        · rw [if_neg q3] at hb; cases hb
    · rw [if_neg p3] at ha; cases ha
theorem keyP_head {p : S39} {a : List UInt8} (h : keyP p = some a) : ∃ c r, a = c :: r ∧ c ≠ 255 := by
  unfold keyP at h
  split at h
  · injection h with h; exact ⟨1, _, h.symm, by decide⟩
  · split at h
    · injection h with h; exact ⟨2, _, h.symm, by decide⟩
    · cases h
def Bnd (l : List S39) : Prop := ∀ p ∈ l, -9223372036854775808 ≤ p.f1 ∧ p.f1 ≤ 9223372036854775807
theorem keyL_inv {p : S39} {l : List S39} {x : List UInt8} (h : keyL (p :: l) = some x) : ∃ a b, keyP p = some a ∧ keyL l = some b ∧ x = a ++ b := by
  rw [keyL_cons] at h
  cases hk : keyP p with
  | none => rw [hk] at h; cases h
  | some a =>
    rw [hk] at h
    cases hm : keyL l with
    | none => rw [hm] at h; cases h
    | some b =>
      rw [hm] at h
      injection h with h
      exact ⟨a, b, rfl, rfl, h.symm⟩
theorem ordL_BL : ∀ (l m : List S39) (x y : List UInt8), Bnd l → Bnd m → ordL l m = -1 → keyL l = some x → keyL m = some y → BL x y := by
  intro l
  induction l with
  | nil =>
    intro m x y _ _ h hx hy
    injection hx with hx
    subst hx
    cases m with
    | nil => exact absurd h (by decide)
    | cons q m =>
      obtain ⟨a, b, h1, h2, rfl⟩ := keyL_inv hy
      obtain ⟨c, r, rfl, _⟩ := keyP_head h1
      exact .inr ⟨c, r ++ b, rfl⟩
  | cons p l ih =>
    intro m x y hl hm h hx hy
    cases m with
    | nil => exact absurd (show (1 : Int) = -1 from h) (by decide)
    | cons q m =>
      obtain ⟨a, b, h1, h2, rfl⟩ := keyL_inv hx
      obtain ⟨c, d, h3, h4, rfl⟩ := keyL_inv hy
      rw [ordL] at h
      by_cases h0 : ordP p q = 0
      · rw [if_pos h0] at h
        rcases ordP_cases p q with e | ⟨_, e⟩ | e
        · omega
        · subst e
          rw [h1] at h3
          injection h3 with h3
          subst h3
          rcases ih m b d (fun p hp => hl p (List.mem_cons_of_mem _ hp)) (fun p hp => hm p (List.mem_cons_of_mem _ hp)) h h2 h4 with i | ⟨i, j, rfl⟩
          · exact .inl (DL_front i a)
          · exact .inr ⟨i, j, by rw [List.append_assoc]⟩
        · omega
      · rw [if_neg h0] at h
        exact .inl (DL_append (keyP_DL h h1 h3 (hl p (List.mem_cons_self ..)).1 (hm q (List.mem_cons_self ..)).2) b d)
/-- Order of rows and of their keys. -/
theorem order_keys {l m : List S39} {x y : List UInt8} (hl : Bnd l) (hm : Bnd m) (hx : keyL l = some x) (hy : keyL m = some y) :
    (ordL l m = -1 ∧ Op.bytesLess x y = true ∧ x ≠ y) ∨ (ordL l m = 0 ∧ Op.bytesLess x y = false ∧ x = y) ∨ (ordL l m = 1 ∧ Op.bytesLess x y = false ∧ x ≠ y) := by
  rcases ordL_cases l m with h | ⟨h, rfl⟩ | h
  · have := BL_ne (ordL_BL l m x y hl hm h hx hy)
    exact .inl ⟨h, this.2.1, this.1⟩
  · rw [hx] at hy
    injection hy with hy
    subst hy
    refine .inr (.inl ⟨h, ?_, rfl⟩)
    have := (front_less x []).1
    rw [List.append_nil] at this
    exact this
  · have h' : ordL m l = -1 := by have := ordL_flip m l; omega
    have := BL_ne (ordL_BL m l y x hm hl h' hy hx)
    exact .inr (.inr ⟨h, this.2.2, fun e => this.1 e.symm⟩)
theorem readL_app : ∀ (l : List S39) (x z : List UInt8), Bnd l → keyL l = some x → readL (x ++ z) = (readL z).map (fun t => l ++ t) := by
  intro l
  induction l with
  | nil => intro x z _ h; injection h with h; subst h; show readL z = _; cases readL z <;> rfl
  | cons p l ih =>
    intro x z hb h
    obtain ⟨a, b, h1, h2, rfl⟩ := keyL_inv h
    have hp := hb p (List.mem_cons_self ..)
    rw [List.append_assoc, readL_keyP hp.2 hp.1 h1, ih b z (fun p hp => hb p (List.mem_cons_of_mem _ hp)) h2]
    cases readL z <;> rfl
/-- Rows begin with each other as their keys do. -/
theorem begins_keys {l m : List S39} {x y : List UInt8} (hl : Bnd l) (hm : Bnd m) (hx : keyL l = some x) (hy : keyL m = some y) : (∃ z, y = x ++ z) ↔ ∃ t, m = l ++ t := by
  constructor
  · rintro ⟨z, rfl⟩
    have h1 := readL_keyL m _ hm hy
    rw [readL_app l x z hl hx] at h1
    cases hz : readL z with
    | none => rw [hz] at h1; cases h1
    | some t => rw [hz] at h1; injection h1 with h1; exact ⟨t, h1.symm⟩
  · rintro ⟨t, rfl⟩
    rw [keyL_append, hx, Option.bind_some] at hy
    cases ht : keyL t with
    | none => rw [ht] at hy; cases hy
    | some z => rw [ht] at hy; injection hy with hy; exact ⟨z, hy.symm⟩
theorem aftR_form : ∀ r : List UInt8, (∃ b, b ∈ r ∧ b ≠ 255) → ∃ u c k, r.reverse = u ++ c :: List.replicate k 255 ∧ c ≠ 255 ∧ aftR r = u ++ [c + 1] := by
  intro r
  induction r with
  | nil => rintro ⟨b, h, _⟩; cases h
  | cons x r ih =>
    rintro ⟨b, h, hb⟩
    by_cases hx : x = 255
    · subst hx
      have hbr : b ∈ r := by
        rcases List.mem_cons.1 h with e | e
        · exact absurd e hb
        · exact e
      obtain ⟨u, c, k, h1, h2, h3⟩ := ih ⟨b, hbr, hb⟩
      refine ⟨u, c, k + 1, ?_, h2, ?_⟩
      · rw [List.reverse_cons, h1, List.append_assoc, List.cons_append, ← List.replicate_succ']
      · rw [aftR, if_pos rfl]; exact h3
    · exact ⟨r.reverse, x, 0, by rw [List.reverse_cons]; rfl, hx, by rw [aftR, if_neg hx]⟩
theorem less_mid : ∀ (u y : List UInt8) (c : UInt8) (w : List UInt8), c ≠ 255 → Op.bytesLess y (u ++ c :: w) = false → Op.bytesLess y (u ++ [c + 1]) = true → ∃ z, y = u ++ c :: z ∧ Op.bytesLess z w = false := by
  intro u
  induction u with
  | nil =>
    intro y c w hc h1 h2
    cases y with
    | nil => cases h1
    | cons b y =>
      have h1 : Op.bytesLess (b :: y) (c :: w) = false := h1
      have h2 : Op.bytesLess (b :: y) [c + 1] = true := h2
      rw [Op.bytesLess] at h1 h2
      have hs := u8_succ hc
      have e0 : Op.bytesLess y [] = false := by cases y <;> rfl
      rw [e0, Bool.and_false, Bool.or_false, decide_eq_true_eq] at h2
      rw [Bool.or_eq_false_iff] at h1
      obtain ⟨h1, h3⟩ := h1
      have h1 : ¬ b < c := by simpa using h1
      have e1 := UInt8.lt_iff_toNat_lt.1 h2
      have e2 : ¬ b.toNat < c.toNat := fun e => h1 (UInt8.lt_iff_toNat_lt.2 e)
      have e3 : b = c := UInt8.toNat_inj.1 (by omega)
      subst e3
      refine ⟨y, rfl, ?_⟩
      simpa using h3
  | cons a u ih =>
    intro y c w hc h1 h2
    cases y with
    | nil => cases h1
    | cons b y =>
      have h1 : Op.bytesLess (b :: y) (a :: (u ++ c :: w)) = false := h1
      have h2 : Op.bytesLess (b :: y) (a :: (u ++ [c + 1])) = true := h2
      rw [Op.bytesLess] at h1 h2
      rw [Bool.or_eq_false_iff] at h1
      obtain ⟨h1, h3⟩ := h1
      rw [h1, Bool.false_or, Bool.and_eq_true] at h2
      obtain ⟨h4, h5⟩ := h2
      have e : b = a := by simpa using h4
      subst e
      obtain ⟨z, rfl, hz⟩ := ih y c w hc (by simpa using h3) h5
      exact ⟨z, rfl, hz⟩
theorem less_top : ∀ (k : Nat) (z : List UInt8), Op.bytesLess z (List.replicate k 255) = false → ∃ t, z = List.replicate k 255 ++ t := by
  intro k
  induction k with
  | zero => intro z _; exact ⟨z, rfl⟩
  | succ k ih =>
    intro z h
    cases z with
    | nil => cases h
    | cons b z =>
      rw [List.replicate_succ, Op.bytesLess, Bool.or_eq_false_iff] at h
      obtain ⟨h1, h2⟩ := h
      have h1 : ¬ b < 255 := by simpa using h1
      have e2 : ¬ b.toNat < 255 := fun e => h1 (UInt8.lt_iff_toNat_lt.2 e)
      have e3 := b.toNat_lt
      have e4 : b = 255 := UInt8.toNat_inj.1 (by show b.toNat = 255; omega)
      subst e4
      obtain ⟨t, rfl⟩ := ih z (by simpa using h2)
      exact ⟨t, rfl⟩
/-- What lies between a text and what After says of it. -/
theorem after_keys {x : List UInt8} (hx : ∃ b, b ∈ x ∧ b ≠ 255) (y : List UInt8) : Op.bytesLess x (aftL x) = true ∧ ((∃ z, y = x ++ z) → Op.bytesLess y x = false ∧ Op.bytesLess y (aftL x) = true) ∧ (Op.bytesLess y x = false → Op.bytesLess y (aftL x) = true → ∃ z, y = x ++ z) := by
  obtain ⟨b, hb, hb2⟩ := hx
  obtain ⟨u, c, k, h1, h2, h3⟩ := aftR_form x.reverse ⟨b, List.mem_reverse.2 hb, hb2⟩
  rw [List.reverse_reverse] at h1
  have h3 : aftL x = u ++ [c + 1] := h3
  have hD : DL x (aftL x) := ⟨u, c, c + 1, List.replicate k 255, [], h1, h3, UInt8.lt_iff_toNat_lt.2 (by rw [u8_succ h2]; omega)⟩
  refine ⟨(DL_less hD).1, ?_, ?_⟩
  · rintro ⟨z, rfl⟩
    refine ⟨(front_less x z).1, ?_⟩
    have := DL_append hD z []
    rw [List.append_nil] at this
    exact (DL_less this).1
  · intro g1 g2
    rw [h1] at g1
    rw [h3] at g2
    obtain ⟨z, rfl, hz⟩ := less_mid u y c _ h2 g1 g2
    obtain ⟨t, rfl⟩ := less_top k z hz
    exact ⟨t, by rw [h1, List.append_assoc, List.cons_append]⟩
theorem keyL_some {l : List S39} (h : (keyS l).2 = 0) : keyL l = some (keyS l).1 ∧ ∃ b, b ∈ (keyS l).1 ∧ b ≠ 255 := by
  have a3 := (keyS_len (l := l)).2.2 h
  unfold keyS at h ⊢
  rw [if_neg (by omega)] at h ⊢
  cases hk : keyL l with
  | none => rw [hk] at h; exact absurd h (by decide)
  | some k =>
    rw [hk] at h
    simp only at h ⊢
    by_cases h2 : 100 < k.length
    · rw [if_pos h2] at h; exact absurd h (by decide)
    · rw [if_neg h2]
      refine ⟨rfl, ?_⟩
      cases l with
      | nil => exact absurd a3.1 (by simp)
      | cons p l =>
        obtain ⟨a, b, h1, h2, rfl⟩ := keyL_inv hk
        obtain ⟨c, r, rfl, hc⟩ := keyP_head h1
        exact ⟨c, List.mem_cons_self .., hc⟩
end Go.Proofs.YthpngienphnaoaaDoor

/-
  What the document's own After, Order and Right say, in plain words.
-/
namespace Go.Proofs.YthpngienphnaoaaDoor
open Go.RowKit Go.Proofs.YthpngienphnaoaaDoorW.PrintWords Go.Proofs.YthpngienphnaoaaDoor.PTupleWorks

theorem leO_le {α : Type} {g : Nat → Option α} (h : ∀ k, LeO (g k) (g (k + 1))) {r : α} {k m : Nat} (hr : g k = some r) (hm : k ≤ m) : g m = some r := by
  obtain ⟨d, rfl⟩ : ∃ d, m = k + d := ⟨m - k, by omega⟩
  clear hm
  induction d with
  | zero => exact hr
  | succ d ih => exact h _ _ ih
theorem bt_get (s : ByteArray) (i : Nat) (h : i < s.data.toList.length) : bt s (i : Int) = ((s.data.toList[i]).toNat : Int) := by
  have hsz : s.data.toList.length = s.size := Array.length_toList
  unfold bt
  rw [dif_pos (by rw [Int.toNat_natCast]; omega)]
  simp only [Int.toNat_natCast]
  rfl
theorem wrap_nat (i : Nat) (h : i ≤ 9000000000000000000) : wrap64 (i : Int) = (i : Int) := by unfold wrap64; omega
theorem wrap_succ (i : Nat) (h : i ≤ 1000000000000000000) : wrap64 ((i : Int) + 1) = ((i + 1 : Nat) : Int) := by unfold wrap64; omega
theorem ofInt_nat (b : UInt8) : UInt8.ofNat ((b.toNat : Int)).toNat = b := by rw [Int.toNat_natCast]; exact UInt8.ofNat_toNat
set_option maxRecDepth 100000 in
theorem refAfter (s : ByteArray) (hs : s.size ≤ 10000000) : ∃ k, blotterref11_After.f k s = some (str (aftL s.data.toList)) := by
  have hsz : s.data.toList.length = s.size := Array.length_toList
  have key : ∀ i : Nat, i ≤ s.size → ∃ k, blotterref11_After.l0 k s ((i : Int) - 1) = some (str (aftL (s.data.toList.take i))) := by
    intro i
    induction i with
    | zero =>
      intro _
      refine ⟨1, ?_⟩
      rw [blotterref11_After.l0, if_neg (by omega)]
      rfl
    | succ i ih =>
      intro hi
      obtain ⟨k, hk⟩ := ih (by omega)
      refine ⟨k + 1, ?_⟩
      have hil : i < s.data.toList.length := by omega
      rw [show (((i + 1 : Nat) : Int) - 1) = (i : Int) by omega, blotterref11_After.l0, if_pos (by omega), if_pos (by omega), if_pos (by omega), bt_get s i hil]
      rw [List.take_succ_eq_append_getElem hil, aftL_snoc]
      have hb := (s.data.toList[i]).toNat_lt
      by_cases h : s.data.toList[i] = 255
      · rw [if_pos h, if_neg (by rw [h]; decide), show wrap64 ((i : Int) - 1) = (i : Int) - 1 by unfold wrap64; omega]
        exact hk
      · have h2 : (s.data.toList[i]).toNat ≠ 255 := fun e => h (UInt8.toNat_inj.1 e)
        rw [if_neg h, if_pos (by omega), if_pos (by omega), Option.bind_some, if_pos, Int.toNat_natCast]
        · congr 1
          apply ByteArray.ext
          apply Array.ext'
          rw [ByteArray.data_append, Array.toList_append, str_list, ext_list, List.drop_zero, strOfNums_data]
          congr 1
          rw [List.map_cons, List.map_nil]
          congr 1
          apply UInt8.toNat_inj.1
          rw [UInt8.toNat_ofNat', u8_succ h]
          omega
        · rw [Int.toNat_natCast, ByteArray.size_extract]
          have : (strOfNums [(((s.data.toList[i]).toNat : Int) + 1) % 256]).size = 1 := rfl
          omega
  obtain ⟨k, hk⟩ := key s.size (Nat.le_refl _)
  refine ⟨k, ?_⟩
  unfold blotterref11_After.f
  rw [show wrap64 ((s.size : Int) - 1) = (s.size : Int) - 1 by unfold wrap64; omega, hk, List.take_of_length_le (by omega)]
theorem cmpB_less (x y : ByteArray) : (Lib.compareBytes x.data.toList y.data.toList = -1 ∧ Op.bytesLess x.toList y.toList = true) ∨ (Lib.compareBytes x.data.toList y.data.toList = 0 ∧ Op.bytesLess x.toList y.toList = false ∧ (x.toList == y.toList) = true) ∨ (Lib.compareBytes x.data.toList y.data.toList = 1 ∧ Op.bytesLess x.toList y.toList = false ∧ (x.toList == y.toList) = false) := by
  have e1 : x.toList = x.data.toList := Lib.toList_data x
  have e2 : y.toList = y.data.toList := Lib.toList_data y
  rw [e1, e2]
  rcases cmpB x.data.toList y.data.toList with ⟨a, b⟩ | ⟨a, b⟩ | ⟨a, b⟩
  · exact .inl ⟨a, (BL_ne b).2.1⟩
  · refine .inr (.inl ⟨a, ?_, by rw [b]; simp⟩)
    have := (front_less x.data.toList []).1
    rw [List.append_nil] at this
    rw [← b]; exact this
  · refine .inr (.inr ⟨a, (BL_ne b).2.2, ?_⟩)
    rw [beq_eq_false_iff_ne]
    exact fun e => (BL_ne b).1 e.symm
set_option maxRecDepth 100000 in
theorem refOne (p q : S39) (k : Nat) : blotterref11_one.f (k + 2) p.f0 p.f1 p.f2 q.f0 q.f1 q.f2 = some (ordP p q) := by
  unfold ordP
  rw [orI3]
  unfold blotterref11_one.f
  rcases cmpI p.f0 q.f0 with ⟨a, b⟩ | ⟨a, b⟩ | ⟨a, b⟩
  · rw [a, if_neg (by omega), if_neg (by decide), blotterref11_one.j0, if_pos (by simpa using b), blotterref11_one.j1, if_pos (by simpa using b)]
  · rw [a, if_pos b, if_pos rfl, blotterref11_one.j0, if_neg (by decide), if_pos b]
    rcases cmpI p.f1 q.f1 with ⟨c, d⟩ | ⟨c, d⟩ | ⟨c, d⟩
    · rw [c, if_pos d, if_neg (by decide), blotterref11_one.j1, if_pos (by simpa using d)]
    · rw [c, if_neg (by omega), if_pos d, if_pos rfl, blotterref11_one.j1]
      rcases cmpB_less p.f2 q.f2 with ⟨e, f⟩ | ⟨e, f, g⟩ | ⟨e, f, g⟩
      · rw [e, f, if_pos rfl]
      · rw [e, f, if_neg (by decide), g, if_pos (by simp [b, d])]
      · rw [e, f, if_neg (by decide), g, if_neg (by simp)]
    · rw [c, if_neg (by omega), if_neg (by omega), if_neg (by decide), blotterref11_one.j1, if_neg (by decide), if_neg (by simp; omega)]
  · rw [a, if_neg (by omega), if_neg (by decide), blotterref11_one.j0, if_neg (by simp; omega), if_neg (by omega), blotterref11_one.j1, if_neg (by decide), if_neg (by simp; omega)]
theorem rd39_nat (l : List S39) (i : Nat) : rd_T39 l (i : Int) = l.getD i z39 := by unfold rd_T39; rw [Int.toNat_natCast]
set_option maxRecDepth 100000 in
theorem refOrder (l m : List S39) (hl : l.length ≤ 10000000) : ∃ k, blotterref11_Order.f k l m = some (ordL l m) := by
  have key : ∀ d i : Nat, l.length - i = d → i ≤ l.length → i ≤ m.length → ∃ k, blotterref11_Order.l0 k l m (i : Int) = some (ordL (l.drop i) (m.drop i)) := by
    intro d
    induction d with
    | zero =>
      intro i h1 h2 h3
      refine ⟨2, ?_⟩
      rw [blotterref11_Order.l0, if_neg (by omega), blotterref11_Order.j1, if_neg (by decide), ordL_end1 (by omega)]
      by_cases h : i < m.length
      · rw [if_pos (by omega), if_pos h]
      · rw [if_neg (by omega), if_neg (by omega), if_neg h]
    | succ d ih =>
      intro i h1 h2 h3
      have hi : i < l.length := by omega
      by_cases hm : i < m.length
      · obtain ⟨k, hk⟩ := ih (i + 1) (by omega) (by omega) (by omega)
        refine ⟨k + 2 + 2, ?_⟩
        rw [blotterref11_Order.l0, if_pos (by omega), blotterref11_Order.j1, if_pos (by simp; omega), if_pos (by omega), if_pos (by omega), if_pos (by omega), rd39_nat, rd39_nat, refOne, Option.bind_some, ordL_step hi hm, wrap_succ i (by omega)]
        by_cases h0 : ordP (l.getD i z39) (m.getD i z39) = 0
        · rw [if_pos h0, if_pos h0]
          exact leO_le (g := fun k => blotterref11_Order.l0 k l m ((i + 1 : Nat) : Int)) (fun k => (blotterref11_Order.mono_l k).1 _ _ _) hk (by omega)
        · rw [if_neg h0, if_neg h0]
      · refine ⟨2, ?_⟩
        rw [blotterref11_Order.l0, if_pos (by omega), blotterref11_Order.j1, if_neg (by simp; omega), if_neg (by omega), if_pos (by omega), ordL_end2 hi (by omega)]
  obtain ⟨k, hk⟩ := key l.length 0 (by omega) (by omega) (by omega)
  exact ⟨k, hk⟩
def okP (p : S39) : Bool := (keyP p).isSome
theorem okP_eq (p : S39) : okP p = (decide (p.f0 = 1 ∧ p.f2.data.toList = []) || decide (p.f0 = 2 ∧ p.f1 = 0)) := by
  unfold okP keyP
  by_cases h : p.f0 = 1 ∧ p.f2.data.toList = []
  · rw [if_pos h, decide_eq_true h]; rfl
  · rw [if_neg h, decide_eq_false h]
    by_cases h2 : p.f0 = 2 ∧ p.f1 = 0
    · rw [if_pos h2, decide_eq_true h2]; rfl
    · rw [if_neg h2, decide_eq_false h2]; rfl
set_option maxRecDepth 100000 in
theorem refRight (l : List S39) (hl : l.length ≤ 10000000) : ∃ k, blotterref11_Right.f k l = some (l.all okP && (decide (1 ≤ l.length) && decide (l.length ≤ 8))) := by
  have key : ∀ d i : Nat, l.length - i = d → i ≤ l.length → ∃ k, blotterref11_Right.l0 k l (i : Int) = some ((l.drop i).all okP && (decide (1 ≤ l.length) && decide (l.length ≤ 8))) := by
    intro d
    induction d with
    | zero =>
      intro i h1 h2
      refine ⟨1, ?_⟩
      rw [blotterref11_Right.l0, if_neg (by omega), List.drop_eq_nil_of_le (by omega)]
      by_cases h : (l.length : Int) ≥ 1
      · have h' : 1 ≤ l.length := by omega
        rw [if_pos h, show decide ((l.length : Int) ≤ 8) = decide (l.length ≤ 8) by rw [decide_eq_decide]; omega]; simp [h']
      · have h' : ¬ 1 ≤ l.length := by omega
        rw [if_neg h]; simp [h']
    | succ d ih =>
      intro i h1 h2
      have hi : i < l.length := by omega
      obtain ⟨k, hk⟩ := ih (i + 1) (by omega) (by omega)
      refine ⟨k + 1, ?_⟩
      have e : l.getD i z39 = l[i] := by rw [List.getD_eq_getElem?_getD, List.getElem?_eq_getElem hi]; rfl
      rw [blotterref11_Right.l0, if_pos (by omega), if_pos (by omega), rd39_nat, e, wrap_succ i (by omega), hk, List.drop_eq_getElem_cons hi, List.all_cons, okP_eq]
      have et : (l[i]).f2.toList = (l[i]).f2.data.toList := Lib.toList_data _
      rw [et]
      generalize l[i] = p
      obtain ⟨x0, x1, x2⟩ := p
      simp only
      by_cases a1 : x0 = 1
      · subst a1
        by_cases a2 : x2.data.toList = []
        · rw [if_pos rfl, if_pos a2]; simp [a2]
        · rw [if_pos rfl, if_neg a2, if_neg (by decide)]; simp [a2]
      · rw [if_neg a1]
        by_cases a3 : x0 = 2
        · subst a3
          by_cases a4 : x1 = 0
          · rw [if_pos rfl, if_pos a4]; simp [a4]
          · rw [if_pos rfl, if_neg a4]; simp [a4]
        · rw [if_neg a3]; simp [a1, a3]
  obtain ⟨k, hk⟩ := key l.length 0 (by omega) (by omega)
  exact ⟨k, hk⟩
end Go.Proofs.YthpngienphnaoaaDoor

/-
  What the document's own Key says, in plain words.
-/
namespace Go.Proofs.YthpngienphnaoaaDoor
open Go.RowKit Go.Proofs.YthpngienphnaoaaDoorW.PrintWords Go.Proofs.YthpngienphnaoaaDoor.PTupleWorks

/-- Bytes as numbers. -/
def intsL (l : List UInt8) : List Int := l.map fun b => (b.toNat : Int)
theorem intsL_length (l : List UInt8) : (intsL l).length = l.length := by unfold intsL; rw [List.length_map]
theorem intsL_append (l m : List UInt8) : intsL (l ++ m) = intsL l ++ intsL m := by unfold intsL; rw [List.map_append]
theorem strOf_ints (l : List UInt8) : strOfNums (intsL l) = str l := by
  apply ByteArray.ext
  apply Array.ext'
  rw [strOfNums_data, str_list]
  unfold intsL
  rw [List.map_map]
  induction l with
  | nil => rfl
  | cons b l ih =>
    rw [List.map_cons, ih]
    congr 1
    exact ofInt_nat b
/-- What is answered where so much is laid already and so much is to come. -/
def FK (x : List Int) (r : List UInt8) : ByteArray × Int := if 100 < x.length + r.length then (⟨#[]⟩, 2) else (strOfNums (x ++ intsL r), 0)
theorem FK_move (x : List Int) (a r : List UInt8) : FK (x ++ intsL a) r = FK x (a ++ r) := by
  unfold FK
  rw [List.length_append, List.length_append, intsL_length, intsL_append, List.append_assoc, Nat.add_assoc]
theorem FK_long {x : List Int} (h : 100 < x.length) (r : List UInt8) : FK x r = (⟨#[]⟩, 2) := by unfold FK; rw [if_pos (by omega)]
theorem wrap_pred (i : Nat) (h : i ≤ 1000000000000000000) : wrap64 ((i : Int) - 1) = (i : Int) - 1 := by unfold wrap64; omega
set_option maxRecDepth 100000 in
/-- The number's loop. -/
theorem refKey_l1 (l : List S39) (i : Nat) (n : Int) (v : ByteArray × Int) : ∀ (j : Nat) (x : List Int), j ≤ 8 → x.length + j ≤ 1000000 → (∃ k, blotterref11_Key.l0 k l (x ++ intsL ((eightL n).drop (8 - j))) (wrap64 ((i : Int) + 1)) = some v) →
    ∃ k, blotterref11_Key.l1 k l x (i : Int) ((upN n : Nat) : Int) ((j : Int) - 1) = some v := by
  intro j
  induction j with
  | zero =>
    intro x _ _ h
    obtain ⟨k, hk⟩ := h
    refine ⟨k + 1, ?_⟩
    rw [blotterref11_Key.l1, if_neg (by omega)]
    rw [show (8 - 0 : Nat) = 8 from rfl, List.drop_eq_nil_of_le (by rw [eightL_length]; exact Nat.le_refl _)] at hk
    rw [show intsL [] = [] from rfl, List.append_nil] at hk
    exact hk
  | succ j ih =>
    intro x hj hx h
    have hl : 8 - (j + 1) < (eightL n).length := by rw [eightL_length]; omega
    have hg : (eightL n)[8 - (j + 1)] = UInt8.ofNat (upN n / 2 ^ (8 * j) % 256) := by
      have h := eightL_get n (8 - (j + 1)) (by omega)
      rw [List.getElem?_eq_getElem hl] at h
      injection h with h
      rw [h]
      congr 3
      have : 56 - 8 * (8 - (j + 1)) = 8 * j := by omega
      rw [this]
    obtain ⟨k, hk⟩ := ih (x ++ [(upN n : Int) / 2 ^ (8 * j) % 256]) (by omega) (by rw [List.length_append]; simp; omega) (by
      obtain ⟨k, hk⟩ := h
      refine ⟨k, ?_⟩
      rw [List.drop_eq_getElem_cons hl, hg] at hk
      rw [show 8 - (j + 1) + 1 = 8 - j by omega] at hk
      rw [List.append_assoc]
      have e : ([(upN n : Int) / 2 ^ (8 * j) % 256] ++ intsL ((eightL n).drop (8 - j))) = intsL (UInt8.ofNat (upN n / 2 ^ (8 * j) % 256) :: (eightL n).drop (8 - j)) := by
        unfold intsL
        rw [List.map_cons, List.singleton_append, ofNat_mod]
        congr 1
      rw [e]
      exact hk)
    refine ⟨k + 1, ?_⟩
    have hs : wrap64 (8 * (((j + 1 : Nat) : Int) - 1)) = ((8 * j : Nat) : Int) := by unfold wrap64; omega
    have hsh : shr .u64 ((upN n : Nat) : Int) ((8 * j : Nat) : Int) = (upN n : Int) / 2 ^ (8 * j) := by
      unfold shr
      rw [Int.toNat_natCast, show min (8 * j) IntKind.u64.bits = 8 * j by rw [show IntKind.u64.bits = 64 from rfl]; omega]
    rw [blotterref11_Key.l1, if_pos (by omega), hs, if_pos (by omega), if_pos (by omega), hsh, show wrap64 ((((j + 1 : Nat) : Int) - 1) - 1) = (j : Int) - 1 by unfold wrap64; omega]
    exact hk
set_option maxRecDepth 100000 in
/-- The text's loop. -/
theorem refKey_l2 (l : List S39) (i : Nat) (hi : i < l.length) (b : List UInt8) (B : Nat) (hB : 102 ≤ B) (hB2 : B ≤ 1000000) (hS : (l.getD i z39).f2.size ≤ 10000000)
    (h : ∀ x : List Int, x.length ≤ B + 2 → ∃ k, blotterref11_Key.l0 k l x (wrap64 ((i : Int) + 1)) = some (FK x b)) :
    ∀ (d j : Nat) (x : List Int), j ≤ (l.getD i z39).f2.data.toList.length → (l.getD i z39).f2.data.toList.length - j = d → x.length ≤ B →
      ∃ k, blotterref11_Key.l2 k l x (i : Int) (j : Int) = some (FK x (escL ((l.getD i z39).f2.data.toList.drop j) ++ [0, 0] ++ b)) := by
  have hsz : (l.getD i z39).f2.data.toList.length = (l.getD i z39).f2.size := Array.length_toList
  intro d
  induction d with
  | zero =>
    intro j x hj hd hx
    obtain ⟨k, hk⟩ := h (x ++ [0, 0]) (by rw [List.length_append]; simp; omega)
    refine ⟨k + 2, ?_⟩
    rw [blotterref11_Key.l2, if_pos (by omega), if_pos (by omega), rd39_nat, if_neg (by omega), blotterref11_Key.j3, if_neg (by decide), Option.bind_some, if_pos (by simp; omega), hk, List.drop_eq_nil_of_le (by omega)]
    rw [show ([0, 0] : List Int) = intsL [0, 0] from rfl, FK_move]
    rfl
  | succ d ih =>
    intro j x hj hd hx
    have hjl : j < (l.getD i z39).f2.data.toList.length := by omega
    by_cases h100 : x.length ≤ 100
    · have hbt := bt_get (l.getD i z39).f2 j hjl
      by_cases h0 : (l.getD i z39).f2.data.toList[j] = 0
      · obtain ⟨k, hk⟩ := ih (j + 1) (x ++ [0] ++ [255]) (by omega) (by omega) (by simp; omega)
        refine ⟨k + 2, ?_⟩
        rw [h0] at hbt
        rw [blotterref11_Key.l2, if_pos (by omega), if_pos (by omega), rd39_nat, if_pos (by omega), blotterref11_Key.j3, if_pos (by simp; omega), if_pos (by omega), if_pos (by omega), if_pos (by omega), rd39_nat, if_pos (by omega), if_pos (by omega), Option.bind_some, hbt, if_pos (by decide), if_pos (by simp; omega), wrap_succ j (by omega)]
        rw [show (((0 : UInt8).toNat : Nat) : Int) = 0 from rfl, hk, List.drop_eq_getElem_cons hjl, h0, escL_cons, if_pos rfl, List.append_assoc x]
        rw [show ([0] ++ [255] : List Int) = intsL [0, 255] from rfl, FK_move]
        simp only [List.append_assoc]
      · obtain ⟨k, hk⟩ := ih (j + 1) (x ++ intsL [(l.getD i z39).f2.data.toList[j]]) (by omega) (by omega) (by rw [List.length_append, intsL_length]; simp; omega)
        refine ⟨k + 2, ?_⟩
        have hne : ¬ (((l.getD i z39).f2.data.toList[j]).toNat : Int) = 0 := fun e => h0 (UInt8.toNat_inj.1 (by show _ = 0; omega))
        rw [blotterref11_Key.l2, if_pos (by omega), if_pos (by omega), rd39_nat, if_pos (by omega), blotterref11_Key.j3, if_pos (by simp; omega), if_pos (by omega), if_pos (by omega), if_pos (by omega), rd39_nat, if_pos (by omega), if_pos (by omega), Option.bind_some, hbt, if_neg hne, wrap_succ j (by omega)]
        refine hk.trans ?_
        rw [FK_move, List.drop_eq_getElem_cons hjl, escL_cons, if_neg h0]
        simp only [List.append_assoc]
    · obtain ⟨k, hk⟩ := h (x ++ [0, 0]) (by rw [List.length_append]; simp; omega)
      refine ⟨k + 2, ?_⟩
      rw [blotterref11_Key.l2, if_pos (by omega), if_pos (by omega), rd39_nat, if_pos (by omega), blotterref11_Key.j3, if_neg (by simp; omega), Option.bind_some, if_pos (by simp; omega), hk, FK_long (by rw [List.length_append]; omega), FK_long (by omega)]
set_option maxRecDepth 100000 in
theorem refKey_l0 (l : List S39) (hl : l.length ≤ 8) (hok : PartsOk l) : ∀ (d i : Nat) (x : List Int) (r : List UInt8), i ≤ l.length → l.length - i = d → x.length ≤ 300 * (i + 1) → keyL (l.drop i) = some r →
    ∃ k, blotterref11_Key.l0 k l x (i : Int) = some (FK x r) := by
  intro d
  induction d with
  | zero =>
    intro i x r hi hd hx hr
    rw [List.drop_eq_nil_of_le (by omega)] at hr
    injection hr with hr
    subst hr
    refine ⟨1, ?_⟩
    rw [blotterref11_Key.l0, if_neg (by omega)]
    unfold FK
    by_cases h : 100 < x.length
    · rw [if_pos (by omega), if_pos (by simpa using h)]
    · rw [if_neg (by omega), if_neg (by simpa using h)]
      rw [show intsL [] = [] from rfl, List.append_nil]
  | succ d ih =>
    intro i x r hi hd hx hr
    have hil : i < l.length := by omega
    rw [List.drop_eq_getElem_cons hil] at hr
    obtain ⟨a, b, h1, h2, rfl⟩ := keyL_inv hr
    have e : l.getD i z39 = l[i] := by rw [List.getD_eq_getElem?_getD, List.getElem?_eq_getElem hil]; rfl
    have hp := hok l[i] (List.getElem_mem hil)
    rw [← e] at hp h1
    have ih' : ∀ y : List Int, y.length ≤ 300 * (i + 2) → ∃ k, blotterref11_Key.l0 k l y (wrap64 ((i : Int) + 1)) = some (FK y b) := by
      intro y hy
      rw [wrap_succ i (by omega)]
      exact ih (i + 1) y b (by omega) (by omega) (by omega) h2
    by_cases c1 : (l.getD i z39).f0 = 1
    · have ha : a = 1 :: eightL (l.getD i z39).f1 := by
        unfold keyP at h1
        by_cases c2 : (l.getD i z39).f2.data.toList = []
        · rw [if_pos ⟨c1, c2⟩] at h1; injection h1 with h1; exact h1.symm
        · rw [if_neg (fun h => c2 h.2), if_neg (fun h => by have := h.1; omega)] at h1; cases h1
      obtain ⟨k, hk⟩ := refKey_l1 l i (l.getD i z39).f1 (FK x (a ++ b)) 8 (x ++ [1]) (Nat.le_refl _) (by simp; omega) (by
        obtain ⟨k, hk⟩ := ih' (x ++ intsL a) (by rw [List.length_append, intsL_length, ha, List.length_cons, eightL_length]; omega)
        refine ⟨k, ?_⟩
        rw [← FK_move, ← hk, ha, List.append_assoc]
        rfl)
      refine ⟨k + 1, ?_⟩
      have hu : IntKind.u64.wrap (IntKind.u64.wrap (l.getD i z39).f1 + 9223372036854775808) = ((upN (l.getD i z39).f1 : Nat) : Int) := by
        have h0 := hp.2.1
        have h9 := hp.2.2
        rw [IntKind.wrap_u64, IntKind.wrap_u64]
        unfold upN; omega
      rw [blotterref11_Key.l0, if_pos (by omega), if_pos (by omega), if_pos (by omega), rd39_nat, Option.bind_some, if_pos c1, c1, hu]
      exact hk
    · have hf : (l.getD i z39).f0 = 2 ∧ a = 2 :: (escL (l.getD i z39).f2.data.toList ++ [0, 0]) := by
        unfold keyP at h1
        rw [if_neg (fun h => c1 h.1)] at h1
        by_cases c2 : (l.getD i z39).f0 = 2 ∧ (l.getD i z39).f1 = 0
        · rw [if_pos c2] at h1; injection h1 with h1; exact ⟨c2.1, h1.symm⟩
        · rw [if_neg c2] at h1; cases h1
      obtain ⟨k, hk⟩ := refKey_l2 l i hil b (300 * (i + 1) + 1) (by omega) (by omega) hp.1 (fun y hy => ih' y (by omega)) _ 0 (x ++ [2]) (Nat.zero_le _) rfl (by simp; omega)
      refine ⟨k + 1, ?_⟩
      rw [blotterref11_Key.l0, if_pos (by omega), if_pos (by omega), if_pos (by omega), rd39_nat, Option.bind_some, if_neg c1, hf.1]
      refine hk.trans ?_
      rw [hf.2, show ([2] : List Int) = intsL [2] from rfl, FK_move, List.drop_zero]
      simp only [List.append_assoc, List.cons_append, List.nil_append]
theorem all_keyL : ∀ l : List S39, l.all okP = (keyL l).isSome := by
  intro l
  induction l with
  | nil => rfl
  | cons p l ih =>
    rw [List.all_cons, ih, keyL_cons]
    unfold okP
    cases keyP p with
    | none => rfl
    | some a => cases keyL l <;> rfl
set_option maxRecDepth 100000 in
theorem refKey (l : List S39) (hl : l.length ≤ 10000000) (hok : PartsOk l) : ∃ k, blotterref11_Key.f k l = some (str (keyS l).1, (keyS l).2) := by
  obtain ⟨k1, h1⟩ := refRight l hl
  unfold keyS
  by_cases hlen : l.length < 1 ∨ 8 < l.length
  · refine ⟨k1, ?_⟩
    rw [if_pos hlen]
    unfold blotterref11_Key.f
    rw [h1, Option.bind_some, if_neg (by simp; omega)]
    rfl
  · rw [if_neg hlen]
    cases hk : keyL l with
    | none =>
      refine ⟨k1, ?_⟩
      unfold blotterref11_Key.f
      rw [h1, Option.bind_some, all_keyL, hk, if_neg (by simp)]
      rfl
    | some r =>
      obtain ⟨k2, h2⟩ := refKey_l0 l (by omega) hok l.length 0 [] r (Nat.zero_le _) (by omega) (by simp) (by rw [List.drop_zero]; exact hk)
      refine ⟨k1 + k2, ?_⟩
      unfold blotterref11_Key.f
      rw [leO_le (g := fun k => blotterref11_Right.f k l) (fun k => blotterref11_Right.mono l k) h1 (by omega : k1 ≤ k1 + k2), Option.bind_some, all_keyL, hk, if_pos (by simp; omega)]
      rw [leO_le (g := fun k => blotterref11_Key.l0 k l [] 0) (fun k => (blotterref11_Key.mono_l k).1 _ _ _) h2 (by omega : k2 ≤ k1 + k2)]
      unfold FK
      simp only [List.length_nil, Nat.zero_add, List.nil_append]
      by_cases h100 : 100 < r.length
      · rw [if_pos h100, if_pos h100]; rfl
      · rw [if_neg h100, if_neg h100, strOf_ints]
end Go.Proofs.YthpngienphnaoaaDoor

/-
  What the document's own Read says, in plain words.
-/
namespace Go.Proofs.YthpngienphnaoaaDoor
open Go.RowKit Go.Proofs.YthpngienphnaoaaDoorW.PrintWords Go.Proofs.YthpngienphnaoaaDoor.PTupleWorks

/-- An answer that is one: none, or a row whose key that is. -/
def GoodR (b : List UInt8) (v : List S39 × Int) : Prop := v = ([], 110) ∨ ∃ p, PartsOk p ∧ keyS p = (b, 0) ∧ v = (p, 0)
/-- What holds at the head of Read's loop. -/
def P0 (s : ByteArray) (i : Nat) : Prop := ∀ x4 : List S39, PartsOk x4 → x4.length ≤ i → ∃ k v, blotterref11_Read.l0 k s x4 (i : Int) = some v ∧ GoodR s.data.toList v ∧ (i ≤ s.size → ∀ m, readL (s.data.toList.drop i) = some m → keyS (x4 ++ m) = (s.data.toList, 0) → v = (x4 ++ m, 0))
theorem partsOk_snoc {x : List S39} {p : S39} (h : PartsOk x) (hp : p.f2.size ≤ 10000000 ∧ -9223372036854775808 ≤ p.f1 ∧ p.f1 ≤ 9223372036854775807) : PartsOk (x ++ [p]) := by
  intro q hq
  rcases List.mem_append.1 hq with hq | hq
  · exact h q hq
  · rw [List.mem_singleton] at hq; subst hq; exact hp
set_option maxRecDepth 100000 in
theorem refRead_end (s : ByteArray) (i : Nat) (hi : s.size ≤ i) (hi2 : i ≤ 1000) : P0 s i := by
  intro x4 hok hx
  have hsz : s.data.toList.length = s.size := Array.length_toList
  obtain ⟨k, hk⟩ := refKey x4 (by omega) hok
  have e1 : ∀ y : ByteArray, y.toList = y.data.toList := fun y => Lib.toList_data y
  by_cases h : (keyS x4).2 = 0 ∧ (keyS x4).1 = s.data.toList
  · refine ⟨k + 1, (x4, 0), ?_, .inr ⟨x4, hok, ?_, rfl⟩, ?_⟩
    · rw [blotterref11_Read.l0, if_neg (by omega), hk, Option.bind_some, if_pos h.1, if_pos (by rw [e1, e1, str_list]; exact h.2)]
    · rw [← h.1, ← h.2]
    · intro h1 m hm _
      rw [List.drop_eq_nil_of_le (by omega), readL_nil] at hm
      injection hm with hm
      subst hm
      rw [List.append_nil]
  · refine ⟨k + 1, ([], 110), ?_, .inl rfl, ?_⟩
    · rw [blotterref11_Read.l0, if_neg (by omega), hk, Option.bind_some]
      by_cases h2 : (keyS x4).2 = 0
      · rw [if_pos h2, if_neg (by rw [e1, e1, str_list]; exact fun h3 => h ⟨h2, h3⟩)]
      · rw [if_neg h2]
    · intro h1 m hm hk2
      rw [List.drop_eq_nil_of_le (by omega), readL_nil] at hm
      injection hm with hm
      subst hm
      rw [List.append_nil] at hk2
      exact absurd ⟨by rw [hk2], by rw [hk2]⟩ h
set_option maxRecDepth 100000 in
theorem refRead_l1 (s : ByteArray) (hs : s.size ≤ 100) (x4 : List S39) (hx : x4.length ≤ 1000) (i : Nat) (hi : i + 8 ≤ s.size) (t0 t1 : Int) (t2 : ByteArray) (v : List S39 × Int)
    (h : ∃ k, blotterref11_Read.l0 k s (x4 ++ [⟨t0, (valN ((s.data.toList.drop i).take 8) : Int) - 9223372036854775808, t2⟩]) ((i + 8 : Nat) : Int) = some v) :
    ∀ d j : Nat, j ≤ 8 → 8 - j = d → ∃ k, blotterref11_Read.l1 k s x4 (i : Int) ((valN ((s.data.toList.drop i).take j) : Nat) : Int) (j : Int) t0 t1 t2 = some v := by
  have hsz : s.data.toList.length = s.size := Array.length_toList
  have hlt : ∀ j : Nat, j ≤ 8 → valN ((s.data.toList.drop i).take j) < 256 ^ j := by
    intro j hj
    have h := valN_lt ((s.data.toList.drop i).take j)
    rw [show ((s.data.toList.drop i).take j).length = j by rw [List.length_take, List.length_drop]; omega] at h
    exact h
  intro d
  induction d with
  | zero =>
    intro j hj hd
    obtain ⟨k, hk⟩ := h
    have e : j = 8 := by omega
    subst e
    refine ⟨k + 1, ?_⟩
    have hv : valN ((s.data.toList.drop i).take 8) < 18446744073709551616 := hlt 8 (Nat.le_refl _)
    rw [blotterref11_Read.l1, if_neg (by omega), if_pos (by omega), IntKind.wrap_u64]
    rw [show wrap64 (((valN ((s.data.toList.drop i).take 8) : Int) - 9223372036854775808) % 18446744073709551616) = (valN ((s.data.toList.drop i).take 8) : Int) - 9223372036854775808 by unfold wrap64; omega]
    rw [show wrap64 ((i : Int) + 8) = ((i + 8 : Nat) : Int) by unfold wrap64; omega]
    exact hk
  | succ d ih =>
    intro j hj hd
    obtain ⟨k, hk⟩ := ih (j + 1) (by omega) (by omega)
    refine ⟨k + 1, ?_⟩
    have hjl : j < (s.data.toList.drop i).length := by rw [List.length_drop]; omega
    have hv7 : valN ((s.data.toList.drop i).take j) < 256 ^ 7 := Nat.lt_of_lt_of_le (hlt j (by omega)) (Nat.pow_le_pow_right (by omega) (by omega))
    have hv : valN ((s.data.toList.drop i).take j) < 72057594037927936 := hv7
    have hil : i + j < s.data.toList.length := by omega
    rw [List.take_succ_eq_append_getElem hjl, valN_snoc, List.getElem_drop] at hk
    have hb := (s.data.toList[i + j]).toNat_lt
    rw [blotterref11_Read.l1, if_pos (by omega), show wrap64 ((i : Int) + (j : Int)) = ((i + j : Nat) : Int) by unfold wrap64; omega, if_pos (by omega), if_pos (by omega), bt_get s (i + j) hil]
    rw [IntKind.wrap_u64, IntKind.wrap_u64, IntKind.wrap_u64, wrap_succ j (by omega)]
    rw [show (((valN ((s.data.toList.drop i).take j) : Nat) : Int) * 256 % 18446744073709551616 + ((s.data.toList[i + j]).toNat : Int) % 18446744073709551616) % 18446744073709551616 = ((valN ((s.data.toList.drop i).take j) * 256 + (s.data.toList[i + j]).toNat : Nat) : Int) by omega]
    exact hk
set_option maxRecDepth 100000 in
theorem refRead_l2 (s : ByteArray) (hs : s.size ≤ 100) (x4 : List S39) (hok : PartsOk x4) (i : Nat) (hx : x4.length ≤ i) (hP : ∀ j, i < j → j ≤ 1000 → P0 s j) :
    ∀ (d j : Nat) (c : List UInt8), i < j → j ≤ s.size → s.size - j ≤ d → c.length ≤ j → ∃ k v, blotterref11_Read.l2 k s x4 (j : Int) (intsL c) 2 0 ⟨#[]⟩ = some v ∧ GoodR s.data.toList v ∧
      (∀ t q m, unT (s.data.toList.drop j) = some (t, q) → readL q = some m → keyS (x4 ++ (⟨2, 0, str (c ++ t)⟩ :: m)) = (s.data.toList, 0) → v = (x4 ++ (⟨2, 0, str (c ++ t)⟩ :: m), 0)) := by
  have hsz : s.data.toList.length = s.size := Array.length_toList
  have hout : ∀ (j : Nat) (c : List UInt8), i < j → j ≤ s.size → c.length ≤ j → ∃ k v, blotterref11_Read.j3 k s x4 (j : Int) (intsL c) false 2 0 ⟨#[]⟩ = some v ∧ GoodR s.data.toList v ∧ (j + 2 ≤ s.size → ∀ m, readL (s.data.toList.drop (j + 2)) = some m → keyS (x4 ++ (⟨2, 0, str c⟩ :: m)) = (s.data.toList, 0) → v = (x4 ++ (⟨2, 0, str c⟩ :: m), 0)) := by
    intro j c h1 h2 h3
    obtain ⟨k, v, g1, g2, g3⟩ := hP (j + 2) (by omega) (by omega) (x4 ++ [⟨2, 0, str c⟩]) (partsOk_snoc hok ⟨by show (str c).size ≤ _; rw [str_size]; omega, by show (-9223372036854775808 : Int) ≤ 0; omega, by show (0 : Int) ≤ 9223372036854775807; omega⟩) (by rw [List.length_append]; simp; omega)
    refine ⟨k + 1, v, ?_, g2, ?_⟩
    · rw [blotterref11_Read.j3, if_neg (by decide), if_pos (by omega), strOf_ints, show wrap64 ((j : Int) + 2) = ((j + 2 : Nat) : Int) by unfold wrap64; omega]
      exact g1
    · intro h4 m hm hk
      have := g3 h4 m hm (by rw [List.append_assoc]; exact hk)
      rw [List.append_assoc] at this
      exact this
  intro d
  induction d with
  | zero =>
    intro j c h1 h2 h3 h4
    obtain ⟨k, v, g1, g2, g3⟩ := hout j c h1 h2 h4
    refine ⟨k + 1, v, ?_, g2, ?_⟩
    · rw [blotterref11_Read.l2, if_neg (by omega)]
      exact g1
    · intro t q m hu
      rw [List.drop_eq_nil_of_le (by omega), unT] at hu
      cases hu
  | succ d ih =>
    intro j c h1 h2 h3 h4
    by_cases hjs : j < s.size
    · have hjl : j < s.data.toList.length := by omega
      have hbt := bt_get s j hjl
      have hdrop := List.drop_eq_getElem_cons hjl
      by_cases h0 : s.data.toList[j] = 0
      · rw [h0] at hbt hdrop
        have hbt : bt s (j : Int) = 0 := hbt
        by_cases he : j + 1 = s.size
        · obtain ⟨k, v, g1, g2, g3⟩ := hout j c h1 h2 h4
          refine ⟨k + 1, v, ?_, g2, ?_⟩
          · rw [blotterref11_Read.l2, if_pos (by omega), if_pos (by omega), if_pos hbt, wrap_succ j (by omega), if_pos (by omega)]
            exact g1
          · intro t q m hu
            rw [hdrop, List.drop_eq_nil_of_le (by omega), unT_0n] at hu
            cases hu
        · have hjl2 : j + 1 < s.data.toList.length := by omega
          have hbt2 := bt_get s (j + 1) hjl2
          rw [List.drop_eq_getElem_cons hjl2] at hdrop
          by_cases h255 : s.data.toList[j + 1] = 255
          · rw [h255] at hbt2 hdrop
            have hbt2 : bt s ((j + 1 : Nat) : Int) = 255 := hbt2
            obtain ⟨k, v, g1, g2, g3⟩ := ih (j + 2) (c ++ [0]) (by omega) (by omega) (by omega) (by simp; omega)
            refine ⟨k + 2, v, ?_, g2, ?_⟩
            · rw [blotterref11_Read.l2, if_pos (by omega), if_pos (by omega), if_pos hbt, wrap_succ j (by omega), if_neg (by omega), if_pos (by omega), if_pos (by omega), hbt2]
              rw [blotterref11_Read.j3, if_pos (by decide), if_pos (by omega), if_pos (by omega), if_pos (by rw [intsL_length]; omega), Option.bind_some, if_pos hbt, hbt, wrap_succ j (by omega), wrap_succ (j + 1) (by omega)]
              rw [intsL_append] at g1
              exact g1
            · intro t q m hu hm hk
              rw [hdrop, unT_0f] at hu
              cases hu2 : unT (s.data.toList.drop (j + 1 + 1)) with
              | none => rw [hu2] at hu; cases hu
              | some x =>
                obtain ⟨t', q'⟩ := x
                rw [hu2] at hu
                injection hu with hu
                injection hu with e1 e2
                subst e1; subst e2
                have := g3 t' q' m hu2 hm (by rw [List.append_assoc]; exact hk)
                rw [List.append_assoc] at this
                exact this
          · have hne : ¬ ((s.data.toList[j + 1]).toNat : Int) = 255 := fun e => h255 (UInt8.toNat_inj.1 (by show _ = 255; omega))
            obtain ⟨k, v, g1, g2, g3⟩ := hout j c h1 h2 h4
            refine ⟨k + 1, v, ?_, g2, ?_⟩
            · rw [blotterref11_Read.l2, if_pos (by omega), if_pos (by omega), if_pos hbt, wrap_succ j (by omega), if_neg (by omega), if_pos (by omega), if_pos (by omega), hbt2, show (((s.data.toList[j + 1]).toNat : Int) != 255) = true by rw [bne_iff_ne]; exact hne]
              exact g1
            · intro t q m hu hm hk
              rw [hdrop] at hu
              by_cases hz : s.data.toList[j + 1] = 0
              · rw [hz, unT_00] at hu
                injection hu with hu
                injection hu with e1 e2
                subst e1; subst e2
                rw [List.append_nil] at hk ⊢
                exact g3 (by omega) m hm hk
              · rw [unT_0b hz h255] at hu; cases hu
      · have hne : ¬ ((s.data.toList[j]).toNat : Int) = 0 := fun e => h0 (UInt8.toNat_inj.1 (by show _ = 0; omega))
        obtain ⟨k, v, g1, g2, g3⟩ := ih (j + 1) (c ++ [s.data.toList[j]]) (by omega) (by omega) (by omega) (by simp; omega)
        refine ⟨k + 2, v, ?_, g2, ?_⟩
        · rw [blotterref11_Read.l2, if_pos (by omega), if_pos (by omega), hbt, if_neg hne]
          rw [blotterref11_Read.j3, if_pos (by decide), if_pos (by omega), if_pos (by omega), if_pos (by rw [intsL_length]; omega), Option.bind_some, hbt, if_neg hne, wrap_succ j (by omega)]
          rw [intsL_append] at g1
          exact g1
        · intro t q m hu hm hk
          rw [hdrop, unT_ne h0] at hu
          cases hu2 : unT (s.data.toList.drop (j + 1)) with
          | none => rw [hu2] at hu; cases hu
          | some x =>
            obtain ⟨t', q'⟩ := x
            rw [hu2] at hu
            injection hu with hu
            injection hu with e1 e2
            subst e1; subst e2
            have := g3 t' q' m hu2 hm (by rw [List.append_assoc]; exact hk)
            rw [List.append_assoc] at this
            exact this
    · obtain ⟨k, v, g1, g2, g3⟩ := hout j c h1 h2 h4
      refine ⟨k + 1, v, ?_, g2, ?_⟩
      · rw [blotterref11_Read.l2, if_neg (by omega)]
        exact g1
      · intro t q m hu
        rw [List.drop_eq_nil_of_le (by omega), unT] at hu
        cases hu
set_option maxRecDepth 100000 in
theorem refRead_l0 (s : ByteArray) (hs : s.size ≤ 100) : ∀ (d i : Nat), s.size - i ≤ d → i ≤ 1000 → P0 s i := by
  have hsz : s.data.toList.length = s.size := Array.length_toList
  intro d
  induction d with
  | zero => intro i h1 h2; exact refRead_end s i (by omega) h2
  | succ d ih =>
    intro i h1 h2
    by_cases hi : s.size ≤ i
    · exact refRead_end s i hi h2
    · intro x4 hok hx
      have hil : i < s.data.toList.length := by omega
      have hbt := bt_get s i hil
      have hdrop := List.drop_eq_getElem_cons hil
      have hb := (s.data.toList[i]).toNat_lt
      have hw : wrap64 (((s.data.toList[i]).toNat : Nat) : Int) = ((s.data.toList[i]).toNat : Int) := wrap_nat _ (by omega)
      by_cases c1 : s.data.toList[i] = 1
      · rw [c1] at hbt hdrop hw
        have hbt : bt s (i : Int) = 1 := hbt
        by_cases h8 : s.size - (i + 1) < 8
        · refine ⟨1, ([], 110), ?_, .inl rfl, ?_⟩
          · rw [blotterref11_Read.l0, if_pos (by omega), if_pos (by omega), hbt, show wrap64 1 = 1 by unfold wrap64; omega, if_pos rfl, wrap_succ i (by omega), show wrap64 ((s.size : Int) - ((i + 1 : Nat) : Int)) = (s.size : Int) - ((i + 1 : Nat) : Int) by unfold wrap64; omega, if_pos (by omega)]
          · intro _ m hm
            rw [hdrop, readL_one, if_neg (by rw [List.length_drop]; omega)] at hm
            cases hm
        · have hv : valN ((s.data.toList.drop (i + 1)).take 8) < 18446744073709551616 := by
            have h := valN_lt ((s.data.toList.drop (i + 1)).take 8)
            rw [show ((s.data.toList.drop (i + 1)).take 8).length = 8 by rw [List.length_take, List.length_drop]; omega] at h
            exact h
          obtain ⟨k, v, g1, g2, g3⟩ := ih (i + 9) (by omega) (by omega) (x4 ++ [⟨1, (valN ((s.data.toList.drop (i + 1)).take 8) : Int) - 9223372036854775808, ⟨#[]⟩⟩]) (partsOk_snoc hok ⟨Nat.zero_le _, by show _ ≤ (valN ((s.data.toList.drop (i + 1)).take 8) : Int) - 9223372036854775808; omega, by show (valN ((s.data.toList.drop (i + 1)).take 8) : Int) - 9223372036854775808 ≤ _; omega⟩) (by rw [List.length_append]; simp; omega)
          obtain ⟨k2, hk2⟩ := refRead_l1 s hs x4 (by omega) (i + 1) (by omega) 1 0 ⟨#[]⟩ v ⟨k, g1⟩ 8 0 (by omega) rfl
          refine ⟨k2 + 1, v, ?_, g2, ?_⟩
          · rw [blotterref11_Read.l0, if_pos (by omega), if_pos (by omega), hbt, show wrap64 1 = 1 by unfold wrap64; omega, if_pos rfl, wrap_succ i (by omega), show wrap64 ((s.size : Int) - ((i + 1 : Nat) : Int)) = (s.size : Int) - ((i + 1 : Nat) : Int) by unfold wrap64; omega, if_neg (by omega)]
            rw [List.take_zero] at hk2
            exact hk2
          · intro _ m hm hk
            rw [hdrop, readL_one, if_pos (by rw [List.length_drop]; omega), List.drop_drop] at hm
            cases hm2 : readL (s.data.toList.drop (i + 1 + 8)) with
            | none => rw [hm2] at hm; cases hm
            | some m' =>
              rw [hm2] at hm
              injection hm with hm
              subst hm
              have := g3 (by omega) m' hm2 (by rw [List.append_assoc]; exact hk)
              rw [List.append_assoc] at this
              exact this
      · have c1' : ¬ ((s.data.toList[i]).toNat : Int) = 1 := fun e => c1 (UInt8.toNat_inj.1 (by show _ = 1; omega))
        by_cases c2 : s.data.toList[i] = 2
        · rw [c2] at hbt hdrop
          have hbt : bt s (i : Int) = 2 := hbt
          obtain ⟨k, v, g1, g2, g3⟩ := refRead_l2 s hs x4 hok i hx (fun j h3 h4 => ih j (by omega) h4) (s.size - (i + 1)) (i + 1) [] (by omega) (by omega) (Nat.le_refl _) (by simp)
          refine ⟨k + 1, v, ?_, g2, ?_⟩
          · rw [blotterref11_Read.l0, if_pos (by omega), if_pos (by omega), hbt, show wrap64 2 = 2 by unfold wrap64; omega, if_neg (by decide), if_pos rfl, wrap_succ i (by omega)]
            exact g1
          · intro _ m hm hk
            cases hu : unT (s.data.toList.drop (i + 1)) with
            | none => rw [hdrop, readL_two_none hu] at hm; cases hm
            | some x =>
              obtain ⟨t, q⟩ := x
              rw [hdrop, readL_two hu] at hm
              cases hq : readL q with
              | none => rw [hq] at hm; cases hm
              | some m' =>
                rw [hq] at hm
                injection hm with hm
                subst hm
                exact g3 t q m' hu hq hk
        · have c2' : ¬ ((s.data.toList[i]).toNat : Int) = 2 := fun e => c2 (UInt8.toNat_inj.1 (by show _ = 2; omega))
          refine ⟨1, ([], 110), ?_, .inl rfl, ?_⟩
          · rw [blotterref11_Read.l0, if_pos (by omega), if_pos (by omega), hbt, hw, if_neg c1', if_neg c2']
          · intro _ m hm
            rw [hdrop, readL_bad c1 c2] at hm
            cases hm
/-- The document's own Read is Read. -/
theorem refRead (s : ByteArray) : ∃ k, blotterref11_Read.f k s = some (readS s.data.toList) := by
  have hsz : s.data.toList.length = s.size := Array.length_toList
  unfold blotterref11_Read.f
  by_cases h100 : 100 < s.size
  · refine ⟨0, ?_⟩
    rw [if_pos (by omega)]
    unfold readS
    rw [if_pos (by omega)]
  · obtain ⟨k, v, g1, g2, g3⟩ := refRead_l0 s (by omega) s.size 0 (by omega) (by omega) [] (fun p hp => by cases hp) (Nat.le_refl _)
    refine ⟨k, ?_⟩
    rw [if_neg (by omega)]
    refine g1.trans (congrArg some ?_)
    by_cases he : (readS s.data.toList).2 = 0
    · have hr : readL s.data.toList = some (readS s.data.toList).1 := by
        unfold readS at he ⊢
        rw [if_neg (by omega)] at he ⊢
        cases hl : readL s.data.toList with
        | none => rw [hl] at he; exact absurd he (by decide)
        | some l =>
          rw [hl] at he
          simp only at he ⊢
          by_cases h2 : l.length < 1 ∨ 8 < l.length
          · rw [if_pos h2] at he; exact absurd he (by decide)
          · rw [if_neg h2]
      have := g3 (Nat.zero_le _) (readS s.data.toList).1 (by rw [List.drop_zero]; exact hr) (keyS_readS he).1
      rw [this, List.nil_append, ← he]
    · rcases g2 with rfl | ⟨p, h1, h2, rfl⟩
      · unfold readS at he ⊢
        rw [if_neg (by omega)] at he ⊢
        cases hl : readL s.data.toList with
        | none => rfl
        | some l =>
          rw [hl] at he
          simp only at he ⊢
          by_cases h3 : l.length < 1 ∨ 8 < l.length
          · rw [if_pos h3]
          · rw [if_neg h3] at he; exact absurd rfl he
      · have := readS_keyS h1 (by rw [h2])
        rw [h2] at this
        simp only at this
        rw [this] at he
        exact absurd rfl he
end Go.Proofs.YthpngienphnaoaaDoor

/-
  blotterlaw11.TupleWorks: it returns true.
-/
namespace Go.Proofs.YthpngienphnaoaaDoor
open Go.RowKit Go.Proofs.YthpngienphnaoaaDoorW.PrintWords Go.Proofs.YthpngienphnaoaaDoor.PTupleWorks

theorem C_take' {w : World} {A : Option Addr} {k : Nat} {m : List S39} (h : Kd.C k39 w A k m) (n : Nat) (hn : n ≤ k) : Kd.C k39 w A n (m.take n) := by
  have h1 := h.1
  refine ⟨by rw [List.length_take]; omega, Nat.le_trans hn h.2.1, fun h0 => ?_⟩
  obtain ⟨ad, e, hc⟩ := h.2.2 (by omega)
  refine ⟨ad, e, fun j p hj => hc j p ?_⟩
  rw [List.getElem?_take] at hj
  split at hj
  · exact hj
  · cases hj
theorem order_row' (l m : List S39) (hl : l.length ≤ 1048576) (hm : m.length ≤ 1048576) : ∀ (n k : Nat) (A B : Option Addr) (c d : Nat) (W : World), n = l.length → k = m.length → Kd.C k39 W A n l → Kd.C k39 W B k m → Calls Tryd.prog 28 #[.slice A n c, .slice B k d] W fun e w' => e = .returned (.int .i64 (ordL l m)) ∧ Below W.heap.size W w' := by
  rintro n k A B c d W rfl rfl h1 h2
  exact order_any A c l B d m W h1 h2 (by omega) (by omega)
theorem same_self' (l : List S39) (hl : l.length ≤ 10000000) : ∃ k, blotterref11_Same.f k l l = some true := by
  have key : ∀ (d i : Nat), i ≤ l.length → l.length - i = d → ∃ k, blotterref11_Same.l0 k l l (i : Int) = some true := by
    intro d
    induction d with
    | zero =>
      intro i hi hd
      refine ⟨1, ?_⟩
      rw [blotterref11_Same.l0, if_neg (by omega)]
    | succ d ih =>
      intro i hi hd
      obtain ⟨k, hk⟩ := ih (i + 1) (by omega) (by omega)
      refine ⟨k + 1, ?_⟩
      rw [blotterref11_Same.l0, if_pos (by omega), if_pos (by omega), if_pos (by omega), if_neg (by simp), wrap_succ i (by omega)]
      exact hk
  obtain ⟨k, hk⟩ := key l.length 0 (Nat.zero_le _) (by omega)
  refine ⟨k, ?_⟩
  unfold blotterref11_Same.f
  rw [if_pos rfl]
  exact hk
theorem same_row (l : List S39) (hl : l.length ≤ 1048576) : ∀ (n : Nat) (A B : Option Addr) (c d : Nat) (W : World), n = l.length → Kd.C k39 W A n l → Kd.C k39 W B n l → n ≤ c → n ≤ d → Calls Tryd.prog 29 #[.slice A n c, .slice B n d] W fun e w' => e = .returned (.bool true) ∧ Below W.heap.size W w' := by
  rintro n A B c d W rfl h1 h2 h3 h4
  obtain ⟨k, hk⟩ := same_self' l (by omega)
  refine (blotterref11_Same.calls k A c l B d l true W h1 h3 h2 h4 hk).mono ?_
  rintro e w' ⟨rfl, hd⟩
  exact ⟨rfl, hd.below⟩
theorem rkey_row (l : List S39) (hl : l.length ≤ 1048576) (hok : PartsOk l) {K : ByteArray} {E : Int} (hK : K = str (keyS l).1) (hE2 : E = (keyS l).2) : ∀ (n : Nat) (A : Option Addr) (c : Nat) (W : World), n = l.length → Kd.C k39 W A n l → n ≤ c → Calls Tryd.prog 32 #[.slice A n c] W fun e w' => e = .returned (.tuple #[.string K, .int .i64 E]) ∧ Below W.heap.size W w' := by
  rintro n A c W rfl hr hc
  subst hK; subst hE2
  obtain ⟨k, hk⟩ := refKey l (by omega) hok
  exact blotterref11_Key.calls k A c l _ _ W hr hc hk
theorem C_of_R {w : World} {base : Nat} {ok : Nat → Prop} {A : Option Addr} {n c : Nat} {l : List S39} (h : Kd.R k39 39 w base ok (.slice A n c) l) : l.length = n ∧ l.length ≤ c ∧ Kd.C k39 w A n l := by
  obtain ⟨A', c', he, hc, hC⟩ := Kd.R_reads h
  injection he with h1 h2 h3
  subst h1; subst h2; subst h3
  exact ⟨rfl, hc, hC⟩
theorem rread_row (s : ByteArray) (w : World) {l : List S39} {e : Int} (hr : readS s.data.toList = (l, e)) :
    Calls Tryd.prog 33 #[.string s] w fun en w' => ∃ A c, en = .returned (.tuple #[.slice A l.length c, .int .i64 e]) ∧ Kd.R k39 39 w' w.heap.size (fun _ => True) (.slice A l.length c) l ∧ Below w.heap.size w w' := by
  obtain ⟨k, hk⟩ := refRead s
  rw [hr] at hk
  refine (blotterref11_Read.calls k s l e w hk).mono ?_
  rintro en w' ⟨v, rfl, ho, hb⟩
  obtain ⟨A, c, rfl, hc, hC⟩ := Kd.R_reads ho
  exact ⟨A, c, rfl, ho, hb⟩
/-- Parts behind a row of the call's own, whatever lies in it. -/
theorem wpList_append_raw {w : World} {ops : Array Oper} {rest : List Oper} {o : Oper} {a : Act} {Q : Exit → Act → World → Prop} (hgd : o.guard = none) (s x : Operand)
    (ho : o.op = .call { callee := .builtin .append, args := #[s, x], argTypes := #[37, 37] })
    (base : Nat) (v : Value) (n : Nat) (xs : List Value) (hs : a.eval s = v) (hown : w.ownsRow base 39 3 v n xs)
    (ad : Addr) (m c : Nat) (ys : List S39) (hx : a.eval x = .slice (some ad) m c) (hr : Kd.C k39 w (some ad) m ys) (h63 : n + m ≤ 1000000000) (hbase : base ≤ w.heap.size)
    (h : ∀ v' w', w'.ownsRow base 39 3 v' (n + m) (xs ++ cellsP ys) → w.grownBy w' v.ownBlock → wpList Tryd.prog ops Q rest (a.put o.dst v') w') : wpList Tryd.prog ops Q (o :: rest) a w := by
  obtain ⟨i, hi, hz0, hz1, hz2⟩ := info_parts info39
  obtain ⟨inner, hreps, hcell⟩ := ReadsRow.inner_ hr
  obtain rfl := reps39_eq ys inner hreps
  exact wpList_append_own _ hgd s x 37 ho base 39 i (.agg #[.int .i64 0, .int .i64 0, .string ⟨#[]⟩]) 3 32 Tryd.underlying37 hi hz0 hz1 hz2 rfl (by decide) v n xs hs hown ad m c (cellsP ys) hx (by rw [cellsP_length, hr.1]) hcell (cellsP_one ys) (by unfold maxLen; omega) (by omega) hbase (fun v' w' h1 h2 _ => h v' w' h1 h2)
theorem rorder_row (l m : List S39) (hl : l.length ≤ 1048576) : ∀ (n k : Nat) (A B : Option Addr) (c d : Nat) (W : World), n = l.length → k = m.length → Kd.C k39 W A n l → Kd.C k39 W B k m → n ≤ c → k ≤ d → Calls Tryd.prog 34 #[.slice A n c, .slice B k d] W fun e w' => e = .returned (.int .i64 (ordL l m)) ∧ Below W.heap.size W w' := by
  rintro n k A B c d W rfl rfl h1 h2 h3 h4
  obtain ⟨q, hq⟩ := refOrder l m (by omega)
  exact blotterref11_Order.calls q A c l B d m _ W h1 h3 h2 h4 hq
/-- The row got, while it is spoilt: no other block is touched. -/
def SpAt (w w0 : World) (A : Option Addr) (c : Nat) (wr : World) : Prop := Below w.heap.size w wr ∧ wr.heap.size = w0.heap.size ∧ (∀ k, A ≠ some ⟨k, 0, none⟩ → wr.heap[k]? = w0.heap[k]?) ∧ (∀ g, A = some ⟨g, 0, none⟩ → w.heap.size ≤ g ∧ ∃ cur : Array Value, wr.heap[g]? = some (.cells cur 39 (0, 0)) ∧ cur.size = c * 3)
theorem SpAt_new {w w0 : World} {A : Option Addr} {n c : Nat} {xs : List Value} (hb : Below w.heap.size w w0) (h : w0.ownsRow w.heap.size 39 3 (.slice A n c) n xs) : SpAt w w0 A c w0 := by
  refine ⟨hb, rfl, fun _ _ => rfl, ?_⟩
  rintro g rfl
  rcases h.2 with ⟨h1, _⟩ | ⟨g', cap, cur, h1, h2, h3, h4, h5, h6, h7⟩
  · cases h1
  · injection h1 with h1 _ h8
    injection h1 with h1
    injection h1 with h1 _ _
    subst h1; subst h8
    exact ⟨h2, cur, h3, h6⟩
theorem SpAt_own {w w0 wr : World} {g n c : Nat} (h : SpAt w w0 (some ⟨g, 0, none⟩) c wr) (hn : n ≤ c) (hc : c ≤ maxLen) : ∃ xs, wr.ownsRow w.heap.size 39 3 (.slice (some ⟨g, 0, none⟩) n c) n xs := by
  obtain ⟨h1, cur, h2, h3⟩ := h.2.2.2 g rfl
  refine ⟨cur.toList.take (n * 3), ?_, .inr ⟨g, c, cur, rfl, h1, h2, hn, hc, h3, rfl⟩⟩
  rw [List.length_take, Array.length_toList]; omega
theorem SpAt_set {w w0 wr : World} {g c : Nat} (h : SpAt w w0 (some ⟨g, 0, none⟩) c wr) (i : Nat) (u : Value) : SpAt w w0 (some ⟨g, 0, none⟩) c (wr.setCell ⟨g, i, none⟩ u) := by
  obtain ⟨h1, h2, h3, h4⟩ := h
  obtain ⟨h5, cur, h6, h7⟩ := h4 g rfl
  refine ⟨h1.setCell h5 _, by rw [← h2]; simp [World.setCell], fun k hk => ?_, ?_⟩
  · have hkg : k ≠ g := fun e => hk (by rw [e])
    rw [Below.heap_setCell _ _ _ _ hkg]
    exact h3 k hk
  · intro g' hg'
    injection hg' with hg'
    injection hg' with hg' _ _
    subst hg'
    exact ⟨h5, _, blk_set h6 i u, by rw [Array.size_setIfInBounds]; exact h7⟩
set_option maxHeartbeats 32000000 in
set_option maxRecDepth 100000 in
theorem tupleWorks_any (A : Option Addr) (c : Nat) (l : List S39) (B : Option Addr) (d : Nat) (m : List S39) (s : ByteArray) (w : World) (hr : Kd.C k39 w A l.length l) (hc : l.length ≤ c) (hok : PartsOk l)
    (hr2 : Kd.C k39 w B m.length m) (hc2 : m.length ≤ d) (hl : l.length ≤ 1048576) (hm : m.length ≤ 1048576) (hs : s.size ≤ 10000000) (hE : Env w) :
    Calls Tryd.prog 9 #[.slice A l.length c, .slice B m.length d, .string s] w fun e w' => e = .returned (.bool true) ∧ Below w.heap.size w w' := by
  have CA := Lib.hid (fun W (h : Env W) => awakeT_any W h)
  obtain ⟨X, hX⟩ : ∃ X, X = str (keyS l).1 := ⟨_, rfl⟩
  obtain ⟨E1, hE1⟩ : ∃ E, E = (keyS l).2 := ⟨_, rfl⟩
  have CX := Lib.hid (key_row l hok hX hE1)
  have RX := Lib.hid (rkey_row l hl hok hX hE1)
  have CO := Lib.hid (order_row' l m hl hm)
  have RO := Lib.hid (rorder_row l m hl)
  have CS := Lib.hid (same_row l hl)
  obtain ⟨p, hp⟩ : ∃ p, p = (readS s.data.toList).1 := ⟨_, rfl⟩
  obtain ⟨f, hf⟩ : ∃ f, f = (readS s.data.toList).2 := ⟨_, rfl⟩
  have hps : readS s.data.toList = (p, f) := by rw [hp, hf]
  have CR := Lib.hid (fun W (h : Env W) => read_row s W hs h hps)
  have RR := Lib.hid (fun W => rread_row s W hps)
  have hp8 : p.length ≤ 8 := by rw [hp]; exact readS_len _
  have CSP := Lib.hid (same_row p (by omega))
  obtain ⟨Z, hZ⟩ : ∃ Z, Z = str (aftL s.data.toList) := ⟨_, rfl⟩
  have CF : Hid (∀ W, Calls Tryd.prog 31 #[.string s] W fun e w' => e = .returned (.string Z) ∧ Below W.heap.size W w') := by
    intro W; rw [hZ]; exact after_any s W (by omega)
  have RF : Hid (∀ W, Calls Tryd.prog 35 #[.string s] W fun e w' => e = .returned (.string Z) ∧ Below W.heap.size W w') := by
    intro W
    obtain ⟨k, hk⟩ := refAfter s hs
    rw [hZ]; exact blotterref11_After.calls k s _ W hk
  obtain ⟨o, ho⟩ : ∃ o, o = ordL l m := ⟨_, rfl⟩
  rw [← ho] at CO RO
  have HE := Lib.hid hE
  obtain ⟨n, hn⟩ : ∃ n, n = l.length := ⟨_, rfl⟩
  obtain ⟨k, hk⟩ : ∃ k, k = m.length := ⟨_, rfl⟩
  obtain ⟨np, hnp⟩ : ∃ np, np = p.length := ⟨_, rfl⟩
  rw [← hn] at hr hc hl ⊢
  rw [← hk] at hr2 hc2 hm ⊢
  rw [← hnp] at CR RR hp8
  have HN := Lib.hid hn
  have HK := Lib.hid hk
  have HNP := Lib.hid hnp
  have HR := Lib.hid hr
  have HR2 := Lib.hid hr2
  clear hE hn hk hnp hr hr2 hX hE1 hp hf hps hZ ho hok
  obtain ⟨i0, hi, hz0, hz1, hz2⟩ := info_parts info39
  have hby : i0.bytes * (n + 1) ≤ 281474976710656 := by rw [hz2]; omega
  have hml : n + 1 ≤ maxLen := by unfold maxLen; omega
  go_enter Tryd.func9, Tryd.ntmps9
  go_wp2_with fail
  refine (CA.out w HE.out).mono ?_
  rintro e w1 ⟨rfl, hb1⟩
  have HB1 := Lib.hid hb1
  have hs1 := hb1.size
  clear hb1
  go_wp2_with (at_make; refine wpList_make_own _ rfl _ _ 37 rfl w.heap.size 39 i0 _ 3 Tryd.underlying37 hi hz0 hz1 .i64 .i64 _ (n + 1) rfl rfl (by omega) hby hml hs1 ?_)
  intro w2 ho2 hg2
  have HB2 := Lib.hid (HB1.out.grown hg2 HB1.out.size (fun b hb => by cases hb))
  have HO2 := Lib.hid ho2
  clear ho2 hg2 hi hz0 hz1 hz2 hby hml hs1
  go_wp2_with (at_builtin; refine wpList_append_parts rfl (.tmp 29) (.tmp 30) rfl w.heap.size _ 0 [] rfl HO2.out A n c l rfl (Kd.C_below HR.out HB2.out) (by omega) HB2.out.size ?_)
  intro v3 w3 ho3 hg3
  have HB3 := Lib.hid (HB2.out.grown hg3 HB2.out.size (fun b hb => own_base' HO2.out hb))
  obtain ⟨A3, c3, rfl⟩ := own_slice ho3
  have HO3 := Lib.hid ho3
  clear ho3 hg3 HO2
  have HBA := Lib.hid (HB3.out.alloc HB3.out.size (.cells #[.int .i64 (-7), .int .i64 0, .string ⟨#[]⟩] 39))
  have HOA := Lib.hid (own_below HO3.out ((Below.refl _ w3).alloc (Nat.le_refl _) (.cells #[.int .i64 (-7), .int .i64 0, .string ⟨#[]⟩] 39)))
  have HCA := Lib.hid (C_of_own (own_block (base := 0) (l := [⟨-7, 0, ⟨#[]⟩⟩]) (alloc_new w3 (.cells #[.int .i64 (-7), .int .i64 0, .string ⟨#[]⟩] 39)) rfl (Nat.zero_le _) (by simp)) rfl)
  go_wp2_with (at_builtin; refine wpList_append_parts rfl (.tmp 31) (.tmp 33) rfl w.heap.size (.slice A3 n c3) n l rfl HOA.out (some ⟨w3.heap.size, 0, none⟩) 1 1 [⟨-7, 0, ⟨#[]⟩⟩] rfl HCA.out (by omega) HBA.out.size ?_)
  intro v4 w4 ho4 hg4
  have HB4 := Lib.hid (HBA.out.grown hg4 HBA.out.size (fun b hb => own_base' HOA.out hb))
  obtain ⟨A4, c4, rfl, hc4⟩ := own_sliceC ho4
  have hg44 : ∃ g4, A4 = some ⟨g4, 0, none⟩ := by
    rcases ho4.2 with ⟨h1, h2⟩ | ⟨g, cap, cur, h1, _⟩
    · omega
    · injection h1 with h1 _ _
      exact ⟨g, h1⟩
  obtain ⟨g4, rfl⟩ := hg44
  have hx4 : w4.cell? ⟨g4, n * 3, none⟩ = some (.int .i64 (-7)) := by
    rw [own_cell ho4 (n * 3) (by omega), cellsP_append, List.getElem?_append_right (by rw [cellsP_length, HN.out]; exact Nat.le_refl _), cellsP_length, HN.out, Nat.sub_self]; rfl
  have hC4 : Kd.C k39 w4 (some ⟨g4, 0, none⟩) n l := by
    have h := C_take' (C_of_own ho4 (by rw [List.length_append, HN.out]; rfl)) n (by omega)
    rw [HN.out, List.take_left] at h
    rw [HN.out]; exact h
  have HX4 := Lib.hid hx4
  have HC4 := Lib.hid hC4
  have hn4 : n ≤ c4 := by omega
  clear ho4 hg4 HO3 HBA HOA HCA hx4 hC4
  go_wp2_with fail
  refine (CX.out n (some ⟨g4, 0, none⟩) c4 w4 HN.out (env_below HE.out HB4.out) HC4.out hn4).mono ?_
  rintro e w5 ⟨rfl, hb5⟩
  have HB5 := Lib.hid (below_then HB4.out HB4.out.size hb5)
  have HC5 := Lib.hid (Kd.C_below HC4.out hb5)
  have HX5 := Lib.hid ((hb5.cell (World.block_lt_of_cell? w4 _ HX4.out)).trans HX4.out)
  clear hb5 HC4 HX4
  go_wp2_with fail
  refine (CO.out n k (some ⟨g4, 0, none⟩) B c4 d w5 HN.out HK.out HC5.out (Kd.C_below HR2.out HB5.out)).mono ?_
  rintro e w6 ⟨rfl, hb6⟩
  have HB6 := Lib.hid (below_then HB5.out HB5.out.size hb6)
  have HC6 := Lib.hid (Kd.C_below HC5.out hb6)
  have hx6 := (hb6.cell (World.block_lt_of_cell? w5 _ HX5.out)).trans HX5.out
  clear hb6 HC5 HX5
  go_wp2_with fail
  refine (CS.out n (some ⟨g4, 0, none⟩) A c4 c w6 HN.out HC6.out (Kd.C_below HR.out HB6.out) hn4 hc).mono ?_
  rintro e w7 ⟨rfl, hb7⟩
  have HB7 := Lib.hid (below_then HB6.out HB6.out.size hb7)
  have E7 := Lib.hid (env_below HE.out HB7.out)
  clear hb7 HC6 hx6
  go_wp2_with fail
  refine (CR.out w7 E7.out).mono ?_
  rintro e w8 ⟨A8, c8, rfl, hc8, hC8, ho8, hb8⟩
  have HB8 := Lib.hid (below_then HB7.out HB7.out.size hb8)
  have E8 := Lib.hid (env_below HE.out HB8.out)
  have HO8 := Lib.hid ho8
  have HC8 := Lib.hid hC8
  have HS8 := Lib.hid hb8.size
  clear hb8 ho8 hC8 E7
  go_wp2_with fail
  refine (CR.out w8 E8.out).mono ?_
  rintro e w9 ⟨A9, c9, rfl, hc9, hC9, ho9, hb9⟩
  have HB9 := Lib.hid (below_then HB8.out HB8.out.size hb9)
  have HO89 := Lib.hid (own_below HO8.out hb9)
  have HC89 := Lib.hid (Kd.C_below HC8.out hb9)
  have HO9 := Lib.hid ho9
  have HZ9 := Lib.hid hb9.size
  clear hb9 ho9 hC9 E8 HC8
  go_wp2_with fail
  refine (CF.out w9).mono ?_
  rintro e w10 ⟨rfl, hb10⟩
  have HB10 := Lib.hid (below_then HB9.out HB9.out.size hb10)
  have HOA1 := Lib.hid (own_below HO89.out hb10)
  have HCA1 := Lib.hid (Kd.C_below HC89.out hb10)
  have HOB1 := Lib.hid (own_below HO9.out hb10)
  have HZ10 := Lib.hid hb10.size
  clear hb10 HO89 HC89
  go_wp2_with fail
  refine (RX.out n A c w10 HN.out (Kd.C_below HR.out HB10.out) hc).mono ?_
  rintro e w11 ⟨rfl, hb11⟩
  have HB11 := Lib.hid (below_then HB10.out HB10.out.size hb11)
  have HOA2 := Lib.hid (own_below HOA1.out hb11)
  have HCA2 := Lib.hid (Kd.C_below HCA1.out hb11)
  have HOB2 := Lib.hid (own_below HOB1.out hb11)
  have HZ11 := Lib.hid hb11.size
  clear hb11 HOA1 HCA1 HOB1
  go_wp2_with fail
  refine (RR.out w11).mono ?_
  rintro e w12 ⟨A12, c12, rfl, hR12, hb12⟩
  obtain ⟨_, hc12, hC12⟩ := C_of_R hR12
  rw [← HNP.out] at hc12
  have HRW := Lib.hid hR12
  have HB12 := Lib.hid (below_then HB11.out HB11.out.size hb12)
  have HOA3 := Lib.hid (own_below HOA2.out hb12)
  have HCA3 := Lib.hid (Kd.C_below HCA2.out hb12)
  have HOB3 := Lib.hid (own_below HOB2.out hb12)
  have HCW := Lib.hid hC12
  clear hb12 HOA2 HCA2 HOB2 hC12 hR12
  go_wp2_with fail
  refine (CSP.out np A8 A12 c8 c12 w12 HNP.out HCA3.out HCW.out hc8 hc12).mono ?_
  rintro e w13 ⟨rfl, hb13⟩
  have HB13 := Lib.hid (below_then HB12.out HB12.out.size hb13)
  have HOA4 := Lib.hid (own_below HOA3.out hb13)
  have HOB4 := Lib.hid (own_below HOB3.out hb13)
  have HRW4 := Lib.hid (Kd.R_below HRW.out hb13)
  have HG8 : Hid (∀ k, (Value.slice A8 np c8).ownBlock = some k → k < w8.heap.size) := fun k hk => own_lt HO8.out k hk
  clear hb13 HOA3 HCA3 HOB3 HCW HRW
  go_wp2_with fail
  have H0 := Lib.hid (SpAt_new HB13.out (own_weaken HOA4.out HB7.out.size))
  have HOA5 := Lib.hid (show Kd.C k39 w13 A8 np p from C_of_own HOA4.out HNP.out.symm)
  go_loopw [23] (fun i wr => ∃ j : Nat, j ≤ np ∧ i = .int .i64 j ∧ Hid (SpAt w w13 A8 c8 wr)) (fun i _ => np - (intOf i).toNat)
  case atStart => exact ⟨0, by omega, rfl, H0⟩
  case round =>
    obtain ⟨j, hj, rfl, HS⟩ := hrel
    clear H0
    by_cases hlt : j < np
    · have hgg : ∃ g, A8 = some ⟨g, 0, none⟩ := by
        rcases HOA4.out.2 with ⟨_, h2⟩ | ⟨g, cap, cur, h1, _⟩
        · omega
        · injection h1 with h1 _ _
          exact ⟨g, h1⟩
      obtain ⟨g, rfl⟩ := hgg
      obtain ⟨hg, cur, h1, h2⟩ := HS.out.2.2.2 g rfl
      have hx : ∀ i, i < 3 → ∃ u, wr.cell? ⟨g, j * 3 + i, none⟩ = some u := fun i hi => ⟨_, by rw [cell_of_row _ _ _ _ _ _ h1]; exact Array.getElem?_eq_getElem (show j * 3 + i < cur.size by omega)⟩
      obtain ⟨u0, x0⟩ := hx 0 (by omega)
      obtain ⟨u1, x1⟩ := hx 1 (by omega)
      obtain ⟨u2, x2⟩ := hx 2 (by omega)
      have f0 : wr.frozen? ⟨g, j * 3, none⟩ = false := blk_frozen h1 _
      have f1 : wr.frozen? ⟨g, j * 3 + 1, none⟩ = false := blk_frozen h1 _
      have f2 : wr.frozen? ⟨g, j * 3 + 2, none⟩ = false := blk_frozen h1 _
      have x0' : wr.cell? ⟨g, j * 3, none⟩ = some u0 := x0
      have hj0 : (0 : Int) ≤ (j : Int) := by omega
      have hj1 : (j : Int) < (np : Int) := by omega
      clear hg h1 h2 hx x0
      go_wp2_with fail
      go_roundw
      case rel => exact ⟨j + 1, by omega, by go_num, SpAt_set (SpAt_set (SpAt_set HS.out _ _) _ _) _ _⟩
      case measure => simp [intOf]; omega
    · obtain rfl : np = j := by omega
      have hox : ∃ xs, wr.ownsRow w.heap.size 39 3 (.slice A8 np c8) np xs := by
        rcases HOA4.out.2 with ⟨h1, h2⟩ | ⟨g, cap, cur, h1, h2, h3, h4, h5, _⟩
        · exact ⟨[], by rw [h1, h2]; exact nil_own _ _⟩
        · injection h1 with h1 _ h6
          subst h1; subst h6
          exact SpAt_own HS.out h4 h5
      obtain ⟨xs, hox⟩ := hox
      obtain ⟨s1, s2, s3, _⟩ := HS.out
      have HBR := Lib.hid s1
      have HBA2 := Lib.hid (s1.alloc s1.size (.cells #[.int .i64 (-6), .int .i64 0, .string ⟨#[]⟩] 39))
      have HOX := Lib.hid (own_below hox ((Below.refl _ wr).alloc (Nat.le_refl _) (.cells #[.int .i64 (-6), .int .i64 0, .string ⟨#[]⟩] 39)))
      have HCA9 := Lib.hid (C_of_own (own_block (base := 0) (l := [⟨-6, 0, ⟨#[]⟩⟩]) (alloc_new wr (.cells #[.int .i64 (-6), .int .i64 0, .string ⟨#[]⟩] 39)) rfl (Nat.zero_le _) (by simp)) rfl)
      have HS2 := Lib.hid s2
      have HS3 := Lib.hid s3
      clear s1 s2 s3 hox
      go_wp2_with (at_builtin; refine wpList_append_raw rfl (.tmp 99) (.tmp 101) rfl w.heap.size (.slice A8 np c8) np xs rfl HOX.out ⟨wr.heap.size, 0, none⟩ 1 1 [⟨-6, 0, ⟨#[]⟩⟩] rfl HCA9.out (by omega) HBA2.out.size ?_)
      intro v14 w14 ho14 hg14
      have HB14 := Lib.hid (HBA2.out.grown hg14 HBA2.out.size (fun b hb => own_base' HOX.out hb))
      have hkeep : ∀ k, w8.heap.size ≤ k → k < w13.heap.size → w14.heap[k]? = w13.heap[k]? := by
        intro k h1 h2
        have hne : (Value.slice A8 np c8).ownBlock ≠ some k := fun e => by have := HG8.out k e; omega
        have h3 := hg14.block k (by rw [alloc_size, HS2.out]; omega) (fun e => hne e.symm)
        rw [h3]
        have h4 : (wr.alloc (.cells #[.int .i64 (-6), .int .i64 0, .string ⟨#[]⟩] 39)).heap[k]? = wr.heap[k]? := ((Below.refl _ wr).alloc (Nat.le_refl _) _).block k (by rw [HS2.out]; exact h2)
        rw [h4]
        refine HS3.out k (fun e => hne ?_)
        rw [e]; rfl
      have z9 := HZ9.out
      have z10 := HZ10.out
      have z11 := HZ11.out
      have HB14' : Hid (Kd.C k39 w14 A9 np p) := by
        have h := own_move HOB4.out (fun k hk => hkeep k (own_base' HOB4.out hk) (own_lt HOB4.out k hk))
        exact C_of_own h HNP.out.symm
      have HW14' : Hid (Kd.C k39 w14 A12 np p) := by
        have h := Kd.R_move (w1 := w14) (Kd.R_bound HRW4.out) (fun k hk => hkeep k (by have := hk.2.1; omega) hk.2.2.1)
        exact (C_of_R h).2.2
      obtain ⟨A14, c14, rfl⟩ := own_slice ho14
      clear ho14 hg14 hkeep z9 z10 z11
      go_wp2_with fail
      refine (CSP.out np A9 A12 c9 c12 w14 HNP.out HB14'.out HW14'.out hc9 hc12).mono ?_
      rintro e w15 ⟨rfl, hb15⟩
      have HB15 := Lib.hid (below_then HB14.out HB14.out.size hb15)
      clear hb15
      go_wp2_with fail
      refine (RO.out n k A B c d w15 HN.out HK.out (Kd.C_below HR.out HB15.out) (Kd.C_below HR2.out HB15.out) hc hc2).mono ?_
      rintro e w16 ⟨rfl, hb16⟩
      have HB16 := Lib.hid (below_then HB15.out HB15.out.size hb16)
      clear hb16
      go_wp2_with fail
      refine (RF.out w16).mono ?_
      rintro e w17 ⟨rfl, hb17⟩
      have HB17 := Lib.hid (below_then HB16.out HB16.out.size hb17)
      clear hb17
      go_wp2_with fail
      go_ret
      exact ⟨rfl, HB17.out⟩
end Go.Proofs.YthpngienphnaoaaDoor
