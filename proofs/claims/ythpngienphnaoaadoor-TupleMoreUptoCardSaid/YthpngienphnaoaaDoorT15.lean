import Derived.Test.YthpngienphnaoaaDoorTA
import Derived.Laws.AppendOwnNone
/-
  blotterlaw11.TupleMore: it returns true.
-/
namespace Go.Proofs.YthpngienphnaoaaDoor
open Go.RowKit Go.Proofs.YthpngienphnaoaaDoorW.PrintWords Go.Proofs.YthpngienphnaoaaDoor.PTupleWorks

theorem reps39_eq {w : World} : ∀ (ys : List S39) (inner : List Value), Reps (k39.K w) 3 ys inner → inner = cellsP ys := by
  intro ys
  induction ys with
  | nil => intro inner h; exact List.eq_nil_of_length_eq_zero (by rw [h.1]; rfl)
  | cons q ys ih =>
    intro inner h
    have h0 := k39_open (h.2 0 q rfl)
    rw [Nat.zero_mul, List.drop_zero] at h0
    have h1 : inner.drop 3 = cellsP ys := by
      refine ih _ ⟨by rw [List.length_drop, h.1, List.length_cons]; omega, fun j p hj => ?_⟩
      have := h.2 (j + 1) p (by simpa using hj)
      rw [List.drop_drop]
      rw [show 3 + j * 3 = (j + 1) * 3 by omega]
      exact this
    have h2 := List.take_append_drop 3 inner
    rw [h0, h1] at h2
    exact h2.symm
theorem cellsP_append (l m : List S39) : cellsP (l ++ m) = cellsP l ++ cellsP m := by unfold cellsP; rw [List.flatMap_append]
theorem cellsP_one (l : List S39) : ∀ u ∈ cellsP l, u.oneCell' = true := by
  intro u hu
  obtain ⟨p, _, hp⟩ := List.mem_flatMap.1 hu
  exact cellP_one p u hp
theorem run_none39 {w : World} (base : Nat) (ty : TypeId) (v : Value) (n : Nat) (xs : List Value) (hown : w.ownsRow base 39 3 v n xs) (c : Nat) :
    (Builtin.append_ #[37, 37] ty #[v, .slice none 0 c]).run Tryd.prog w = .ok v w := by
  obtain ⟨i, hi, _⟩ := info_parts info39
  rcases hown.2 with ⟨rfl, rfl⟩ | ⟨g, cap, cur, rfl, _, _, hnc, _⟩
  · simp [Builtin.append_, run_underlying Tryd.underlying37, sizeOf, typeInfo, hi, Builtin.lenOf, Builtin.firstCells]
  · simp [Builtin.append_, run_underlying Tryd.underlying37, sizeOf, typeInfo, hi, Builtin.lenOf, Builtin.firstCells, hnc, storeCells]
/-- Parts behind a row of the call's own. -/
theorem wpList_append_parts {w : World} {ops : Array Oper} {rest : List Oper} {o : Oper} {a : Act} {Q : Exit → Act → World → Prop} (hgd : o.guard = none) (s x : Operand)
    (ho : o.op = .call { callee := .builtin .append, args := #[s, x], argTypes := #[37, 37] })
    (base : Nat) (v : Value) (n : Nat) (l : List S39) (hs : a.eval s = v) (hown : w.ownsRow base 39 3 v n (cellsP l))
    (A : Option Addr) (m c : Nat) (ys : List S39) (hx : a.eval x = .slice A m c) (hr : Kd.C k39 w A m ys) (h63 : n + m ≤ 1000000000) (hbase : base ≤ w.heap.size)
    (h : ∀ v' w', w'.ownsRow base 39 3 v' (n + m) (cellsP (l ++ ys)) → w.grownBy w' v.ownBlock → wpList Tryd.prog ops Q rest (a.put o.dst v') w') : wpList Tryd.prog ops Q (o :: rest) a w := by
  obtain ⟨i, hi, hz0, hz1, hz2⟩ := info_parts info39
  cases A with
  | none =>
    have hm : m = 0 := by
      rcases Nat.eq_zero_or_pos m with h0 | h0
      · exact h0
      · obtain ⟨ad, e, _⟩ := hr.2.2 h0
        cases e
    have hy : ys = [] := List.eq_nil_of_length_eq_zero (by rw [hr.1, hm])
    subst hm; subst hy
    refine wpList_plain hgd fun K hK => ?_
    have hrun := run_none39 base o.type v n _ hown c
    unfold Oper.wp
    simp [execOp, ho, resolve, invoke, builtin, hs, hx, hrun, Result.andThen]
    exact hK _ _ (h v w (by rw [List.append_nil]; exact hown) (World.grownBy.refl _ _))
  | some ad =>
    obtain ⟨inner, hreps, hcell⟩ := ReadsRow.inner_ hr
    obtain rfl := reps39_eq ys inner hreps
    refine wpList_append_own _ hgd s x 37 ho base 39 i (.agg #[.int .i64 0, .int .i64 0, .string ⟨#[]⟩]) 3 32 Tryd.underlying37 hi hz0 hz1 hz2 rfl (by decide) v n (cellsP l) hs hown ad m c (cellsP ys) hx (by rw [cellsP_length, hr.1]) hcell (cellsP_one ys) (by unfold maxLen; omega) (by omega) hbase ?_
    intro v' w' h1 h2 _
    exact h v' w' (by rw [cellsP_append]; exact h1) h2
/-- Key of two rows, one behind the other. -/
theorem keyS_two {l m : List S39} (hl : (keyS l).2 = 0) (hm : (keyS m).2 = 0) : keyS (l ++ m) = if 8 < l.length + m.length then ([], 110) else if 100 < (keyS l).1.length + (keyS m).1.length then ([], 2) else ((keyS l).1 ++ (keyS m).1, 0) := by
  have a1 := (keyS_len (l := l)).2.2 hl
  have a2 := (keyS_len (l := m)).2.2 hm
  have hk : ∀ r : List S39, (keyS r).2 = 0 → keyL r = some (keyS r).1 := by
    intro r hr
    have a3 := (keyS_len (l := r)).2.2 hr
    unfold keyS at hr ⊢
    rw [if_neg (by omega)] at hr ⊢
    cases hk : keyL r with
    | none => rw [hk] at hr; exact absurd hr (by decide)
    | some k =>
      rw [hk] at hr
      simp only at hr ⊢
      by_cases h2 : 100 < k.length
      · rw [if_pos h2] at hr; exact absurd hr (by decide)
      · rw [if_neg h2]
  have k1 := hk l hl
  have k2 := hk m hm
  generalize (keyS l).1 = x at k1 ⊢
  generalize (keyS m).1 = y at k2 ⊢
  unfold keyS
  rw [List.length_append]
  by_cases h8 : 8 < l.length + m.length
  · rw [if_pos (by omega), if_pos h8]
  · rw [if_neg (by omega), if_neg h8, keyL_append, k1, k2]
    simp only [Option.bind_some, Option.map_some]
    rw [List.length_append]
theorem partsOk_append {l m : List S39} (h1 : PartsOk l) (h2 : PartsOk m) : PartsOk (l ++ m) := fun p hp => (List.mem_append.1 hp).elim (h1 p) (h2 p)
set_option maxHeartbeats 16000000 in
set_option maxRecDepth 100000 in
theorem tupleMore_any (A : Option Addr) (c : Nat) (l : List S39) (B : Option Addr) (d : Nat) (m : List S39) (w : World) (hr : Kd.C k39 w A l.length l) (hc : l.length ≤ c) (hok : PartsOk l)
    (hr2 : Kd.C k39 w B m.length m) (hc2 : m.length ≤ d) (hok2 : PartsOk m) (hl : l.length ≤ 1048576) (hm : m.length ≤ 1048576) (hE : Env w) :
    Calls Tryd.prog 12 #[.slice A l.length c, .slice B m.length d] w fun e w' => e = .returned (.bool true) ∧ Below w.heap.size w w' := by
  have CA := Lib.hid (fun W (h : Env W) => awakeT_any W h)
  have kl1 := (keyS_len (l := l)).1
  have kl2 := (keyS_len (l := m)).1
  have h3 : (keyS l).2 = 0 → (keyS m).2 = 0 → keyS (l ++ m) = if 8 < l.length + m.length then ([], 110) else if 100 < (keyS l).1.length + (keyS m).1.length then ([], 2) else ((keyS l).1 ++ (keyS m).1, 0) := keyS_two
  obtain ⟨X, hX⟩ : ∃ X, X = str (keyS l).1 := ⟨_, rfl⟩
  obtain ⟨E1, hE1⟩ : ∃ E, E = (keyS l).2 := ⟨_, rfl⟩
  obtain ⟨Y, hY⟩ : ∃ X, X = str (keyS m).1 := ⟨_, rfl⟩
  obtain ⟨E2, hE2⟩ : ∃ E, E = (keyS m).2 := ⟨_, rfl⟩
  obtain ⟨Z, hZ⟩ : ∃ X, X = str (keyS (l ++ m)).1 := ⟨_, rfl⟩
  obtain ⟨E3, hE3⟩ : ∃ E, E = (keyS (l ++ m)).2 := ⟨_, rfl⟩
  have CX := Lib.hid (key_row l hok hX hE1)
  have CY := Lib.hid (key_row m hok2 hY hE2)
  have CZ := Lib.hid (key_row (l ++ m) (partsOk_append hok hok2) hZ hE3)
  have hXs : X.size ≤ 100 := by rw [hX, str_size]; exact kl1
  have hYs : Y.size ≤ 100 := by rw [hY, str_size]; exact kl2
  have H3 : Hid (E1 = 0 → E2 = 0 → (8 < l.length + m.length ∧ E3 = 110) ∨ (¬ 8 < l.length + m.length ∧ 100 < X.size + Y.size ∧ E3 = 2) ∨ (E3 = 0 ∧ Z = X ++ Y)) := by
    intro a1 a2
    have h3 := h3 (hE1.symm.trans a1) (hE2.symm.trans a2)
    rw [h3] at hE3 hZ
    have z1 : X.size = (keyS l).1.length := by rw [hX, str_size]
    have z2 : Y.size = (keyS m).1.length := by rw [hY, str_size]
    by_cases h8 : 8 < l.length + m.length
    · rw [if_pos h8] at hE3
      exact .inl ⟨h8, hE3⟩
    · rw [if_neg h8] at hE3 hZ
      by_cases h9 : 100 < (keyS l).1.length + (keyS m).1.length
      · rw [if_pos h9] at hE3
        exact .inr (.inl ⟨h8, by omega, hE3⟩)
      · rw [if_neg h9] at hE3 hZ
        refine .inr (.inr ⟨hE3, ?_⟩)
        rw [hZ, hX, hY]
        apply ByteArray.ext
        apply Array.ext'
        rw [ByteArray.data_append, Array.toList_append, str_list, str_list, str_list]
  clear h3 kl1 kl2 hX hE1 hY hE2 hZ hE3 hok hok2
  have HE := Lib.hid hE
  obtain ⟨n, hn⟩ : ∃ n, n = l.length := ⟨_, rfl⟩
  obtain ⟨k, hk⟩ : ∃ k, k = m.length := ⟨_, rfl⟩
  rw [← hn] at hr hc H3 hl ⊢
  rw [← hk] at hr2 hc2 H3 hm ⊢
  have HN := Lib.hid hn
  have HK := Lib.hid hk
  have HR := Lib.hid hr
  have HR2 := Lib.hid hr2
  clear hE hn hk hr hr2
  go_enter Tryd.func12, Tryd.ntmps12
  go_wp2_with fail
  refine (CA.out w HE.out).mono ?_
  rintro e w1 ⟨rfl, hb1⟩
  have HC1 := Lib.hid (CX.out n A c w1 HN.out (env_below HE.out hb1) (Kd.C_below HR.out hb1) hc)
  go_wp2_with fail
  refine HC1.out.mono ?_
  rintro e w2 ⟨rfl, hb2⟩
  have hb02 := below_then hb1 hb1.size hb2
  clear hb1 hb2 HC1
  have HC2 := Lib.hid (CY.out k B d w2 HK.out (env_below HE.out hb02) (Kd.C_below HR2.out hb02) hc2)
  go_wp2_with fail
  refine HC2.out.mono ?_
  rintro e w3 ⟨rfl, hb3⟩
  have HB3 := Lib.hid (below_then hb02 hb02.size hb3)
  clear hb02 hb3 HC2
  go_wp2_with (at_builtin; refine wpList_append_parts rfl (.tmp 24) (.tmp 25) rfl w.heap.size (.slice none 0 0) 0 [] rfl (nil_own _ _) A n c l rfl (Kd.C_below HR.out HB3.out) (by omega) HB3.out.size ?_)
  intro v4 w4 ho4 hg4
  have HB4 := Lib.hid (HB3.out.grown hg4 HB3.out.size (fun b hb => by simp [Value.ownBlock] at hb))
  obtain ⟨A4, c4, rfl⟩ := own_slice ho4
  have HO4 := Lib.hid ho4
  clear hg4 ho4
  go_wp2_with (at_builtin; refine wpList_append_parts rfl (.tmp 27) (.tmp 28) rfl w.heap.size (.slice A4 n c4) n l rfl HO4.out B k d m rfl (Kd.C_below HR2.out HB4.out) (by omega) HB4.out.size ?_)
  intro v5 w5 ho5 hg5
  have HB5 := Lib.hid (HB4.out.grown hg5 HB4.out.size (fun b hb => own_base' HO4.out hb))
  obtain ⟨A5, c5, rfl, hc5⟩ := own_sliceC ho5
  have HC5 := Lib.hid (CZ.out (n + k) A5 c5 w5 (by rw [HN.out, HK.out, List.length_append]) (env_below HE.out HB5.out) (C_of_own ho5 (by rw [HN.out, HK.out, List.length_append])) hc5)
  clear ho5 hg5
  go_wp2_with fail
  refine HC5.out.mono ?_
  rintro e w6 ⟨rfl, hb6⟩
  have HB6 := Lib.hid (below_then HB5.out HB5.out.size hb6)
  clear hb6 HC5
  by_cases h1 : E1 = 0
  · subst h1
    by_cases h2 : E2 = 0
    · subst h2
      rcases H3.out rfl rfl with ⟨a1, rfl⟩ | ⟨a1, a2, rfl⟩ | ⟨rfl, rfl⟩
      · have g1 : (8 : Int) < (n : Int) + (k : Int) := by omega
        have g2 : (8 : Int) < ((n + k : Nat) : Int) := by omega
        go_wp2_with fail
        go_ret
        exact ⟨rfl, HB6.out⟩
      · have g1 : (100 : Int) < (X.size : Int) + (Y.size : Int) := by omega
        go_wp2_with fail
        go_ret
        exact ⟨rfl, HB6.out⟩
      · go_wp2_with fail
        go_ret
        exact ⟨rfl, HB6.out⟩
    · have h2' : (E2 == 0) = false := by rw [beq_eq_false_iff_ne]; exact h2
      go_wp2_with fail
      go_ret
      exact ⟨rfl, HB6.out⟩
  · have h1' : (E1 == 0) = false := by rw [beq_eq_false_iff_ne]; exact h1
    go_wp2_with fail
    go_ret
    exact ⟨rfl, HB6.out⟩
end Go.Proofs.YthpngienphnaoaaDoor
