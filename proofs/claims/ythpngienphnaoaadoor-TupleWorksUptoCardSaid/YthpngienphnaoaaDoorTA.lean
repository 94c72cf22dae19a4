import Derived.Test.YthpngienphnaoaaDoorShW
import Derived.Test.YthpngienphnaoaaDoorV9
import Derived.Laws.Bits64
import Derived.Laws.BitsAllLaws
import Derived.Laws.IdiomStrings
import Derived.Test.YthpngienphnaoaaDoorPTupleWorksx0
import Derived.Test.YthpngienphnaoaaDoorV5
import Derived.WalkLawsBesides
import Derived.Test.YthpngienphnaoaaDoorRfT
import Derived.Deep.RegionWith
import Derived.Lib.ConvBytes
import Derived.StillTailTactics
/-
  tuple.join: its contract.
-/
namespace Go.Proofs.YthpngienphnaoaaDoor
open Go.RowKit Go.Proofs.YthpngienphnaoaaDoorW.PrintWords

/-- A builder of bytes. -/
abbrev Bld (B b : Nat) (l : List UInt8) (w : World) : Prop := Lib.IsBuilderF 67 5 B b (Lib.byteCells l) w
/-- Pieces in a row of the call's own. -/
def Pieces (w : World) (g : Nat) (ps : List ByteArray) : Prop := ∃ fz, w.heap[g]? = some (.cells (ps.map Value.string).toArray 9 fz)
theorem pieces_cell {w : World} {g : Nat} {ps : List ByteArray} (h : Pieces w g ps) (k : Nat) (hk : k < ps.length) : w.cell? ⟨g, k, none⟩ = some (.string (ps.getD k ByteArray.empty)) := by
  obtain ⟨fz, h⟩ := h
  rw [cell_of_row _ _ _ _ _ _ h, List.getElem?_toArray, List.getElem?_map, List.getElem?_eq_getElem hk, List.getD_eq_getElem?_getD, List.getElem?_eq_getElem hk]; rfl
/-- What the pieces are together. -/
def catB (ps : List ByteArray) : List UInt8 := ps.flatMap fun p => p.data.toList
theorem catB_take_succ (ps : List ByteArray) (k : Nat) (hk : k < ps.length) : catB (ps.take (k + 1)) = catB (ps.take k) ++ (ps.getD k ByteArray.empty).data.toList := by
  unfold catB
  rw [List.take_succ_eq_append_getElem hk, List.flatMap_append, List.getD_eq_getElem?_getD, List.getElem?_eq_getElem hk]
  simp
theorem catB_take_le (ps : List ByteArray) (k : Nat) : (catB (ps.take k)).length ≤ (catB ps).length := by
  have h : catB ps = catB (ps.take k) ++ catB (ps.drop k) := by unfold catB; rw [← List.flatMap_append, List.take_append_drop]
  rw [h, List.length_append]
  omega
/-- What holds at the head of join's loop. -/
def JoinAt (B b : Nat) (l : List UInt8) (w wr : World) : Prop := Bld B b l wr ∧ Below B w wr ∧ Lib.OthersKept 5 (some b) w wr
set_option maxHeartbeats 4000000 in
set_option maxRecDepth 100000 in
theorem join_any (B b g c : Nat) (l : List UInt8) (ps : List ByteArray) (w : World) (h : Bld B b l w) (hp : Pieces w g ps) (hgb : g ≠ b) (hn : ps.length ≤ 1000) (hl : l.length + (catB ps).length ≤ 1000000000000) (hB : B ≤ w.heap.size) :
    Calls Tryd.prog 56 #[.pointer (some ⟨b, 0, none⟩), .slice (some ⟨g, 0, none⟩) ps.length c] w fun e w' => e = .returned (.tuple #[]) ∧ JoinAt B b (l ++ catB ps) w w' := by
  obtain ⟨n, hnn⟩ : ∃ n, n = ps.length := ⟨_, rfl⟩
  rw [← hnn] at hn ⊢
  have HN := Lib.hid hnn
  have H0 : Hid (JoinAt B b (l ++ catB (ps.take 0)) w w) := ⟨by simpa [catB] using h, Below.refl _ _, Lib.OthersKept.refl _ _ _⟩
  have HP := Lib.hid hp
  have HL := Lib.hid hl
  have HGB := Lib.hid hgb
  clear h hp hl hnn hgb
  go_enter Tryd.func56, Tryd.ntmps56
  go_wp2_with fail
  go_loopw [8] (fun i wr => ∃ k : Nat, k ≤ n ∧ i = .int .i64 k ∧ Hid (JoinAt B b (l ++ catB (ps.take k)) w wr)) (fun i _ => n - (intOf i).toNat)
  case atStart => exact ⟨0, by omega, rfl, H0⟩
  case round =>
    obtain ⟨k, hk, rfl, HJ⟩ := hrel
    clear H0
    by_cases hlt : k < n
    · obtain ⟨j1, j2, j3⟩ := HJ.out
      have hkl : k < ps.length := by rw [← HN.out]; exact hlt
      have hpw : Pieces wr g ps := by
        obtain ⟨fz, hh⟩ := HP.out
        exact ⟨fz, j3 g _ hh (by intro e; exact HGB.out (Option.some.inj e)) (by intro c fz' e; injection e with _ e _; cases e)⟩
      have hc := pieces_cell hpw k hkl
      have hcat := catB_take_succ ps k hkl
      have hle1 := catB_take_le ps (k + 1)
      have hll := HL.out
      rw [hcat, List.length_append] at hle1
      obtain ⟨q, hq⟩ : ∃ q, q = ps.getD k ByteArray.empty := ⟨_, rfl⟩
      rw [← hq] at hc hcat hle1
      have hqs : q.data.toList.length = q.size := Array.length_toList
      have hcall := Tryd.Builder_WriteString_k B b (Lib.byteCells (l ++ catB (ps.take k))) q wr j1 (by rw [Lib.byteCells_length, List.length_append]; omega) (Nat.le_trans hB j2.size)
      rw [Lib.strCells_eq, ← Lib.byteCells_append, List.append_assoc, ← hcat] at hcall
      have HC := Lib.hid hcall
      have f1 : (0 : Int) ≤ (k : Int) := by omega
      have f2 : (k : Int) < (n : Int) := by omega
      clear hpw hcat hle1 hll hq hqs hcall j1 j2 j3
      go_wp2_with fail
      refine HC.out.mono ?_
      rintro e w3 ⟨rfl, h1, h2, h3⟩
      have HJ3 : Hid (JoinAt B b (l ++ catB (ps.take (k + 1))) w w3) := ⟨.inr h1, HJ.out.2.1.trans h2, HJ.out.2.2.trans h3⟩
      clear h1 h2 h3
      go_wp2_with fail
      go_roundw
      case rel => exact ⟨k + 1, by omega, by go_num, HJ3⟩
      case measure => simp [intOf]; omega
    · obtain rfl : k = n := by omega
      have HF : Hid (JoinAt B b (l ++ catB ps) w wr) := by
        have h := HJ.out
        rw [HN.out, List.take_length] at h
        exact h
      go_wp2_with fail
      go_end0
      exact ⟨rfl, HF.out⟩
end Go.Proofs.YthpngienphnaoaaDoor

/-
  tuple.eight: its contract.
-/
namespace Go.Proofs.YthpngienphnaoaaDoor
open Go.RowKit Go.Proofs.YthpngienphnaoaaDoorW.PrintWords

theorem xor_top (x : Nat) (h : x < 18446744073709551616) : x ^^^ 9223372036854775808 = (x + 9223372036854775808) % 18446744073709551616 := by
  have e : (9223372036854775808 : Nat) = 2 ^ 63 := by decide
  have e2 : (18446744073709551616 : Nat) = 2 ^ 64 := by decide
  by_cases hlt : x < 9223372036854775808
  · have h1 : (x + 9223372036854775808) % 18446744073709551616 = 2 ^ 63 + x := by rw [← e]; omega
    rw [h1, e]
    apply Nat.eq_of_testBit_eq
    intro i
    rw [Nat.testBit_xor, Nat.testBit_two_pow]
    by_cases hi : i = 63
    · subst hi
      rw [Nat.testBit_two_pow_add_eq, Nat.testBit_lt_two_pow (by rw [← e]; exact hlt)]
      simp
    · rcases Nat.lt_or_gt_of_ne hi with h2 | h2
      · rw [Nat.testBit_two_pow_add_gt h2]
        simp [Ne.symm hi]
      · rw [Nat.testBit_lt_two_pow (x := x) (i := i) (Nat.lt_of_lt_of_le hlt (by rw [e]; exact Nat.pow_le_pow_right (by omega) (by omega))), Nat.testBit_lt_two_pow (x := 2 ^ 63 + x) (i := i) (Nat.lt_of_lt_of_le (show 2 ^ 63 + x < 2 ^ 64 by rw [← e, ← e2]; omega) (Nat.pow_le_pow_right (by omega) (by omega)))]
        simp [Ne.symm hi]
  · have h1 : (x + 9223372036854775808) % 18446744073709551616 = x - 9223372036854775808 := by omega
    obtain ⟨y, hy⟩ : ∃ y, x = 2 ^ 63 + y := ⟨x - 2 ^ 63, by rw [← e]; omega⟩
    have hy9 : y < 9223372036854775808 := by rw [← e] at hy; omega
    rw [h1, hy, e, Nat.add_sub_cancel_left]
    apply Nat.eq_of_testBit_eq
    intro i
    rw [Nat.testBit_xor, Nat.testBit_two_pow]
    by_cases hi : i = 63
    · subst hi
      rw [Nat.testBit_two_pow_add_eq, Nat.testBit_lt_two_pow (x := y) (by rw [← e]; exact hy9)]
      simp
    · rcases Nat.lt_or_gt_of_ne hi with h2 | h2
      · rw [Nat.testBit_two_pow_add_gt h2]
        simp [Ne.symm hi]
      · rw [Nat.testBit_lt_two_pow (x := y) (i := i) (Nat.lt_of_lt_of_le hy9 (by rw [e]; exact Nat.pow_le_pow_right (by omega) (by omega))), Nat.testBit_lt_two_pow (x := 2 ^ 63 + y) (i := i) (Nat.lt_of_lt_of_le (show 2 ^ 63 + y < 2 ^ 64 by rw [← e, ← e2]; omega) (Nat.pow_le_pow_right (by omega) (by omega)))]
        simp [Ne.symm hi]
/-- A number, moved up so that none is below nothing. -/
def upN (n : Int) : Nat := (n + 9223372036854775808).toNat
theorem up_bits (n : Int) (h0 : -9223372036854775808 ≤ n) (h1 : n ≤ 9223372036854775807) : bits .xor .u64 (IntKind.u64.wrap n) 9223372036854775808 = (upN n : Int) := by
  rw [IntKind.wrap_u64, u64_xor (n % 18446744073709551616) 9223372036854775808 (by omega) (by omega) (by omega) (by omega)]
  rw [show (9223372036854775808 : Int).toNat = 9223372036854775808 from rfl, xor_top _ (by omega)]
  unfold upN
  omega
theorem upN_lt (n : Int) (h1 : n ≤ 9223372036854775807) : upN n < 18446744073709551616 := by unfold upN; omega
/-- Its bytes. -/
def eightL (n : Int) : List UInt8 := (List.range 8).map fun k => UInt8.ofNat (upN n / 2 ^ (56 - 8 * k) % 256)
theorem eightL_get (n : Int) (k : Nat) (h : k < 8) : (eightL n)[k]? = some (UInt8.ofNat (upN n / 2 ^ (56 - 8 * k) % 256)) := by
  unfold eightL
  rw [List.getElem?_map, List.getElem?_range h]; rfl
theorem eightL_length (n : Int) : (eightL n).length = 8 := by simp [eightL]
/-- What holds at the head of eight's loop. -/
def EightAt (g : Nat) (n : Int) (k : Nat) (w wr : World) : Prop := Below w.heap.size w wr ∧ ∃ c : Array Value, wr.heap[g]? = some (.cells c 94 (0, 0)) ∧ ∀ j, j < 8 → ∃ x : Int, c[j]? = some (.int .u8 x) ∧ (j < k → x = ((upN n / 2 ^ (56 - 8 * j) % 256 : Nat) : Int))
theorem EightAt.step {g : Nat} {n : Int} {k : Nat} {w wr : World} (h : EightAt g n k w wr) (hg : w.heap.size ≤ g) {y : Int} (hy : y = ((upN n / 2 ^ (56 - 8 * k) % 256 : Nat) : Int)) : EightAt g n (k + 1) w (wr.setCell ⟨g, k, none⟩ (.int .u8 y)) := by
  obtain ⟨hb, c, h1, h2⟩ := h
  refine ⟨hb.setCell hg _, _, heap_setCell_same wr g k c 94 _ h1, fun j hj => ?_⟩
  obtain ⟨x, hx, hx2⟩ := h2 j hj
  by_cases e : k = j
  · subst e
    exact ⟨y, by simp [(Array.getElem?_eq_some_iff.1 hx).1], fun _ => hy⟩
  · exact ⟨x, by rw [Array.getElem?_setIfInBounds, if_neg e]; exact hx, fun h => hx2 (by omega)⟩
set_option maxHeartbeats 4000000 in
set_option maxRecDepth 100000 in
theorem eight_any (n : Int) (w : World) (hn0 : -9223372036854775808 ≤ n) (hn1 : n ≤ 9223372036854775807) :
    Calls Tryd.prog 57 #[.int .i64 n] w fun e w' => e = .returned (.string (str (eightL n))) ∧ Below w.heap.size w w' := by
  have HUB := Lib.hid (up_bits n hn0 hn1)
  have H0 : Hid (EightAt w.heap.size n 0 w (w.alloc (.cells #[.int .u8 0, .int .u8 0, .int .u8 0, .int .u8 0, .int .u8 0, .int .u8 0, .int .u8 0, .int .u8 0] 94))) := by
    refine ⟨(Below.refl _ _).alloc (Nat.le_refl _) _, _, alloc_new w _, fun j hj => ⟨0, ?_, fun h => by omega⟩⟩
    rcases (show j = 0 ∨ j = 1 ∨ j = 2 ∨ j = 3 ∨ j = 4 ∨ j = 5 ∨ j = 6 ∨ j = 7 by omega) with rfl | rfl | rfl | rfl | rfl | rfl | rfl | rfl <;> rfl
  go_enter Tryd.func57, Tryd.ntmps57
  go_wp2_with fail
  go_loopw [5] (fun i wr => ∃ k : Nat, k ≤ 8 ∧ i = .int .i64 k ∧ Hid (EightAt w.heap.size n k w wr)) (fun i _ => 8 - (intOf i).toNat)
  case atStart => exact ⟨0, by omega, rfl, H0⟩
  case round =>
    obtain ⟨k, hk, rfl, HE⟩ := hrel
    clear H0
    obtain ⟨hb, c, h1, h2⟩ := HE.out
    have hf : wr.frozen? ⟨w.heap.size, k, none⟩ = false := blk_frozen h1 k
    have HH1 := Lib.hid h1
    have HH2 := Lib.hid h2
    by_cases hlt : k < 8
    · obtain ⟨x, hx, _⟩ := h2 k hlt
      have hcx : wr.cell? ⟨w.heap.size, k, none⟩ = some (.int .u8 x) := by rw [cell_of_row _ _ _ _ _ _ h1]; exact hx
      clear hb h1 h2 hx
      go_wp2_with fail
      refine ⟨⟨k + 1, by omega, by go_num, HE.out.step (Nat.le_refl _) ?_⟩, by simp [intOf]; omega⟩
      rw [HUB.out, Int.natCast_emod, Int.natCast_ediv, Int.natCast_pow]
      rfl
    · obtain rfl : k = 8 := by omega
      have hcv : (convert 65 9 (.slice (some ⟨w.heap.size, 0, none⟩) 8 8)).run Tryd.prog wr = .ok (.string (str (eightL n))) wr := by
        refine run_convert_bytes_back wr 65 9 5 ⟨w.heap.size, 0, none⟩ 8 (eightL n) Tryd.underlying65 Tryd.underlying5 Tryd.underlying9 (fun j hj => ?_)
        have hj8 : j < 8 := by rw [eightL_length] at hj; exact hj
        obtain ⟨x, hx, hxe⟩ := h2 j hj8
        have he := eightL_get n j hj8
        rw [List.getElem?_eq_getElem hj] at he
        rw [Option.some.inj he, ofNat_toNat' (Nat.mod_lt _ (by omega)), add_plain, cell_of_row _ _ _ _ _ _ h1, hx, hxe hj8]
      clear h1 h2
      go_wp2_with fail
      go_ret
      exact ⟨rfl, hb⟩
end Go.Proofs.YthpngienphnaoaaDoor

/-
  Keys in plain words; a builder in a later world.
-/
namespace Go.Proofs.YthpngienphnaoaaDoor
open Go.RowKit Go.Proofs.YthpngienphnaoaaDoorW.PrintWords Go.Proofs.YthpngienphnaoaaDoor.PTupleWorks

/-- A text's bytes, a nought told by two. -/
def escL (l : List UInt8) : List UInt8 := l.flatMap fun b => if b = 0 then [0, 255] else [b]
theorem escL_cons (b : UInt8) (l : List UInt8) : escL (b :: l) = (if b = 0 then [0, 255] else [b]) ++ escL l := rfl
theorem escL_len (l : List UInt8) : l.length ≤ (escL l).length ∧ (escL l).length ≤ 2 * l.length := by
  induction l with
  | nil => simp [escL]
  | cons b l ih =>
    rw [escL_cons, List.length_append, List.length_cons]
    split
    · simp only [List.length_cons, List.length_nil]; omega
    · simp only [List.length_cons, List.length_nil]; omega
theorem replace_esc (l : List UInt8) : Lib.replaceK [0] [0, 255] (l.count 0) l = escL l := by
  induction l with
  | nil => rfl
  | cons b t ih =>
    by_cases h : b = 0
    · subst h
      have hix : Lib.index (0 :: t) [0] = ((0 : Nat) : Int) := by rw [Lib.index]; simp [List.isPrefixOf]
      rw [List.count_cons_self, Lib.replaceK_hit _ _ _ _ 0 hix, escL_cons, if_pos rfl, ← ih]
      simp
    · have hp : ([0] : List UInt8).isPrefixOf (b :: t) = false := by simp [List.isPrefixOf, Ne.symm h]
      have hix : Lib.index (b :: t) [0] = if Lib.index t [0] == -1 then -1 else Lib.index t [0] + 1 := by rw [Lib.index, hp]; simp
      rw [List.count_cons_of_ne h, escL_cons, if_neg h, ← ih]
      cases hk : t.count 0 with
      | zero => rfl
      | succ k =>
        by_cases hm : Lib.index t [0] = -1
        · rw [hm] at hix
          rw [Lib.replaceK, hix, if_pos (by decide), Lib.replaceK, hm, if_pos (by decide)]; rfl
        · have hge := Lib.index_ge t [0]
          obtain ⟨j, hj⟩ : ∃ j : Nat, Lib.index t [0] = j := ⟨(Lib.index t [0]).toNat, by omega⟩
          rw [if_neg (fun e => hm (beq_iff_eq.1 e)), hj] at hix
          have hix' : Lib.index (b :: t) [0] = ((j + 1 : Nat) : Int) := by rw [hix]; omega
          rw [Lib.replaceK_hit _ _ _ _ (j + 1) hix', Lib.replaceK_hit _ _ _ _ j hj]
          simp
theorem replaceAll_esc (l : List UInt8) : Lib.replaceAll l [0] [0, 255] = escL l := by
  unfold Lib.replaceAll Lib.replace
  rw [if_neg (by decide)]
  unfold Lib.replaceNum
  rw [if_pos (.inl (by decide)), Lib.count_one]
  exact replace_esc l
/-- A part's key; none: it may not be. -/
def keyP (p : S39) : Option (List UInt8) :=
  if p.f0 = 1 ∧ p.f2.data.toList = [] then some (1 :: eightL p.f1) else if p.f0 = 2 ∧ p.f1 = 0 then some (2 :: (escL p.f2.data.toList ++ [0, 0])) else none
/-- A row's key. -/
def keyL : List S39 → Option (List UInt8)
  | [] => some []
  | p :: r => (keyP p).bind fun a => (keyL r).map (a ++ ·)
theorem keyL_cons (p : S39) (r : List S39) : keyL (p :: r) = (keyP p).bind fun a => (keyL r).map (a ++ ·) := rfl
theorem keyL_append (l m : List S39) : keyL (l ++ m) = (keyL l).bind fun a => (keyL m).map (a ++ ·) := by
  induction l with
  | nil => simp only [List.nil_append, keyL, Option.bind_some]; cases keyL m <;> simp
  | cons p l ih =>
    rw [List.cons_append, keyL_cons, keyL_cons, ih]
    cases keyP p with
    | none => rfl
    | some a =>
      simp only [Option.bind_some]
      cases keyL l with
      | none => rfl
      | some b =>
        simp only [Option.map_some, Option.bind_some]
        cases keyL m <;> simp
/-- What Key answers. -/
def keyS (l : List S39) : List UInt8 × Int :=
  if l.length < 1 ∨ 8 < l.length then ([], 110) else match keyL l with
  | some k => if 100 < k.length then ([], 2) else (k, 0)
  | none => ([], 110)
theorem keyL_step {l : List S39} {k : Nat} (hk : k < l.length) {acc : List UInt8} (h : keyL (l.take k) = some acc) {a : List UInt8} (ha : keyP (l.getD k z39) = some a) : keyL (l.take (k + 1)) = some (acc ++ a) := by
  have e : l.getD k z39 = l[k] := by rw [List.getD_eq_getElem?_getD, List.getElem?_eq_getElem hk]; rfl
  rw [List.take_succ_eq_append_getElem hk, keyL_append, h, Option.bind_some, keyL_cons, ← e, ha]
  simp [keyL]
theorem keyL_bad {l : List S39} {k : Nat} (hk : k < l.length) (ha : keyP (l.getD k z39) = none) : keyL l = none := by
  have e : l.getD k z39 = l[k] := by rw [List.getD_eq_getElem?_getD, List.getElem?_eq_getElem hk]; rfl
  have hs : l = l.take k ++ l[k] :: l.drop (k + 1) := by rw [← List.drop_eq_getElem_cons hk, List.take_append_drop]
  rw [hs, keyL_append]
  cases keyL (l.take k) with
  | none => rfl
  | some b =>
    rw [Option.bind_some, keyL_cons, ← e, ha]; rfl
theorem bld_below {B b : Nat} {l : List UInt8} {w w' : World} (h : Bld B b l w) (hb : Below w.heap.size w w') : Bld B b l w' := by
  have key : ∀ p, Lib.BuilderAtF 67 5 B b p (Lib.byteCells l) w → Lib.BuilderAtF 67 5 B b p (Lib.byteCells l) w' := by
    rintro p ⟨h1, v, h2, ⟨h3, h4⟩, h5⟩
    refine ⟨h1, v, block_below hb h2, ⟨h3, ?_⟩, h5⟩
    rcases h4 with h4 | ⟨g, cap, cur, fz, a1, a2, a3, a4⟩
    · exact .inl h4
    · exact .inr ⟨g, cap, cur, fz, a1, a2, block_below hb a3, a4⟩
  exact h.imp (key _) (key _)
theorem bld_new (w : World) : Bld w.heap.size w.heap.size [] (w.alloc (.cells #[.pointer none, .slice none 0 0] 67)) :=
  .inl ⟨Nat.le_refl _, .slice none 0 0, alloc_new w _, World.ownsRowF_of ⟨rfl, .inl ⟨rfl, rfl⟩⟩, by simp [Value.ownBlock]⟩
theorem bld_lt {B b : Nat} {l : List UInt8} {w : World} (h : Bld B b l w) : b < w.heap.size ∧ B ≤ b := by
  rcases h with ⟨h1, v, h2, _⟩ | ⟨h1, v, h2, _⟩
  · exact ⟨blk_lt h2, h1⟩
  · exact ⟨blk_lt h2, h1⟩
end Go.Proofs.YthpngienphnaoaaDoor

/-
  tuple.Key: its contract.
-/
namespace Go.Proofs.YthpngienphnaoaaDoor
open Go.RowKit Go.Proofs.YthpngienphnaoaaDoorW.PrintWords Go.Proofs.YthpngienphnaoaaDoor.PTupleWorks

/-- The parts of a row are no greater than a machine's. -/
def PartsOk (l : List S39) : Prop := ∀ p ∈ l, p.f2.size ≤ 10000000 ∧ -9223372036854775808 ≤ p.f1 ∧ p.f1 ≤ 9223372036854775807
theorem replace_any (s : ByteArray) (W : World) (hE : Env W) (hs : s.size ≤ 10000000) :
    Calls Tryd.prog 58 #[.string s, .string ⟨#[0]⟩, .string ⟨#[0, 255]⟩] W fun e w' => e = .returned (.string (str (escL s.data.toList))) ∧ Below W.heap.size W w' := by
  obtain ⟨_, m, hm⟩ := hE
  have hc := Lib.countB_le ⟨#[0]⟩ (by decide) _ s (Nat.le_refl _)
  have h := Tryd.strings_ReplaceAll s ⟨#[0]⟩ ⟨#[0, 255]⟩ m W (by omega) hm (by decide) (by rw [show (ByteArray.mk #[0, 255]).size = 2 from rfl]; omega)
  rw [show (ByteArray.mk #[0]).data.toList = [0] from rfl, show (ByteArray.mk #[0, 255]).data.toList = [0, 255] from rfl, replaceAll_esc] at h
  exact h
/-- What holds at the head of Key's loop. -/
def KeyAt (w : World) (l : List S39) (k : Nat) (wr : World) : Prop := ∃ acc, keyL (l.take k) = some acc ∧ acc.length ≤ 30000000 * k ∧ Bld w.heap.size w.heap.size acc wr ∧ Below w.heap.size w wr
theorem keyP_len {p : S39} {a : List UInt8} (h : keyP p = some a) (hp : p.f2.size ≤ 10000000) : a.length ≤ 30000000 := by
  have hsz : p.f2.data.toList.length = p.f2.size := Array.length_toList
  unfold keyP at h
  split at h
  · injection h with h; subst h; rw [List.length_cons, eightL_length]; omega
  · split at h
    · injection h with h; subst h
      have := escL_len p.f2.data.toList
      rw [List.length_cons, List.length_append]
      simp only [List.length_cons, List.length_nil]
      omega
    · cases h
theorem KeyAt.step {w wr : World} {l : List S39} {k : Nat} {acc a : List UInt8} (hk : k < l.length) (h : keyL (l.take k) = some acc) (hl : acc.length ≤ 30000000 * k) (ha : keyP (l.getD k z39) = some a) (hp : (l.getD k z39).f2.size ≤ 10000000) (hb : Bld w.heap.size w.heap.size (acc ++ a) wr) (hw : Below w.heap.size w wr) : KeyAt w l (k + 1) wr :=
  ⟨acc ++ a, keyL_step hk h ha, by rw [List.length_append]; have := keyP_len ha hp; omega, hb, hw⟩
set_option maxHeartbeats 16000000 in
set_option maxRecDepth 100000 in
theorem key_any (A : Option Addr) (c : Nat) (l : List S39) (w : World) (hr : Kd.C k39 w A l.length l) (_hc : l.length ≤ c) (hok : PartsOk l) (hE : Env w) :
    Calls Tryd.prog 27 #[.slice A l.length c] w fun e w' => e = .returned (.tuple #[.string (str (keyS l).1), .int .i64 (keyS l).2]) ∧ Below w.heap.size w w' := by
  have HE := Lib.hid hE
  have HR := Lib.hid hr
  have HOK := Lib.hid hok
  clear hE hr hok
  obtain ⟨n, hn⟩ : ∃ n, n = l.length := ⟨_, rfl⟩
  by_cases hlen : l.length < 1 ∨ 8 < l.length
  · have hks : keyS l = ([], 110) := by unfold keyS; rw [if_pos hlen]
    have HK := Lib.hid hks
    rw [← hn] at hlen ⊢
    clear hks hn
    rcases hlen with h1 | h1
    · obtain rfl : n = 0 := by omega
      go_enter Tryd.func27, Tryd.ntmps27
      go_wp2_with fail
      go_ret2
      exact ⟨by rw [HK.out]; rfl, Below.refl _ _⟩
    · have f1 : ¬ (n : Int) < 1 := by omega
      have f2 : (8 : Int) < (n : Int) := by omega
      go_enter Tryd.func27, Tryd.ntmps27
      go_wp2_with fail
      go_ret2
      exact ⟨by rw [HK.out]; rfl, Below.refl _ _⟩
  · have HN := Lib.hid hn
    have hn1 : 1 ≤ n := by omega
    have hn8 : n ≤ 8 := by omega
    have HLEN := Lib.hid hlen
    rw [← hn] at ⊢
    clear hn hlen
    have f1 : ¬ (n : Int) < 1 := by omega
    have f2 : ¬ (8 : Int) < (n : Int) := by omega
    have H0 : Hid (KeyAt w l 0 (w.alloc (.cells #[.pointer none, .slice none 0 0] 67))) := ⟨[], by simp [keyL], by simp, bld_new w, (Below.refl _ _).alloc (Nat.le_refl _) _⟩
    go_enter Tryd.func27, Tryd.ntmps27
    go_wp2_with fail
    clear f1 f2
    go_loopw [17] (fun i wr => ∃ k : Nat, k ≤ n ∧ i = .int .i64 k ∧ Hid (KeyAt w l k wr)) (fun i _ => n - (intOf i).toNat)
    case atStart => exact ⟨0, by omega, rfl, H0⟩
    case round =>
      obtain ⟨k, hk, rfl, HJ⟩ := hrel
      clear H0
      obtain ⟨acc, a1, a2, a3, a4⟩ := HJ.out
      by_cases hlt : k < n
      · have hkl : k < l.length := by rw [← HN.out]; exact hlt
        obtain ⟨ad, hA, q0, q1, q2⟩ := at_T39 (HR.out) (k : Int) (by omega) (by rw [← HN.out]; omega)
        subst hA
        rw [Int.toNat_natCast] at q0 q1 q2
        rw [show rd_T39 l (k : Int) = l.getD k z39 by unfold rd_T39; rw [Int.toNat_natCast]] at q0 q1 q2
        replace q0 := (a4.cell (World.block_lt_of_cell? w _ q0)).trans q0
        replace q1 := (a4.cell (World.block_lt_of_cell? w _ q1)).trans q1
        replace q2 := (a4.cell (World.block_lt_of_cell? w _ q2)).trans q2
        obtain ⟨p, hp⟩ : ∃ p, p = l.getD k z39 := ⟨_, rfl⟩
        have hpm : p ∈ l := by
          rw [hp, List.getD_eq_getElem?_getD, List.getElem?_eq_getElem hkl]
          exact List.getElem_mem hkl
        have hpo := HOK.out p hpm
        rw [← hp] at q0 q1 q2
        have HP := Lib.hid hp
        obtain ⟨x0, x1, x2⟩ := p
        have q0' : wr.cell? (ad.add (k * 3)) = some (.int .i64 x0) := q0
        have q1' : wr.cell? ⟨(ad.add (k * 3)).block, (ad.add (k * 3)).off + 1, none⟩ = some (.int .i64 x1) := q1
        have q2' : wr.cell? ⟨(ad.add (k * 3)).block, (ad.add (k * 3)).off + 2, none⟩ = some (.string x2) := q2
        clear q0 q1 q2 hp
        have hb2 : x2.size ≤ 10000000 := hpo.1
        have hi1 : -9223372036854775808 ≤ x1 := hpo.2.1
        have hi2 : x1 ≤ 9223372036854775807 := hpo.2.2
        clear hpo hpm
        have EW := Lib.hid (env_below HE.out a4)
        have f1 : (0 : Int) ≤ (k : Int) := by omega
        have f2 : (k : Int) < (n : Int) := by omega
        have A3 := Lib.hid a3
        have A4 := Lib.hid a4
        have A1 := Lib.hid a1
        clear a3 a4 a1 HJ
        by_cases hx0 : x0 = 1
        · subst hx0
          by_cases hx2 : x2 = ⟨#[]⟩
          · subst hx2
            have HA : Hid (keyP ⟨1, x1, ⟨#[]⟩⟩ = some (1 :: eightL x1)) := by unfold Hid keyP; rw [if_pos ⟨rfl, rfl⟩]
            go_wp2_with fail
            refine (eight_any x1 _ hi1 hi2).mono ?_
            rintro e w5 ⟨rfl, hb5⟩
            have hb15 : Below wr.heap.size wr w5 := below_then ((Below.refl wr.heap.size wr).alloc (Nat.le_refl _) _) (by rw [alloc_size]; omega) hb5
            clear hb5
            have hb05 : Below w.heap.size w w5 := A4.out.trans (hb15.mono A4.out.size)
            have HBL := Lib.hid (bld_below A3.out hb15)
            have HLT := Lib.hid (bld_lt A3.out)
            have HS5 := Lib.hid hb15.size
            have HCJ : Hid (Calls Tryd.prog 56 #[.pointer (some ⟨w.heap.size, 0, none⟩), .slice (some ⟨w5.heap.size, 0, none⟩) 2 2] (w5.alloc (.cells #[.string ⟨#[1]⟩, .string (str (eightL x1))] 9)) fun e w' => e = .returned (.tuple #[]) ∧ JoinAt w.heap.size w.heap.size (acc ++ 1 :: eightL x1) (w5.alloc (.cells #[.string ⟨#[1]⟩, .string (str (eightL x1))] 9)) w') := by
              have h := join_any w.heap.size w.heap.size w5.heap.size 2 acc [⟨#[1]⟩, str (eightL x1)] (w5.alloc (.cells #[.string ⟨#[1]⟩, .string (str (eightL x1))] 9)) (bld_below HBL.out ((Below.refl _ _).alloc (Nat.le_refl _) _)) ⟨_, alloc_new w5 _⟩ (by have := HLT.out.1; have := HS5.out; omega) (by simp) (by have hkl := keyP_len HA.out hb2; rw [show catB [⟨#[1]⟩, str (eightL x1)] = 1 :: eightL x1 by simp [catB, str_list]]; omega) (by rw [alloc_size]; have := HLT.out.1; have := HS5.out; omega)
              rw [show catB [⟨#[1]⟩, str (eightL x1)] = 1 :: eightL x1 by simp [catB, str_list]] at h
              exact h
            clear hb15
            go_wp2_with fail
            refine HCJ.out.mono ?_
            rintro e w9 ⟨rfl, j1, j2, j3⟩
            have HKS : Hid (KeyAt w l (k + 1) w9) := KeyAt.step hkl A1.out a2 (by rw [← HP.out]; exact HA.out) (by rw [← HP.out]; exact hb2) j1 ((hb05.alloc (Nat.le_trans A4.out.size HS5.out) _).trans j2)
            clear j1 j2 j3 hb05
            go_wp2_with fail
            go_roundw
            case rel => exact ⟨k + 1, by omega, by go_num, HKS⟩
            case measure => simp [intOf]; omega
          · have hx3 : ¬ x2.data.toList = [] := fun h => hx2 (by apply ByteArray.ext; apply Array.ext'; rw [h])
            have hx4 : 0 < x2.size := by
              have h : x2.data.toList.length = x2.size := Array.length_toList
              rcases Nat.eq_zero_or_pos x2.size with h0 | h0
              · exact absurd (List.eq_nil_of_length_eq_zero (by omega)) hx3
              · exact h0
            have hx5 := toList_of x2 hx4
            have hx6 : ¬ x2.toList = [] := fun h => by rw [h] at hx5; cases hx5
            have HA : Hid (keyP ⟨1, x1, x2⟩ = none) := by unfold Hid keyP; rw [if_neg (fun h => hx3 h.2), if_neg (fun h => absurd (show (1 : Int) = 2 from h.1) (by decide))]
            clear hx2 hx3 hx4
            have hks : keyS l = ([], 110) := by unfold keyS; rw [if_neg HLEN.out, keyL_bad hkl (by rw [← HP.out]; exact HA.out)]
            have HK := Lib.hid hks
            clear hks
            go_wp2_with fail
            go_ret2
            exact ⟨by rw [HK.out]; rfl, (A4.out.alloc A4.out.size _)⟩
        · by_cases hx0' : x0 = 2
          · subst hx0'
            by_cases hx1 : x1 = 0
            · subst hx1
              have HA : Hid (keyP ⟨2, 0, x2⟩ = some (2 :: (escL x2.data.toList ++ [0, 0]))) := by unfold Hid keyP; rw [if_neg (fun h => absurd (show (2 : Int) = 1 from h.1) (by decide)), if_pos ⟨rfl, rfl⟩]
              have hbx : Below wr.heap.size wr (wr.alloc (.cells #[.int .i64 2, .int .i64 0, .string x2] 39)) := (Below.refl wr.heap.size wr).alloc (Nat.le_refl _) _
              have HCR := Lib.hid (replace_any x2 _ (env_below EW.out hbx) hb2)
              clear hbx hx0
              go_wp2_with fail
              refine HCR.out.mono ?_
              rintro e w5 ⟨rfl, hb5⟩
              have hb15 : Below wr.heap.size wr w5 := below_then ((Below.refl wr.heap.size wr).alloc (Nat.le_refl _) _) (by rw [alloc_size]; omega) hb5
              clear hb5
              have hb05 : Below w.heap.size w w5 := A4.out.trans (hb15.mono A4.out.size)
              have HBL := Lib.hid (bld_below A3.out hb15)
              have HLT := Lib.hid (bld_lt A3.out)
              have HS5 := Lib.hid hb15.size
              have HCJ : Hid (Calls Tryd.prog 56 #[.pointer (some ⟨w.heap.size, 0, none⟩), .slice (some ⟨w5.heap.size, 0, none⟩) 3 3] (w5.alloc (.cells #[.string ⟨#[2]⟩, .string (str (escL x2.data.toList)), .string ⟨#[0, 0]⟩] 9)) fun e w' => e = .returned (.tuple #[]) ∧ JoinAt w.heap.size w.heap.size (acc ++ (2 :: (escL x2.data.toList ++ [0, 0]))) (w5.alloc (.cells #[.string ⟨#[2]⟩, .string (str (escL x2.data.toList)), .string ⟨#[0, 0]⟩] 9)) w') := by
                have h := join_any w.heap.size w.heap.size w5.heap.size 3 acc [⟨#[2]⟩, str (escL x2.data.toList), ⟨#[0, 0]⟩] (w5.alloc (.cells #[.string ⟨#[2]⟩, .string (str (escL x2.data.toList)), .string ⟨#[0, 0]⟩] 9)) (bld_below HBL.out ((Below.refl _ _).alloc (Nat.le_refl _) _)) ⟨_, alloc_new w5 _⟩ (by have := HLT.out.1; have := HS5.out; omega) (by simp) (by have hkl := keyP_len HA.out hb2; rw [show catB [⟨#[2]⟩, str (escL x2.data.toList), ⟨#[0, 0]⟩] = (2 :: (escL x2.data.toList ++ [0, 0])) by simp [catB, str_list]]; omega) (by rw [alloc_size]; have := HLT.out.1; have := HS5.out; omega)
                rw [show catB [⟨#[2]⟩, str (escL x2.data.toList), ⟨#[0, 0]⟩] = (2 :: (escL x2.data.toList ++ [0, 0])) by simp [catB, str_list]] at h
                exact h
              clear hb15
              go_wp2_with fail
              refine HCJ.out.mono ?_
              rintro e w9 ⟨rfl, j1, j2, j3⟩
              have HKS : Hid (KeyAt w l (k + 1) w9) := KeyAt.step hkl A1.out a2 (by rw [← HP.out]; exact HA.out) (by rw [← HP.out]; exact hb2) j1 ((hb05.alloc (Nat.le_trans A4.out.size HS5.out) _).trans j2)
              clear j1 j2 j3 hb05
              go_wp2_with fail
              go_roundw
              case rel => exact ⟨k + 1, by omega, by go_num, HKS⟩
              case measure => simp [intOf]; omega
            · have hz : (x1 == 0) = false := by rw [beq_eq_false_iff_ne]; exact hx1
              have HA : Hid (keyP ⟨2, x1, x2⟩ = none) := by unfold Hid keyP; rw [if_neg (fun h => absurd (show (2 : Int) = 1 from h.1) (by decide)), if_neg (fun h => hx1 h.2)]
              clear hx0
              have hks : keyS l = ([], 110) := by unfold keyS; rw [if_neg HLEN.out, keyL_bad hkl (by rw [← HP.out]; exact HA.out)]
              have HK := Lib.hid hks
              clear hks
              go_wp2_with fail
              go_ret2
              exact ⟨by rw [HK.out]; rfl, (A4.out.alloc A4.out.size _)⟩
          · have hz : (x0 == 1) = false := by rw [beq_eq_false_iff_ne]; exact hx0
            have hz2 : (x0 == 2) = false := by rw [beq_eq_false_iff_ne]; exact hx0'
            have HA : Hid (keyP ⟨x0, x1, x2⟩ = none) := by unfold Hid keyP; rw [if_neg (fun h => hx0 h.1), if_neg (fun h => hx0' h.1)]
            clear hx0 hx0'
            have hks : keyS l = ([], 110) := by unfold keyS; rw [if_neg HLEN.out, keyL_bad hkl (by rw [← HP.out]; exact HA.out)]
            have HK := Lib.hid hks
            clear hks
            go_wp2_with fail
            go_ret2
            exact ⟨by rw [HK.out]; rfl, (A4.out.alloc A4.out.size _)⟩
      · obtain rfl : k = n := by omega
        have hkl : keyL l = some acc := by
          have h := a1
          rw [HN.out, List.take_length] at h
          exact h
        have hks : keyS l = if 100 < acc.length then ([], 2) else (acc, 0) := by unfold keyS; rw [if_neg HLEN.out, hkl]
        have HK := Lib.hid hks
        have hcl := Tryd.Builder_Len_f w.heap.size w.heap.size _ wr a3
        rw [Lib.byteCells_length] at hcl
        have HCL := Lib.hid hcl
        have HCS := Lib.hid (Tryd.Builder_String_any_f w.heap.size w.heap.size acc wr a3 a4.size)
        have A4 := Lib.hid a4
        have hal : acc.length ≤ 1000000000 := by omega
        clear hkl hks hcl a1 a3 a4 HJ
        by_cases h100 : 100 < acc.length
        · have hg : (100 : Int) < (acc.length : Int) := by omega
          go_wp2_with fail
          refine HCL.out.mono ?_
          rintro e w6 ⟨rfl, rfl⟩
          go_wp2_with fail
          go_ret2
          exact ⟨by rw [HK.out, if_pos h100]; rfl, A4.out⟩
        · have hg : ¬ (100 : Int) < (acc.length : Int) := by omega
          go_wp2_with fail
          refine HCL.out.mono ?_
          rintro e w6 ⟨rfl, rfl⟩
          go_wp2_with fail
          refine HCS.out.mono ?_
          rintro e w7 ⟨rfl, _, hb7⟩
          have hb07 := A4.out.trans hb7
          clear hb7
          go_wp2_with fail
          go_ret2
          exact ⟨by rw [HK.out, if_neg h100]; rfl, hb07⟩
end Go.Proofs.YthpngienphnaoaaDoor

/-
  tuple.text: its contract.
-/
namespace Go.Proofs.YthpngienphnaoaaDoor
open Go.RowKit Go.Proofs.YthpngienphnaoaaDoorW.PrintWords Go.Proofs.YthpngienphnaoaaDoor.PTupleWorks

/-- A text cut off: what it says, and what stands behind it; none: it is none. -/
def unT : List UInt8 → Option (List UInt8 × List UInt8)
  | [] => none
  | [_] => none
  | b :: c :: q => if b = 0 then (if c = 0 then some ([], q) else if c = 255 then (unT q).map (fun x => (0 :: x.1, x.2)) else none) else (unT (c :: q)).map (fun x => (b :: x.1, x.2))
theorem unT_ne {b : UInt8} (h : b ≠ 0) (r : List UInt8) : unT (b :: r) = (unT r).map (fun x => (b :: x.1, x.2)) := by
  cases r with
  | nil => rw [unT, unT]; rfl
  | cons c q => rw [unT, if_neg h]
theorem unT_00 (q : List UInt8) : unT (0 :: 0 :: q) = some ([], q) := by rw [unT, if_pos rfl, if_pos rfl]
theorem unT_0f (q : List UInt8) : unT (0 :: 255 :: q) = (unT q).map (fun x => (0 :: x.1, x.2)) := by rw [unT, if_pos rfl, if_neg (by decide), if_pos rfl]
theorem unT_0b {c : UInt8} (h : c ≠ 0) (h2 : c ≠ 255) (q : List UInt8) : unT (0 :: c :: q) = none := by rw [unT, if_pos rfl, if_neg h, if_neg h2]
theorem unT_0n : unT [0] = none := by rw [unT]
theorem unT_front (p : List UInt8) (h : (0 : UInt8) ∉ p) (r : List UInt8) : unT (p ++ r) = (unT r).map (fun x => (p ++ x.1, x.2)) := by
  induction p with
  | nil => rw [List.nil_append]; cases unT r <;> rfl
  | cons b p ih =>
    have hb : b ≠ 0 := fun e => h (by rw [e]; exact List.mem_cons_self ..)
    rw [List.cons_append, unT_ne hb, ih (fun e => h (List.mem_cons_of_mem _ e))]
    cases unT r <;> simp
theorem unT_none (p : List UInt8) (h : (0 : UInt8) ∉ p) : unT p = none := by
  have := unT_front p h []
  rw [List.append_nil] at this
  rw [this]; rfl
/-- strings.Cut at a nought. -/
theorem cut_zero (s : List UInt8) : ((0 : UInt8) ∉ s ∧ Lib.cut s [0] = (s, [], false)) ∨ ∃ p r, s = p ++ 0 :: r ∧ (0 : UInt8) ∉ p ∧ Lib.cut s [0] = (p, r, true) := by
  induction s with
  | nil => left; exact ⟨by simp, by simp [Lib.cut, Lib.index]⟩
  | cons b t ih =>
    by_cases h : b = 0
    · subst h
      right
      refine ⟨[], t, rfl, by simp, ?_⟩
      have hix : Lib.index (0 :: t) [0] = ((0 : Nat) : Int) := by rw [Lib.index]; simp [List.isPrefixOf]
      unfold Lib.cut
      rw [hix, if_pos (by omega)]
      simp
    · have hp : ([0] : List UInt8).isPrefixOf (b :: t) = false := by simp [List.isPrefixOf, Ne.symm h]
      have hix : Lib.index (b :: t) [0] = if Lib.index t [0] == -1 then -1 else Lib.index t [0] + 1 := by rw [Lib.index, hp]; simp
      rcases ih with ⟨h1, h2⟩ | ⟨p, r, h1, h2, h3⟩
      · left
        refine ⟨fun e => (List.mem_cons.1 e).elim (fun e => h e.symm) h1, ?_⟩
        have hneg : ¬ 0 ≤ Lib.index t [0] := by
          intro h0
          unfold Lib.cut at h2
          rw [if_pos h0] at h2
          injection h2 with _ h2
          injection h2 with _ h2
          cases h2
        have hge := Lib.index_ge t [0]
        have hm : Lib.index t [0] = -1 := by omega
        rw [hm] at hix
        unfold Lib.cut
        rw [hix, if_neg (by decide)]
      · right
        refine ⟨b :: p, r, by rw [h1]; rfl, fun e => (List.mem_cons.1 e).elim (fun e => h e.symm) h2, ?_⟩
        have hpos : 0 ≤ Lib.index t [0] := by
          by_cases h0 : 0 ≤ Lib.index t [0]
          · exact h0
          · unfold Lib.cut at h3
            rw [if_neg h0] at h3
            injection h3 with _ h3
            injection h3 with _ h3
            cases h3
        obtain ⟨j, hj⟩ : ∃ j : Nat, Lib.index t [0] = j := ⟨(Lib.index t [0]).toNat, by omega⟩
        unfold Lib.cut at h3 ⊢
        rw [if_pos hpos, hj] at h3
        rw [if_neg (fun e => by have := beq_iff_eq.1 e; omega), hj] at hix
        rw [hix, if_pos (by omega), show ((j : Int) + 1).toNat = j + 1 by omega]
        rw [show ((j : Int)).toNat = j by omega] at h3
        injection h3 with e1 e2
        injection e2 with e2 _
        simp only [List.length_singleton] at e2 ⊢
        rw [List.take_succ_cons, e1, show j + 1 + 1 = (j + 1) + 1 from rfl, List.drop_succ_cons, e2]
theorem unT_len : ∀ (s : List UInt8) {t q : List UInt8}, unT s = some (t, q) → q.length < s.length ∧ t.length ≤ s.length := by
  intro s
  induction h : s.length using Nat.strongRecOn generalizing s with
  | _ n ih =>
    intro t q hu
    match s, hu with
    | [], hu => cases hu
    | b :: r, hu =>
      by_cases hb : b = 0
      · subst hb
        match r, hu with
        | [], hu => rw [unT_0n] at hu; cases hu
        | c :: r', hu =>
          by_cases hc : c = 0
          · subst hc
            rw [unT_00] at hu
            injection hu with hu
            injection hu with h1 h2
            subst h1; subst h2
            simp only [List.length_cons] at h ⊢
            simp
            omega
          · by_cases hf : c = 255
            · subst hf
              rw [unT_0f] at hu
              obtain ⟨x, hx, he⟩ := Option.map_eq_some_iff.1 hu
              injection he with h1 h2
              subst h1; subst h2
              have := ih r'.length (by simp only [List.length_cons] at h; omega) r' rfl (t := x.1) (q := x.2) hx
              simp only [List.length_cons] at h ⊢
              omega
            · rw [unT_0b hc hf] at hu; cases hu
      · rw [unT_ne hb] at hu
        obtain ⟨x, hx, he⟩ := Option.map_eq_some_iff.1 hu
        injection he with h1 h2
        subst h1; subst h2
        have := ih r.length (by simp only [List.length_cons] at h; omega) r rfl (t := x.1) (q := x.2) hx
        simp only [List.length_cons] at h ⊢
        omega
end Go.Proofs.YthpngienphnaoaaDoor

/-
  tuple.text: its contract.
-/
namespace Go.Proofs.YthpngienphnaoaaDoor
open Go.RowKit Go.Proofs.YthpngienphnaoaaDoorW.PrintWords Go.Proofs.YthpngienphnaoaaDoor.PTupleWorks

/-- What text answers. -/
def txtS (b : List UInt8) : List UInt8 × List UInt8 × Bool := match unT b with | some (t, q) => (t, q, true) | none => ([], [], false)
/-- What holds at the head of text's loop. -/
def TextAt (w : World) (s0 s : ByteArray) (wr : World) : Prop := ∃ acc, unT s0.data.toList = (unT s.data.toList).map (fun x => (acc ++ x.1, x.2)) ∧ acc.length + s.size ≤ s0.size ∧ Bld w.heap.size w.heap.size acc wr ∧ Below w.heap.size w wr
theorem str_tail (c : UInt8) (q : List UInt8) : (str (c :: q)).extract 1 (str (c :: q)).size = str q := by
  apply ByteArray.ext
  apply Array.ext'
  rw [ext_list, str_list, str_size, List.take_of_length_le (Nat.le_refl _)]
  simp [str]
theorem str_head (c : UInt8) (q : List UInt8) (h : 0 < (str (c :: q)).size) : (str (c :: q))[0]'h = c := rfl
set_option maxHeartbeats 16000000 in
set_option maxRecDepth 100000 in
theorem text_any (s0 : ByteArray) (w : World) (hs : s0.size ≤ 10000000) (hE : Env w) :
    Calls Tryd.prog 67 #[.string s0] w fun e w' => e = .returned (.tuple #[.string (str (txtS s0.data.toList).1), .string (str (txtS s0.data.toList).2.1), .bool (txtS s0.data.toList).2.2]) ∧ Below w.heap.size w w' := by
  have HE := Lib.hid hE
  clear hE
  have H0 : Hid (TextAt w s0 s0 (w.alloc (.cells #[.pointer none, .slice none 0 0] 67))) := ⟨[], by cases unT s0.data.toList <;> rfl, by simp, bld_new w, (Below.refl _ _).alloc (Nat.le_refl _) _⟩
  obtain ⟨sz, hsz⟩ : ∃ sz, sz = s0.size := ⟨_, rfl⟩
  have HSZ := Lib.hid hsz
  rw [← hsz] at hs
  have HRES : Hid (∀ T, txtS s0.data.toList = T → Value.tuple #[.string (str (txtS s0.data.toList).1), .string (str (txtS s0.data.toList).2.1), .bool (txtS s0.data.toList).2.2] = Value.tuple #[.string (str T.1), .string (str T.2.1), .bool T.2.2]) := fun T h => by rw [h]
  clear hsz
  go_enter Tryd.func67, Tryd.ntmps67
  go_wp2_with fail
  go_loopw [0] (fun v wr => ∃ s : ByteArray, v = .string s ∧ s.size ≤ sz ∧ Hid (TextAt w s0 s wr)) (fun v _ => strLen v)
  case atStart => exact ⟨s0, rfl, by rw [HSZ.out]; omega, H0⟩
  case round =>
    obtain ⟨s, rfl, hs9, HJ⟩ := hrel
    clear H0
    obtain ⟨acc, a1, a2, a3, a4⟩ := HJ.out
    rw [← HSZ.out] at a2
    have hssz : s.data.toList.length = s.size := Array.length_toList
    have EW := env_below HE.out a4
    obtain ⟨m, hm⟩ := EW.2
    have hcut := Tryd.strings_Cut s ⟨#[0]⟩ m wr (by omega) hm
    rw [show (ByteArray.mk #[0]).data.toList = [0] from rfl] at hcut
    rcases cut_zero s.data.toList with ⟨hz1, hz2⟩ | ⟨p, r, hz1, hz2, hz3⟩
    · have hres : txtS s0.data.toList = ([], [], false) := by unfold txtS; rw [a1, unT_none _ hz1]; rfl
      rw [hz2] at hcut
      obtain ⟨x, hx⟩ : ∃ x : ByteArray, x = ⟨s.data.toList.toArray⟩ := ⟨_, rfl⟩
      simp only at hcut
      rw [← hx] at hcut
      have HC := Lib.hid hcut
      have HR := Lib.hid hres
      have A4 := Lib.hid a4
      clear hcut hres a1 a3 a4 hz1 hz2 hm EW hx HJ
      go_wp2_with fail
      refine HC.out.mono ?_
      rintro e w1 ⟨rfl, hd⟩
      have hb1 : Below w.heap.size w w1 := by obtain ⟨nd, rfl⟩ := hd; exact below_drewN A4.out nd
      clear hd
      go_wp2_with fail
      go_ret3
      exact ⟨congrArg Ending.returned (HRES.out _ HR.out).symm, hb1⟩
    · rw [hz3] at hcut
      simp only at hcut
      have hlen : s.size = p.length + (r.length + 1) := by rw [← hssz, hz1, List.length_append, List.length_cons]
      cases r with
      | nil =>
        have hres : txtS s0.data.toList = ([], [], false) := by unfold txtS; rw [a1, hz1, unT_front p hz2, unT_0n]; rfl
        change Calls Tryd.prog 79 #[.string s, .string ⟨#[0]⟩] wr (fun e w' => e = .returned (.tuple #[.string (str p), .string ⟨#[]⟩, .bool true]) ∧ ∃ n, w' = wr.drewN n) at hcut
        obtain ⟨x, hx⟩ : ∃ x : ByteArray, x = str p := ⟨_, rfl⟩
        rw [← hx] at hcut
        have HC := Lib.hid hcut
        have HR := Lib.hid hres
        have A4 := Lib.hid a4
        clear hcut hres a1 a3 a4 hz1 hz2 hz3 hm EW hx HJ hlen
        go_wp2_with fail
        refine HC.out.mono ?_
        rintro e w1 ⟨rfl, hd⟩
        have hb1 : Below w.heap.size w w1 := by obtain ⟨nd, rfl⟩ := hd; exact below_drewN A4.out nd
        clear hd
        go_wp2_with fail
        go_ret3
        exact ⟨congrArg Ending.returned (HRES.out _ HR.out).symm, hb1⟩
      | cons c q =>
        change Calls Tryd.prog 79 #[.string s, .string ⟨#[0]⟩] wr (fun e w' => e = .returned (.tuple #[.string (str p), .string (str (c :: q)), .bool true]) ∧ ∃ n, w' = wr.drewN n) at hcut
        have hR0 : 0 < (str (c :: q)).size := by rw [str_size, List.length_cons]; omega
        have hRh : ((str (c :: q))[0]'hR0) = c := rfl
        have hRt := str_tail c q
        have hRs : (str (c :: q)).size = q.length + 1 := by rw [str_size, List.length_cons]
        have hqs : (str q).size = q.length := str_size q
        rw [List.length_cons] at hlen
        have hacc : acc.length + p.length ≤ 100000000 := by omega
        have hPS := str_size p
        obtain ⟨R, hR⟩ : ∃ R, R = str (c :: q) := ⟨_, rfl⟩
        obtain ⟨x, hx⟩ : ∃ x, x = str p := ⟨_, rfl⟩
        have hcb : catB [x] = p := by rw [hx]; simp [catB, str_list]
        rw [← hx] at hcut
        generalize hRR : str (c :: q) = R' at *
        obtain rfl : R = R' := hR
        have HC := Lib.hid hcut
        have HRT := Lib.hid hRt
        have HCB := Lib.hid hcb
        have HRH : Hid (((R[0]'hR0).toNat : Int) = (c.toNat : Int)) := by rw [hRh]; rfl
        have A1 := Lib.hid a1
        have A3 := Lib.hid a3
        have A4 := Lib.hid a4
        have HZ1 := Lib.hid hz1
        have HZ2 := Lib.hid hz2
        have HRS := Lib.hid hRs
        have HQS := Lib.hid hqs
        have HLEN := Lib.hid hlen
        have hR1 : (1 : Int) ≤ (R.size : Int) := by omega
        have hr1 := toList_of R hR0
        have hr2 : ¬ R.toList = [] := fun h => by rw [h] at hr1; cases hr1
        clear hcut hRh hRt hRs hqs hcb a1 a3 a4 hz1 hz2 hz3 hm EW hx HJ hlen hRR hPS hssz
        go_wp2_with fail
        refine HC.out.mono ?_
        rintro e w1 ⟨rfl, hd⟩
        have hb1 : Below wr.heap.size wr w1 := by obtain ⟨nd, rfl⟩ := hd; exact below_drewN (Below.refl _ _) nd
        clear hd
        have HS1 := Lib.hid hb1.size
        have HB1 : Hid (Below w.heap.size w w1) := A4.out.trans (hb1.mono A4.out.size)
        have HCJ : Hid (Calls Tryd.prog 56 #[.pointer (some ⟨w.heap.size, 0, none⟩), .slice (some ⟨w1.heap.size, 0, none⟩) 1 1] (w1.alloc (.cells #[.string x] 9)) fun e w' => e = .returned (.tuple #[]) ∧ JoinAt w.heap.size w.heap.size (acc ++ p) (w1.alloc (.cells #[.string x] 9)) w') := by
          have hlt := bld_lt A3.out
          have h := join_any w.heap.size w.heap.size w1.heap.size 1 acc [x] (w1.alloc (.cells #[.string x] 9)) (bld_below (bld_below A3.out hb1) ((Below.refl _ _).alloc (Nat.le_refl _) _)) ⟨_, alloc_new w1 _⟩ (by have := HS1.out; omega) (by simp) (by rw [HCB.out]; omega) (by rw [alloc_size]; have := HS1.out; omega)
          rw [HCB.out] at h
          exact h
        clear hb1
        go_wp2_with fail
        refine HCJ.out.mono ?_
        rintro e w3 ⟨rfl, j1, j2, j3⟩
        have J1 := Lib.hid j1
        have hb3 : Below w.heap.size w w3 := (HB1.out.alloc HB1.out.size _).trans j2
        have HB3 := Lib.hid hb3
        clear j1 j2 j3 hb3
        by_cases hc0 : c = 0
        · subst hc0
          have hRH : ((R[0]'hR0).toNat : Int) = 0 := HRH.out
          have hres : txtS s0.data.toList = (acc ++ p, q, true) := by unfold txtS; rw [A1.out, HZ1.out, unT_front p HZ2.out, unT_00]; simp
          have HR := Lib.hid hres
          clear hres
          have HCS : Hid (∀ W, Below w3.heap.size w3 W → Calls Tryd.prog 60 #[.pointer (some ⟨w.heap.size, 0, none⟩)] W fun e w' => e = .returned (.string (str (acc ++ p))) ∧ Below w.heap.size W w') := by
            intro W hW
            refine (Tryd.Builder_String_any_f w.heap.size w.heap.size (acc ++ p) W (bld_below J1.out hW) (Nat.le_trans HB3.out.size hW.size)).mono ?_
            rintro e w' ⟨rfl, _, hb⟩
            exact ⟨rfl, hb⟩
          go_wp2_with fail
          go_region_with (go_at_call 60; (with_reducible refine (HCS.out _ (Below.drew (Below.refl _ _))).mono ?_); rintro e w4 ⟨rfl, hb4⟩)
          all_goals
            go_simp
            go_wp2_with fail
            go_ret3
            refine ⟨?_, HB3.out.drew.trans hb4⟩
            refine congrArg Ending.returned (Eq.trans ?_ (HRES.out _ HR.out).symm)
            rw [HRT.out]
            rfl
        · by_cases hcf : c = 255
          · subst hcf
            have hRH : ((R[0]'hR0).toNat : Int) = 255 := HRH.out
            have HCK : Hid (Calls Tryd.prog 56 #[.pointer (some ⟨w.heap.size, 0, none⟩), .slice (some ⟨w3.heap.size, 0, none⟩) 1 1] (w3.alloc (.cells #[.string ⟨#[0]⟩] 9)) fun e w' => e = .returned (.tuple #[]) ∧ JoinAt w.heap.size w.heap.size (acc ++ p ++ [0]) (w3.alloc (.cells #[.string ⟨#[0]⟩] 9)) w') := by
              have hlt := bld_lt J1.out
              have hcb0 : catB [ByteArray.mk #[0]] = [0] := by simp [catB]
              have h := join_any w.heap.size w.heap.size w3.heap.size 1 (acc ++ p) [⟨#[0]⟩] (w3.alloc (.cells #[.string ⟨#[0]⟩] 9)) (bld_below J1.out ((Below.refl _ _).alloc (Nat.le_refl _) _)) ⟨_, alloc_new w3 _⟩ (by omega) (by simp) (by rw [hcb0, List.length_append]; simp; omega) (by rw [alloc_size]; have := HB3.out.size; omega)
              rw [hcb0] at h
              exact h
            go_wp2_with fail
            refine HCK.out.mono ?_
            rintro e w4 ⟨rfl, j1, j2, j3⟩
            have HT4 : Hid (TextAt w s0 (R.extract 1 R.size) w4) := by
              refine ⟨acc ++ p ++ [0], ?_, ?_, j1, (HB3.out.alloc HB3.out.size _).trans j2⟩
              · rw [A1.out, HZ1.out, unT_front p HZ2.out, unT_0f, HRT.out, str_list]
                cases unT q <;> simp
              · rw [HRT.out, HQS.out, ← HSZ.out, List.length_append, List.length_append]
                have := HLEN.out
                simp only [List.length_singleton]
                omega
            have hxs : (R.extract 1 R.size).size = q.length := by rw [HRT.out, HQS.out]
            have HXS := Lib.hid hxs
            clear j1 j2 j3 hxs
            go_wp2_with fail
            go_roundw
            case rel => exact ⟨_, rfl, by rw [HXS.out]; have := HLEN.out; omega, HT4⟩
            case measure => simp only [strLen]; rw [HXS.out]; have := HLEN.out; omega
          · have hRH1 : (((R[0]'hR0).toNat : Int) == 0) = false := by rw [HRH.out, beq_eq_false_iff_ne]; intro h; exact hc0 (UInt8.toNat_inj.1 (by show c.toNat = 0; omega))
            have hRH2 : (((R[0]'hR0).toNat : Int) == 255) = false := by rw [HRH.out, beq_eq_false_iff_ne]; intro h; exact hcf (UInt8.toNat_inj.1 (by show c.toNat = 255; omega))
            have hres : txtS s0.data.toList = ([], [], false) := by unfold txtS; rw [A1.out, HZ1.out, unT_front p HZ2.out, unT_0b hc0 hcf]; rfl
            have HR := Lib.hid hres
            clear hres
            go_wp2_with fail
            go_ret3
            exact ⟨congrArg Ending.returned (HRES.out _ HR.out).symm, HB3.out⟩
end Go.Proofs.YthpngienphnaoaaDoor

/-
  Keys read back, in plain words; tuple.back's plain law.
-/
namespace Go.Proofs.YthpngienphnaoaaDoor
open Go.RowKit Go.Proofs.YthpngienphnaoaaDoorW.PrintWords Go.Proofs.YthpngienphnaoaaDoor.PTupleWorks

/-- Bytes as a number. -/
def valN (l : List UInt8) : Nat := l.foldl (fun u b => u * 256 + b.toNat) 0
theorem valN_snoc (l : List UInt8) (b : UInt8) : valN (l ++ [b]) = valN l * 256 + b.toNat := by unfold valN; rw [List.foldl_append]; rfl
theorem valN_from (l : List UInt8) : ∀ u : Nat, l.foldl (fun u b => u * 256 + b.toNat) u < (u + 1) * 256 ^ l.length := by
  induction l with
  | nil => intro u; simp
  | cons b l ih =>
    intro u
    have hb := b.toNat_lt
    have h := ih (u * 256 + b.toNat)
    rw [List.foldl_cons, List.length_cons, Nat.pow_succ]
    have h2 : (u * 256 + b.toNat + 1) * 256 ^ l.length ≤ ((u + 1) * 256) * 256 ^ l.length := Nat.mul_le_mul_right _ (by omega)
    rw [Nat.mul_assoc, Nat.mul_comm 256 (256 ^ l.length)] at h2
    omega
theorem valN_lt (l : List UInt8) : valN l < 256 ^ l.length := by
  have h := valN_from l 0
  rw [Nat.zero_add, Nat.one_mul] at h
  exact h
theorem or_byte (u : Nat) (b : Nat) (hb : b < 256) : (256 * u) ||| b = 256 * u + b := (Nat.two_pow_add_eq_or_of_lt (i := 8) hb u).symm
theorem wrap_top (v : Nat) (h : v < 18446744073709551616) : wrap64 (((v + 9223372036854775808) % 18446744073709551616 : Nat) : Int) = (v : Int) - 9223372036854775808 := by unfold wrap64; omega
set_option maxRecDepth 100000 in
theorem back_l0 (s : ByteArray) (hs : s.size = 8) : ∀ (d i : Nat), i ≤ 8 → 8 - i = d → ∃ k, tuple_back.l0 k s ((valN (s.data.toList.take i) : Nat) : Int) 8 (i : Int) = some ((valN s.data.toList : Int) - 9223372036854775808) := by
  have hsz : s.data.toList.length = s.size := Array.length_toList
  intro d
  induction d with
  | zero =>
    intro i hi hd
    have e : i = 8 := by omega
    subst e
    refine ⟨1, ?_⟩
    rw [tuple_back.l0, if_neg (by omega), List.take_of_length_le (by omega)]
    have hv := valN_lt s.data.toList
    rw [hsz, hs] at hv
    have hv' : valN s.data.toList < 18446744073709551616 := hv
    rw [u64_xor _ 9223372036854775808 (by omega) (by omega) (by omega) (by omega), Int.toNat_natCast, show (9223372036854775808 : Int).toNat = 9223372036854775808 from rfl, xor_top _ hv']
    exact congrArg some (wrap_top _ hv')
  | succ d ih =>
    intro i hi hd
    obtain ⟨k, hk⟩ := ih (i + 1) (by omega) (by omega)
    refine ⟨k + 1, ?_⟩
    have hil : i < s.data.toList.length := by omega
    have hb := (s.data.toList[i]).toNat_lt
    have hbt : bt s (i : Int) = ((s.data.toList[i]).toNat : Int) := by
      unfold bt
      rw [dif_pos (by rw [Int.toNat_natCast]; omega)]
      simp only [Int.toNat_natCast]
      rfl
    have hv := valN_lt (s.data.toList.take i)
    have hl : (s.data.toList.take i).length = i := by rw [List.length_take]; omega
    rw [hl] at hv
    have hv7 : valN (s.data.toList.take i) < 256 ^ 7 := Nat.lt_of_lt_of_le hv (Nat.pow_le_pow_right (by omega) (by omega))
    have hv' : valN (s.data.toList.take i) < 72057594037927936 := hv7
    rw [tuple_back.l0, if_pos (by omega), if_pos (by omega), if_pos (by omega), hbt]
    rw [IntKind.wrap_u64, IntKind.wrap_u64, show ((valN (s.data.toList.take i) : Nat) : Int) * 256 % 18446744073709551616 = ((256 * valN (s.data.toList.take i) : Nat) : Int) by omega, show (((s.data.toList[i]).toNat : Nat) : Int) % 18446744073709551616 = (((s.data.toList[i]).toNat : Nat) : Int) by omega]
    rw [u64_or_nat _ _ (by omega) (by omega), or_byte _ _ hb, show wrap64 ((i : Int) + 1) = ((i + 1 : Nat) : Int) by unfold wrap64; omega]
    have e : valN (s.data.toList.take (i + 1)) = 256 * valN (s.data.toList.take i) + (s.data.toList[i]).toNat := by
      rw [List.take_succ_eq_append_getElem hil, valN_snoc]
      omega
    rw [e] at hk
    exact hk
theorem back_any (s : ByteArray) (w : World) (hs : s.size = 8) : Calls Tryd.prog 66 #[.string s] w fun e w' => e = .returned (.int .i64 ((valN s.data.toList : Int) - 9223372036854775808)) ∧ Drawn0 w w' := by
  obtain ⟨k, hk⟩ := back_l0 s hs _ 0 (by omega) rfl
  refine tuple_back.calls k s _ w ?_
  unfold tuple_back.f
  rw [hs]
  exact hk
/-- A key's parts; none: it is none. -/
def readF : Nat → List UInt8 → Option (List S39)
  | _, [] => some []
  | 0, _ :: _ => none
  | f + 1, b :: r =>
    if b = 1 then (if 8 ≤ r.length then (readF f (r.drop 8)).map (fun x => (⟨1, (valN (r.take 8) : Int) - 9223372036854775808, ⟨#[]⟩⟩ : S39) :: x) else none)
    else if b = 2 then (match unT r with
      | some (t, q) => (readF f q).map (fun x => (⟨2, 0, str t⟩ : S39) :: x)
      | none => none)
    else none
theorem readF_fuel : ∀ (f g : Nat) (l : List UInt8), l.length ≤ f → l.length ≤ g → readF f l = readF g l := by
  intro f
  induction f with
  | zero =>
    intro g l h1 h2
    have : l = [] := List.eq_nil_of_length_eq_zero (by omega)
    subst this
    cases g <;> rfl
  | succ f ih =>
    intro g l h1 h2
    cases l with
    | nil => cases g <;> rfl
    | cons b r =>
      rw [List.length_cons] at h1 h2
      cases g with
      | zero => omega
      | succ g =>
        rw [readF, readF]
        rw [ih g (r.drop 8) (by rw [List.length_drop]; omega) (by rw [List.length_drop]; omega)]
        cases hu : unT r with
        | none => rfl
        | some x =>
          obtain ⟨t, q⟩ := x
          have := unT_len r hu
          simp only
          rw [ih g q (by omega) (by omega)]
def readL (l : List UInt8) : Option (List S39) := readF l.length l
theorem readL_nil : readL [] = some [] := rfl
theorem readL_one (r : List UInt8) : readL (1 :: r) = if 8 ≤ r.length then (readL (r.drop 8)).map (fun x => (⟨1, (valN (r.take 8) : Int) - 9223372036854775808, ⟨#[]⟩⟩ : S39) :: x) else none := by
  unfold readL
  rw [List.length_cons, readF, if_pos rfl, readF_fuel r.length _ (r.drop 8) (by rw [List.length_drop]; omega) (Nat.le_refl _)]
theorem readL_two {r t q : List UInt8} (h : unT r = some (t, q)) : readL (2 :: r) = (readL q).map (fun x => (⟨2, 0, str t⟩ : S39) :: x) := by
  have := unT_len r h
  unfold readL
  rw [List.length_cons, readF, if_neg (by decide), if_pos rfl, h]
  simp only
  rw [readF_fuel r.length _ q (by omega) (Nat.le_refl _)]
theorem readL_two_none {r : List UInt8} (h : unT r = none) : readL (2 :: r) = none := by
  unfold readL
  rw [List.length_cons, readF, if_neg (by decide), if_pos rfl, h]
theorem readL_bad {b : UInt8} (h1 : b ≠ 1) (h2 : b ≠ 2) (r : List UInt8) : readL (b :: r) = none := by
  unfold readL
  rw [List.length_cons, readF, if_neg h1, if_neg h2]
/-- What Read answers. -/
def readS (b : List UInt8) : List S39 × Int :=
  if 100 < b.length then ([], 2) else match readL b with
  | some l => if l.length < 1 ∨ 8 < l.length then ([], 110) else (l, 0)
  | none => ([], 110)
/-- A part's cells. -/
def cellP (p : S39) : List Value := [.int .i64 p.f0, .int .i64 p.f1, .string p.f2]
def cellsP (l : List S39) : List Value := l.flatMap cellP
theorem cellsP_length (l : List S39) : (cellsP l).length = l.length * 3 := by
  induction l with
  | nil => rfl
  | cons p l ih => show (cellP p ++ cellsP l).length = _; rw [List.length_append, ih, List.length_cons]; simp only [cellP, List.length_cons, List.length_nil]; omega
theorem cellsP_snoc (l : List S39) (p : S39) : cellsP (l ++ [p]) = cellsP l ++ cellP p := by unfold cellsP; rw [List.flatMap_append]; simp
theorem cellP_one (p : S39) : ∀ u ∈ cellP p, u.oneCell' = true := by
  intro u hu
  simp only [cellP, List.mem_cons, List.not_mem_nil, or_false] at hu
  rcases hu with rfl | rfl | rfl <;> rfl
end Go.Proofs.YthpngienphnaoaaDoor

/-
  tuple.Read: its contract.
-/
namespace Go.Proofs.YthpngienphnaoaaDoor
open Go.RowKit Go.Proofs.YthpngienphnaoaaDoorW.PrintWords Go.Proofs.YthpngienphnaoaaDoor.PTupleWorks

theorem own_below {w w' : World} {base n : Nat} {e : TypeId} {size : Nat} {v : Value} {xs : List Value} (h : w.ownsRow base e size v n xs) (hb : Below w.heap.size w w') : w'.ownsRow base e size v n xs := by
  obtain ⟨h1, h2⟩ := h
  refine ⟨h1, h2.imp id ?_⟩
  rintro ⟨g, cap, cur, a, b, c, d⟩
  exact ⟨g, cap, cur, a, b, block_below hb c, d⟩
theorem own_base' {w : World} {base n k : Nat} {e : TypeId} {size : Nat} {v : Value} {xs : List Value} (h : w.ownsRow base e size v n xs) (hk : v.ownBlock = some k) : base ≤ k := by
  rcases h.2 with ⟨h1, _⟩ | ⟨g, cap, cur, h1, h2, _⟩
  · subst h1; simp [Value.ownBlock] at hk
  · subst h1; simp [Value.ownBlock] at hk; omega
/-- What holds at the head of Read's loop. -/
def ReadAt (w : World) (s0 s : ByteArray) (done : List S39) (v : Value) (wr : World) : Prop := readL s0.data.toList = (readL s.data.toList).map (fun x => done ++ x) ∧ wr.ownsRow w.heap.size 39 3 v done.length (cellsP done) ∧ Below w.heap.size w wr
/-- What Read leaves. -/
def ReadPost (w : World) (b : List UInt8) (e : Ending) (w' : World) : Prop := (∃ v, e = .returned (.tuple #[v, .int .i64 (readS b).2]) ∧ w'.ownsRow w.heap.size 39 3 v (readS b).1.length (cellsP (readS b).1)) ∧ Below w.heap.size w w'
theorem head_str {s : ByteArray} {b : UInt8} {r : List UInt8} (h : s.data.toList = b :: r) : s = str (b :: r) := by
  rw [← h]; exact (str_of s).symm
theorem nil_own (w : World) (base : Nat) : w.ownsRow base 39 3 (.slice none 0 0) 0 [] := ⟨rfl, .inl ⟨rfl, rfl⟩⟩
set_option maxHeartbeats 32000000 in
set_option maxRecDepth 100000 in
theorem read_any (s0 : ByteArray) (w : World) (hs : s0.size ≤ 10000000) (hE : Env w) :
    Calls Tryd.prog 30 #[.string s0] w (ReadPost w s0.data.toList) := by
  have hsz0 : s0.data.toList.length = s0.size := Array.length_toList
  have HE := Lib.hid hE
  clear hE
  by_cases h100 : 100 < s0.size
  · have hres : readS s0.data.toList = ([], 2) := by unfold readS; rw [if_pos (by omega)]
    have HR := Lib.hid hres
    have f1 : (100 : Int) < (s0.size : Int) := by omega
    clear hres hsz0
    go_enter Tryd.func30, Tryd.ntmps30
    go_wp2_with fail
    go_ret2
    exact ⟨⟨.slice none 0 0, by rw [HR.out]; rfl, by rw [HR.out]; exact nil_own _ _⟩, Below.refl _ _⟩
  · have f1 : ¬ (100 : Int) < (s0.size : Int) := by omega
    have HSZ : Hid (¬ 100 < s0.data.toList.length) := by rw [hsz0]; exact h100
    have H0 : Hid (ReadAt w s0 s0 [] (.slice none 0 0) w) := ⟨by cases readL s0.data.toList <;> rfl, nil_own _ _, Below.refl _ _⟩
    have hs1 : s0.size ≤ 100 := by omega
    clear hsz0 h100
    go_enter Tryd.func30, Tryd.ntmps30
    go_wp2_with fail
    clear f1
    go_loopw [0, 4] (fun vs vo wr => ∃ (s : ByteArray) (done : List S39), vs = .string s ∧ s.size ≤ 100 ∧ done.length ≤ 8 ∧ Hid (ReadAt w s0 s done vo wr)) (fun vs _ _ => strLen vs)
    case atStart => exact ⟨s0, [], rfl, hs1, by simp, H0⟩
    case round =>
      obtain ⟨s, done, rfl, hs9, hd9, HJ⟩ := hrel
      clear H0
      obtain ⟨a1, a2, a3⟩ := HJ.out
      have A1 := Lib.hid a1
      have A2 := Lib.hid a2
      have A3 := Lib.hid a3
      have hssz : s.data.toList.length = s.size := Array.length_toList
      cases hsl : s.data.toList with
      | nil =>
        have hs0 : s = ⟨#[]⟩ := by apply ByteArray.ext; apply Array.ext'; rw [hsl]
        subst hs0
        obtain ⟨AA, cc, rfl⟩ := own_slice a2
        have hrd : readL s0.data.toList = some done := by rw [a1]; simp [readL_nil]
        clear a1 a2 a3 HJ hsl hssz
        rcases Nat.eq_zero_or_pos done.length with h0 | h0
        · have hres : readS s0.data.toList = ([], 110) := by unfold readS; rw [if_neg HSZ.out, hrd]; simp only; rw [if_pos (by omega)]
          have HR := Lib.hid hres
          have hz : ((done.length : Int) == 0) = true := by rw [beq_iff_eq]; omega
          clear hres hrd
          go_wp2_with fail
          go_ret2
          exact ⟨⟨.slice none 0 0, by rw [HR.out]; rfl, by rw [HR.out]; exact nil_own _ _⟩, A3.out⟩
        · have hres : readS s0.data.toList = (done, 0) := by unfold readS; rw [if_neg HSZ.out, hrd]; simp only; rw [if_neg (by omega)]
          have HR := Lib.hid hres
          have hz : ((done.length : Int) == 0) = false := by rw [beq_eq_false_iff_ne]; omega
          clear hres hrd
          go_wp2_with fail
          go_ret2
          exact ⟨⟨.slice AA done.length cc, by rw [HR.out]; rfl, by rw [HR.out]; exact A2.out⟩, A3.out⟩
      | cons b r =>
        have hse := head_str hsl
        rw [hsl, List.length_cons] at hssz
        have hS0 : 0 < s.size := by omega
        have hSh : ((s[0]'hS0).toNat : Int) = (b.toNat : Int) := by
          have h : ∀ (x : ByteArray), x = str (b :: r) → ∀ h : 0 < x.size, (x[0]'h) = b := by rintro x rfl h; rfl
          rw [h s hse hS0]
        have hT : (s.extract 1 s.size) = str r := by rw [hse]; exact str_tail b r
        have hTs : (s.extract 1 s.size).size = r.length := by rw [hT, str_size]
        have hs1 := toList_of s hS0
        have hs2 : ¬ s.toList = [] := fun h => by rw [h] at hs1; cases hs1
        have HSH := Lib.hid hSh
        have HT := Lib.hid hT
        have HTS := Lib.hid hTs
        have HSL := Lib.hid hsl
        have HSS := Lib.hid hssz
        have hS1 : (1 : Int) ≤ (s.size : Int) := by omega
        clear a1 a2 a3 HJ hsl hssz hse hSh hT hTs
        by_cases hb1 : b = 1
        · subst hb1
          have hSH : ((s[0]'hS0).toNat : Int) = 1 := HSH.out
          by_cases h8 : 8 ≤ r.length
          · have g8 : (8 : Int) ≤ (s.size : Int) - 1 := by have := HSS.out; omega
            have g8' : (8 : Int) ≤ ((s.size - 1 : Nat) : Int) := by have := HSS.out; omega
            have g8'' : 8 ≤ s.size - 1 := by have := HSS.out; omega
            have hcut : ((s.extract 1 s.size).extract 0 8).data.toList = r.take 8 := by rw [HT.out, ext_list, str_list, List.drop_zero]
            have hcs : ((s.extract 1 s.size).extract 0 8).size = 8 := by rw [HT.out, ByteArray.size_extract, str_size]; omega
            have hkey : ((s.extract 1 s.size).extract 8 (s.size - 1)).data.toList = r.drop 8 := by rw [HT.out, ext_list, str_list, List.take_of_length_le (by have := HSS.out; omega)]
            have hksz : ((s.extract 1 s.size).extract 8 (s.size - 1)).size = r.length - 8 := by rw [HT.out, ByteArray.size_extract, str_size]; have := HSS.out; omega
            obtain ⟨x, hx⟩ : ∃ x : Int, x = (valN (r.take 8) : Int) - 9223372036854775808 := ⟨_, rfl⟩
            have HSTEP : Hid (readL s.data.toList = (readL ((s.extract 1 s.size).extract 8 (s.size - 1)).data.toList).map (fun y => (⟨1, x, ⟨#[]⟩⟩ : S39) :: y)) := by
              unfold Hid
              rw [HSL.out, readL_one, if_pos h8, hkey, hx]
            have hcall := back_any ((s.extract 1 s.size).extract 0 8) (wr.alloc (.cells #[.int .i64 1, .int .i64 0, .string ⟨#[]⟩] 39)) hcs
            rw [hcut, ← hx] at hcall
            have HCALL := Lib.hid hcall
            have HKS := Lib.hid hksz
            clear hcut hcs hkey hksz hx hcall
            go_wp2_with fail
            refine HCALL.out.mono ?_
            rintro e w5 ⟨rfl, hd⟩
            have hb5 := hd.below
            have hb15 : Below wr.heap.size wr w5 := below_then ((Below.refl wr.heap.size wr).alloc (Nat.le_refl _) _) (by rw [alloc_size]; omega) hb5
            have hbx : w5.heap[wr.heap.size]? = some (.cells #[.int .i64 1, .int .i64 0, .string ⟨#[]⟩] 39 (0, 0)) := block_below hb5 (alloc_new wr _)
            have x0 : w5.cell? ⟨wr.heap.size, 0, none⟩ = some (.int .i64 1) := by rw [cell_of_row _ _ _ _ _ _ hbx]; rfl
            have x1 : w5.cell? ⟨wr.heap.size, 1, none⟩ = some (.int .i64 0) := by rw [cell_of_row _ _ _ _ _ _ hbx]; rfl
            have x2 : w5.cell? ⟨wr.heap.size, 2, none⟩ = some (.string ⟨#[]⟩) := by rw [cell_of_row _ _ _ _ _ _ hbx]; rfl
            have f1 : w5.frozen? ⟨wr.heap.size, 1, none⟩ = false := blk_frozen hbx 1
            have hbS : Below wr.heap.size wr (w5.setCell ⟨wr.heap.size, 1, none⟩ (.int .i64 x)) := hb15.setCell (Nat.le_refl _) _
            clear hd hb5 hb15 hbx
            have hszW : (w5.setCell ⟨wr.heap.size, 1, none⟩ (.int .i64 x)).heap.size = w5.heap.size := by simp [World.setCell]
            have HSZW := Lib.hid hszW
            clear hszW
            have hownb := own_below A2.out (hbS.alloc hbS.size (.cells #[.int .i64 1, .int .i64 x, .string ⟨#[]⟩] 39))
            have hbW : Below w.heap.size w (w5.setCell ⟨wr.heap.size, 1, none⟩ (.int .i64 x)) := A3.out.trans (hbS.mono A3.out.size)
            obtain ⟨i0, hi, hz0, hz1, hz2⟩ := info_parts info39
            go_wp2_with (at_builtin; refine wpList_append_own _ rfl (.tmp 41) (.tmp 43) 37 rfl w.heap.size 39 i0 (.agg #[.int .i64 0, .int .i64 0, .string ⟨#[]⟩]) 3 32 Tryd.underlying37 hi hz0 hz1 hz2 rfl (by decide) _ done.length (cellsP done) rfl hownb ⟨w5.heap.size, 0, none⟩ 1 1 (cellP ⟨1, x, ⟨#[]⟩⟩) rfl rfl ?c1A (cellP_one _) ?c3A ?c4A ?c5A ?_)
            case c1A =>
              intro j u hu
              first | exact hu | (rw [add_plain, ← HSZW.out, row_new, ← hu, ← Array.getElem?_toList]; rfl)
            case c3A => unfold maxLen; omega
            case c4A => omega
            case c5A => have := hbW.size; have := A3.out.size; first | omega | (rw [alloc_size]; omega)
            intro v9 w9 hown9 hg9 _
            have hb9 : Below w.heap.size w w9 := (hbW.alloc hbW.size _).grown hg9 (by rw [alloc_size]; have := hbW.size; omega) (fun b hb => own_base' A2.out hb)
            obtain ⟨A9, c9, rfl⟩ := own_slice hown9
            have HOWN9 := Lib.hid hown9
            have HB9 := Lib.hid hb9
            clear hi hz0 hz1 hz2 hownb hbW hown9 hg9 hb9
            by_cases h9 : done.length + 1 ≤ 8
            · have g9 : ¬ (8 : Int) < (done.length : Int) + 1 := by omega
              have g9' : ¬ (8 : Int) < ((done.length + 1 : Nat) : Int) := by omega
              have HNEW : Hid (ReadAt w s0 ((s.extract 1 s.size).extract 8 (s.size - 1)) (done ++ [⟨1, x, ⟨#[]⟩⟩]) (.slice A9 (done.length + 1) c9) w9) := by
                refine ⟨?_, ?_, HB9.out⟩
                · rw [A1.out, HSTEP.out]
                  cases readL ((s.extract 1 s.size).extract 8 (s.size - 1)).data.toList <;> simp
                · have h := HOWN9.out
                  rw [List.length_append, List.length_singleton, cellsP_snoc]
                  exact h
              go_wp2_with fail
              go_roundw
              case rel => exact ⟨_, done ++ [⟨1, x, ⟨#[]⟩⟩], rfl, by rw [HKS.out]; have := HSS.out; omega, by rw [List.length_append, List.length_singleton]; omega, HNEW⟩
              case measure => simp only [strLen]; rw [HKS.out]; have := HSS.out; omega
            · have g9 : (8 : Int) < (done.length : Int) + 1 := by omega
              have g9' : (8 : Int) < ((done.length + 1 : Nat) : Int) := by omega
              have HBAD : Hid (readS s0.data.toList = ([], 110)) := by
                unfold Hid readS
                rw [if_neg HSZ.out, A1.out, HSTEP.out]
                cases readL ((s.extract 1 s.size).extract 8 (s.size - 1)).data.toList with
                | none => rfl
                | some z => simp only [Option.map_some]; rw [if_pos (by right; simp; omega)]
              go_wp2_with fail
              go_ret2
              exact ⟨⟨.slice none 0 0, by rw [HBAD.out]; rfl, by rw [HBAD.out]; exact nil_own _ _⟩, HB9.out⟩
          · have g8 : ¬ (8 : Int) ≤ (s.size : Int) - 1 := by have := HSS.out; omega
            have g8' : ¬ (8 : Int) ≤ ((s.size - 1 : Nat) : Int) := by have := HSS.out; omega
            have g8'' : ¬ 8 ≤ s.size - 1 := by have := HSS.out; omega
            have HBAD : Hid (readS s0.data.toList = ([], 110)) := by
              unfold Hid readS
              rw [if_neg HSZ.out, A1.out, HSL.out, readL_one, if_neg h8]; rfl
            have hbS : Below wr.heap.size wr (wr.alloc (.cells #[.int .i64 1, .int .i64 0, .string ⟨#[]⟩] 39)) := (Below.refl _ _).alloc (Nat.le_refl _) _
            have hszW : (wr.alloc (.cells #[.int .i64 1, .int .i64 0, .string ⟨#[]⟩] 39)).heap.size = wr.heap.size + 1 := alloc_size _ _
            have HSZW := Lib.hid hszW
            clear hszW
            have hownb := own_below A2.out (hbS.alloc hbS.size (.cells #[.int .i64 1, .int .i64 0, .string ⟨#[]⟩] 39))
            have hbW : Below w.heap.size w (wr.alloc (.cells #[.int .i64 1, .int .i64 0, .string ⟨#[]⟩] 39)) := A3.out.trans (hbS.mono A3.out.size)
            obtain ⟨i0, hi, hz0, hz1, hz2⟩ := info_parts info39
            go_wp2_with (at_builtin; refine wpList_append_own _ rfl (.tmp 41) (.tmp 43) 37 rfl w.heap.size 39 i0 (.agg #[.int .i64 0, .int .i64 0, .string ⟨#[]⟩]) 3 32 Tryd.underlying37 hi hz0 hz1 hz2 rfl (by decide) _ done.length (cellsP done) rfl hownb ⟨wr.heap.size + 1, 0, none⟩ 1 1 (cellP ⟨1, 0, ⟨#[]⟩⟩) rfl rfl ?c1B (cellP_one _) ?c3B ?c4B ?c5B ?_)
            case c1B =>
              intro j u hu
              first | exact hu | (rw [add_plain, ← HSZW.out, row_new, ← hu, ← Array.getElem?_toList]; rfl)
            case c3B => unfold maxLen; omega
            case c4B => omega
            case c5B => have := hbW.size; have := A3.out.size; first | omega | (rw [alloc_size]; omega)
            intro v9 w9 hown9 hg9 _
            have hb9 : Below w.heap.size w w9 := (hbW.alloc hbW.size _).grown hg9 (by rw [alloc_size]; have := hbW.size; omega) (fun b hb => own_base' A2.out hb)
            obtain ⟨A9, c9, rfl⟩ := own_slice hown9
            have HOWN9 := Lib.hid hown9
            have HB9 := Lib.hid hb9
            clear hi hz0 hz1 hz2 hownb hbW hown9 hg9 hb9
            go_wp2_with fail
            go_ret2
            exact ⟨⟨.slice none 0 0, by rw [HBAD.out]; rfl, by rw [HBAD.out]; exact nil_own _ _⟩, HB9.out⟩
        · by_cases hb2 : b = 2
          · subst hb2
            have hSH : ((s[0]'hS0).toNat : Int) = 2 := HSH.out
            have hbx0 : Below wr.heap.size wr (wr.alloc (.cells #[.int .i64 2, .int .i64 0, .string ⟨#[]⟩] 39)) := (Below.refl _ _).alloc (Nat.le_refl _) _
            have hcall := text_any (s.extract 1 s.size) (wr.alloc (.cells #[.int .i64 2, .int .i64 0, .string ⟨#[]⟩] 39)) (by rw [HTS.out]; have := HSS.out; omega) (env_below HE.out (A3.out.trans (hbx0.mono A3.out.size)))
            rw [HT.out, str_list, ← HT.out] at hcall
            clear hbx0
            cases hu : unT r with
            | none =>
              rw [show txtS r = ([], [], false) by unfold txtS; rw [hu]] at hcall
              change Calls Tryd.prog 67 #[.string (s.extract 1 s.size)] (wr.alloc (.cells #[.int .i64 2, .int .i64 0, .string ⟨#[]⟩] 39)) (fun e w' => e = .returned (.tuple #[.string ⟨#[]⟩, .string ⟨#[]⟩, .bool false]) ∧ Below _ _ w') at hcall
              have HBAD : Hid (readS s0.data.toList = ([], 110)) := by
                unfold Hid readS
                rw [if_neg HSZ.out, A1.out, HSL.out, readL_two_none hu]; rfl
              have HCALL := Lib.hid hcall
              clear hcall hu
              go_wp2_with fail
              refine HCALL.out.mono ?_
              rintro e w5 ⟨rfl, hb5⟩
              have hb15 : Below wr.heap.size wr w5 := below_then ((Below.refl wr.heap.size wr).alloc (Nat.le_refl _) _) (by rw [alloc_size]; omega) hb5
              have hbx : w5.heap[wr.heap.size]? = some (.cells #[.int .i64 2, .int .i64 0, .string ⟨#[]⟩] 39 (0, 0)) := block_below hb5 (alloc_new wr _)
              have x0 : w5.cell? ⟨wr.heap.size, 0, none⟩ = some (.int .i64 2) := by rw [cell_of_row _ _ _ _ _ _ hbx]; rfl
              have x1 : w5.cell? ⟨wr.heap.size, 1, none⟩ = some (.int .i64 0) := by rw [cell_of_row _ _ _ _ _ _ hbx]; rfl
              have x2 : w5.cell? ⟨wr.heap.size, 2, none⟩ = some (.string ⟨#[]⟩) := by rw [cell_of_row _ _ _ _ _ _ hbx]; rfl
              have f1 : w5.frozen? ⟨wr.heap.size, 2, none⟩ = false := blk_frozen hbx 2
              have hbS : Below wr.heap.size wr (w5.setCell ⟨wr.heap.size, 2, none⟩ (.string ⟨#[]⟩)) := hb15.setCell (Nat.le_refl _) _
              clear hb5 hb15 hbx
              have hszW : (w5.setCell ⟨wr.heap.size, 2, none⟩ (.string ⟨#[]⟩)).heap.size = w5.heap.size := by simp [World.setCell]
              have HSZW := Lib.hid hszW
              clear hszW
              have hownb := own_below A2.out (hbS.alloc hbS.size (.cells #[.int .i64 2, .int .i64 0, .string ⟨#[]⟩] 39))
              have hbW : Below w.heap.size w (w5.setCell ⟨wr.heap.size, 2, none⟩ (.string ⟨#[]⟩)) := A3.out.trans (hbS.mono A3.out.size)
              obtain ⟨i0, hi, hz0, hz1, hz2⟩ := info_parts info39
              go_wp2_with (at_builtin; refine wpList_append_own _ rfl (.tmp 41) (.tmp 43) 37 rfl w.heap.size 39 i0 (.agg #[.int .i64 0, .int .i64 0, .string ⟨#[]⟩]) 3 32 Tryd.underlying37 hi hz0 hz1 hz2 rfl (by decide) _ done.length (cellsP done) rfl hownb ⟨w5.heap.size, 0, none⟩ 1 1 (cellP ⟨2, 0, ⟨#[]⟩⟩) rfl rfl ?c1C (cellP_one _) ?c3C ?c4C ?c5C ?_)
              case c1C =>
                intro j u hu
                first | exact hu | (rw [add_plain, ← HSZW.out, row_new, ← hu, ← Array.getElem?_toList]; rfl)
              case c3C => unfold maxLen; omega
              case c4C => omega
              case c5C => have := hbW.size; have := A3.out.size; first | omega | (rw [alloc_size]; omega)
              intro v9 w9 hown9 hg9 _
              have hb9 : Below w.heap.size w w9 := (hbW.alloc hbW.size _).grown hg9 (by rw [alloc_size]; have := hbW.size; omega) (fun b hb => own_base' A2.out hb)
              obtain ⟨A9, c9, rfl⟩ := own_slice hown9
              have HOWN9 := Lib.hid hown9
              have HB9 := Lib.hid hb9
              clear hi hz0 hz1 hz2 hownb hbW hown9 hg9 hb9
              go_wp2_with fail
              go_ret2
              exact ⟨⟨.slice none 0 0, by rw [HBAD.out]; rfl, by rw [HBAD.out]; exact nil_own _ _⟩, HB9.out⟩
            | some tq =>
              obtain ⟨t, q⟩ := tq
              have hul := unT_len r hu
              rw [show txtS r = (t, q, true) by unfold txtS; rw [hu]] at hcall
              change Calls Tryd.prog 67 #[.string (s.extract 1 s.size)] (wr.alloc (.cells #[.int .i64 2, .int .i64 0, .string ⟨#[]⟩] 39)) (fun e w' => e = .returned (.tuple #[.string (str t), .string (str q), .bool true]) ∧ Below _ _ w') at hcall
              obtain ⟨T, hT9⟩ : ∃ T, T = str t := ⟨_, rfl⟩
              obtain ⟨Q, hQ9⟩ : ∃ Q, Q = str q := ⟨_, rfl⟩
              have HSTEP : Hid (readL s.data.toList = (readL Q.data.toList).map (fun y => (⟨2, 0, T⟩ : S39) :: y)) := by
                unfold Hid
                rw [HSL.out, readL_two hu, hQ9, str_list, hT9]
              have HQS : Hid (Q.size = q.length) := by unfold Hid; rw [hQ9, str_size]
              rw [← hT9, ← hQ9] at hcall
              have HCALL := Lib.hid hcall
              clear hcall hu hT9 hQ9
              go_wp2_with fail
              refine HCALL.out.mono ?_
              rintro e w5 ⟨rfl, hb5⟩
              have hb15 : Below wr.heap.size wr w5 := below_then ((Below.refl wr.heap.size wr).alloc (Nat.le_refl _) _) (by rw [alloc_size]; omega) hb5
              have hbx : w5.heap[wr.heap.size]? = some (.cells #[.int .i64 2, .int .i64 0, .string ⟨#[]⟩] 39 (0, 0)) := block_below hb5 (alloc_new wr _)
              have x0 : w5.cell? ⟨wr.heap.size, 0, none⟩ = some (.int .i64 2) := by rw [cell_of_row _ _ _ _ _ _ hbx]; rfl
              have x1 : w5.cell? ⟨wr.heap.size, 1, none⟩ = some (.int .i64 0) := by rw [cell_of_row _ _ _ _ _ _ hbx]; rfl
              have x2 : w5.cell? ⟨wr.heap.size, 2, none⟩ = some (.string ⟨#[]⟩) := by rw [cell_of_row _ _ _ _ _ _ hbx]; rfl
              have f1 : w5.frozen? ⟨wr.heap.size, 2, none⟩ = false := blk_frozen hbx 2
              have hbS : Below wr.heap.size wr (w5.setCell ⟨wr.heap.size, 2, none⟩ (.string T)) := hb15.setCell (Nat.le_refl _) _
              clear hb5 hb15 hbx
              have hszW : (w5.setCell ⟨wr.heap.size, 2, none⟩ (.string T)).heap.size = w5.heap.size := by simp [World.setCell]
              have HSZW := Lib.hid hszW
              clear hszW
              have hownb := own_below A2.out (hbS.alloc hbS.size (.cells #[.int .i64 2, .int .i64 0, .string T] 39))
              have hbW : Below w.heap.size w (w5.setCell ⟨wr.heap.size, 2, none⟩ (.string T)) := A3.out.trans (hbS.mono A3.out.size)
              obtain ⟨i0, hi, hz0, hz1, hz2⟩ := info_parts info39
              go_wp2_with (at_builtin; refine wpList_append_own _ rfl (.tmp 41) (.tmp 43) 37 rfl w.heap.size 39 i0 (.agg #[.int .i64 0, .int .i64 0, .string ⟨#[]⟩]) 3 32 Tryd.underlying37 hi hz0 hz1 hz2 rfl (by decide) _ done.length (cellsP done) rfl hownb ⟨w5.heap.size, 0, none⟩ 1 1 (cellP ⟨2, 0, T⟩) rfl rfl ?c1D (cellP_one _) ?c3D ?c4D ?c5D ?_)
              case c1D =>
                intro j u hu
                first | exact hu | (rw [add_plain, ← HSZW.out, row_new, ← hu, ← Array.getElem?_toList]; rfl)
              case c3D => unfold maxLen; omega
              case c4D => omega
              case c5D => have := hbW.size; have := A3.out.size; first | omega | (rw [alloc_size]; omega)
              intro v9 w9 hown9 hg9 _
              have hb9 : Below w.heap.size w w9 := (hbW.alloc hbW.size _).grown hg9 (by rw [alloc_size]; have := hbW.size; omega) (fun b hb => own_base' A2.out hb)
              obtain ⟨A9, c9, rfl⟩ := own_slice hown9
              have HOWN9 := Lib.hid hown9
              have HB9 := Lib.hid hb9
              clear hi hz0 hz1 hz2 hownb hbW hown9 hg9 hb9
              by_cases h9 : done.length + 1 ≤ 8
              · have g9 : ¬ (8 : Int) < (done.length : Int) + 1 := by omega
                have g9' : ¬ (8 : Int) < ((done.length + 1 : Nat) : Int) := by omega
                have HNEW : Hid (ReadAt w s0 (Q) (done ++ [⟨2, 0, T⟩]) (.slice A9 (done.length + 1) c9) w9) := by
                  refine ⟨?_, ?_, HB9.out⟩
                  · rw [A1.out, HSTEP.out]
                    cases readL (Q).data.toList <;> simp
                  · have h := HOWN9.out
                    rw [List.length_append, List.length_singleton, cellsP_snoc]
                    exact h
                go_wp2_with fail
                go_roundw
                case rel => exact ⟨_, done ++ [⟨2, 0, T⟩], rfl, by rw [HQS.out]; have := HSS.out; omega, by rw [List.length_append, List.length_singleton]; omega, HNEW⟩
                case measure => simp only [strLen]; rw [HQS.out]; have := HSS.out; omega
              · have g9 : (8 : Int) < (done.length : Int) + 1 := by omega
                have g9' : (8 : Int) < ((done.length + 1 : Nat) : Int) := by omega
                have HBAD : Hid (readS s0.data.toList = ([], 110)) := by
                  unfold Hid readS
                  rw [if_neg HSZ.out, A1.out, HSTEP.out]
                  cases readL (Q).data.toList with
                  | none => rfl
                  | some z => simp only [Option.map_some]; rw [if_pos (by right; simp; omega)]
                go_wp2_with fail
                go_ret2
                exact ⟨⟨.slice none 0 0, by rw [HBAD.out]; rfl, by rw [HBAD.out]; exact nil_own _ _⟩, HB9.out⟩
          · have hz1 : (((b.toNat : Nat) : Int) == 1) = false := by rw [beq_eq_false_iff_ne]; intro h; exact hb1 (UInt8.toNat_inj.1 (by show b.toNat = 1; omega))
            have hz2 : (((b.toNat : Nat) : Int) == 2) = false := by rw [beq_eq_false_iff_ne]; intro h; exact hb2 (UInt8.toNat_inj.1 (by show b.toNat = 2; omega))
            have hbl := b.toNat_lt
            have HBAD : Hid (readS s0.data.toList = ([], 110)) := by
              unfold Hid readS
              rw [if_neg HSZ.out, A1.out, HSL.out, readL_bad hb1 hb2]; rfl
            have hSH : ((s[0]'hS0).toNat : Int) = ((b.toNat : Nat) : Int) := HSH.out
            have hbS : Below wr.heap.size wr (wr.alloc (.cells #[.int .i64 ((b.toNat : Nat) : Int), .int .i64 0, .string ⟨#[]⟩] 39)) := (Below.refl _ _).alloc (Nat.le_refl _) _
            clear hb1 hb2
            have hszW : (wr.alloc (.cells #[.int .i64 ((b.toNat : Nat) : Int), .int .i64 0, .string ⟨#[]⟩] 39)).heap.size = wr.heap.size + 1 := alloc_size _ _
            have HSZW := Lib.hid hszW
            clear hszW
            have hownb := own_below A2.out (hbS.alloc hbS.size (.cells #[.int .i64 ((b.toNat : Nat) : Int), .int .i64 0, .string ⟨#[]⟩] 39))
            have hbW : Below w.heap.size w (wr.alloc (.cells #[.int .i64 ((b.toNat : Nat) : Int), .int .i64 0, .string ⟨#[]⟩] 39)) := A3.out.trans (hbS.mono A3.out.size)
            obtain ⟨i0, hi, hz0, hz1, hz2⟩ := info_parts info39
            go_wp2_with (at_builtin; refine wpList_append_own _ rfl (.tmp 41) (.tmp 43) 37 rfl w.heap.size 39 i0 (.agg #[.int .i64 0, .int .i64 0, .string ⟨#[]⟩]) 3 32 Tryd.underlying37 hi hz0 hz1 hz2 rfl (by decide) _ done.length (cellsP done) rfl hownb ⟨wr.heap.size + 1, 0, none⟩ 1 1 (cellP ⟨((b.toNat : Nat) : Int), 0, ⟨#[]⟩⟩) rfl rfl ?c1E (cellP_one _) ?c3E ?c4E ?c5E ?_)
            case c1E =>
              intro j u hu
              first | exact hu | (rw [add_plain, ← HSZW.out, row_new, ← hu, ← Array.getElem?_toList]; rfl)
            case c3E => unfold maxLen; omega
            case c4E => omega
            case c5E => have := hbW.size; have := A3.out.size; first | omega | (rw [alloc_size]; omega)
            intro v9 w9 hown9 hg9 _
            have hb9 : Below w.heap.size w w9 := (hbW.alloc hbW.size _).grown hg9 (by rw [alloc_size]; have := hbW.size; omega) (fun b hb => own_base' A2.out hb)
            obtain ⟨A9, c9, rfl⟩ := own_slice hown9
            have HOWN9 := Lib.hid hown9
            have HB9 := Lib.hid hb9
            clear hi hz0 hz1 hz2 hownb hbW hown9 hg9 hb9
            go_wp2_with fail
            go_ret2
            exact ⟨⟨.slice none 0 0, by rw [HBAD.out]; rfl, by rw [HBAD.out]; exact nil_own _ _⟩, HB9.out⟩
end Go.Proofs.YthpngienphnaoaaDoor

/-
  tuple.After: its contract.
-/
namespace Go.Proofs.YthpngienphnaoaaDoor
open Go.RowKit Go.Proofs.YthpngienphnaoaaDoorW.PrintWords Go.Proofs.YthpngienphnaoaaDoor.PTupleWorks

/-- The least text behind all with a beginning, told from the end. -/
def aftR : List UInt8 → List UInt8
  | [] => []
  | x :: r => if x = 255 then aftR r else r.reverse ++ [x + 1]
/-- What After answers. -/
def aftL (l : List UInt8) : List UInt8 := aftR l.reverse
theorem aftL_snoc (l : List UInt8) (x : UInt8) : aftL (l ++ [x]) = if x = 255 then aftL l else l ++ [x + 1] := by
  unfold aftL
  rw [List.reverse_append]
  show aftR (x :: l.reverse) = _
  rw [aftR, List.reverse_reverse]
theorem u8_succ {x : UInt8} (h : x ≠ 255) : (x + 1).toNat = x.toNat + 1 := by
  have h1 := x.toNat_lt
  have h2 : x.toNat ≠ 255 := fun e => h (UInt8.toNat_inj.1 e)
  rw [UInt8.toNat_add]
  show (x.toNat + 1) % 256 = _
  omega
def sliceLen : Value → Nat | .slice _ n _ => n | _ => 0
set_option maxHeartbeats 8000000 in
set_option maxRecDepth 100000 in
theorem after_any (s : ByteArray) (w : World) (hs : s.size ≤ 10000000) :
    Calls Tryd.prog 31 #[.string s] w fun e w' => e = .returned (.string (str (aftL s.data.toList))) ∧ Below w.heap.size w w' := by
  have hsz : s.data.toList.length = s.size := Array.length_toList
  have hcv : (convert 9 65 (.string s)).run Tryd.prog w = _ := Lib.run_convert_string_bytes w 9 65 5 s Tryd.underlying9 Tryd.underlying65 Tryd.underlying5
  have hcell := fun j hj => Lib.bytesWorld_cell w 5 s j hj
  have hblk := Lib.bytesWorld_at_new w 5 s
  have hbel : Below w.heap.size w (Lib.bytesWorld w 5 s) := ⟨rfl, rfl, rfl, by rw [Lib.bytesWorld_size]; omega, fun j hj => Lib.bytesWorld_at_old w 5 s j hj⟩
  obtain ⟨cap, hcap⟩ : ∃ cap, cap = grownCap w s.size 0 5 := ⟨_, rfl⟩
  have hcap1 : s.size ≤ cap := by rw [hcap]; exact grownCap_ge w s.size 0 5
  have hcap2 : cap ≤ maxLen := by rw [hcap]; exact grownCap_le_maxLen w s.size 0 5 (by unfold maxLen; omega)
  have hcsz : (Lib.bytesCells w 5 s).size = cap := by
    unfold Lib.bytesCells
    rw [Array.size_append, Array.size_map, Array.size_replicate, ← hcap]
    show s.size + (cap - s.size) = cap
    omega
  rw [← hcap] at hcv
  rw [hcsz] at hblk
  unfold maxLen at hcap2
  obtain ⟨n, hn⟩ : ∃ n, n = s.size := ⟨_, rfl⟩
  obtain ⟨L, hL⟩ : ∃ L, L = s.data.toList := ⟨_, rfl⟩
  have hfr : ∀ j, j < n → (Lib.bytesWorld w 5 s).frozen? ⟨w.heap.size, j, none⟩ = false := by
    intro j hj
    unfold World.frozen?
    rw [hblk]
    simp
    omega
  rw [← hL] at hcell hsz ⊢
  rw [← hn] at hsz hcap1 hcv
  have HCELL : Hid (∀ j (hj : j < L.length), (Lib.bytesWorld w 5 s).cell? ⟨w.heap.size, j, none⟩ = some (.int .u8 ((L[j]'hj).toNat : Int))) := by
    intro j hj
    rw [hcell j (by omega), List.getD_eq_getElem?_getD, List.getElem?_eq_getElem hj]; rfl
  have HFR := Lib.hid hfr
  have HB := Lib.hid hbel
  have HLL := Lib.hid hsz
  have hn9 : n ≤ 10000000 := by omega
  have hgb := hbel.size
  have HG : Hid (w.heap.size < (Lib.bytesWorld w 5 s).heap.size) := by unfold Hid; rw [Lib.bytesWorld_size]; omega
  clear hcell hfr hbel hsz hblk hcap hcsz hL hs
  go_enter Tryd.func31, Tryd.ntmps31
  go_wp2_with fail
  clear hcv
  have HNN := Lib.hid hn
  obtain ⟨w1, hw1⟩ : ∃ w1, w1 = Lib.bytesWorld w 5 s := ⟨_, rfl⟩
  rw [← hw1] at HCELL HFR HB HG hgb ⊢
  clear hw1 hn
  go_loopw [3] (fun v wr => ∃ k : Nat, k ≤ n ∧ v = .slice (some ⟨w.heap.size, 0, none⟩) k cap ∧ wr = w1 ∧ Hid (aftL L = aftL (L.take k))) (fun v _ => sliceLen v)
  case atStart => exact ⟨n, Nat.le_refl _, by rw [HNN.out], rfl, by unfold Hid; rw [List.take_of_length_le (by rw [HLL.out]; omega)]⟩
  case round =>
    obtain ⟨k, hk, rfl, rfl, HK⟩ := hrel
    cases k with
    | zero =>
      have hres : aftL L = [] := HK.out
      have HR := Lib.hid hres
      clear hres
      go_wp2_with fail
      go_ret
      exact ⟨by rw [HR.out]; rfl, HB.out⟩
    | succ j =>
      have hjl : j < L.length := by rw [HLL.out]; omega
      have hx := HCELL.out j hjl
      have hf := HFR.out j (by omega)
      have hsn : L.take (j + 1) = L.take j ++ [L[j]] := List.take_succ_eq_append_getElem hjl
      obtain ⟨x, hxe⟩ : ∃ x, x = L[j] := ⟨_, rfl⟩
      rw [← hxe] at hx hsn
      have HSN := Lib.hid hsn
      have hxl := x.toNat_lt
      clear hsn hxe
      by_cases h255 : x = 255
      · subst h255
        have hx' : wr.cell? ⟨w.heap.size, j, none⟩ = some (.int .u8 255) := hx
        clear hx
        go_wp2_with fail
        exact ⟨⟨j, by omega, rfl, trivial, by unfold Hid; rw [HK.out, HSN.out, aftL_snoc, if_pos rfl]⟩, by simp [sliceLen]⟩
      · have hx5 : x.toNat ≠ 255 := fun e => h255 (UInt8.toNat_inj.1 e)
        have hz : ((x.toNat : Int) == 255) = false := by rw [beq_eq_false_iff_ne]; omega
        have hx6 : (x.toNat : Int) + 1 ≤ 255 := by omega
        have hres : aftL L = L.take j ++ [x + 1] := by rw [HK.out, HSN.out, aftL_snoc, if_neg h255]
        have hx1 := u8_succ h255
        have hlj : (L.take j).length = j := by rw [List.length_take]; omega
        have hcb : (convert 65 9 (.slice (some ⟨w.heap.size, 0, none⟩) (j + 1) cap)).run Tryd.prog (wr.setCell ⟨w.heap.size, j, none⟩ (.int .u8 ((x.toNat : Int) + 1))) = .ok (.string (str (aftL L))) (wr.setCell ⟨w.heap.size, j, none⟩ (.int .u8 ((x.toNat : Int) + 1))) := by
          have hl : (aftL L).length = j + 1 := by rw [hres, List.length_append, hlj]; rfl
          rw [← hl]
          refine run_convert_bytes_back _ 65 9 5 ⟨w.heap.size, 0, none⟩ cap (aftL L) Tryd.underlying65 Tryd.underlying5 Tryd.underlying9 (fun i hi => ?_)
          rw [add_plain]
          have hi' : i < j + 1 := by omega
          have hge : (aftL L)[i] = (L.take j ++ [x + 1])[i]'(by rw [← hres]; exact hi) := by simp only [hres]
          rw [hge]
          by_cases hij : i = j
          · subst hij
            rw [List.getElem_append_right (by omega)]
            simp only [hlj, Nat.sub_self, List.getElem_cons_zero]
            rw [hx1, World.cell?_setCell_same _ _ _ hx]
            rfl
          · rw [List.getElem_append_left (by rw [hlj]; omega), List.getElem_take, World.cell?_setCell_other _ _ _ _ (by intro e; injection e with _ e; exact hij e.symm)]
            exact HCELL.out i (by omega)
        have hne0 : ((j : Int) + 1 == 0) = false := by rw [beq_eq_false_iff_ne]; omega
        have HRR : Hid (Below w.heap.size w (wr.setCell ⟨w.heap.size, j, none⟩ (.int .u8 ((x.toNat : Int) + 1)))) := HB.out.setCell (Nat.le_refl _) _
        clear hres hx1 hlj
        go_wp2_with fail
        go_ret
        exact ⟨rfl, HRR.out⟩
end Go.Proofs.YthpngienphnaoaaDoor

/-
  cmp.Or, and tuple.Order's closure: their contracts.
-/
namespace Go.Proofs.YthpngienphnaoaaDoor
open Go.RowKit Go.Proofs.YthpngienphnaoaaDoorW.PrintWords Go.Proofs.YthpngienphnaoaaDoor.PTupleWorks

/-- The first number that is none of nothing. -/
def orI : List Int → Int
  | [] => 0
  | x :: r => if x = 0 then orI r else x
set_option maxHeartbeats 8000000 in
set_option maxRecDepth 100000 in
theorem or_any (g n c : Nat) (l : List Int) (w : World) (hn : n = l.length) (hn9 : n ≤ 1000) (hc : ∀ j, j < n → w.cell? ⟨g, j, none⟩ = some (.int .i64 (l.getD j 0))) :
    Calls Tryd.prog 63 #[.slice (some ⟨g, 0, none⟩) n c] w fun e w' => e = .returned (.int .i64 (orI l)) ∧ w' = w := by
  have HN := Lib.hid hn
  have HC := Lib.hid hc
  clear hn hc
  go_enter Tryd.func63, Tryd.ntmps63
  go_wp2_with fail
  go_loopw [8] (fun i wr => ∃ k : Nat, k ≤ n ∧ i = .int .i64 k ∧ wr = w ∧ Hid (orI l = orI (l.drop k))) (fun i _ => n - (intOf i).toNat)
  case atStart => exact ⟨0, by omega, rfl, rfl, rfl⟩
  case round =>
    obtain ⟨k, hk, rfl, rfl, HK⟩ := hrel
    by_cases hlt : k < n
    · have hcell := HC.out k hlt
      have hkl : k < l.length := by rw [← HN.out]; exact hlt
      have e : l.getD k 0 = l[k] := by rw [List.getD_eq_getElem?_getD, List.getElem?_eq_getElem hkl]; rfl
      have hdr : l.drop k = l.getD k 0 :: l.drop (k + 1) := by rw [e]; exact List.drop_eq_getElem_cons hkl
      have HD := Lib.hid hdr
      obtain ⟨x, hx⟩ : ∃ x, x = l.getD k 0 := ⟨_, rfl⟩
      rw [← hx] at hcell HD
      have f1 : (0 : Int) ≤ (k : Int) := by omega
      have f2 : (k : Int) < (n : Int) := by omega
      clear e hdr hx
      by_cases hx0 : x = 0
      · subst hx0
        have HK2 : Hid (orI l = orI (l.drop (k + 1))) := by unfold Hid; rw [HK.out, HD.out, orI, if_pos rfl]
        go_wp2_with fail
        first | exact ⟨⟨k + 1, by omega, by go_num, trivial, HK2⟩, by simp [intOf]; omega⟩ | exact ⟨⟨k + 1, by omega, by go_num, rfl, HK2⟩, by simp [intOf]; omega⟩ | (go_roundw; case rel => exact ⟨k + 1, by omega, by go_num, rfl, HK2⟩; case measure => simp [intOf]; omega)
      · have hz : (x == 0) = false := by rw [beq_eq_false_iff_ne]; exact hx0
        have hres : orI l = x := by rw [HK.out, HD.out, orI, if_neg hx0]
        have HR := Lib.hid hres
        clear hres hx0
        go_wp2_with fail
        go_ret
        exact ⟨by rw [HR.out]; rfl, rfl⟩
    · have hres : orI l = 0 := by rw [HK.out, List.drop_eq_nil_of_le (by rw [← HN.out]; omega)]; rfl
      have HR := Lib.hid hres
      clear hres
      go_wp2_with fail
      go_ret
      exact ⟨by rw [HR.out]; rfl, rfl⟩
/-- How two parts stand. -/
def ordP (p q : S39) : Int := orI [Lib.compareInt p.f0 q.f0, Lib.compareInt p.f1 q.f1, Lib.compareBytes p.f2.data.toList q.f2.data.toList]
set_option maxHeartbeats 8000000 in
set_option maxRecDepth 100000 in
theorem ordP_any (p q : S39) (w : World) :
    Calls Tryd.prog 62 #[.agg #[.int .i64 p.f0, .int .i64 p.f1, .string p.f2], .agg #[.int .i64 q.f0, .int .i64 q.f1, .string q.f2]] w fun e w' => e = .returned (.int .i64 (ordP p q)) ∧ Below w.heap.size w w' := by
  obtain ⟨x0, x1, x2⟩ := p
  obtain ⟨y0, y1, y2⟩ := q
  go_enter Tryd.func62, Tryd.ntmps62
  have hA : ((w.alloc (.cells #[.int .i64 x0, .int .i64 x1, .string x2] 39)).alloc (.cells #[.int .i64 y0, .int .i64 y1, .string y2] 39)).heap[w.heap.size]? = some (.cells #[.int .i64 x0, .int .i64 x1, .string x2] 39 (0, 0)) := alloc_old (alloc_new w _)
  have hB : ((w.alloc (.cells #[.int .i64 x0, .int .i64 x1, .string x2] 39)).alloc (.cells #[.int .i64 y0, .int .i64 y1, .string y2] 39)).heap[w.heap.size + 1]? = some (.cells #[.int .i64 y0, .int .i64 y1, .string y2] 39 (0, 0)) := by
    have h := alloc_new (w.alloc (.cells #[.int .i64 x0, .int .i64 x1, .string x2] 39)) (.cells #[.int .i64 y0, .int .i64 y1, .string y2] 39)
    rw [alloc_size] at h
    exact h
  have hbel : Below w.heap.size w ((w.alloc (.cells #[.int .i64 x0, .int .i64 x1, .string x2] 39)).alloc (.cells #[.int .i64 y0, .int .i64 y1, .string y2] 39)) := ((Below.refl _ _).alloc (Nat.le_refl _) _).alloc (by rw [alloc_size]; omega) _
  have HA := Lib.hid hA
  have HB := Lib.hid hB
  have HBE := Lib.hid hbel
  clear hA hB hbel
  go_wp2_with fail
  obtain ⟨W, hW⟩ : ∃ W, W = (w.alloc (.cells #[.int .i64 x0, .int .i64 x1, .string x2] 39)).alloc (.cells #[.int .i64 y0, .int .i64 y1, .string y2] 39) := ⟨_, rfl⟩
  rw [← hW] at HA HB HBE ⊢
  clear hW
  have hA := HA.out
  have hB := HB.out
  have c0 : W.cell? ⟨w.heap.size, 0, none⟩ = some (.int .i64 x0) := by rw [cell_of_row _ _ _ _ _ _ hA]; rfl
  have d0 : ({ W with drawn := W.drawn + 1 } : World).cell? ⟨w.heap.size, 0, none⟩ = some (.int .i64 x0) := c0
  have c1 : W.cell? ⟨w.heap.size, 1, none⟩ = some (.int .i64 x1) := by rw [cell_of_row _ _ _ _ _ _ hA]; rfl
  have d1 : ({ W with drawn := W.drawn + 1 } : World).cell? ⟨w.heap.size, 1, none⟩ = some (.int .i64 x1) := c1
  have c2 : W.cell? ⟨w.heap.size, 2, none⟩ = some (.string x2) := by rw [cell_of_row _ _ _ _ _ _ hA]; rfl
  have d2 : ({ W with drawn := W.drawn + 1 } : World).cell? ⟨w.heap.size, 2, none⟩ = some (.string x2) := c2
  have c3 : W.cell? ⟨w.heap.size + 1, 0, none⟩ = some (.int .i64 y0) := by rw [cell_of_row _ _ _ _ _ _ hB]; rfl
  have d3 : ({ W with drawn := W.drawn + 1 } : World).cell? ⟨w.heap.size + 1, 0, none⟩ = some (.int .i64 y0) := c3
  have c4 : W.cell? ⟨w.heap.size + 1, 1, none⟩ = some (.int .i64 y1) := by rw [cell_of_row _ _ _ _ _ _ hB]; rfl
  have d4 : ({ W with drawn := W.drawn + 1 } : World).cell? ⟨w.heap.size + 1, 1, none⟩ = some (.int .i64 y1) := c4
  have c5 : W.cell? ⟨w.heap.size + 1, 2, none⟩ = some (.string y2) := by rw [cell_of_row _ _ _ _ _ _ hB]; rfl
  have d5 : ({ W with drawn := W.drawn + 1 } : World).cell? ⟨w.heap.size + 1, 2, none⟩ = some (.string y2) := c5
  clear hA hB
  go_still_tail 15, (by kernel_rfl)
  still_call (Tryd.cmp_Compare_int _ _ _)
  repeat still_step
  still_call (Tryd.cmp_Compare_int _ _ _)
  repeat still_step
  still_call (Tryd.strings_Compare _ _ _)
  repeat still_step
  refine wpStill_nil ?_
  change wpList _ _ _ _ _ W.drew
  have hbd : Below w.heap.size w W.drew := HBE.out.drew
  generalize W.drew = w2 at hbd ⊢
  clear c0 c1 c2 c3 c4 c5 d0 d1 d2 d3 d4 d5
  have hres : ordP ⟨x0, x1, x2⟩ ⟨y0, y1, y2⟩ = orI [Lib.compareInt x0 y0, Lib.compareInt x1 y1, Lib.compareBytes x2.data.toList y2.data.toList] := rfl
  obtain ⟨a, ha⟩ : ∃ a, a = Lib.compareInt x0 y0 := ⟨_, rfl⟩
  obtain ⟨b, hb⟩ : ∃ b, b = Lib.compareInt x1 y1 := ⟨_, rfl⟩
  obtain ⟨c, hc⟩ : ∃ c, c = Lib.compareBytes x2.data.toList y2.data.toList := ⟨_, rfl⟩
  rw [← ha, ← hb, ← hc] at hres ⊢
  have HR := Lib.hid hres
  clear ha hb hc hres
  have HCO : Hid (Calls Tryd.prog 63 #[.slice (some ⟨w2.heap.size, 0, none⟩) 3 3] (w2.alloc (.cells #[.int .i64 a, .int .i64 b, .int .i64 c] 3)) fun e w' => e = .returned (.int .i64 (orI [a, b, c])) ∧ w' = w2.alloc (.cells #[.int .i64 a, .int .i64 b, .int .i64 c] 3)) := by
    refine or_any w2.heap.size 3 3 [a, b, c] _ rfl (by omega) (fun j hj => ?_)
    rw [row_new]
    rcases (show j = 0 ∨ j = 1 ∨ j = 2 by omega) with rfl | rfl | rfl <;> rfl
  go_wp2_with fail
  refine HCO.out.mono ?_
  rintro e w3 ⟨rfl, rfl⟩
  go_wp2_with fail
  go_ret
  exact ⟨by rw [HR.out]; rfl, hbd.alloc hbd.size _⟩
end Go.Proofs.YthpngienphnaoaaDoor

/-
  tuple.Order: its contract.
-/
namespace Go.Proofs.YthpngienphnaoaaDoor
open Go.RowKit Go.Proofs.YthpngienphnaoaaDoorW.PrintWords Go.Proofs.YthpngienphnaoaaDoor.PTupleWorks

/-- How two rows stand. -/
def ordL : List S39 → List S39 → Int
  | [], [] => 0
  | [], _ :: _ => -1
  | _ :: _, [] => 1
  | p :: l, q :: m => if ordP p q = 0 then ordL l m else ordP p q
theorem ordL_step {l m : List S39} {k : Nat} (h1 : k < l.length) (h2 : k < m.length) : ordL (l.drop k) (m.drop k) = if ordP (l.getD k z39) (m.getD k z39) = 0 then ordL (l.drop (k + 1)) (m.drop (k + 1)) else ordP (l.getD k z39) (m.getD k z39) := by
  have e1 : l.getD k z39 = l[k] := by rw [List.getD_eq_getElem?_getD, List.getElem?_eq_getElem h1]; rfl
  have e2 : m.getD k z39 = m[k] := by rw [List.getD_eq_getElem?_getD, List.getElem?_eq_getElem h2]; rfl
  rw [List.drop_eq_getElem_cons h1, List.drop_eq_getElem_cons h2, e1, e2, ordL]
theorem ordL_end2 {l m : List S39} {k : Nat} (h1 : k < l.length) (h2 : m.length ≤ k) : ordL (l.drop k) (m.drop k) = 1 := by
  rw [List.drop_eq_getElem_cons h1, List.drop_eq_nil_of_le h2, ordL]
theorem ordL_end1 {l m : List S39} {k : Nat} (h1 : l.length ≤ k) : ordL (l.drop k) (m.drop k) = if k < m.length then -1 else 0 := by
  rw [List.drop_eq_nil_of_le h1]
  by_cases h : k < m.length
  · rw [List.drop_eq_getElem_cons h, ordL, if_pos h]
  · rw [List.drop_eq_nil_of_le (by omega), ordL, if_neg h]
set_option maxHeartbeats 8000000 in
set_option maxRecDepth 100000 in
theorem compare_any (A : Option Addr) (c : Nat) (l : List S39) (A2 : Option Addr) (c2 : Nat) (m : List S39) (w : World) (hr : Kd.C k39 w A l.length l) (hr2 : Kd.C k39 w A2 m.length m) (hl : l.length ≤ 10000000) (hm : m.length ≤ 10000000) :
    Calls Tryd.prog 61 #[.slice A l.length c, .slice A2 m.length c2, .func (.func 62) #[] #[]] w fun e w' => e = .returned (.int .i64 (ordL l m)) ∧ Below w.heap.size w w' := by
  have HR := Lib.hid hr
  have HR2 := Lib.hid hr2
  clear hr hr2
  obtain ⟨n, hn⟩ : ∃ n, n = l.length := ⟨_, rfl⟩
  obtain ⟨n2, hn2⟩ : ∃ n, n = m.length := ⟨_, rfl⟩
  have HN := Lib.hid hn
  have HN2 := Lib.hid hn2
  rw [← hn] at hl
  rw [← hn2] at hm
  rw [← hn, ← hn2]
  clear hn hn2
  go_enter Tryd.func61, Tryd.ntmps61
  go_wp2_with fail
  go_loopw [13] (fun i wr => ∃ k : Nat, k ≤ n ∧ k ≤ n2 ∧ i = .int .i64 k ∧ Hid (ordL l m = ordL (l.drop k) (m.drop k)) ∧ Hid (Below w.heap.size w wr)) (fun i _ => n - (intOf i).toNat)
  case atStart => exact ⟨0, by omega, by omega, rfl, rfl, Below.refl _ _⟩
  case round =>
    obtain ⟨k, hk, hk2, rfl, HK, HB⟩ := hrel
    by_cases hlt : k < n
    · have hkl : k < l.length := by rw [← HN.out]; exact hlt
      obtain ⟨ad, hA, q0, q1, q2⟩ := at_T39 (HR.out) (k : Int) (by omega) (by rw [← HN.out]; omega)
      subst hA
      rw [Int.toNat_natCast] at q0 q1 q2
      rw [show rd_T39 l (k : Int) = l.getD k z39 by unfold rd_T39; rw [Int.toNat_natCast]] at q0 q1 q2
      replace q0 := (HB.out.cell (World.block_lt_of_cell? w _ q0)).trans q0
      replace q1 := (HB.out.cell (World.block_lt_of_cell? w _ q1)).trans q1
      replace q2 := (HB.out.cell (World.block_lt_of_cell? w _ q2)).trans q2
      have f1 : (0 : Int) ≤ (k : Int) := by omega
      have f2 : (k : Int) < (n : Int) := by omega
      by_cases hlt2 : k < n2
      · have hkm : k < m.length := by rw [← HN2.out]; exact hlt2
        obtain ⟨ad2, hA2, r0, r1, r2⟩ := at_T39 (HR2.out) (k : Int) (by omega) (by rw [← HN2.out]; omega)
        subst hA2
        rw [Int.toNat_natCast] at r0 r1 r2
        rw [show rd_T39 m (k : Int) = m.getD k z39 by unfold rd_T39; rw [Int.toNat_natCast]] at r0 r1 r2
        replace r0 := (HB.out.cell (World.block_lt_of_cell? w _ r0)).trans r0
        replace r1 := (HB.out.cell (World.block_lt_of_cell? w _ r1)).trans r1
        replace r2 := (HB.out.cell (World.block_lt_of_cell? w _ r2)).trans r2
        have HST := Lib.hid (ordL_step hkl hkm)
        obtain ⟨p, hp⟩ : ∃ p, p = l.getD k z39 := ⟨_, rfl⟩
        obtain ⟨q, hq⟩ : ∃ q, q = m.getD k z39 := ⟨_, rfl⟩
        rw [← hp] at q0 q1 q2 HST
        rw [← hq] at r0 r1 r2 HST
        have HCL := Lib.hid (fun W => ordP_any p q W)
        have f3 : (k : Int) < (n2 : Int) := by omega
        obtain ⟨o, ho⟩ : ∃ o, o = ordP p q := ⟨_, rfl⟩
        rw [← ho] at HST HCL
        obtain ⟨p0, p1, p2⟩ := p
        obtain ⟨s0, s1, s2⟩ := q
        replace q0 : wr.cell? (ad.add (k * 3)) = some (.int .i64 p0) := q0
        replace q1 : wr.cell? ⟨(ad.add (k * 3)).block, (ad.add (k * 3)).off + 1, none⟩ = some (.int .i64 p1) := q1
        replace q2 : wr.cell? ⟨(ad.add (k * 3)).block, (ad.add (k * 3)).off + 2, none⟩ = some (.string p2) := q2
        replace r0 : wr.cell? (ad2.add (k * 3)) = some (.int .i64 s0) := r0
        replace r1 : wr.cell? ⟨(ad2.add (k * 3)).block, (ad2.add (k * 3)).off + 1, none⟩ = some (.int .i64 s1) := r1
        replace r2 : wr.cell? ⟨(ad2.add (k * 3)).block, (ad2.add (k * 3)).off + 2, none⟩ = some (.string s2) := r2
        have l0 : (ad2.add (k * 3)).block < wr.heap.size := World.block_lt_of_cell? wr _ r0
        have t0 : ∀ o9, (wr.alloc o9).cell? (ad2.add (k * 3)) = some (.int .i64 s0) := fun o9 => (World.cell?_of_block (Below.heap_alloc wr o9 _ l0)).trans r0
        have t1 : ∀ o9, (wr.alloc o9).cell? ⟨(ad2.add (k * 3)).block, (ad2.add (k * 3)).off + 1, none⟩ = some (.int .i64 s1) := fun o9 => (World.cell?_of_block (w := wr) (w' := wr.alloc o9) (a := ⟨(ad2.add (k * 3)).block, (ad2.add (k * 3)).off + 1, none⟩) (Below.heap_alloc wr o9 _ l0)).trans r1
        have t2 : ∀ o9, (wr.alloc o9).cell? ⟨(ad2.add (k * 3)).block, (ad2.add (k * 3)).off + 2, none⟩ = some (.string s2) := fun o9 => (World.cell?_of_block (w := wr) (w' := wr.alloc o9) (a := ⟨(ad2.add (k * 3)).block, (ad2.add (k * 3)).off + 2, none⟩) (Below.heap_alloc wr o9 _ l0)).trans r2
        clear hp hq ho
        have hbx : Below w.heap.size w ((wr.alloc (.cells #[.int .i64 p0, .int .i64 p1, .string p2] 39)).alloc (.cells #[.int .i64 s0, .int .i64 s1, .string s2] 39)) := (HB.out.alloc HB.out.size _).alloc (Nat.le_trans HB.out.size (by rw [alloc_size]; omega)) _
        have HBX := Lib.hid hbx
        clear hbx
        by_cases ho : o = 0
        · subst ho
          go_wp2_with fail
          refine (HCL.out _).mono ?_
          rintro e w3 ⟨rfl, hb3⟩
          have hb03 := below_then HBX.out HBX.out.size hb3
          clear hb3
          go_wp2_with fail
          go_roundw
          case rel => exact ⟨k + 1, by omega, by omega, by go_num, by unfold Hid; rw [HK.out, HST.out]; first | rw [if_pos rfl] | rw [if_pos trivial], hb03⟩
          case measure => simp [intOf]; omega
        · have hz : (o == 0) = false := by rw [beq_eq_false_iff_ne]; exact ho
          have hz2 : (o != 0) = true := by rw [bne, hz]; rfl
          have hres : ordL l m = o := by rw [HK.out, HST.out, if_neg ho]
          have HRS := Lib.hid hres
          clear hres ho
          go_wp2_with fail
          refine (HCL.out _).mono ?_
          rintro e w3 ⟨rfl, hb3⟩
          have hb03 := below_then HBX.out HBX.out.size hb3
          clear hb3
          go_wp2_with fail
          go_ret
          exact ⟨by rw [HRS.out]; rfl, hb03⟩
      · have hres : ordL l m = 1 := by rw [HK.out, ordL_end2 hkl (by rw [← HN2.out]; omega)]
        have HRS := Lib.hid hres
        have f3 : (n2 : Int) ≤ (k : Int) := by omega
        clear hres
        go_wp2_with fail
        go_ret
        exact ⟨by rw [HRS.out]; rfl, HB.out.alloc HB.out.size _⟩
    · obtain rfl : k = n := by omega
      have hres : ordL l m = if k < m.length then -1 else 0 := by rw [HK.out, ordL_end1 (by rw [← HN.out]; omega)]
      rw [← HN2.out] at hres
      have HRS := Lib.hid hres
      clear hres
      by_cases h2 : k < n2
      · have g : (k : Int) < (n2 : Int) := by omega
        go_wp2_with fail
        go_ret
        exact ⟨by rw [HRS.out, if_pos h2]; rfl, HB.out⟩
      · have g : ¬ (k : Int) < (n2 : Int) := by omega
        go_wp2_with fail
        go_ret
        exact ⟨by rw [HRS.out, if_neg h2]; rfl, HB.out⟩
set_option maxHeartbeats 8000000 in
set_option maxRecDepth 100000 in
theorem order_any (A : Option Addr) (c : Nat) (l : List S39) (A2 : Option Addr) (c2 : Nat) (m : List S39) (w : World) (hr : Kd.C k39 w A l.length l) (hr2 : Kd.C k39 w A2 m.length m) (hl : l.length ≤ 10000000) (hm : m.length ≤ 10000000) :
    Calls Tryd.prog 28 #[.slice A l.length c, .slice A2 m.length c2] w fun e w' => e = .returned (.int .i64 (ordL l m)) ∧ Below w.heap.size w w' := by
  have HC := Lib.hid (compare_any A c l A2 c2 m w hr hr2 hl hm)
  clear hr hr2
  go_enter Tryd.func28, Tryd.ntmps28
  go_wp2_with fail
  refine HC.out.mono ?_
  rintro e w3 ⟨rfl, hb3⟩
  go_wp2_with fail
  go_ret
  exact ⟨rfl, hb3⟩
end Go.Proofs.YthpngienphnaoaaDoor

/-
  Rows of parts in memory; blotterlaw11.awake: it returns true.
-/
namespace Go.Proofs.YthpngienphnaoaaDoor
open Go.RowKit Go.Proofs.YthpngienphnaoaaDoorW.PrintWords Go.Proofs.YthpngienphnaoaaDoor.PTupleWorks

theorem reps39 (w : World) (l : List S39) : Reps (k39.K w) 3 l (cellsP l) := by
  induction l with
  | nil => exact ⟨rfl, fun j p h => by simp at h⟩
  | cons q l ih =>
    refine ⟨cellsP_length _, fun j p hj => ?_⟩
    show k39.K w p (((cellP q ++ cellsP l).drop (j * 3)).take 3)
    cases j with
    | zero =>
      have : q = p := by simpa using hj
      subst this
      exact k39_mk w q
    | succ j =>
      have h := ih.2 j p (by simpa using hj)
      have e : (cellP q ++ cellsP l).drop ((j + 1) * 3) = (cellsP l).drop (j * 3) := by
        rw [show (j + 1) * 3 = (cellP q).length + j * 3 by simp [cellP]; omega, ← List.drop_drop, List.drop_left]
      rw [e]
      exact h
theorem C_of_own {w : World} {base n c : Nat} {A : Option Addr} {l : List S39} (h : w.ownsRow base 39 3 (.slice A n c) n (cellsP l)) (hn : l.length = n) : Kd.C k39 w A n l := by
  obtain ⟨A', c', e, hr⟩ := own_reads_row h (reps39 w l) hn
  injection e with e1 _ _
  subst e1
  exact hr
theorem own_block {w : World} {base g : Nat} {l : List S39} {cs : Array Value} (h : w.heap[g]? = some (.cells cs 39 (0, 0))) (hc : cs.toList = cellsP l) (hb : base ≤ g) (hl : l.length ≤ 1000000000) : w.ownsRow base 39 3 (.slice (some ⟨g, 0, none⟩) l.length l.length) l.length (cellsP l) := by
  have hs : cs.size = l.length * 3 := by rw [← cellsP_length, ← hc, Array.length_toList]
  exact ⟨cellsP_length l, .inr ⟨g, l.length, cs, rfl, hb, h, Nat.le_refl _, by unfold maxLen; omega, hs, by rw [List.take_of_length_le (by rw [Array.length_toList]; omega), hc]⟩⟩
/-- A cell of an owned row of parts. -/
theorem own_cell {w : World} {base g n c : Nat} {l : List S39} (h : w.ownsRow base 39 3 (.slice (some ⟨g, 0, none⟩) n c) n (cellsP l)) (i : Nat) (hi : i < n * 3) : w.cell? ⟨g, i, none⟩ = (cellsP l)[i]? := by
  rcases h.2 with ⟨h1, _⟩ | ⟨g', cap, cur, h1, h2, h3, h4, h5, h6, h7⟩
  · cases h1
  · injection h1 with h1 _ _
    injection h1 with h1
    injection h1 with h1 _ _
    subst h1
    rw [cell_of_row _ _ _ _ _ _ h3, ← h7, List.getElem?_take_of_lt hi, Array.getElem?_toList]
theorem aw11 : keyS [⟨1, 1, ⟨#[]⟩⟩, ⟨2, 0, ⟨#[97]⟩⟩] = ([1, 128, 0, 0, 0, 0, 0, 0, 1, 2, 97, 0, 0], 0) := by kernel_rfl
theorem aw12 : readS (ByteArray.mk #[1, 128, 0, 0, 0, 0, 0, 0, 1, 2, 97, 0, 0]).data.toList = ([⟨1, 1, ⟨#[]⟩⟩, ⟨2, 0, ⟨#[97]⟩⟩], 0) := by kernel_rfl
theorem aw13 : readS (ByteArray.mk #[2, 97, 0]).data.toList = ([], 110) := by kernel_rfl
theorem aw14 : aftL (ByteArray.mk #[97, 255]).data.toList = [98] := by kernel_rfl
theorem aw15 : ordL [⟨1, 1, ⟨#[]⟩⟩] [⟨1, 1, ⟨#[]⟩⟩, ⟨2, 0, ⟨#[97]⟩⟩] = -1 := by kernel_rfl
set_option maxHeartbeats 16000000 in
set_option maxRecDepth 100000 in
theorem awakeT_any (w : World) (hE : Env w) : Calls Tryd.prog 26 #[] w fun e w' => e = .returned (.bool true) ∧ Below w.heap.size w w' := by
  have HE := Lib.hid hE
  clear hE
  have C1 : Hid (∀ W, Calls Tryd.prog 54 #[.int .i64 1] W fun e w' => e = .returned (.agg #[.int .i64 1, .int .i64 1, .string ⟨#[]⟩]) ∧ Below W.heap.size W w') := fun W => blotterlaw11_Num.calls 1 1 1 ⟨#[]⟩ W rfl
  have C2 : Hid (∀ W, Calls Tryd.prog 55 #[.string ⟨#[97]⟩] W fun e w' => e = .returned (.agg #[.int .i64 2, .int .i64 0, .string ⟨#[97]⟩]) ∧ Below W.heap.size W w') := fun W => blotterlaw11_Txt.calls ⟨#[97]⟩ 2 0 ⟨#[97]⟩ W rfl
  have C3 : Hid (∀ (W : World) (g : Nat), Env W → W.heap[g]? = some (.cells #[.int .i64 1, .int .i64 1, .string ⟨#[]⟩, .int .i64 2, .int .i64 0, .string ⟨#[97]⟩] 39 (0, 0)) → Calls Tryd.prog 27 #[.slice (some ⟨g, 0, none⟩) 2 2] W fun e w' => e = .returned (.tuple #[.string ⟨#[1, 128, 0, 0, 0, 0, 0, 0, 1, 2, 97, 0, 0]⟩, .int .i64 0]) ∧ Below W.heap.size W w') := by
    intro W g hW hg
    have ho := own_block (base := 0) (l := [⟨1, 1, ⟨#[]⟩⟩, ⟨2, 0, ⟨#[97]⟩⟩]) hg rfl (Nat.zero_le _) (by simp)
    have h := key_any (some ⟨g, 0, none⟩) 2 [⟨1, 1, ⟨#[]⟩⟩, ⟨2, 0, ⟨#[97]⟩⟩] W (C_of_own ho rfl) (by simp) (by
      intro p hp
      simp only [List.mem_cons, List.not_mem_nil, or_false] at hp
      rcases hp with rfl | rfl
      · exact ⟨by decide, by decide, by decide⟩
      · exact ⟨by decide, by decide, by decide⟩) hW
    rw [aw11] at h
    exact h
  have C4 : Hid (∀ W, Env W → Calls Tryd.prog 30 #[.string ⟨#[1, 128, 0, 0, 0, 0, 0, 0, 1, 2, 97, 0, 0]⟩] W fun e w' => ∃ g c, e = .returned (.tuple #[.slice (some ⟨g, 0, none⟩) 2 c, .int .i64 0]) ∧ w'.ownsRow W.heap.size 39 3 (.slice (some ⟨g, 0, none⟩) 2 c) 2 (cellsP [⟨1, 1, ⟨#[]⟩⟩, ⟨2, 0, ⟨#[97]⟩⟩]) ∧ Below W.heap.size W w') := by
    intro W hW
    refine (read_any ⟨#[1, 128, 0, 0, 0, 0, 0, 0, 1, 2, 97, 0, 0]⟩ W (by decide) hW).mono ?_
    rintro e w' ⟨⟨v, rfl, ho⟩, hb⟩
    rw [aw12] at ho ⊢
    have ho2 : w'.ownsRow W.heap.size 39 3 v 2 (cellsP [⟨1, 1, ⟨#[]⟩⟩, ⟨2, 0, ⟨#[97]⟩⟩]) := ho
    rcases ho2.2 with ⟨_, h2⟩ | ⟨g, cap, cur, h1, _⟩
    · cases h2
    · subst h1
      exact ⟨g, cap, rfl, ho2, hb⟩
  have C5 : Hid (∀ W, Env W → Calls Tryd.prog 30 #[.string ⟨#[2, 97, 0]⟩] W fun e w' => ∃ v, e = .returned (.tuple #[v, .int .i64 110]) ∧ Below W.heap.size W w') := by
    intro W hW
    refine (read_any ⟨#[2, 97, 0]⟩ W (by decide) hW).mono ?_
    rintro e w' ⟨⟨v, rfl, ho⟩, hb⟩
    rw [aw13]
    exact ⟨v, rfl, hb⟩
  have C6 : Hid (∀ W, Calls Tryd.prog 31 #[.string ⟨#[97, 255]⟩] W fun e w' => e = .returned (.string ⟨#[98]⟩) ∧ Below W.heap.size W w') := by
    intro W
    have h := after_any ⟨#[97, 255]⟩ W (by decide)
    rw [aw14] at h
    exact h
  go_enter Tryd.func26, Tryd.ntmps26
  go_wp2_with fail
  refine (C1.out w).mono ?_
  rintro e w1 ⟨rfl, hb1⟩
  have E1 := Lib.hid (env_below HE.out hb1)
  go_wp2_with fail
  refine (C2.out w1).mono ?_
  rintro e w2 ⟨rfl, hb2⟩
  have E2 := Lib.hid (env_below E1.out hb2)
  have hb02 := below_then hb1 hb1.size hb2
  clear hb1 hb2
  have hbA : Below w2.heap.size w2 (w2.alloc (.cells #[.int .i64 1, .int .i64 1, .string ⟨#[]⟩, .int .i64 2, .int .i64 0, .string ⟨#[97]⟩] 39)) := (Below.refl _ _).alloc (Nat.le_refl _) _
  have HCK := Lib.hid (C3.out _ w2.heap.size (env_below E2.out hbA) (alloc_new w2 _))
  have hb0A := below_then hb02 hb02.size hbA
  clear hbA hb02
  go_wp2_with fail
  refine HCK.out.mono ?_
  rintro e w3 ⟨rfl, hb3⟩
  have hb03 := below_then hb0A hb0A.size hb3
  have E3 := Lib.hid (env_below HE.out hb03)
  clear hb3 hb0A
  go_wp2_with fail
  refine (C4.out w3 E3.out).mono ?_
  rintro e w4 ⟨g, c, rfl, ho, hb4⟩
  have hb04 := below_then hb03 hb03.size hb4
  have E4 := Lib.hid (env_below HE.out hb04)
  clear hb4 hb03
  go_wp2_with fail
  refine (C5.out w4 E4.out).mono ?_
  rintro e w5 ⟨v5, rfl, hb5⟩
  have hb05 := below_then hb04 hb04.size hb5
  have ho5 := own_below ho hb5
  have hx5 : w5.cell? ⟨g, 5, none⟩ = some (.string ⟨#[97]⟩) := by rw [own_cell ho5 5 (by omega)]; rfl
  have HO5 := Lib.hid ho5
  clear hb5 hb04 ho ho5
  go_wp2_with fail
  refine (C6.out w5).mono ?_
  rintro e w6 ⟨rfl, hb6⟩
  have hb06 := below_then hb05 hb05.size hb6
  have HO6 := Lib.hid (own_below HO5.out hb6)
  clear hb6 hb05 hx5
  go_wp2_with fail
  refine (C1.out w6).mono ?_
  rintro e w7 ⟨rfl, hb7⟩
  have hb07 := below_then hb06 hb06.size hb7
  have hbB : Below w7.heap.size w7 (w7.alloc (.cells #[.int .i64 1, .int .i64 1, .string ⟨#[]⟩] 39)) := (Below.refl _ _).alloc (Nat.le_refl _) _
  have ho8 := own_below (own_below HO6.out hb7) hbB
  have hoB := own_block (base := 0) (l := [⟨1, 1, ⟨#[]⟩⟩]) (alloc_new w7 (.cells #[.int .i64 1, .int .i64 1, .string ⟨#[]⟩] 39)) rfl (Nat.zero_le _) (by simp)
  have hco := order_any (some ⟨w7.heap.size, 0, none⟩) 1 [⟨1, 1, ⟨#[]⟩⟩] (some ⟨g, 0, none⟩) c [⟨1, 1, ⟨#[]⟩⟩, ⟨2, 0, ⟨#[97]⟩⟩] _ (C_of_own hoB rfl) (C_of_own ho8 rfl) (by simp) (by simp)
  rw [aw15] at hco
  have HCO := Lib.hid hco
  have hb08 := below_then hb07 hb07.size hbB
  clear hb7 hb06 hb07 hbB ho8 hoB hco
  go_wp2_with fail
  refine HCO.out.mono ?_
  rintro e w9 ⟨rfl, hb9⟩
  have hb09 := below_then hb08 hb08.size hb9
  clear hb9 hb08
  go_wp2_with fail
  go_ret
  exact ⟨rfl, hb09⟩
end Go.Proofs.YthpngienphnaoaaDoor

/-
  Keys and their parts, both ways, in plain words.
-/
namespace Go.Proofs.YthpngienphnaoaaDoor
open Go.RowKit Go.Proofs.YthpngienphnaoaaDoorW.PrintWords Go.Proofs.YthpngienphnaoaaDoor.PTupleWorks

theorem ofNat_mod (x : Nat) : (UInt8.ofNat (x % 256)).toNat = x % 256 := by
  rw [UInt8.toNat_ofNat']; omega
theorem valN_eight (n : Int) (h1 : n ≤ 9223372036854775807) : valN (eightL n) = upN n := by
  have hu := upN_lt n h1
  unfold valN eightL
  generalize upN n = u at hu ⊢
  simp only [List.range, List.range.loop, List.map_cons, List.map_nil, List.foldl_cons, List.foldl_nil, ofNat_mod]
  have a0 := Nat.div_add_mod (u / 2 ^ 56) 256
  have a1 := Nat.div_add_mod (u / 2 ^ 48) 256
  have a2 := Nat.div_add_mod (u / 2 ^ 40) 256
  have a3 := Nat.div_add_mod (u / 2 ^ 32) 256
  have a4 := Nat.div_add_mod (u / 2 ^ 24) 256
  have a5 := Nat.div_add_mod (u / 2 ^ 16) 256
  have a6 := Nat.div_add_mod (u / 2 ^ 8) 256
  have a7 := Nat.div_add_mod (u / 2 ^ 0) 256
  rw [Nat.div_div_eq_div_mul] at a0 a1 a2 a3 a4 a5 a6 a7
  have e0 : u / (2 ^ 56 * 256) = 0 := Nat.div_eq_of_lt (by omega)
  rw [e0] at a0
  rw [show (2 : Nat) ^ 48 * 256 = 2 ^ 56 by decide] at a1
  rw [show (2 : Nat) ^ 40 * 256 = 2 ^ 48 by decide] at a2
  rw [show (2 : Nat) ^ 32 * 256 = 2 ^ 40 by decide] at a3
  rw [show (2 : Nat) ^ 24 * 256 = 2 ^ 32 by decide] at a4
  rw [show (2 : Nat) ^ 16 * 256 = 2 ^ 24 by decide] at a5
  rw [show (2 : Nat) ^ 8 * 256 = 2 ^ 16 by decide] at a6
  rw [show (2 : Nat) ^ 0 * 256 = 2 ^ 8 by decide] at a7
  rw [show u / 2 ^ 0 = u by simp] at a7
  rw [show 56 - 8 * 0 = 56 by decide, show 56 - 8 * 1 = 48 by decide, show 56 - 8 * 2 = 40 by decide, show 56 - 8 * 3 = 32 by decide, show 56 - 8 * 4 = 24 by decide, show 56 - 8 * 5 = 16 by decide, show 56 - 8 * 6 = 8 by decide, show 56 - 8 * 7 = 0 by decide, show u / 2 ^ 0 = u by simp]
  generalize u / 2 ^ 56 = u0 at *
  generalize u / 2 ^ 48 = u1 at *
  generalize u / 2 ^ 40 = u2 at *
  generalize u / 2 ^ 32 = u3 at *
  generalize u / 2 ^ 24 = u4 at *
  generalize u / 2 ^ 16 = u5 at *
  generalize u / 2 ^ 8 = u6 at *
  omega
theorem eight_val (l : List UInt8) (hl : l.length = 8) : eightL ((valN l : Int) - 9223372036854775808) = l := by
  match l, hl with
  | [b0, b1, b2, b3, b4, b5, b6, b7], _ =>
    have h0 := b0.toNat_lt
    have h1 := b1.toNat_lt
    have h2 := b2.toNat_lt
    have h3 := b3.toNat_lt
    have h4 := b4.toNat_lt
    have h5 := b5.toNat_lt
    have h6 := b6.toNat_lt
    have h7 := b7.toNat_lt
    have hup : ∀ v : Nat, upN ((v : Int) - 9223372036854775808) = v := fun v => by unfold upN; omega
    unfold eightL
    rw [hup]
    have hv : valN [b0, b1, b2, b3, b4, b5, b6, b7] = (((((((b0.toNat * 256 + b1.toNat) * 256 + b2.toNat) * 256 + b3.toNat) * 256 + b4.toNat) * 256 + b5.toNat) * 256 + b6.toNat) * 256 + b7.toNat) := by
      unfold valN; simp only [List.foldl_cons, List.foldl_nil]; omega
    rw [hv]
    have hof : ∀ (b : UInt8) (x : Nat), x % 256 = b.toNat → UInt8.ofNat (x % 256) = b := fun b x h => by rw [h]; exact UInt8.ofNat_toNat
    simp only [List.range, List.range.loop, List.map_cons, List.map_nil]
    rw [hof b0 _ (by omega), hof b1 _ (by omega), hof b2 _ (by omega), hof b3 _ (by omega), hof b4 _ (by omega), hof b5 _ (by omega), hof b6 _ (by omega), hof b7 _ (by omega)]
theorem unT_esc (t q : List UInt8) : unT (escL t ++ 0 :: 0 :: q) = some (t, q) := by
  induction t with
  | nil => exact unT_00 q
  | cons b t ih =>
    rw [escL_cons]
    by_cases h : b = 0
    · subst h
      rw [if_pos rfl]
      show unT (0 :: 255 :: (escL t ++ 0 :: 0 :: q)) = _
      rw [unT_0f, ih]; rfl
    · rw [if_neg h]
      show unT (b :: (escL t ++ 0 :: 0 :: q)) = _
      rw [unT_ne h, ih]; rfl
theorem esc_unT : ∀ (n : Nat) (r t q : List UInt8), r.length ≤ n → unT r = some (t, q) → r = escL t ++ 0 :: 0 :: q := by
  intro n
  induction n with
  | zero =>
    intro r t q hn h
    have : r = [] := List.eq_nil_of_length_eq_zero (by omega)
    subst this; cases h
  | succ n ih =>
    intro r t q hn h
    match r, h, hn with
    | [], h, _ => cases h
    | [b], h, _ => rw [unT] at h; cases h
    | b :: c :: r, h, hn =>
      rw [List.length_cons, List.length_cons] at hn
      by_cases hb : b = 0
      · subst hb
        by_cases hc : c = 0
        · subst hc
          rw [unT_00] at h
          injection h with h
          injection h with h1 h2
          subst h1; subst h2; rfl
        · by_cases hc2 : c = 255
          · subst hc2
            rw [unT_0f] at h
            cases hu : unT r with
            | none => rw [hu] at h; cases h
            | some x =>
              obtain ⟨t', q'⟩ := x
              rw [hu] at h
              injection h with h
              injection h with h1 h2
              subst h1; subst h2
              have := ih r t' q' (by omega) hu
              show 0 :: 255 :: r = escL (0 :: t') ++ 0 :: 0 :: q'
              rw [escL_cons, if_pos rfl, this]; rfl
          · rw [unT_0b hc hc2] at h; cases h
      · rw [unT_ne hb] at h
        cases hu : unT (c :: r) with
        | none => rw [hu] at h; cases h
        | some x =>
          obtain ⟨t', q'⟩ := x
          rw [hu] at h
          injection h with h
          injection h with h1 h2
          subst h1; subst h2
          have := ih (c :: r) t' q' (by rw [List.length_cons]; omega) hu
          show b :: c :: r = escL (b :: t') ++ 0 :: 0 :: q'
          rw [escL_cons, if_neg hb, this]; rfl
theorem bytes_nil {x : ByteArray} (h : x.data.toList = []) : x = ⟨#[]⟩ := by apply ByteArray.ext; apply Array.ext'; rw [h]
theorem readL_keyP {p : S39} {a : List UInt8} (hp : p.f1 ≤ 9223372036854775807) (hp2 : -9223372036854775808 ≤ p.f1) (h : keyP p = some a) (q : List UInt8) : readL (a ++ q) = (readL q).map (fun x => p :: x) := by
  unfold keyP at h
  obtain ⟨x0, x1, x2⟩ := p
  split at h
  · next h1 =>
    obtain ⟨h1, h2⟩ := h1
    injection h with h
    subst h
    have h3 := bytes_nil h2
    have h1 : x0 = 1 := h1
    have h3 : x2 = ⟨#[]⟩ := h3
    subst h1; subst h3
    have hl := eightL_length x1
    have h8 : ((eightL x1 ++ q).take 8) = eightL x1 := by rw [← hl, List.take_left]
    have h9 : ((eightL x1 ++ q).drop 8) = q := by rw [← hl, List.drop_left]
    show readL (1 :: (eightL x1 ++ q)) = _
    rw [readL_one, if_pos (by rw [List.length_append]; omega), h8, h9, valN_eight x1 hp]
    have : (upN x1 : Int) - 9223372036854775808 = x1 := by
      have hp2 : -9223372036854775808 ≤ x1 := hp2
      unfold upN; omega
    rw [this]
  · split at h
    · next _ h1 =>
      obtain ⟨h1, h2⟩ := h1
      injection h with h
      subst h
      have h1 : x0 = 2 := h1
      have h2 : x1 = 0 := h2
      subst h1; subst h2
      show readL (2 :: (escL x2.data.toList ++ [0, 0] ++ q)) = _
      rw [List.append_assoc, show ([0, 0] : List UInt8) ++ q = 0 :: 0 :: q from rfl, readL_two (unT_esc x2.data.toList q), str_of]
    · cases h
theorem readL_keyL : ∀ (l : List S39) (k : List UInt8), (∀ p ∈ l, -9223372036854775808 ≤ p.f1 ∧ p.f1 ≤ 9223372036854775807) → keyL l = some k → readL k = some l := by
  intro l
  induction l with
  | nil => intro k _ h; injection h with h; subst h; rfl
  | cons p l ih =>
    intro k hp h
    rw [keyL_cons] at h
    cases hk : keyP p with
    | none => rw [hk] at h; cases h
    | some a =>
      rw [hk] at h
      cases hm : keyL l with
      | none => rw [hm] at h; cases h
      | some b =>
        rw [hm] at h
        injection h with h
        subst h
        have hb := hp p (List.mem_cons_self ..)
        rw [readL_keyP hb.2 hb.1 hk, ih b (fun q hq => hp q (List.mem_cons_of_mem _ hq)) hm]; rfl
theorem keyL_readL : ∀ (n : Nat) (k : List UInt8) (l : List S39), k.length ≤ n → readL k = some l → keyL l = some k ∧ (∀ p ∈ l, p.f2.size ≤ k.length ∧ -9223372036854775808 ≤ p.f1 ∧ p.f1 ≤ 9223372036854775807) := by
  intro n
  induction n with
  | zero =>
    intro k l hn h
    have : k = [] := List.eq_nil_of_length_eq_zero (by omega)
    subst this
    rw [readL_nil] at h
    injection h with h
    subst h
    exact ⟨rfl, fun p hp => by cases hp⟩
  | succ n ih =>
    intro k l hn h
    cases k with
    | nil =>
      rw [readL_nil] at h
      injection h with h
      subst h
      exact ⟨rfl, fun p hp => by cases hp⟩
    | cons b r =>
      rw [List.length_cons] at hn
      by_cases hb : b = 1
      · subst hb
        rw [readL_one] at h
        by_cases h8 : 8 ≤ r.length
        · rw [if_pos h8] at h
          cases hr : readL (r.drop 8) with
          | none => rw [hr] at h; cases h
          | some m =>
            rw [hr] at h
            injection h with h
            subst h
            obtain ⟨i1, i2⟩ := ih (r.drop 8) m (by rw [List.length_drop]; omega) hr
            have ht : (r.take 8).length = 8 := by rw [List.length_take]; omega
            have hv := valN_lt (r.take 8)
            rw [ht] at hv
            have hv : valN (r.take 8) < 18446744073709551616 := hv
            refine ⟨?_, ?_⟩
            · rw [keyL_cons]
              have : keyP (⟨1, (valN (r.take 8) : Int) - 9223372036854775808, ⟨#[]⟩⟩ : S39) = some (1 :: r.take 8) := by
                unfold keyP; rw [if_pos ⟨rfl, rfl⟩]
                show some (1 :: eightL ((valN (r.take 8) : Int) - 9223372036854775808)) = _
                rw [eight_val _ ht]
              rw [this, Option.bind_some, i1, Option.map_some]
              show some (1 :: (r.take 8 ++ r.drop 8)) = _
              rw [List.take_append_drop]
            · intro p hp
              rcases List.mem_cons.1 hp with rfl | hp
              · exact ⟨Nat.zero_le _, by show _ ≤ (valN (r.take 8) : Int) - 9223372036854775808; omega, by show (valN (r.take 8) : Int) - 9223372036854775808 ≤ _; omega⟩
              · have := i2 p hp
                rw [List.length_drop] at this
                rw [List.length_cons]
                exact ⟨by omega, this.2⟩
        · rw [if_neg h8] at h; cases h
      · by_cases hb2 : b = 2
        · subst hb2
          cases hu : unT r with
          | none => rw [readL_two_none hu] at h; cases h
          | some x =>
            obtain ⟨t, q⟩ := x
            rw [readL_two hu] at h
            have hul := unT_len r hu
            cases hr : readL q with
            | none => rw [hr] at h; cases h
            | some m =>
              rw [hr] at h
              injection h with h
              subst h
              obtain ⟨i1, i2⟩ := ih q m (by omega) hr
              refine ⟨?_, ?_⟩
              · rw [keyL_cons]
                have : keyP (⟨2, 0, str t⟩ : S39) = some (2 :: (escL t ++ [0, 0])) := by
                  unfold keyP
                  rw [if_neg (fun h => absurd (show (2 : Int) = 1 from h.1) (by decide)), if_pos ⟨rfl, rfl⟩]
                  show some (2 :: (escL (str t).data.toList ++ [0, 0])) = _
                  rw [str_list]
                rw [this, Option.bind_some, i1, Option.map_some, esc_unT r.length r t q (Nat.le_refl _) hu]
                show some (2 :: (escL t ++ [0, 0] ++ q)) = _
                rw [List.append_assoc]; rfl
              · intro p hp
                rcases List.mem_cons.1 hp with rfl | hp
                · exact ⟨by show (str t).size ≤ _; rw [str_size, List.length_cons]; omega, by show (-9223372036854775808 : Int) ≤ 0; omega, by show (0 : Int) ≤ 9223372036854775807; omega⟩
                · have := i2 p hp
                  rw [List.length_cons]
                  exact ⟨by omega, this.2⟩
        · rw [readL_bad hb hb2] at h; cases h
/-- Key, then Read. -/
theorem readS_keyS {l : List S39} (hok : PartsOk l) (h : (keyS l).2 = 0) : readS (keyS l).1 = (l, 0) := by
  unfold keyS at h ⊢
  by_cases h1 : l.length < 1 ∨ 8 < l.length
  · rw [if_pos h1] at h; exact absurd h (by decide)
  · rw [if_neg h1] at h ⊢
    cases hk : keyL l with
    | none => rw [hk] at h; exact absurd h (by decide)
    | some k =>
      rw [hk] at h
      simp only at h ⊢
      by_cases h2 : 100 < k.length
      · rw [if_pos h2] at h; exact absurd h (by decide)
      · rw [if_neg h2]
        unfold readS
        rw [if_neg h2, readL_keyL l k (fun p hp => (hok p hp).2) hk]
        simp only
        rw [if_neg h1]
/-- Read, then Key. -/
theorem keyS_readS {b : List UInt8} (h : (readS b).2 = 0) : keyS (readS b).1 = (b, 0) ∧ PartsOk (readS b).1 := by
  unfold readS at h ⊢
  by_cases h1 : 100 < b.length
  · rw [if_pos h1] at h; exact absurd h (by decide)
  · rw [if_neg h1] at h ⊢
    cases hk : readL b with
    | none => rw [hk] at h; exact absurd h (by decide)
    | some l =>
      rw [hk] at h
      simp only at h ⊢
      by_cases h2 : l.length < 1 ∨ 8 < l.length
      · rw [if_pos h2] at h; exact absurd h (by decide)
      · rw [if_neg h2]
        obtain ⟨i1, i2⟩ := keyL_readL b.length b l (Nat.le_refl _) hk
        refine ⟨?_, fun p hp => ⟨by have := (i2 p hp).1; omega, (i2 p hp).2⟩⟩
        unfold keyS
        simp only
        rw [if_neg h2, i1]
        simp only
        rw [if_neg h1]
theorem readS_bad {b : List UInt8} (h : (readS b).2 ≠ 0) : (readS b).1 = [] := by
  unfold readS at h ⊢
  by_cases h1 : 100 < b.length
  · rw [if_pos h1]
  · rw [if_neg h1] at h ⊢
    cases hk : readL b with
    | none => rfl
    | some l =>
      rw [hk] at h
      simp only at h ⊢
      by_cases h2 : l.length < 1 ∨ 8 < l.length
      · rw [if_pos h2]
      · rw [if_neg h2] at h; exact absurd rfl h
theorem readS_len (b : List UInt8) : (readS b).1.length ≤ 8 := by
  unfold readS
  by_cases h1 : 100 < b.length
  · rw [if_pos h1]; simp
  · rw [if_neg h1]
    cases hk : readL b with
    | none => simp
    | some l =>
      simp only
      by_cases h2 : l.length < 1 ∨ 8 < l.length
      · rw [if_pos h2]; simp
      · rw [if_neg h2]; simp only; omega
theorem keyS_len {l : List S39} : (keyS l).1.length ≤ 100 ∧ ((keyS l).2 = 0 ∨ (keyS l).2 = 2 ∨ (keyS l).2 = 110) ∧ ((keyS l).2 = 0 → 1 ≤ l.length ∧ l.length ≤ 8) := by
  unfold keyS
  by_cases h1 : l.length < 1 ∨ 8 < l.length
  · rw [if_pos h1]; exact ⟨by simp, .inr (.inr rfl), fun h => absurd h (by decide)⟩
  · rw [if_neg h1]
    cases hk : keyL l with
    | none => exact ⟨by simp, .inr (.inr rfl), fun h => absurd h (by decide)⟩
    | some k =>
      simp only
      by_cases h2 : 100 < k.length
      · rw [if_pos h2]; exact ⟨by simp, .inr (.inl rfl), fun h => absurd h (by decide)⟩
      · rw [if_neg h2]; exact ⟨by simp only; omega, .inl rfl, fun _ => by omega⟩
theorem same_l0 (l : List S39) (hl : l.length ≤ 1000000) : ∀ (d i : Nat), i ≤ l.length → l.length - i = d → ∃ k, blotterref11_Same.l0 k l l (i : Int) = some true := by
  intro d
  induction d with
  | zero =>
    intro i hi hd
    refine ⟨1, ?_⟩
    rw [blotterref11_Same.l0, if_neg (by omega)]
  | succ d ih =>
    intro i hi hd
    obtain ⟨k, hk⟩ := ih (i + 1) (by omega) (by omega)
    refine ⟨k + 1, ?_⟩
    rw [blotterref11_Same.l0, if_pos (by omega), if_pos (by omega), if_pos (by omega), if_neg (by simp), show wrap64 ((i : Int) + 1) = ((i + 1 : Nat) : Int) by unfold wrap64; omega]
    exact hk
theorem same_self (l : List S39) (hl : l.length ≤ 1000000) : ∃ k, blotterref11_Same.f k l l = some true := by
  obtain ⟨k, hk⟩ := same_l0 l hl l.length 0 (Nat.zero_le _) (by omega)
  refine ⟨k, ?_⟩
  unfold blotterref11_Same.f
  rw [if_pos rfl]
  exact hk
end Go.Proofs.YthpngienphnaoaaDoor

/-
  blotterlaw11.TupleBack: it returns true.
-/
namespace Go.Proofs.YthpngienphnaoaaDoor
open Go.RowKit Go.Proofs.YthpngienphnaoaaDoorW.PrintWords Go.Proofs.YthpngienphnaoaaDoor.PTupleWorks

theorem own_sliceC {w : World} {base n : Nat} {e : TypeId} {size : Nat} {v : Value} {xs : List Value} (h : w.ownsRow base e size v n xs) : ∃ A c, v = .slice A n c ∧ n ≤ c := by
  rcases h.2 with ⟨h1, h2⟩ | ⟨g, cap, cur, h1, h2, h3, h4, h5, h6, h7⟩
  · exact ⟨none, 0, by rw [h1, h2], by omega⟩
  · exact ⟨_, cap, h1, h4⟩
/-- Read, told with its row. -/
theorem read_row (s : ByteArray) (w : World) (hs : s.size ≤ 10000000) (hE : Env w) {l : List S39} {e : Int} (hr : readS s.data.toList = (l, e)) :
    Calls Tryd.prog 30 #[.string s] w fun en w' => ∃ A c, en = .returned (.tuple #[.slice A l.length c, .int .i64 e]) ∧ l.length ≤ c ∧ Kd.C k39 w' A l.length l ∧ w'.ownsRow w.heap.size 39 3 (.slice A l.length c) l.length (cellsP l) ∧ Below w.heap.size w w' := by
  refine (read_any s w hs hE).mono ?_
  rintro en w' ⟨⟨v, rfl, ho⟩, hb⟩
  rw [hr] at ho ⊢
  obtain ⟨A, c, rfl, hc⟩ := own_sliceC ho
  exact ⟨A, c, rfl, hc, C_of_own ho rfl, ho, hb⟩
theorem key_row (l : List S39) (hok : PartsOk l) {K : ByteArray} {E : Int} (hK : K = str (keyS l).1) (hE2 : E = (keyS l).2) : ∀ (n : Nat) (A : Option Addr) (c : Nat) (W : World), n = l.length → Env W → Kd.C k39 W A n l → n ≤ c → Calls Tryd.prog 27 #[.slice A n c] W fun e w' => e = .returned (.tuple #[.string K, .int .i64 E]) ∧ Below W.heap.size W w' := by
  rintro n A c W rfl h hr hc
  subst hK; subst hE2
  exact key_any A c l W hr hc hok h
set_option maxHeartbeats 16000000 in
set_option maxRecDepth 100000 in
theorem tupleBack_any (A : Option Addr) (c : Nat) (l : List S39) (m : ByteArray) (w : World) (hr : Kd.C k39 w A l.length l) (hc : l.length ≤ c) (hok : PartsOk l) (hm : m.size ≤ 10000000) (hE : Env w) :
    Calls Tryd.prog 11 #[.slice A l.length c, .string m] w fun e w' => e = .returned (.bool true) ∧ Below w.heap.size w w' := by
  have CA := Lib.hid (fun W (h : Env W) => awakeT_any W h)
  obtain ⟨K, hK⟩ : ∃ K, K = str (keyS l).1 := ⟨_, rfl⟩
  obtain ⟨E, hE2⟩ : ∃ E, E = (keyS l).2 := ⟨_, rfl⟩
  have CK := Lib.hid (key_row l hok hK hE2)
  obtain ⟨p, hp⟩ : ∃ p, p = (readS m.data.toList).1 := ⟨_, rfl⟩
  obtain ⟨f, hf⟩ : ∃ f, f = (readS m.data.toList).2 := ⟨_, rfl⟩
  have hps : readS m.data.toList = (p, f) := by rw [hp, hf]
  have CR := Lib.hid (fun W (h : Env W) => read_row m W hm h hps)
  have HP := Lib.hid hps
  have hks : K.size ≤ 100 := by rw [hK, str_size]; exact keyS_len.1
  have hkl := keyS_len (l := l)
  rw [← hE2] at hkl
  have HOK := Lib.hid hok
  have HE := Lib.hid hE
  have HR := Lib.hid hr
  obtain ⟨n, hn⟩ : ∃ n, n = l.length := ⟨_, rfl⟩
  have HN := Lib.hid hn
  have hp8 : p.length ≤ 8 := by rw [hp]; exact readS_len _
  have HKE : Hid (E = 0 → readS K.data.toList = (l, 0)) := by
    intro h
    rw [hE2] at h
    rw [hK, str_list]
    exact readS_keyS hok h
  have HFB : Hid (f ≠ 0 → p = []) := by
    intro h
    rw [hf] at h
    rw [hp]; exact readS_bad h
  have HFG : Hid (f = 0 → keyS p = (m.data.toList, 0) ∧ PartsOk p) := by
    intro h
    rw [hf] at h
    rw [hp]; exact keyS_readS h
  rw [← hn] at hc hr ⊢
  have HRN : Hid (Kd.C k39 w A n l) := hr
  clear hE hr hok hK hE2 hp hf hps HR hn
  -- the second half, from any later world
  have TAIL : Hid (∀ W, Env W → Calls Tryd.prog 30 #[.string m] W fun en w' => ∃ A c, en = .returned (.tuple #[.slice A p.length c, .int .i64 f]) ∧ p.length ≤ c ∧ Kd.C k39 w' A p.length p ∧ w'.ownsRow W.heap.size 39 3 (.slice A p.length c) p.length (cellsP p) ∧ Below W.heap.size W w') := CR.out
  go_enter Tryd.func11, Tryd.ntmps11
  go_wp2_with fail
  refine (CA.out w HE.out).mono ?_
  rintro e w1 ⟨rfl, hb1⟩
  have HC1 := Lib.hid (CK.out n A c w1 HN.out (env_below HE.out hb1) (Kd.C_below HRN.out hb1) hc)
  go_wp2_with fail
  refine HC1.out.mono ?_
  rintro e w2 ⟨rfl, hb2⟩
  have hb02 := below_then hb1 hb1.size hb2
  clear hb1 hb2 HC1
  have HB2 := Lib.hid hb02
  have E2 := Lib.hid (env_below HE.out hb02)
  clear hb02
  by_cases hE0 : E = 0
  · subst hE0
    have hl8 := hkl.2.2 rfl
    have hkr := HKE.out rfl
    have HRK := Lib.hid (read_row K w2 (by omega) E2.out hkr)
    rw [← HN.out] at HRK hl8
    have g1 : ¬ (100 : Int) < (K.size : Int) := by omega
    clear hkr hkl
    go_wp2_with fail
    refine HRK.out.mono ?_
    rintro e w3 ⟨A3, c3, rfl, hc3, hr3, ho3, hb3⟩
    have HB3 := Lib.hid (below_then HB2.out HB2.out.size hb3)
    have E3 := Lib.hid (env_below E2.out hb3)
    have HSAME : Hid (Calls Tryd.prog 29 #[.slice A3 n c3, .slice A n c] w3 fun e w' => e = .returned (.bool true) ∧ Drawn0 w3 w') := by
      obtain ⟨k, hk⟩ := same_self l (by rw [← HN.out]; omega)
      have h := blotterref11_Same.calls k A3 c3 l A c l true w3 (by rw [← HN.out]; exact hr3) (by rw [← HN.out]; exact hc3) (by rw [← HN.out]; exact Kd.C_below HRN.out HB3.out) (by rw [← HN.out]; exact hc) hk
      rw [← HN.out] at h
      exact h
    clear hr3 ho3 hb3 HRK
    go_wp2_with fail
    refine HSAME.out.mono ?_
    rintro e w4 ⟨rfl, hd4⟩
    have HB4 := Lib.hid (below_then HB3.out HB3.out.size hd4.below)
    have E4 := Lib.hid (env_below HE.out HB4.out)
    clear hd4
    have HT := Lib.hid (TAIL.out w4 E4.out)
    go_wp2_with fail
    refine HT.out.mono ?_
    rintro e w5 ⟨A5, c5, rfl, hc5, hr5, ho5, hb5⟩
    have HB5 := Lib.hid (below_then HB4.out HB4.out.size hb5)
    have E5 := Lib.hid (env_below HE.out HB5.out)
    have HR5 := Lib.hid hr5
    clear hr5 ho5 hb5 HT
    by_cases hf0 : f = 0
    · subst hf0
      obtain ⟨hkp, hokp⟩ := HFG.out rfl
      have HCP := Lib.hid (key_row p hokp (K := m) (E := 0) (by rw [hkp]; exact (str_of m).symm) (by rw [hkp]) p.length A5 c5 w5 rfl E5.out HR5.out hc5)
      clear hkp hokp
      obtain ⟨np, hnp⟩ : ∃ np, np = p.length := ⟨_, rfl⟩
      rw [← hnp] at HCP ⊢
      clear hnp
      go_wp2_with fail
      refine HCP.out.mono ?_
      rintro e w6 ⟨rfl, hb6⟩
      have HB6 := Lib.hid (below_then HB5.out HB5.out.size hb6)
      clear hb6
      go_wp2_with fail
      go_ret
      exact ⟨rfl, HB6.out⟩
    · have hp0 := HFB.out hf0
      have hf1 : (f == 0) = false := by rw [beq_eq_false_iff_ne]; exact hf0
      subst hp0
      go_wp2_with fail
      go_ret
      exact ⟨rfl, HB5.out⟩
  · have hE1 : (E == 0) = false := by rw [beq_eq_false_iff_ne]; exact hE0
    have HT := Lib.hid (TAIL.out w2 E2.out)
    go_wp2_with fail
    refine HT.out.mono ?_
    rintro e w5 ⟨A5, c5, rfl, hc5, hr5, ho5, hb5⟩
    have HB5 := Lib.hid (below_then HB2.out HB2.out.size hb5)
    have E5 := Lib.hid (env_below HE.out HB5.out)
    have HR5 := Lib.hid hr5
    clear hr5 ho5 hb5 HT
    by_cases hf0 : f = 0
    · subst hf0
      obtain ⟨hkp, hokp⟩ := HFG.out rfl
      have HCP := Lib.hid (key_row p hokp (K := m) (E := 0) (by rw [hkp]; exact (str_of m).symm) (by rw [hkp]) p.length A5 c5 w5 rfl E5.out HR5.out hc5)
      clear hkp hokp
      obtain ⟨np, hnp⟩ : ∃ np, np = p.length := ⟨_, rfl⟩
      rw [← hnp] at HCP ⊢
      clear hnp
      go_wp2_with fail
      refine HCP.out.mono ?_
      rintro e w6 ⟨rfl, hb6⟩
      have HB6 := Lib.hid (below_then HB5.out HB5.out.size hb6)
      clear hb6
      go_wp2_with fail
      go_ret
      exact ⟨rfl, HB6.out⟩
    · have hp0 := HFB.out hf0
      have hf1 : (f == 0) = false := by rw [beq_eq_false_iff_ne]; exact hf0
      subst hp0
      go_wp2_with fail
      go_ret
      exact ⟨rfl, HB5.out⟩
end Go.Proofs.YthpngienphnaoaaDoor
