import Derived.Test.YtmmgdngnffoflaaDoorShA
import Derived.Test.YtmmgdngnffoflaaDoorDeA
import Derived.Deep.AppendSrc
import Derived.Deep.Upon
import Derived.Laws.CopyOwn
import Derived.Laws.Closers25b
/-
  digest.tag, digest.Tag, digest.Right: their contracts.
-/
namespace Go.Proofs.YtmmgdngnffoflaaDoor
open Go.RowKit Go.Proofs.YtmmgdngnffoflaaDoorW.PrintWords

theorem nums_at {w : World} {A : Option Addr} {n : Nat} {ys : List Int} {ad : Addr} (h : ReadsInt w .u8 A n ys) (ha : A = some ad) : ∀ j u, (nums .u8 ys)[j]? = some u → w.cell? (ad.add j) = some u := by
  intro j u hu
  have hj : j < ys.length := by
    rcases Nat.lt_or_ge j ys.length with h | h
    · exact h
    · simp [nums, List.getElem?_eq_none h] at hu
  obtain ⟨ad', e', hc⟩ := h.2.2 (by have := h.1; omega)
  rw [ha] at e'
  injection e' with e'
  subst e'
  rw [hc j (by have := h.1; omega)]
  simp [nums, List.getElem?_eq_getElem hj] at hu
  rw [← hu]
  simp [List.getD_eq_getElem?_getD, List.getElem?_eq_getElem hj]
theorem nums_one (ys : List Int) : ∀ u ∈ nums .u8 ys, u.oneCell' = true := by
  intro u hu
  simp only [nums, List.mem_map] at hu
  obtain ⟨y, _, rfl⟩ := hu
  rfl
/-- append onto a whole array's slice that is full. -/
theorem wpList_append_full {w : World} {ops : Array Oper} {rest : List Oper} {o : Oper} {a : Act} {Q : Exit → Act → World → Prop} (hgd : o.guard = none) (s x : Operand)
    (ho : o.op = .call { callee := .builtin .append, args := #[s, x], argTypes := #[22, 22] }) (g t m : Nat) (xs ys : List Int) (hm : xs.length = m) (A : Option Addr) (n c : Nat) (hs : a.eval s = .slice (some ⟨g, 0, none⟩) m m) (hx : a.eval x = .slice A n c)
    (hg : w.heap[g]? = some (.cells (nums .u8 xs).toArray t (0, 0))) (hR : ReadsInt w .u8 A n ys) (hl : m + n ≤ 1000000000)
    (hK : ∀ A' c' w', m + n ≤ c' → Kd.C (Kd.int .u8) w' A' (m + n) (xs ++ ys) → Below w.heap.size w w' → wpList Tryd.prog ops Q rest (a.put o.dst (.slice A' (m + n) c')) w') : wpList Tryd.prog ops Q (o :: rest) a w := by
  subst hm
  obtain ⟨i, hi, hz0, hz1, hz2⟩ := info_parts dinfo5
  have hn : ys.length = n := hR.1
  have hold : Kd.C (Kd.int .u8) w (some ⟨g, 0, none⟩) xs.length xs := row_C hg (by omega)
  have hrun : ∃ A' c' w', (Builtin.append_ #[22, 22] o.type #[.slice (some ⟨g, 0, none⟩) xs.length xs.length, .slice A n c]).run Tryd.prog w = .ok (.slice A' (xs.length + n) c') w' ∧ xs.length + n ≤ c' ∧
      Kd.C (Kd.int .u8) w' A' (xs.length + n) (xs ++ ys) ∧ Below w.heap.size w w' := by
    by_cases h0 : n = 0
    · subst h0
      obtain rfl : ys = [] := List.eq_nil_of_length_eq_zero hn
      have hs0 : Src Tryd.prog i.size 22 (.slice A 0 c) 0 [] w := by
        rcases A with _ | ad
        · exact Src.ofNil w Tryd.underlying22 c
        · exact Src.ofSlice w Tryd.underlying22 ad 0 c [] (by simp) (fun j u h => by simp at h) (fun u h => by cases h)
      refine ⟨_, _, _, run_append_nothing w 22 22 o.type 5 i Tryd.underlying22 hi (some ⟨g, 0, none⟩) xs.length xs.length (Nat.le_refl _) _ hs0, Nat.le_refl _, ?_, Below.refl _ _⟩
      rw [List.append_nil]; exact hold
    · obtain ⟨ad, rfl, _⟩ := hR.2.2 (by omega)
      have hRo : ReadsInt w .u8 (some ⟨g, 0, none⟩) xs.length xs := readsInt_of.2 (Kd.reads_of_C hold)
      obtain ⟨v', w', hr, hown, hgr⟩ := run_append_arg_grows (P := Tryd.prog) w 22 o.type 5 i (.int .u8 0) 1 1 Tryd.underlying22 hi hz0 hz1 hz2 rfl (by omega) ⟨g, 0, none⟩ xs.length xs.length (nums .u8 xs) (by rw [nums_length]; omega) (nums_at hRo rfl)
        ad n c (nums .u8 ys) (by rw [nums_length]; omega) (nums_at hR rfl) (by omega) (by simp only [maxLen]; omega) (by omega)
      have hbel : Below w.heap.size w w' := (Below.refl _ _).grown hgr (Nat.le_refl _) (fun k h => by cases h)
      obtain ⟨A', c', rfl⟩ := own_slice hown
      rw [← nums_append] at hown
      have e : xs.length + n = (xs ++ ys).length := by rw [List.length_append, hn]
      have ho2 : w'.ownsRow w.heap.size 5 1 (.slice A' (xs.length + n) c') (xs ++ ys).length (nums .u8 (xs ++ ys)) := by rw [← e]; exact hown
      have hR2 := Kd.R_of_own (enc := Value.int .u8) (h1 := fun _ => rfl) (ok := fun _ => True) ho2 (fun _ _ => trivial)
      obtain ⟨A2, c2, h1, h2, h3⟩ := Kd.R_reads hR2
      injection h1 with hA hB hC
      subst hA
      subst hC
      rw [← e] at h2 h3
      exact ⟨_, _, _, hr, h2, h3, hbel⟩
  refine wpList_plain hgd fun K hK' => ?_
  obtain ⟨A', c', w', hr, h1, h2, h3⟩ := hrun
  unfold Oper.wp
  simp [execOp, ho, resolve, invoke, builtin, hs, hx, hr, Result.andThen]
  exact hK' _ _ (hK A' c' w' h1 h2 h3)
def padK (k : List Int) : List Int := (k ++ List.replicate 64 0).take 64
theorem padK_length (k : List Int) : (padK k).length = 64 := by simp [padK]
def xo (n : Int) (l : List Int) : List Int := l.map fun y => bits .xor .u8 y n
def xcells (n : Int) (P : List Int) (k : Nat) : List Int := xo n (P.take k) ++ P.drop k
theorem xcells_length (n : Int) {P : List Int} (k : Nat) (hP : P.length = 64) (hk : k ≤ 64) : (xcells n P k).length = 64 := by simp [xcells, xo, hP]; omega
theorem xcells_at (n : Int) {P : List Int} {k : Nat} (hP : P.length = 64) (hk : k < 64) : (nums .u8 (xcells n P k))[k]? = some (.int .u8 (P.getD k 0)) := by
  have h : (xo n (P.take k)).length = k := by simp [xo, hP]; omega
  unfold xcells
  rw [nums_append, List.getElem?_append_right (by rw [nums_length]; omega), nums_length, h, Nat.sub_self]
  rw [List.drop_eq_getElem_cons (by omega)]
  simp [nums, List.getD_eq_getElem?_getD, List.getElem?_eq_getElem (show k < P.length by omega)]
theorem xcells_set (n : Int) {P : List Int} {k : Nat} (hP : P.length = 64) (hk : k < 64) : (nums .u8 (xcells n P k)).set k (.int .u8 (bits .xor .u8 (P.getD k 0) n)) = nums .u8 (xcells n P (k + 1)) := by
  have h : (xo n (P.take k)).length = k := by simp [xo, hP]; omega
  unfold xcells
  rw [nums_append, List.set_append_right _ _ (by rw [nums_length]; omega), nums_length, h, Nat.sub_self]
  rw [List.drop_eq_getElem_cons (by omega)]
  rw [List.take_succ_eq_append_getElem (show k < P.length by omega)]
  have e : P.getD k 0 = P[k] := by rw [List.getD_eq_getElem?_getD, List.getElem?_eq_getElem (show k < P.length by omega)]; rfl
  rw [e]
  simp only [xo, List.map_append, List.map_cons, List.map_nil, nums_append, List.append_assoc]
  rfl
theorem bytes_xo (n : Int) (P : List Int) : Bytes (xo n P) := by
  intro y hy
  simp only [xo, List.mem_map] at hy
  obtain ⟨x, _, rfl⟩ := hy
  have h := bits_within .xor .u8 x n
  simp only [IntKind.min, IntKind.max, IntKind.signed, IntKind.bits] at h
  exact ⟨by simpa using h.1, by have := h.2; simp at this; omega⟩
theorem bytes_padK {k : List Int} (h : Bytes k) : Bytes (padK k) := by
  intro y hy
  have := List.mem_of_mem_take hy
  rcases List.mem_append.1 this with hy | hy
  · exact h y hy
  · rw [List.eq_of_mem_replicate hy]; exact ⟨by omega, by omega⟩
theorem reads_keep {w W : World} {A : Option Addr} {n : Nat} {xs : List Int} (h : ReadsInt w .u8 A n xs) (hk : ∀ ad, A = some ad → 0 < n → W.heap[ad.block]? = w.heap[ad.block]?) : ReadsInt W .u8 A n xs := by
  refine ⟨h.1, h.2.1, fun hn => ?_⟩
  obtain ⟨ad, e, hc⟩ := h.2.2 hn
  refine ⟨ad, e, fun j hj => ?_⟩
  have h1 := hc j hj
  have h2 := hk ad e hn
  unfold World.cell? at h1 ⊢
  rw [add_block] at h1 ⊢
  rw [h2]
  exact h1
theorem splice_pad (k : List Int) (hk : k.length ≤ 64) : splice (nums .u8 (List.replicate 64 0)) 0 (nums .u8 k) = nums .u8 (padK k) := by
  unfold splice padK
  rw [List.take_zero, List.nil_append, nums_length, Nat.zero_add, List.take_append, List.take_of_length_le hk, nums_append]
  congr 1
  simp only [nums, List.map_replicate, List.drop_replicate, List.take_replicate]
  congr 1
  omega
/-- copy into the head of an array. -/
theorem wpList_copy_row {w : World} {ops : Array Oper} {rest : List Oper} {o : Oper} {a : Act} {Q : Exit → Act → World → Prop} (hgd : o.guard = none) (d s : Operand)
    (ho : o.op = .call { callee := .builtin .copy, args := #[d, s], argTypes := #[22, 22] }) (sp : Option Addr) (sLen sCap : Nat) (g t : Nat) (hd : a.eval d = .slice (some ⟨g, 0, none⟩) 64 64) (hs : a.eval s = .slice sp sLen sCap)
    (hg : w.heap[g]? = some (.cells (nums .u8 (List.replicate 64 0)).toArray t (0, 0))) (k : List Int) (hR : ReadsInt w .u8 sp sLen k) (hk : sLen ≤ 64)
    (h : wpList Tryd.prog ops Q rest (a.put o.dst (goInt sLen)) (w.setRow g (nums .u8 (padK k)).toArray)) : wpList Tryd.prog ops Q (o :: rest) a w := by
  have hn : k.length = sLen := hR.1
  rcases Nat.eq_zero_or_pos sLen with h0 | h0
  · subst h0
    obtain rfl : k = [] := List.eq_nil_of_length_eq_zero hn
    refine wpList_copy_nothing hgd d s 22 22 ho 5 Tryd.underlying22 (by kernel_rfl) _ sp 64 64 0 sCap hd hs (by show min 0 64 = 0; omega) ?_
    have e : w.setRow g (nums .u8 (padK [])).toArray = w := setRow_self w g _ t (0, 0) hg
    rw [e] at h
    exact h
  · obtain ⟨ad, rfl, _⟩ := hR.2.2 h0
    have hl : (nums .u8 k).length = sLen := by rw [nums_length, hn]
    refine wpList_copy_own hgd d s 22 22 ho 5 Tryd.underlying22 (by kernel_rfl) g 0 64 64 ad sLen sCap hd hs _ t hg (nums .u8 k) (by rw [hl]; show sLen = min sLen 64; omega) (nums_at hR rfl) (by rw [hl, List.size_toArray, nums_length, List.length_replicate]; omega) (nums_one k) ?_
    rw [hl]
    have e := splice_pad k (by omega)
    unfold splice at e
    rw [hl] at e
    rw [e]
    exact h
theorem stop_copy {w : World} {ops : Array Oper} {rest : List Oper} {o : Oper} {a : Act} {Q : Exit → Act → World → Prop} (d s : Operand) (_ : o.op = .call { callee := .builtin .copy, args := #[d, s], argTypes := #[22, 22] })
    (h : ∀ W, W = w → wpList Tryd.prog ops Q (o :: rest) a W) : wpList Tryd.prog ops Q (o :: rest) a w := h w rfl
theorem C_row {w : World} {A : Option Addr} {n : Nat} {l : List Int} (h : Kd.C (Kd.int .u8) w A n l) : ReadsInt w .u8 A n l := readsInt_of.2 (Kd.reads_of_C h)
/-- The two arrays of tag. -/
def TInv (w W : World) (a b : List Int) : Prop :=
  W.heap[w.heap.size + 1]? = some (.cells (nums .u8 a).toArray 130 (0, 0)) ∧ W.heap[w.heap.size + 1 + 1]? = some (.cells (nums .u8 b).toArray 130 (0, 0)) ∧ W.heap[w.heap.size]? = some (.cells (List.replicate 20 (Value.int .u8 0)).toArray 86 (0, 0)) ∧ Below w.heap.size w W
def keyL (l : List Int) : List Int := if 64 < l.length then digL l else l
def tagL (l l2 : List Int) : List Int := digL (xo 92 (padK (keyL l)) ++ digL (xo 54 (padK (keyL l)) ++ l2))
theorem TInv.step {w wr : World} {P : List Int} {k : Int} (h : Hid (TInv w wr (xcells 54 P k.toNat) (xcells 92 P k.toNat))) (hP : P.length = 64) (h0 : 0 ≤ k) (h1 : k < 64) {y : Int} (hy : P.getD k.toNat 0 = y) :
    Hid (TInv w ((wr.setCell ⟨w.heap.size + 1, k.toNat, none⟩ (.int .u8 (bits .xor .u8 y 54))).setCell ⟨w.heap.size + 1 + 1, k.toNat, none⟩ (.int .u8 (bits .xor .u8 y 92))) (xcells 54 P (k + 1).toNat) (xcells 92 P (k + 1).toNat)) := by
  subst hy
  obtain ⟨a, b, c, d⟩ := h.out
  have e : (k + 1).toNat = k.toNat + 1 := by omega
  rw [e]
  have a1 := heap_setCell_same wr (w.heap.size + 1) k.toNat _ 130 (.int .u8 (bits .xor .u8 (P.getD k.toNat 0) 54)) a
  have b1 : (wr.setCell ⟨w.heap.size + 1, k.toNat, none⟩ (.int .u8 (bits .xor .u8 (P.getD k.toNat 0) 54))).heap[w.heap.size + 1 + 1]? = some (.cells (nums .u8 (xcells 92 P k.toNat)).toArray 130 (0, 0)) := (heap_setCell_other _ _ _ _ (by simp)).trans b
  have b2 := heap_setCell_same _ (w.heap.size + 1 + 1) k.toNat _ 130 (.int .u8 (bits .xor .u8 (P.getD k.toNat 0) 92)) b1
  refine ⟨?_, ?_, ?_, (d.setCell (by simp) _).setCell (by simp; omega) _⟩
  · refine (heap_setCell_other _ _ _ _ (by simp)).trans (a1.trans ?_)
    rw [← xcells_set 54 hP (by omega)]; exact congrArg (fun x => some (Obj.cells x 130 (0, 0))) (by simp)
  · refine b2.trans ?_
    rw [← xcells_set 92 hP (by omega)]; exact congrArg (fun x => some (Obj.cells x 130 (0, 0))) (by simp)
  · exact (heap_setCell_other _ _ _ _ (by simp; omega)).trans ((heap_setCell_other _ _ _ _ (by simp)).trans c)
set_option maxHeartbeats 4000000 in
set_option maxRecDepth 100000 in
theorem tag_any (A : Option Addr) (c : Nat) (l : List Int) (A2 : Option Addr) (c2 : Nat) (l2 : List Int) (w : World) (hr : Kd.C (Kd.int .u8) w A l.length l) (hcap : l.length ≤ c) (hl : l.length ≤ 100000000) (hb : Bytes l)
    (hr2 : Kd.C (Kd.int .u8) w A2 l2.length l2) (_hcap2 : l2.length ≤ c2) (hl2 : l2.length ≤ 100000000) (hb2 : Bytes l2) :
    Calls Tryd.prog 51 #[.slice A l.length c, .slice A2 l2.length c2] w fun e w' => e = .returned (.agg (nums .u8 (tagL l l2)).toArray) ∧ Below w.heap.size w w' := by
  have h63 : l.length ≤ 9223372036854775807 := by omega
  have h632 : l2.length ≤ 9223372036854775807 := by omega
  obtain ⟨W3, hW3⟩ : ∃ W3, W3 = ((w.alloc (.cells #[.int .u8 0, .int .u8 0, .int .u8 0, .int .u8 0, .int .u8 0, .int .u8 0, .int .u8 0, .int .u8 0, .int .u8 0, .int .u8 0, .int .u8 0, .int .u8 0, .int .u8 0, .int .u8 0, .int .u8 0, .int .u8 0, .int .u8 0, .int .u8 0, .int .u8 0, .int .u8 0] 86)).alloc (.cells #[.int .u8 0, .int .u8 0, .int .u8 0, .int .u8 0, .int .u8 0, .int .u8 0, .int .u8 0, .int .u8 0, .int .u8 0, .int .u8 0, .int .u8 0, .int .u8 0, .int .u8 0, .int .u8 0, .int .u8 0, .int .u8 0, .int .u8 0, .int .u8 0, .int .u8 0, .int .u8 0, .int .u8 0, .int .u8 0, .int .u8 0, .int .u8 0, .int .u8 0, .int .u8 0, .int .u8 0, .int .u8 0, .int .u8 0, .int .u8 0, .int .u8 0, .int .u8 0, .int .u8 0, .int .u8 0, .int .u8 0, .int .u8 0, .int .u8 0, .int .u8 0, .int .u8 0, .int .u8 0, .int .u8 0, .int .u8 0, .int .u8 0, .int .u8 0, .int .u8 0, .int .u8 0, .int .u8 0, .int .u8 0, .int .u8 0, .int .u8 0, .int .u8 0, .int .u8 0, .int .u8 0, .int .u8 0, .int .u8 0, .int .u8 0, .int .u8 0, .int .u8 0, .int .u8 0, .int .u8 0, .int .u8 0, .int .u8 0, .int .u8 0, .int .u8 0] 130)).alloc (.cells #[.int .u8 0, .int .u8 0, .int .u8 0, .int .u8 0, .int .u8 0, .int .u8 0, .int .u8 0, .int .u8 0, .int .u8 0, .int .u8 0, .int .u8 0, .int .u8 0, .int .u8 0, .int .u8 0, .int .u8 0, .int .u8 0, .int .u8 0, .int .u8 0, .int .u8 0, .int .u8 0, .int .u8 0, .int .u8 0, .int .u8 0, .int .u8 0, .int .u8 0, .int .u8 0, .int .u8 0, .int .u8 0, .int .u8 0, .int .u8 0, .int .u8 0, .int .u8 0, .int .u8 0, .int .u8 0, .int .u8 0, .int .u8 0, .int .u8 0, .int .u8 0, .int .u8 0, .int .u8 0, .int .u8 0, .int .u8 0, .int .u8 0, .int .u8 0, .int .u8 0, .int .u8 0, .int .u8 0, .int .u8 0, .int .u8 0, .int .u8 0, .int .u8 0, .int .u8 0, .int .u8 0, .int .u8 0, .int .u8 0, .int .u8 0, .int .u8 0, .int .u8 0, .int .u8 0, .int .u8 0, .int .u8 0, .int .u8 0, .int .u8 0, .int .u8 0] 130) := ⟨_, rfl⟩
  have hT3 : TInv w W3 (List.replicate 64 0) (List.replicate 64 0) := by
    rw [hW3]
    refine ⟨?_, ?_, ?_, ?_⟩
    · refine (Below.heap_alloc _ _ _ (by simp)).trans ?_
      exact heap_alloc2_new w _ _
    · have h := heap_alloc_new ((w.alloc (.cells #[.int .u8 0, .int .u8 0, .int .u8 0, .int .u8 0, .int .u8 0, .int .u8 0, .int .u8 0, .int .u8 0, .int .u8 0, .int .u8 0, .int .u8 0, .int .u8 0, .int .u8 0, .int .u8 0, .int .u8 0, .int .u8 0, .int .u8 0, .int .u8 0, .int .u8 0, .int .u8 0] 86)).alloc (.cells #[.int .u8 0, .int .u8 0, .int .u8 0, .int .u8 0, .int .u8 0, .int .u8 0, .int .u8 0, .int .u8 0, .int .u8 0, .int .u8 0, .int .u8 0, .int .u8 0, .int .u8 0, .int .u8 0, .int .u8 0, .int .u8 0, .int .u8 0, .int .u8 0, .int .u8 0, .int .u8 0, .int .u8 0, .int .u8 0, .int .u8 0, .int .u8 0, .int .u8 0, .int .u8 0, .int .u8 0, .int .u8 0, .int .u8 0, .int .u8 0, .int .u8 0, .int .u8 0, .int .u8 0, .int .u8 0, .int .u8 0, .int .u8 0, .int .u8 0, .int .u8 0, .int .u8 0, .int .u8 0, .int .u8 0, .int .u8 0, .int .u8 0, .int .u8 0, .int .u8 0, .int .u8 0, .int .u8 0, .int .u8 0, .int .u8 0, .int .u8 0, .int .u8 0, .int .u8 0, .int .u8 0, .int .u8 0, .int .u8 0, .int .u8 0, .int .u8 0, .int .u8 0, .int .u8 0, .int .u8 0, .int .u8 0, .int .u8 0, .int .u8 0, .int .u8 0] 130)) (.cells #[.int .u8 0, .int .u8 0, .int .u8 0, .int .u8 0, .int .u8 0, .int .u8 0, .int .u8 0, .int .u8 0, .int .u8 0, .int .u8 0, .int .u8 0, .int .u8 0, .int .u8 0, .int .u8 0, .int .u8 0, .int .u8 0, .int .u8 0, .int .u8 0, .int .u8 0, .int .u8 0, .int .u8 0, .int .u8 0, .int .u8 0, .int .u8 0, .int .u8 0, .int .u8 0, .int .u8 0, .int .u8 0, .int .u8 0, .int .u8 0, .int .u8 0, .int .u8 0, .int .u8 0, .int .u8 0, .int .u8 0, .int .u8 0, .int .u8 0, .int .u8 0, .int .u8 0, .int .u8 0, .int .u8 0, .int .u8 0, .int .u8 0, .int .u8 0, .int .u8 0, .int .u8 0, .int .u8 0, .int .u8 0, .int .u8 0, .int .u8 0, .int .u8 0, .int .u8 0, .int .u8 0, .int .u8 0, .int .u8 0, .int .u8 0, .int .u8 0, .int .u8 0, .int .u8 0, .int .u8 0, .int .u8 0, .int .u8 0, .int .u8 0, .int .u8 0] 130)
      simp only [World.size_alloc] at h
      exact h
    · exact (Below.heap_alloc _ _ _ (by simp; omega)).trans (heap_alloc2_old w _ _)
    · exact (((Below.refl _ _).alloc (Nat.le_refl _) _).alloc (by simp) _).alloc (by simp; omega) _
  have hr3 := Kd.C_below hr hT3.2.2.2
  have HT := Lib.hid hT3
  have HR1 := Lib.hid hr
  have HB := Lib.hid hb
  have HB2 := Lib.hid hb2
  have HR2 := Lib.hid hr2
  clear hT3 hr hr2 hb hb2
  by_cases h64 : 64 < l.length
  · have hk : Hid (keyL l = digL l) := by show keyL l = digL l; unfold keyL; rw [if_pos h64]
    have h64i : (64 : Int) < (l.length : Int) := by omega
    go_enter Tryd.func51, Tryd.ntmps51
    go_wp2_with fail
    rw [← hW3]
    clear hW3
    refine (digest_any A c l W3 hr3 hcap (by omega) HB.out).mono ?_
    rintro e w4 ⟨rfl, hb4⟩
    obtain ⟨D, hD⟩ : ∃ D, D = (nums .u8 (digL l)).toArray := ⟨_, rfl⟩
    rw [← hD]
    have hs20 : (Tryd.prog.info? 86).map (·.size) = some D.size := by rw [hD, List.size_toArray, nums_length, digL_length]; kernel_rfl
    have hone : D.all (·.oneCell') = true := by rw [hD]; simp [nums, Value.oneCell']
    have HD := Lib.hid hD
    have HB4 := Lib.hid hb4
    clear hD hb4 hr3
    have hzr : (w4.alloc (.cells #[.int .u8 0, .int .u8 0, .int .u8 0, .int .u8 0, .int .u8 0, .int .u8 0, .int .u8 0, .int .u8 0, .int .u8 0, .int .u8 0, .int .u8 0, .int .u8 0, .int .u8 0, .int .u8 0, .int .u8 0, .int .u8 0, .int .u8 0, .int .u8 0, .int .u8 0, .int .u8 0] 86)).heap[w4.heap.size]? = some (.cells #[.int .u8 0, .int .u8 0, .int .u8 0, .int .u8 0, .int .u8 0, .int .u8 0, .int .u8 0, .int .u8 0, .int .u8 0, .int .u8 0, .int .u8 0, .int .u8 0, .int .u8 0, .int .u8 0, .int .u8 0, .int .u8 0, .int .u8 0, .int .u8 0, .int .u8 0, .int .u8 0] 86 (0, 0)) := heap_alloc_new w4 _
    have hsz : (#[.int .u8 0, .int .u8 0, .int .u8 0, .int .u8 0, .int .u8 0, .int .u8 0, .int .u8 0, .int .u8 0, .int .u8 0, .int .u8 0, .int .u8 0, .int .u8 0, .int .u8 0, .int .u8 0, .int .u8 0, .int .u8 0, .int .u8 0, .int .u8 0, .int .u8 0, .int .u8 0] : Array Value).size = D.size := by rw [HD.out]; rfl
    have hst := Lib.hid (setRow_heap _ _ _ D _ _ hzr)
    have hbe := Lib.hid (below_setRow (HB4.out.alloc HB4.out.size (.cells #[.int .u8 0, .int .u8 0, .int .u8 0, .int .u8 0, .int .u8 0, .int .u8 0, .int .u8 0, .int .u8 0, .int .u8 0, .int .u8 0, .int .u8 0, .int .u8 0, .int .u8 0, .int .u8 0, .int .u8 0, .int .u8 0, .int .u8 0, .int .u8 0, .int .u8 0, .int .u8 0] 86)) HB4.out.size D)
    go_wp2_with (first | (refine wpList_store_row rfl 86 _ _ rfl w4.heap.size _ (by rfl) (by rfl) 86 _ hzr hs20 hsz hone ?_) | (refine stop_copy (.tmp 16) (.tmp 17) rfl ?_))
    intro W4 hW4
    have HK : Hid (ReadsInt W4 .u8 (some ⟨w4.heap.size, 0, none⟩) (20) (digL l)) := by
      rw [hW4]
      exact C_row (row_C (by rw [hst.out, HD.out]) (by rw [digL_length]; omega))
    have HNE : Hid (∀ ad : Addr, (some ⟨w4.heap.size, 0, none⟩) = some ad → 0 < (20) → ad.block ≠ w.heap.size + 1) := by
      intro ad ha _
      injection ha with ha
      have h1 := HB4.out.size
      have h2 := blk_lt HT.out.2.1
      rw [← ha]
      show w4.heap.size ≠ _
      omega
    have HT4 : Hid (TInv w W4 (List.replicate 64 0) (List.replicate 64 0)) := by
      rw [hW4]
      have hT := HT.out
      have l0 := blk_lt hT.2.1
      have l1 := blk_lt hT.1
      have l2 := blk_lt hT.2.2.1
      have hs := HB4.out.size
      refine ⟨?_, ?_, ?_, ?_⟩
      · rw [setRow_other _ _ _ _ (by omega), Below.heap_alloc _ _ _ (by omega), HB4.out.block _ l1]; exact hT.1
      · rw [setRow_other _ _ _ _ (by omega), Below.heap_alloc _ _ _ (by omega), HB4.out.block _ l0]; exact hT.2.1
      · rw [setRow_other _ _ _ _ (by omega), Below.heap_alloc _ _ _ (by omega), HB4.out.block _ l2]; exact hT.2.2.1
      · exact hT.2.2.2.trans (hbe.out.mono hT.2.2.2.size)
    clear hW4
    clear hzr hst hbe HD HB4 hs20 hone hsz
    have hK0 : 20 ≤ 64 := by omega
    have h1 := Lib.hid (setRow_heap W4 (w.heap.size + 1) _ (nums .u8 (padK (digL l))).toArray 130 (0, 0) HT4.out.1)
    obtain ⟨W5, hW5⟩ : ∃ W5, W5 = W4.setRow (w.heap.size + 1) (nums .u8 (padK (digL l))).toArray := ⟨_, rfl⟩
    have hR5 : ReadsInt W5 .u8 (some ⟨w4.heap.size, 0, none⟩) 20 (digL l) := by
      rw [hW5]
      exact reads_keep HK.out (fun ad ha hp => setRow_other W4 (w.heap.size + 1) ad.block _ (HNE.out ad ha hp))
    have hg5 : W5.heap[w.heap.size + 1 + 1]? = some (.cells (nums .u8 (List.replicate 64 0)).toArray 130 (0, 0)) := by rw [hW5, setRow_other _ _ _ _ (by omega)]; exact HT4.out.2.1
    have HT6 : Hid (TInv w (W5.setRow (w.heap.size + 1 + 1) (nums .u8 (padK (digL l))).toArray) (padK (digL l)) (padK (digL l))) := by
      refine ⟨?_, setRow_heap _ _ _ _ _ _ hg5, ?_, ?_⟩
      · rw [setRow_other _ _ _ _ (by omega), hW5]; exact h1.out
      · rw [setRow_other _ _ _ _ (by omega), hW5, setRow_other _ _ _ _ (by omega)]; exact HT4.out.2.2.1
      · rw [hW5]; exact below_setRow (below_setRow HT4.out.2.2.2 (by omega) _) (by omega) _
    refine wpList_copy_row rfl (.tmp 16) (.tmp 17) rfl (some ⟨w4.heap.size, 0, none⟩) 20 20 (w.heap.size + 1) 130 (by rfl) (by rfl) HT4.out.1 (digL l) HK.out hK0 ?_
    rw [← hW5]
    clear hW5
    go_wp2_with (refine stop_copy (.tmp 19) (.tmp 20) rfl ?_)
    intro W5' hW5'
    rw [hW5']
    clear hW5' W5'
    refine wpList_copy_row rfl (.tmp 19) (.tmp 20) rfl (some ⟨w4.heap.size, 0, none⟩) 20 20 (w.heap.size + 1 + 1) 130 (by rfl) (by rfl) hg5 (digL l) hR5 hK0 ?_
    obtain ⟨W6, hW6⟩ : ∃ W6, W6 = W5.setRow (w.heap.size + 1 + 1) (nums .u8 (padK (digL l))).toArray := ⟨_, rfl⟩
    rw [← hW6] at HT6 ⊢
    clear hW6
    obtain ⟨P, hP⟩ : ∃ P, P = padK (digL l) := ⟨_, rfl⟩
    have hPl : P.length = 64 := by rw [hP, padK_length]
    rw [← hP] at HT6
    have HP : Hid (P = padK (digL l)) := hP
    clear hP h1 hR5 hg5 HNE HK
    go_wp2_with fail
    clear HR1
    go_loopw [8, 22] (fun _ i wr => ∃ k : Int, 0 ≤ k ∧ k ≤ 64 ∧ i = .int .i64 k ∧ Hid (TInv w wr (xcells 54 P k.toNat) (xcells 92 P k.toNat))) (fun _ i _ => (64 - intOf i).toNat)
    case atStart => exact ⟨0, by omega, by omega, rfl, by simpa [xcells, xo] using HT6⟩
    case round =>
      obtain ⟨k, hk0, hk1, rfl, HTk⟩ := hrel
      clear HT6
      by_cases hlt : k < 64
      · obtain ⟨y, hyP⟩ : ∃ y, P.getD k.toNat 0 = y := ⟨_, rfl⟩
        have hx : wr.cell? ⟨w.heap.size + 1, k.toNat, none⟩ = some (.int .u8 y) := by rw [← hyP, cell_of_row _ _ _ _ _ _ HTk.out.1, List.getElem?_toArray]; exact xcells_at 54 hPl (by omega)
        have hy : wr.cell? ⟨w.heap.size + 1 + 1, k.toNat, none⟩ = some (.int .u8 y) := by rw [← hyP, cell_of_row _ _ _ _ _ _ HTk.out.2.1, List.getElem?_toArray]; exact xcells_at 92 hPl (by omega)
        have HY := Lib.hid hyP
        clear hyP
        have f1 : ∀ j, wr.frozen? ⟨w.heap.size + 1, j, none⟩ = false := blk_frozen HTk.out.1
        have f2 : ∀ j, wr.frozen? ⟨w.heap.size + 1 + 1, j, none⟩ = false := blk_frozen HTk.out.2.1
        go_wp2_with fail
        go_roundw
        case rel =>
          refine ⟨k + 1, by omega, by omega, by go_num, ?_⟩
          exact TInv.step HTk hPl hk0 hlt HY.out
        case measure => simp [intOf]; omega
      · obtain rfl : k = 64 := by omega
        have hI : xcells 54 P (64 : Int).toNat = xo 54 P := by show xo 54 (P.take 64) ++ P.drop 64 = _; rw [List.take_of_length_le (by omega), List.drop_eq_nil_of_le (by omega), List.append_nil]
        have hO : xcells 92 P (64 : Int).toNat = xo 92 P := by show xo 92 (P.take 64) ++ P.drop 64 = _; rw [List.take_of_length_le (by omega), List.drop_eq_nil_of_le (by omega), List.append_nil]
        rw [hI, hO] at HTk
        clear hI hO
        have hxl : (xo 54 P).length = 64 := by simp [xo, hPl]
        have hol : (xo 92 P).length = 64 := by simp [xo, hPl]
        have hC1 : ReadsInt wr .u8 A2 l2.length l2 := C_row (Kd.C_below HR2.out HTk.out.2.2.2)
        clear hlt hk0 hk1
        go_wp2_with (refine wpList_append_full rfl (.tmp 36) (.tmp 37) rfl (w.heap.size + 1) 130 64 (xo 54 P) l2 hxl A2 l2.length c2 (by rfl) (by rfl) HTk.out.1 hC1 (by omega) ?_)
        intro A5 c5 w5 hc5 hC5 hb5
        have hlen : 64 + l2.length = (xo 54 P ++ l2).length := by rw [List.length_append, hxl]
        have hcall := digest_any A5 c5 (xo 54 P ++ l2) w5 (by rw [← hlen]; exact hC5) (by omega) (by omega) (bytes_app (bytes_xo 54 P) HB2.out)
        rw [← hlen] at hcall
        have HCA := Lib.hid hcall
        have HB5 := Lib.hid hb5
        clear hcall hC5 hC1 hlen hb5
        go_wp2_with fail
        refine HCA.out.mono ?_
        rintro e w6 ⟨rfl, hb6⟩
        obtain ⟨D2, hD2⟩ : ∃ D, D = (nums .u8 (digL (xo 54 P ++ l2))).toArray := ⟨_, rfl⟩
        rw [← hD2]
        have hs20 : (Tryd.prog.info? 86).map (·.size) = some D2.size := by rw [hD2, List.size_toArray, nums_length, digL_length]; kernel_rfl
        have hone : D2.all (·.oneCell') = true := by rw [hD2]; simp [nums, Value.oneCell']
        have hzr : (w6.alloc (.cells #[.int .u8 0, .int .u8 0, .int .u8 0, .int .u8 0, .int .u8 0, .int .u8 0, .int .u8 0, .int .u8 0, .int .u8 0, .int .u8 0, .int .u8 0, .int .u8 0, .int .u8 0, .int .u8 0, .int .u8 0, .int .u8 0, .int .u8 0, .int .u8 0, .int .u8 0, .int .u8 0] 86)).heap[w6.heap.size]? = some (.cells #[.int .u8 0, .int .u8 0, .int .u8 0, .int .u8 0, .int .u8 0, .int .u8 0, .int .u8 0, .int .u8 0, .int .u8 0, .int .u8 0, .int .u8 0, .int .u8 0, .int .u8 0, .int .u8 0, .int .u8 0, .int .u8 0, .int .u8 0, .int .u8 0, .int .u8 0, .int .u8 0] 86 (0, 0)) := heap_alloc_new w6 _
        have hsz : (#[.int .u8 0, .int .u8 0, .int .u8 0, .int .u8 0, .int .u8 0, .int .u8 0, .int .u8 0, .int .u8 0, .int .u8 0, .int .u8 0, .int .u8 0, .int .u8 0, .int .u8 0, .int .u8 0, .int .u8 0, .int .u8 0, .int .u8 0, .int .u8 0, .int .u8 0, .int .u8 0] : Array Value).size = D2.size := by rw [hD2]; rfl
        obtain ⟨w7, hw7⟩ : ∃ w7, w7 = (w6.alloc (.cells #[.int .u8 0, .int .u8 0, .int .u8 0, .int .u8 0, .int .u8 0, .int .u8 0, .int .u8 0, .int .u8 0, .int .u8 0, .int .u8 0, .int .u8 0, .int .u8 0, .int .u8 0, .int .u8 0, .int .u8 0, .int .u8 0, .int .u8 0, .int .u8 0, .int .u8 0, .int .u8 0] 86)).setRow w6.heap.size D2 := ⟨_, rfl⟩
        have hb06 : Below wr.heap.size wr w6 := below_then HB5.out HB5.out.size hb6
        have hst7 : w7.heap[w6.heap.size]? = some (.cells (nums .u8 (digL (xo 54 P ++ l2))).toArray 86 (0, 0)) := by rw [hw7, ← hD2]; exact setRow_heap _ _ _ D2 _ _ hzr
        have hb07 : Below wr.heap.size wr w7 := by rw [hw7]; exact below_setRow (hb06.alloc hb06.size _) hb06.size _
        have hC7 : ReadsInt w7 .u8 (some ⟨w6.heap.size, 0, none⟩) 20 (digL (xo 54 P ++ l2)) := C_row (row_C hst7 (by rw [digL_length]; omega))
        have hg7 : w7.heap[w.heap.size + 1 + 1]? = some (.cells (nums .u8 (xo 92 P)).toArray 130 (0, 0)) := (hb07.block _ (blk_lt HTk.out.2.1)).trans HTk.out.2.1
        have HD2 := Lib.hid hD2
        have HB7 := Lib.hid hb07
        clear hD2 hb6 hb06 hst7 hb07
        go_wp2_with (refine wpList_store_row rfl 86 _ _ rfl w6.heap.size _ (by rfl) (by rfl) 86 _ hzr hs20 hsz hone ?_; rw [← hw7])
        go_still_tail 2, (by kernel_rfl)
        have hg8 : w7.drew.heap[w.heap.size + 1 + 1]? = some (.cells (nums .u8 (xo 92 P)).toArray 130 (0, 0)) := hg7
        have hC8 : ReadsInt w7.drew .u8 (some ⟨w6.heap.size, 0, none⟩) 20 (digL (xo 54 P ++ l2)) := hC7
        refine wpList_append_full rfl (.tmp 40) (.tmp 41) rfl (w.heap.size + 1 + 1) 130 64 (xo 92 P) (digL (xo 54 P ++ l2)) hol (some ⟨w6.heap.size, 0, none⟩) 20 20 (by rfl) (by rfl) hg8 hC8 (by omega) ?_
        intro A9 c9 w9 hc9 hC9 hb9
        have hlen2 : (xo 92 P ++ digL (xo 54 P ++ l2)).length = 84 := by rw [List.length_append, hol, digL_length]
        have hcall := digest_any A9 c9 (xo 92 P ++ digL (xo 54 P ++ l2)) w9 (by rw [hlen2]; exact hC9) (by omega) (by omega) (bytes_app (bytes_xo 92 P) (bytes_digL _))
        rw [hlen2] at hcall
        have HCB := Lib.hid hcall
        have HB9 : Hid (Below wr.heap.size wr w9) := below_then (below_drew HB7.out) (below_drew HB7.out).size hb9
        clear hcall hC9 hC8 hg8 hC7 hg7 hlen2 hb9 hs20 hone hzr hsz hc9 HD2 hw7
        go_wp2_with fail
        refine HCB.out.mono ?_
        rintro e w10 ⟨rfl, hb10⟩
        obtain ⟨D3, hD3⟩ : ∃ D, D = (nums .u8 (digL (xo 92 P ++ digL (xo 54 P ++ l2)))).toArray := ⟨_, rfl⟩
        rw [← hD3]
        have hs20 : (Tryd.prog.info? 86).map (·.size) = some D3.size := by rw [hD3, List.size_toArray, nums_length, digL_length]; kernel_rfl
        have hone : D3.all (·.oneCell') = true := by rw [hD3]; simp [nums, Value.oneCell']
        have hsz : ((List.replicate 20 (Value.int .u8 0)).toArray).size = D3.size := by rw [hD3]; rfl
        have hb0 : Below wr.heap.size wr w10 := below_then HB9.out HB9.out.size hb10
        have hz : w10.heap[w.heap.size]? = some (.cells (List.replicate 20 (Value.int .u8 0)).toArray 86 (0, 0)) := (hb0.block _ (blk_lt HTk.out.2.2.1)).trans HTk.out.2.2.1
        have HBE : Hid (Below w.heap.size w w10) := below_then HTk.out.2.2.2 HTk.out.2.2.2.size hb0
        have HD3 := Lib.hid hD3
        clear hD3 hb10 hb0
        go_wp2_with (refine wpList_store_row rfl 86 _ _ rfl w.heap.size _ (by rfl) (by rfl) 86 _ hz hs20 hsz hone ?_)
        refine bodyPost_ret (results_cell_row Tryd.results51 _ _ w.heap.size 86 _ (0, 0) _ rfl (setRow_heap w10 w.heap.size _ _ 86 (0, 0) hz) Tryd.underlying86 rfl hs20) rfl ⟨?_, below_setRow HBE.out (Nat.le_refl _) _⟩
        rw [HD3.out]
        unfold tagL
        rw [hk.out, ← HP.out]
  · have hk : Hid (keyL l = l) := by show keyL l = l; unfold keyL; rw [if_neg h64]
    have h64i : ¬ (64 : Int) < (l.length : Int) := by omega
    go_enter Tryd.func51, Tryd.ntmps51
    go_wp2_with (refine stop_copy (.tmp 16) (.tmp 17) rfl ?_)
    rw [← hW3]
    clear hW3
    intro W4 hW4
    have HK : Hid (ReadsInt W4 .u8 (A) (l.length) (l)) := by
      rw [hW4]
      exact C_row hr3
    have HNE : Hid (∀ ad : Addr, (A) = some ad → 0 < (l.length) → ad.block ≠ w.heap.size + 1) := by
      intro ad ha hp
      obtain ⟨ad', ha', hc⟩ := (C_row HR1.out).2.2 hp
      rw [ha] at ha'
      injection ha' with ha'
      have hlt := World.block_lt_of_cell? w _ (hc 0 hp)
      rw [add_block, ← ha'] at hlt
      omega
    have HT4 : Hid (TInv w W4 (List.replicate 64 0) (List.replicate 64 0)) := by
      rw [hW4]
      exact HT.out
    clear hW4
    clear hr3
    have hK0 : l.length ≤ 64 := by omega
    have h1 := Lib.hid (setRow_heap W4 (w.heap.size + 1) _ (nums .u8 (padK l)).toArray 130 (0, 0) HT4.out.1)
    obtain ⟨W5, hW5⟩ : ∃ W5, W5 = W4.setRow (w.heap.size + 1) (nums .u8 (padK l)).toArray := ⟨_, rfl⟩
    have hR5 : ReadsInt W5 .u8 A l.length l := by
      rw [hW5]
      exact reads_keep HK.out (fun ad ha hp => setRow_other W4 (w.heap.size + 1) ad.block _ (HNE.out ad ha hp))
    have hg5 : W5.heap[w.heap.size + 1 + 1]? = some (.cells (nums .u8 (List.replicate 64 0)).toArray 130 (0, 0)) := by rw [hW5, setRow_other _ _ _ _ (by omega)]; exact HT4.out.2.1
    have HT6 : Hid (TInv w (W5.setRow (w.heap.size + 1 + 1) (nums .u8 (padK l)).toArray) (padK l) (padK l)) := by
      refine ⟨?_, setRow_heap _ _ _ _ _ _ hg5, ?_, ?_⟩
      · rw [setRow_other _ _ _ _ (by omega), hW5]; exact h1.out
      · rw [setRow_other _ _ _ _ (by omega), hW5, setRow_other _ _ _ _ (by omega)]; exact HT4.out.2.2.1
      · rw [hW5]; exact below_setRow (below_setRow HT4.out.2.2.2 (by omega) _) (by omega) _
    refine wpList_copy_row rfl (.tmp 16) (.tmp 17) rfl A l.length c (w.heap.size + 1) 130 (by rfl) (by rfl) HT4.out.1 l HK.out hK0 ?_
    rw [← hW5]
    clear hW5
    go_wp2_with (refine stop_copy (.tmp 19) (.tmp 20) rfl ?_)
    intro W5' hW5'
    rw [hW5']
    clear hW5' W5'
    refine wpList_copy_row rfl (.tmp 19) (.tmp 20) rfl A l.length c (w.heap.size + 1 + 1) 130 (by rfl) (by rfl) hg5 l hR5 hK0 ?_
    obtain ⟨W6, hW6⟩ : ∃ W6, W6 = W5.setRow (w.heap.size + 1 + 1) (nums .u8 (padK l)).toArray := ⟨_, rfl⟩
    rw [← hW6] at HT6 ⊢
    clear hW6
    obtain ⟨P, hP⟩ : ∃ P, P = padK l := ⟨_, rfl⟩
    have hPl : P.length = 64 := by rw [hP, padK_length]
    rw [← hP] at HT6
    have HP : Hid (P = padK l) := hP
    clear hP h1 hR5 hg5 HNE HK
    go_wp2_with fail
    clear HR1
    go_loopw [8, 22] (fun _ i wr => ∃ k : Int, 0 ≤ k ∧ k ≤ 64 ∧ i = .int .i64 k ∧ Hid (TInv w wr (xcells 54 P k.toNat) (xcells 92 P k.toNat))) (fun _ i _ => (64 - intOf i).toNat)
    case atStart => exact ⟨0, by omega, by omega, rfl, by simpa [xcells, xo] using HT6⟩
    case round =>
      obtain ⟨k, hk0, hk1, rfl, HTk⟩ := hrel
      clear HT6
      by_cases hlt : k < 64
      · obtain ⟨y, hyP⟩ : ∃ y, P.getD k.toNat 0 = y := ⟨_, rfl⟩
        have hx : wr.cell? ⟨w.heap.size + 1, k.toNat, none⟩ = some (.int .u8 y) := by rw [← hyP, cell_of_row _ _ _ _ _ _ HTk.out.1, List.getElem?_toArray]; exact xcells_at 54 hPl (by omega)
        have hy : wr.cell? ⟨w.heap.size + 1 + 1, k.toNat, none⟩ = some (.int .u8 y) := by rw [← hyP, cell_of_row _ _ _ _ _ _ HTk.out.2.1, List.getElem?_toArray]; exact xcells_at 92 hPl (by omega)
        have HY := Lib.hid hyP
        clear hyP
        have f1 : ∀ j, wr.frozen? ⟨w.heap.size + 1, j, none⟩ = false := blk_frozen HTk.out.1
        have f2 : ∀ j, wr.frozen? ⟨w.heap.size + 1 + 1, j, none⟩ = false := blk_frozen HTk.out.2.1
        go_wp2_with fail
        go_roundw
        case rel =>
          refine ⟨k + 1, by omega, by omega, by go_num, ?_⟩
          exact TInv.step HTk hPl hk0 hlt HY.out
        case measure => simp [intOf]; omega
      · obtain rfl : k = 64 := by omega
        have hI : xcells 54 P (64 : Int).toNat = xo 54 P := by show xo 54 (P.take 64) ++ P.drop 64 = _; rw [List.take_of_length_le (by omega), List.drop_eq_nil_of_le (by omega), List.append_nil]
        have hO : xcells 92 P (64 : Int).toNat = xo 92 P := by show xo 92 (P.take 64) ++ P.drop 64 = _; rw [List.take_of_length_le (by omega), List.drop_eq_nil_of_le (by omega), List.append_nil]
        rw [hI, hO] at HTk
        clear hI hO
        have hxl : (xo 54 P).length = 64 := by simp [xo, hPl]
        have hol : (xo 92 P).length = 64 := by simp [xo, hPl]
        have hC1 : ReadsInt wr .u8 A2 l2.length l2 := C_row (Kd.C_below HR2.out HTk.out.2.2.2)
        clear hlt hk0 hk1
        go_wp2_with (refine wpList_append_full rfl (.tmp 36) (.tmp 37) rfl (w.heap.size + 1) 130 64 (xo 54 P) l2 hxl A2 l2.length c2 (by rfl) (by rfl) HTk.out.1 hC1 (by omega) ?_)
        intro A5 c5 w5 hc5 hC5 hb5
        have hlen : 64 + l2.length = (xo 54 P ++ l2).length := by rw [List.length_append, hxl]
        have hcall := digest_any A5 c5 (xo 54 P ++ l2) w5 (by rw [← hlen]; exact hC5) (by omega) (by omega) (bytes_app (bytes_xo 54 P) HB2.out)
        rw [← hlen] at hcall
        have HCA := Lib.hid hcall
        have HB5 := Lib.hid hb5
        clear hcall hC5 hC1 hlen hb5
        go_wp2_with fail
        refine HCA.out.mono ?_
        rintro e w6 ⟨rfl, hb6⟩
        obtain ⟨D2, hD2⟩ : ∃ D, D = (nums .u8 (digL (xo 54 P ++ l2))).toArray := ⟨_, rfl⟩
        rw [← hD2]
        have hs20 : (Tryd.prog.info? 86).map (·.size) = some D2.size := by rw [hD2, List.size_toArray, nums_length, digL_length]; kernel_rfl
        have hone : D2.all (·.oneCell') = true := by rw [hD2]; simp [nums, Value.oneCell']
        have hzr : (w6.alloc (.cells #[.int .u8 0, .int .u8 0, .int .u8 0, .int .u8 0, .int .u8 0, .int .u8 0, .int .u8 0, .int .u8 0, .int .u8 0, .int .u8 0, .int .u8 0, .int .u8 0, .int .u8 0, .int .u8 0, .int .u8 0, .int .u8 0, .int .u8 0, .int .u8 0, .int .u8 0, .int .u8 0] 86)).heap[w6.heap.size]? = some (.cells #[.int .u8 0, .int .u8 0, .int .u8 0, .int .u8 0, .int .u8 0, .int .u8 0, .int .u8 0, .int .u8 0, .int .u8 0, .int .u8 0, .int .u8 0, .int .u8 0, .int .u8 0, .int .u8 0, .int .u8 0, .int .u8 0, .int .u8 0, .int .u8 0, .int .u8 0, .int .u8 0] 86 (0, 0)) := heap_alloc_new w6 _
        have hsz : (#[.int .u8 0, .int .u8 0, .int .u8 0, .int .u8 0, .int .u8 0, .int .u8 0, .int .u8 0, .int .u8 0, .int .u8 0, .int .u8 0, .int .u8 0, .int .u8 0, .int .u8 0, .int .u8 0, .int .u8 0, .int .u8 0, .int .u8 0, .int .u8 0, .int .u8 0, .int .u8 0] : Array Value).size = D2.size := by rw [hD2]; rfl
        obtain ⟨w7, hw7⟩ : ∃ w7, w7 = (w6.alloc (.cells #[.int .u8 0, .int .u8 0, .int .u8 0, .int .u8 0, .int .u8 0, .int .u8 0, .int .u8 0, .int .u8 0, .int .u8 0, .int .u8 0, .int .u8 0, .int .u8 0, .int .u8 0, .int .u8 0, .int .u8 0, .int .u8 0, .int .u8 0, .int .u8 0, .int .u8 0, .int .u8 0] 86)).setRow w6.heap.size D2 := ⟨_, rfl⟩
        have hb06 : Below wr.heap.size wr w6 := below_then HB5.out HB5.out.size hb6
        have hst7 : w7.heap[w6.heap.size]? = some (.cells (nums .u8 (digL (xo 54 P ++ l2))).toArray 86 (0, 0)) := by rw [hw7, ← hD2]; exact setRow_heap _ _ _ D2 _ _ hzr
        have hb07 : Below wr.heap.size wr w7 := by rw [hw7]; exact below_setRow (hb06.alloc hb06.size _) hb06.size _
        have hC7 : ReadsInt w7 .u8 (some ⟨w6.heap.size, 0, none⟩) 20 (digL (xo 54 P ++ l2)) := C_row (row_C hst7 (by rw [digL_length]; omega))
        have hg7 : w7.heap[w.heap.size + 1 + 1]? = some (.cells (nums .u8 (xo 92 P)).toArray 130 (0, 0)) := (hb07.block _ (blk_lt HTk.out.2.1)).trans HTk.out.2.1
        have HD2 := Lib.hid hD2
        have HB7 := Lib.hid hb07
        clear hD2 hb6 hb06 hst7 hb07
        go_wp2_with (refine wpList_store_row rfl 86 _ _ rfl w6.heap.size _ (by rfl) (by rfl) 86 _ hzr hs20 hsz hone ?_; rw [← hw7])
        go_still_tail 2, (by kernel_rfl)
        have hg8 : w7.drew.heap[w.heap.size + 1 + 1]? = some (.cells (nums .u8 (xo 92 P)).toArray 130 (0, 0)) := hg7
        have hC8 : ReadsInt w7.drew .u8 (some ⟨w6.heap.size, 0, none⟩) 20 (digL (xo 54 P ++ l2)) := hC7
        refine wpList_append_full rfl (.tmp 40) (.tmp 41) rfl (w.heap.size + 1 + 1) 130 64 (xo 92 P) (digL (xo 54 P ++ l2)) hol (some ⟨w6.heap.size, 0, none⟩) 20 20 (by rfl) (by rfl) hg8 hC8 (by omega) ?_
        intro A9 c9 w9 hc9 hC9 hb9
        have hlen2 : (xo 92 P ++ digL (xo 54 P ++ l2)).length = 84 := by rw [List.length_append, hol, digL_length]
        have hcall := digest_any A9 c9 (xo 92 P ++ digL (xo 54 P ++ l2)) w9 (by rw [hlen2]; exact hC9) (by omega) (by omega) (bytes_app (bytes_xo 92 P) (bytes_digL _))
        rw [hlen2] at hcall
        have HCB := Lib.hid hcall
        have HB9 : Hid (Below wr.heap.size wr w9) := below_then (below_drew HB7.out) (below_drew HB7.out).size hb9
        clear hcall hC9 hC8 hg8 hC7 hg7 hlen2 hb9 hs20 hone hzr hsz hc9 HD2 hw7
        go_wp2_with fail
        refine HCB.out.mono ?_
        rintro e w10 ⟨rfl, hb10⟩
        obtain ⟨D3, hD3⟩ : ∃ D, D = (nums .u8 (digL (xo 92 P ++ digL (xo 54 P ++ l2)))).toArray := ⟨_, rfl⟩
        rw [← hD3]
        have hs20 : (Tryd.prog.info? 86).map (·.size) = some D3.size := by rw [hD3, List.size_toArray, nums_length, digL_length]; kernel_rfl
        have hone : D3.all (·.oneCell') = true := by rw [hD3]; simp [nums, Value.oneCell']
        have hsz : ((List.replicate 20 (Value.int .u8 0)).toArray).size = D3.size := by rw [hD3]; rfl
        have hb0 : Below wr.heap.size wr w10 := below_then HB9.out HB9.out.size hb10
        have hz : w10.heap[w.heap.size]? = some (.cells (List.replicate 20 (Value.int .u8 0)).toArray 86 (0, 0)) := (hb0.block _ (blk_lt HTk.out.2.2.1)).trans HTk.out.2.2.1
        have HBE : Hid (Below w.heap.size w w10) := below_then HTk.out.2.2.2 HTk.out.2.2.2.size hb0
        have HD3 := Lib.hid hD3
        clear hD3 hb10 hb0
        go_wp2_with (refine wpList_store_row rfl 86 _ _ rfl w.heap.size _ (by rfl) (by rfl) 86 _ hz hs20 hsz hone ?_)
        refine bodyPost_ret (results_cell_row Tryd.results51 _ _ w.heap.size 86 _ (0, 0) _ rfl (setRow_heap w10 w.heap.size _ _ 86 (0, 0) hz) Tryd.underlying86 rfl hs20) rfl ⟨?_, below_setRow HBE.out (Nat.le_refl _) _⟩
        rw [HD3.out]
        unfold tagL
        rw [hk.out, ← HP.out]
end Go.Proofs.YtmmgdngnffoflaaDoor
