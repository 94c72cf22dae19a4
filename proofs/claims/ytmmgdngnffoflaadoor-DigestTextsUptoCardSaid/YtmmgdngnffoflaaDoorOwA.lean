import Derived.Test.YtmmgdngnffoflaaDoorLeA
import Derived.ArgAppend
/-
  blotterlaw09.Owned: its contract.
-/
namespace Go.Proofs.YtmmgdngnffoflaaDoor
open Go.RowKit Go.Proofs.YtmmgdngnffoflaaDoorW.PrintWords

abbrev Rw := Option Addr × Nat × List Int
def rowV (r : Rw) : Value := .slice r.1 r.2.2.length r.2.1
def RowOk (w : World) (r : Rw) : Prop := (r.1 = none ∧ r.2.1 = 0 ∧ r.2.2 = []) ∨ ∃ g t cur, r.1 = some ⟨g, 0, none⟩ ∧ w.heap[g]? = some (.cells cur t (0, 0)) ∧ cur.size = r.2.1 ∧ r.2.2.length ≤ r.2.1 ∧ cur.toList.take r.2.2.length = nums .u8 r.2.2
theorem RowOk.C {w : World} {A : Option Addr} {c : Nat} {xs : List Int} (h : RowOk w (A, c, xs)) (hl : xs.length ≤ 100000000) : Kd.C (Kd.int .u8) w A xs.length xs := by
  refine Kd.C_of_reads (readsInt_of.1 ?_)
  rcases h with ⟨h1, _, h3⟩ | ⟨g, t, cur, h1, h2, _, h4, h5⟩
  · obtain rfl : A = none := h1
    obtain rfl : xs = [] := h3
    exact ReadsInt.nil w .u8
  · refine ⟨rfl, by omega, fun _ => ⟨_, h1, fun j hj => ?_⟩⟩
    rw [add_plain, cell_of_row _ _ _ _ _ _ h2]
    have e : cur[j]? = (cur.toList.take xs.length)[j]? := by rw [List.getElem?_take_of_lt hj, Array.getElem?_toList]
    rw [e]
    show (cur.toList.take xs.length)[j]? = _
    rw [show cur.toList.take xs.length = nums .u8 xs from h5]
    exact nums_get xs j hj
theorem RowOk.below {w w' : World} {r : Rw} (h : RowOk w r) (hb : Below w.heap.size w w') : RowOk w' r := by
  rcases h with h | ⟨g, t, cur, h1, h2, h3⟩
  · exact .inl h
  · exact .inr ⟨g, t, cur, h1, (hb.block _ (blk_lt h2)).trans h2, h3⟩
def strs (L : List Rw) : List ByteArray := L.map fun r => strOfNums r.2.2
theorem dinfo9 : (Tryd.prog.info? 9).map (fun i => (i.zero, i.size, i.bytes)) = some (some (.string ByteArray.empty), 1, 16) := by kernel_rfl
theorem below_setCells {B b : Nat} {w0 : World} (vs : List Value) : ∀ (o : Nat) (w : World), Below B w0 w → B ≤ b → Below B w0 (w.setCells b o vs) := by
  induction vs with
  | nil => intro o w h _; exact h
  | cons v r ih => intro o w h hb; exact ih (o + 1) _ (h.setCell hb v) hb
theorem heap_setCells {b k : Nat} (hk : k ≠ b) (vs : List Value) : ∀ (o : Nat) (w : World), (w.setCells b o vs).heap[k]? = w.heap[k]? := by
  induction vs with
  | nil => intro o w; rfl
  | cons v r ih => intro o w; exact (ih (o + 1) _).trans (heap_setCell_other _ _ _ _ hk)
/-- append of two onto a row that may have room. -/
theorem wpList_append_two {w : World} {ops : Array Oper} {rest : List Oper} {o : Oper} {a : Act} {Q : Exit → Act → World → Prop} (hgd : o.guard = none) (s x : Operand)
    (ho : o.op = .call { callee := .builtin .append, args := #[s, x], argTypes := #[22, 22] }) (A : Option Addr) (c : Nat) (xs : List Int) (ad : Addr) (hs : a.eval s = .slice A xs.length c) (hx : a.eval x = .slice (some ad) 2 2)
    (hR : ReadsInt w .u8 (some ad) 2 [1, 2]) (hok : RowOk w (A, c, xs)) (hl : xs.length ≤ 100000000) (base : Nat) (w0 : World) (hb : Below base w0 w) (hbs : base ≤ w.heap.size) (hg : ∀ g, A = some ⟨g, 0, none⟩ → base ≤ g)
    (hK : ∀ A' c' w', Below base w0 w' → (∀ k, k < w.heap.size → (∀ g, A = some ⟨g, 0, none⟩ → k ≠ g) → w'.heap[k]? = w.heap[k]?) → wpList Tryd.prog ops Q rest (a.put o.dst (.slice A' (xs.length + 2) c')) w') : wpList Tryd.prog ops Q (o :: rest) a w := by
  have hC := C_row (hok.C hl)
  rcases hok with ⟨h1, h2, h3⟩ | ⟨g, t, cur, h1, h2, h3, h4, h5⟩
  · obtain rfl : A = none := h1
    obtain rfl : c = 0 := h2
    obtain rfl : xs = [] := h3
    refine print_append_row (w0 := w0) base hgd s x 22 5 .u8 1 ho Tryd.underlying22 dinfo5 (by decide) _ [] [1, 2] (some ad) 2 2 hs hx (own_nil _ _ _ _) hR hb hbs (by simp) ?_
    intro v1 w1 hown hb1 hg1 _
    obtain ⟨A', c', rfl⟩ := own_slice hown
    exact hK A' c' w1 hb1 (fun k hk _ => hg1.block k hk (by simp [Value.ownBlock]))
  · obtain rfl : A = some ⟨g, 0, none⟩ := h1
    have h3' : cur.size = c := h3
    obtain ⟨i, hi, hz0, hz1, hz2⟩ := info_parts dinfo5
    refine wpList_append_arg w hgd s x 22 ho 5 i (.int .u8 0) 1 1 Tryd.underlying22 hi hz0 hz1 hz2 rfl (by decide) g 0 xs.length c (nums .u8 xs) hs (by rw [nums_length]; omega) (fun j u hj => ?_) ad 2 2 (nums .u8 [1, 2]) hx rfl (nums_at hR rfl) (nums_one _)
      (fun hroom j hj => ?_) (by unfold maxLen; omega) (by omega) (fun hroom => ?_) (fun _ v' w' hown hgr => ?_)
    · have := nums_at hC rfl j u hj
      rw [add_plain] at this
      rw [Nat.zero_add]; exact this
    · have hj' : j < 2 := hj
      rw [cell_of_row _ _ _ _ _ _ h2]
      have hlt : 0 + xs.length * 1 + j < cur.size := by omega
      exact ⟨by rw [Array.getElem?_eq_getElem hlt]; rfl, blk_frozen h2 _⟩
    · exact hK _ _ _ (below_setCells _ _ _ hb (hg g rfl)) (fun k _ hk => heap_setCells (hk g rfl) _ _ _)
    · obtain ⟨A', c', rfl⟩ := own_slice hown
      exact hK A' c' w' (hb.grown hgr hbs (fun k h => by cases h)) (fun k hk _ => hgr.block k hk (by simp))
def Mid (w : World) (base : Nat) (W0 : World) (g t c n : Nat) (wr : World) : Prop :=
  KeepBut W0 wr g none ∧ Below base w wr ∧ ∃ (cur : Array Value) (ys : List Int), wr.heap[g]? = some (.cells cur t (0, 0)) ∧ cur.size = c ∧ ys.length = n ∧ cur.toList.take n = nums .u8 ys
theorem Mid.at {w W0 wr : World} {base g t c n m : Nat} (h : Mid w base W0 g t c n wr) (hm : m < n) : ∃ y : Int, wr.cell? ⟨g, m, none⟩ = some (.int .u8 y) ∧ ∀ j, wr.frozen? ⟨g, j, none⟩ = false := by
  obtain ⟨_, _, cur, ys, h1, _, h3, h4⟩ := h
  refine ⟨ys.getD m 0, ?_, blk_frozen h1⟩
  rw [cell_of_row _ _ _ _ _ _ h1]
  have e : cur[m]? = (cur.toList.take n)[m]? := by rw [List.getElem?_take_of_lt hm, Array.getElem?_toList]
  rw [e, h4]
  exact nums_get ys m (by omega)
theorem Mid.step {w W0 wr : World} {base g t c n m : Nat} (h : Mid w base W0 g t c n wr) (hb : base ≤ g) (y : Int) : Mid w base W0 g t c n (wr.setCell ⟨g, m, none⟩ (.int .u8 y)) := by
  obtain ⟨h0, hB, cur, ys, h1, h2, h3, h4⟩ := h
  refine ⟨h0.set_ m _, hB.setCell hb _, _, ys.set m y, heap_setCell_same wr g m cur t _ h1, by simpa using h2, by simpa using h3, ?_⟩
  rw [Array.toList_setIfInBounds, List.take_set, h4]
  simp [nums, List.map_set]
theorem Mid.drew {w W0 wr : World} {base g t c n : Nat} (h : Mid w base W0 g t c n wr) : Mid w base W0 g t c n wr.drew := ⟨h.1, below_drew h.2.1, h.2.2⟩
def OInv (w : World) (base gl gw : Nat) (curw : Array Value) (L : List Rw) (k : Nat) (wr : World) : Prop :=
  (∀ (j : Nat) (r : Rw), k ≤ j → L[j]? = some r → RowOk wr r) ∧ wr.heap[gl]? = some (.cells (L.map rowV).toArray 22 (0, 0)) ∧ wr.heap[gw]? = some (.cells curw 9 (0, 0)) ∧ Below base w wr
set_option maxHeartbeats 4000000 in
set_option maxRecDepth 100000 in
theorem owned_any (gl : Nat) (L : List Rw) (w : World) (hg : w.heap[gl]? = some (.cells (L.map rowV).toArray 22 (0, 0))) (hL : L.length ≤ 100) (hr : ∀ r ∈ L, RowOk w r) (hlen : ∀ r ∈ L, r.2.2.length ≤ 100000000) (h0 : 0 < L.length) (base : Nat) (hbase : base ≤ w.heap.size)
    (hgs : ∀ r ∈ L, ∀ g, r.1 = some ⟨g, 0, none⟩ → base ≤ g ∧ g ≠ gl) (hdis : ∀ (i j : Nat) (r q : Rw) (g : Nat), i < j → L[i]? = some r → L[j]? = some q → r.1 = some ⟨g, 0, none⟩ → q.1 ≠ some ⟨g, 0, none⟩) :
    Calls Tryd.prog 21 #[.slice (some ⟨gl, 0, none⟩) L.length L.length] w fun e w' => e = .returned (.bool true) ∧ Below base w w' := by
  have h63 : L.length ≤ 9223372036854775807 := by omega
  have hlow : ∀ r ∈ L, ∀ g, r.1 = some ⟨g, 0, none⟩ → g < w.heap.size := by
    intro r hm g e
    rcases hr r hm with ⟨h1, _⟩ | ⟨g', _, _, h1, h2, _⟩
    · rw [h1] at e; cases e
    · rw [h1] at e
      injection e with e
      injection e with e _ _
      subst e
      exact blk_lt h2
  go_enter Tryd.func21, Tryd.ntmps21
  go_wp2_with fail
  go_loopw [3, 4] (fun v i wr => ∃ k : Nat, k ≤ L.length ∧ i = .int .i64 k ∧ wr.ownsRow w.heap.size 9 1 v k (encs Value.string (strs (L.take k))) ∧ Below w.heap.size w wr) (fun _ i _ => L.length - (intOf i).toNat)
  case atStart => exact ⟨0, by omega, rfl, own_nil _ _ _ _, Below.refl _ _⟩
  case round =>
    obtain ⟨k, hk, rfl, hown, hbel⟩ := hrel
    by_cases hlt : k < L.length
    · obtain ⟨⟨A, c, xs⟩, hrow⟩ : ∃ r, L[k]? = some r := ⟨_, List.getElem?_eq_getElem hlt⟩
      have hmem := List.mem_of_getElem? hrow
      have hcell : wr.cell? ⟨gl, k, none⟩ = some (.slice A xs.length c) := by
        rw [cell_of_row _ _ _ _ _ _ ((hbel.block _ (blk_lt hg)).trans hg)]
        simp [hrow, rowV]
      have hC := ((hr _ hmem).below hbel).C (hlen _ hmem)
      have hcv : (convert 22 9 (.slice A xs.length c)).run Tryd.prog wr = .ok (.string (strOfNums xs)) wr := Kd.C_string Tryd.underlying22 rfl Tryd.underlying9 hC
      have hsl : (strs (L.take k)).length = k := by simp [strs]; omega
      have hown' : wr.ownsRow w.heap.size 9 1 u3 (strs (L.take k)).length (encs Value.string (strs (L.take k))) := by rw [hsl]; exact hown
      have HS : Hid (strs (L.take (k + 1)) = strs (L.take k) ++ [strOfNums xs]) := by
        show strs (L.take (k + 1)) = _
        rw [List.take_add_one, hrow]; simp [strs]
      have HO := Lib.hid hown'
      have HBE := Lib.hid hbel
      clear hown hown' hbel hC hmem hrow
      go_wp2_with (at_builtin; refine print_append_of (w0 := w) Value.string w.heap.size rfl (.tmp 15) (.tmp 21) 85 9 (.string ByteArray.empty) 16 rfl Tryd.underlying85 dinfo9 rfl (by decide) _ (strs (L.take k)) _ rfl rfl rfl HO.out HBE.out HBE.out.size (by omega) ?_)
      intro v1 w1 hown1 hb1 _ _
      have hown2 : w1.ownsRow w.heap.size 9 1 v1 (k + 1) (encs Value.string (strs (L.take (k + 1)))) := by
        rw [HS.out]
        simpa [hsl] using hown1
      clear hown1
      go_wp2_with fail
      go_roundw
      case rel => exact ⟨k + 1, by omega, by go_num, hown2, hb1⟩
      case measure => simp [intOf]; omega
    · obtain rfl : k = L.length := by omega
      rw [List.take_length] at hown
      obtain ⟨gw, capw, curw, rfl, hgw, hW, _, _, _, hcw⟩ := hown.2.resolve_left (fun h => by omega)
      have hwas : ∀ (j : Nat) (r : Rw), L[j]? = some r → curw[j]? = some (.string (strOfNums r.2.2)) := by
        intro j r hj
        have hjl : j < L.length := (List.getElem?_eq_some_iff.1 hj).1
        have e : curw[j]? = (curw.toList.take (L.length * 1))[j]? := by rw [List.getElem?_take_of_lt (by omega), Array.getElem?_toList]
        rw [e, hcw]
        simp [encs, strs, hj]
      have HI0 : Hid (OInv w base gl gw curw L 0 wr) := ⟨fun j r _ hj => (hr r (List.mem_of_getElem? hj)).below hbel, (hbel.block _ (blk_lt hg)).trans hg, hW, hbel.mono hbase⟩
      have HW := Lib.hid hwas
      have HGW : Hid (w.heap.size ≤ gw) := hgw
      clear hown hW hwas hcw hbel hgw hr
      go_wp2_with fail
      go_loopw [5, 6, 7, 8] (fun i _ _ _ wr => ∃ k : Nat, k ≤ L.length ∧ i = .int .i64 k ∧ Hid (OInv w base gl gw curw L k wr)) (fun i _ _ _ _ => L.length - (intOf i).toNat)
      case atStart => exact ⟨0, by omega, rfl, HI0⟩
      case round =>
        obtain ⟨k, hk, rfl, HI⟩ := hrel
        clear HI0
        by_cases hlt : k < L.length
        · obtain ⟨⟨A, c, xs⟩, hrow⟩ : ∃ r, L[k]? = some r := ⟨_, List.getElem?_eq_getElem hlt⟩
          have hmem := List.mem_of_getElem? hrow
          have hok := HI.out.1 k _ (Nat.le_refl _) hrow
          have hcell : wr.cell? ⟨gl, k, none⟩ = some (.slice A xs.length c) := by
            rw [cell_of_row _ _ _ _ _ _ HI.out.2.1]
            simp [hrow, rowV]
          have hxl := hlen _ hmem
          have hsz : w.heap.size ≤ wr.heap.size := HI.out.2.2.2.size
          rcases hok with ⟨h1, h2, h3⟩ | ⟨g, t, cur, h1, h2, h3, h4, h5⟩
          · obtain rfl : A = none := h1
            obtain rfl : c = 0 := h2
            obtain rfl : xs = [] := h3
            clear hxl hmem
            have HROW := Lib.hid hrow
            clear hrow
            simp only [List.length_nil] at hcell
            go_wp2_with fail
            go_loopw [6] (fun i w' => i = .int .i64 0 ∧ w' = wr) (fun _ _ => 0)
            case atStart => exact ⟨rfl, rfl⟩
            case round =>
              obtain ⟨rfl, rfl⟩ := hrel
              have hsrc : ReadsInt (wr.alloc (.cells #[.int .u8 1, .int .u8 2] 5)) .u8 (some ⟨wr.heap.size, 0, none⟩) 2 [1, 2] := C_row (row_C (l := [1, 2]) (heap_alloc_new wr _) (by decide))
              have HA := Lib.hid hsrc
              have HOK : Hid (RowOk (wr.alloc (.cells #[.int .u8 1, .int .u8 2] 5)) (none, 0, [])) := ((show RowOk wr (none, 0, []) from .inl ⟨rfl, rfl, rfl⟩)).below ((Below.refl _ _).alloc (Nat.le_refl _) _)
              have HBB : Hid (Below base w (wr.alloc (.cells #[.int .u8 1, .int .u8 2] 5))) := (HI.out.2.2.2).alloc (Nat.le_trans hbase (hsz)) _
              have hsz2 : base ≤ (wr.alloc (.cells #[.int .u8 1, .int .u8 2] 5)).heap.size := Nat.le_trans hbase HBB.out.size
              clear hsrc
              go_wp2_with (at_builtin; refine wpList_append_two rfl (.tmp 55) (.tmp 56) rfl (none) (0) ([]) ⟨wr.heap.size, 0, none⟩ (by rfl) (by rfl) HA.out HOK.out (Nat.zero_le _) base w HBB.out hsz2 (fun g h => by cases h) ?_)
              intro A9 c9 w9 hb9 hk9
              have hk9' : ∀ k, k < (wr.alloc (.cells #[.int .u8 1, .int .u8 2] 5)).heap.size → (∀ g7, (none : Option Addr) = some ⟨g7, 0, none⟩ → k ≠ g7) → w9.heap[k]? = (wr.alloc (.cells #[.int .u8 1, .int .u8 2] 5)).heap[k]? := by
                intro k a b
                first | exact hk9 k a b | exact hk9 k a (b _ rfl) | exact hk9 k a | exact hk9 k (by simpa using a) (b _ rfl) | exact hk9 k (by simpa using a)
              have HN : Hid (OInv w base gl gw curw L (k + 1) w9) := by
                refine ⟨fun j q hj hq => ?_, ?_, ?_, hb9⟩
                · have h1 := HI.out.1 j q (by omega) hq
                  rcases h1 with h1 | ⟨g2, t2, cur2, e1, e2, e3⟩
                  · exact .inl h1
                  · refine .inr ⟨g2, t2, cur2, e1, ?_, e3⟩
                    rw [hk9' g2 (by have := blk_lt e2; simp; omega) (fun g3 h3 h4 => by cases h3)]
                    exact (Below.heap_alloc _ _ _ (blk_lt e2)).trans e2
                · rw [hk9' gl (by have := blk_lt HI.out.2.1; simp; omega) (fun g3 h3 h4 => by cases h3)]
                  exact (Below.heap_alloc _ _ _ (blk_lt HI.out.2.1)).trans HI.out.2.1
                · rw [hk9' gw (by have := blk_lt HI.out.2.2.1; simp; omega) (fun g3 h3 h4 => by cases h3)]
                  exact (Below.heap_alloc _ _ _ (blk_lt HI.out.2.2.1)).trans HI.out.2.2.1
              clear hb9 hk9 hk9' HBB HOK HA hsz2
              go_wp2_with fail
              go_loopw [8] (fun i w' => ∃ m : Nat, k + 1 ≤ m ∧ m ≤ L.length ∧ i = .int .i64 m ∧ Hid (OInv w base gl gw curw L (k + 1) w')) (fun i _ => L.length - (intOf i).toNat)
              case atStart => exact ⟨k + 1, Nat.le_refl _, by omega, by go_num, HN⟩
              case round =>
                obtain ⟨m, hm0, hm1, rfl, HQ⟩ := hrel
                clear HN
                by_cases hlt2 : m < L.length
                · obtain ⟨⟨A2, c2, xs2⟩, hrow2⟩ : ∃ r, L[m]? = some r := ⟨_, List.getElem?_eq_getElem hlt2⟩
                  have hcell2 : wr.cell? ⟨gl, m, none⟩ = some (.slice A2 xs2.length c2) := by
                    rw [cell_of_row _ _ _ _ _ _ HQ.out.2.1]
                    simp [hrow2, rowV]
                  have hC2 := (HQ.out.1 m _ (by omega) hrow2).C (hlen _ (List.mem_of_getElem? hrow2))
                  have hcv2 : ∀ n, (convert 22 9 (.slice A2 xs2.length c2)).run Tryd.prog (wr.drewN n) = .ok (.string (strOfNums xs2)) (wr.drewN n) := fun n => Kd.C_string Tryd.underlying22 rfl Tryd.underlying9 (Kd.C_below hC2 (pw_below_drewN (Below.refl _ _) n))
                  have hwc : wr.cell? ⟨gw, m, none⟩ = some (.string (strOfNums xs2)) := by
                    rw [cell_of_row _ _ _ _ _ _ HQ.out.2.2.1]
                    exact HW.out m _ hrow2
                  clear hC2 hrow2
                  go_wp2_with fail
                  go_quiet (fail)
                  go_wp2_with fail
                  go_roundw
                  case rel => exact ⟨m + 1, by omega, by omega, by go_num, HQ.out.1, HQ.out.2.1, HQ.out.2.2.1, pw_below_drewN HQ.out.2.2.2 _⟩
                  case measure => simp [intOf]; omega
                · obtain rfl : m = L.length := by omega
                  go_wp2_with fail
                  go_roundw
                  case rel => exact ⟨k + 1, by omega, by go_num, HQ⟩
                  case measure => simp [intOf]; omega
          · obtain rfl : A = some ⟨g, 0, none⟩ := h1
            obtain ⟨hbg, hggl⟩ := hgs _ hmem g rfl
            have hgw2 : gw ≠ g := by
              have h7 := hlow _ hmem g rfl
              have h8 := HGW.out
              omega
            obtain ⟨W0, hW0⟩ : ∃ W0, W0 = wr := ⟨_, rfl⟩
            rw [← hW0] at HI h2 hsz hcell ⊢
            clear hW0
            have HM0 : Hid (Mid w base W0 g t c xs.length W0) := ⟨KeepBut.refl _ _ _, HI.out.2.2.2, cur, xs, h2, h3, rfl, h5⟩
            have HROW := Lib.hid hrow
            have HXL := Lib.hid hxl
            clear h2 h3 h5 hrow hmem hcell
            go_wp2_with fail
            go_loopw [6] (fun i w' => ∃ m : Nat, m ≤ xs.length ∧ i = .int .i64 m ∧ Hid (Mid w base W0 g t c xs.length w')) (fun i _ => xs.length - (intOf i).toNat)
            case atStart => exact ⟨0, by omega, rfl, HM0⟩
            case round =>
              obtain ⟨m, hm, rfl, HM⟩ := hrel
              clear HM0
              have hcell : wr.cell? ⟨gl, k, none⟩ = some (.slice (some ⟨g, 0, none⟩) xs.length c) := by
                rw [cell_of_row _ _ _ _ _ _ ((HM.out.1.blk HI.out.2.1 (Ne.symm hggl) (by simp)))]
                simp [HROW.out, rowV]
              by_cases hlt3 : m < xs.length
              · obtain ⟨y, hy, hf⟩ := HM.out.at hlt3
                go_wp2_with fail
                go_still_tail 14, (by kernel_rfl)
                go_wp2_with fail
                go_roundw
                case rel => exact ⟨m + 1, by omega, by go_num, (Mid.step HM.out hbg _).drew⟩
                case measure => simp [intOf]; omega
              · obtain rfl : m = xs.length := by omega
                obtain ⟨f0, fB, cur2, ys, f1, f2, f3, f4⟩ := HM.out
                have hyl : ys.length ≤ 100000000 := by rw [f3]; exact HXL.out
                have hyc : ys.length ≤ c := by omega
                have HI2 : Hid (OInv w base gl gw curw L (k + 1) wr) := by
                  refine ⟨fun j q hj hq => ?_, f0.blk HI.out.2.1 (Ne.symm hggl) (by simp), f0.blk HI.out.2.2.1 hgw2 (by simp), fB⟩
                  rcases HI.out.1 j q (by omega) hq with h1 | ⟨g2, t2, cur2, e1, e2, e3⟩
                  · exact .inl h1
                  · exact .inr ⟨g2, t2, cur2, e1, f0.blk e2 (fun e => hdis k j _ q g (by omega) HROW.out hq rfl (by rw [e1, e])) (by simp), e3⟩
                have HOK0 : Hid (RowOk wr (some ⟨g, 0, none⟩, c, ys)) := .inr ⟨g, t, cur2, rfl, f1, f2, hyc, by show cur2.toList.take ys.length = _; rw [f3]; exact f4⟩
                have HBE0 : Hid (Below base w wr) := fB
                have hsz3 : w.heap.size ≤ wr.heap.size := Nat.le_trans hsz f0.1
                rw [← f3] at hcell ⊢
                clear f0 fB f1 f2 f4 HM h4 hlt3 hm f3
                have hsrc : ReadsInt (wr.alloc (.cells #[.int .u8 1, .int .u8 2] 5)) .u8 (some ⟨wr.heap.size, 0, none⟩) 2 [1, 2] := C_row (row_C (l := [1, 2]) (heap_alloc_new wr _) (by decide))
                have HA := Lib.hid hsrc
                have HOK : Hid (RowOk (wr.alloc (.cells #[.int .u8 1, .int .u8 2] 5)) (some ⟨g, 0, none⟩, c, ys)) := (HOK0.out).below ((Below.refl _ _).alloc (Nat.le_refl _) _)
                have HBB : Hid (Below base w (wr.alloc (.cells #[.int .u8 1, .int .u8 2] 5))) := (HBE0.out).alloc (Nat.le_trans hbase (hsz3)) _
                have hsz2 : base ≤ (wr.alloc (.cells #[.int .u8 1, .int .u8 2] 5)).heap.size := Nat.le_trans hbase HBB.out.size
                clear hsrc
                go_wp2_with (at_builtin; refine wpList_append_two rfl (.tmp 55) (.tmp 56) rfl (some ⟨g, 0, none⟩) (c) (ys) ⟨wr.heap.size, 0, none⟩ (by rfl) (by rfl) HA.out HOK.out (hyl) base w HBB.out hsz2 (fun g2 h => by injection h with h; injection h with h _ _; omega) ?_)
                intro A9 c9 w9 hb9 hk9
                have hk9' : ∀ k, k < (wr.alloc (.cells #[.int .u8 1, .int .u8 2] 5)).heap.size → (∀ g7, (some ⟨g, 0, none⟩ : Option Addr) = some ⟨g7, 0, none⟩ → k ≠ g7) → w9.heap[k]? = (wr.alloc (.cells #[.int .u8 1, .int .u8 2] 5)).heap[k]? := by
                  intro k a b
                  first | exact hk9 k a b | exact hk9 k a (b _ rfl) | exact hk9 k a | exact hk9 k (by simpa using a) (b _ rfl) | exact hk9 k (by simpa using a)
                have HN : Hid (OInv w base gl gw curw L (k + 1) w9) := by
                  refine ⟨fun j q hj hq => ?_, ?_, ?_, hb9⟩
                  · have h1 := HI2.out.1 j q (by omega) hq
                    rcases h1 with h1 | ⟨g2, t2, cur2, e1, e2, e3⟩
                    · exact .inl h1
                    · refine .inr ⟨g2, t2, cur2, e1, ?_, e3⟩
                      rw [hk9' g2 (by have := blk_lt e2; simp; omega) (fun g3 h3 h4 => by cases h3; exact hdis k j _ q g (by omega) HROW.out hq rfl (by rw [e1, h4]))]
                      exact (Below.heap_alloc _ _ _ (blk_lt e2)).trans e2
                  · rw [hk9' gl (by have := blk_lt HI2.out.2.1; simp; omega) (fun g3 h3 h4 => by cases h3; omega)]
                    exact (Below.heap_alloc _ _ _ (blk_lt HI2.out.2.1)).trans HI2.out.2.1
                  · rw [hk9' gw (by have := blk_lt HI2.out.2.2.1; simp; omega) (fun g3 h3 h4 => by cases h3; omega)]
                    exact (Below.heap_alloc _ _ _ (blk_lt HI2.out.2.2.1)).trans HI2.out.2.2.1
                clear hb9 hk9 hk9' HBB HOK HA hsz2
                go_wp2_with fail
                go_loopw [8] (fun i w' => ∃ m : Nat, k + 1 ≤ m ∧ m ≤ L.length ∧ i = .int .i64 m ∧ Hid (OInv w base gl gw curw L (k + 1) w')) (fun i _ => L.length - (intOf i).toNat)
                case atStart => exact ⟨k + 1, Nat.le_refl _, by omega, by go_num, HN⟩
                case round =>
                  obtain ⟨m, hm0, hm1, rfl, HQ⟩ := hrel
                  clear HN
                  by_cases hlt2 : m < L.length
                  · obtain ⟨⟨A2, c2, xs2⟩, hrow2⟩ : ∃ r, L[m]? = some r := ⟨_, List.getElem?_eq_getElem hlt2⟩
                    have hcell2 : wr.cell? ⟨gl, m, none⟩ = some (.slice A2 xs2.length c2) := by
                      rw [cell_of_row _ _ _ _ _ _ HQ.out.2.1]
                      simp [hrow2, rowV]
                    have hC2 := (HQ.out.1 m _ (by omega) hrow2).C (hlen _ (List.mem_of_getElem? hrow2))
                    have hcv2 : ∀ n, (convert 22 9 (.slice A2 xs2.length c2)).run Tryd.prog (wr.drewN n) = .ok (.string (strOfNums xs2)) (wr.drewN n) := fun n => Kd.C_string Tryd.underlying22 rfl Tryd.underlying9 (Kd.C_below hC2 (pw_below_drewN (Below.refl _ _) n))
                    have hwc : wr.cell? ⟨gw, m, none⟩ = some (.string (strOfNums xs2)) := by
                      rw [cell_of_row _ _ _ _ _ _ HQ.out.2.2.1]
                      exact HW.out m _ hrow2
                    clear hC2 hrow2
                    go_wp2_with fail
                    go_quiet (fail)
                    go_wp2_with fail
                    go_roundw
                    case rel => exact ⟨m + 1, by omega, by omega, by go_num, HQ.out.1, HQ.out.2.1, HQ.out.2.2.1, pw_below_drewN HQ.out.2.2.2 _⟩
                    case measure => simp [intOf]; omega
                  · obtain rfl : m = L.length := by omega
                    go_wp2_with fail
                    go_roundw
                    case rel => exact ⟨k + 1, by omega, by go_num, HQ⟩
                    case measure => simp [intOf]; omega
        · obtain rfl : k = L.length := by omega
          go_wp2_with fail
          go_ret
          exact ⟨rfl, HI.out.2.2.2⟩
end Go.Proofs.YtmmgdngnffoflaaDoor
