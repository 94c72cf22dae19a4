import Derived.Test.YtmmgdngnffoflaaDoorBlA
import Derived.Test.YtmmgdngnffoflaaDoorDeA
/-
  digest.digest: its contract.
-/
namespace Go.Proofs.YtmmgdngnffoflaaDoor
open Go.RowKit Go.Proofs.YtmmgdngnffoflaaDoorW.PrintWords

def st0 : St := (1732584193, 4023233417, 2562383102, 271733878, 3285377520)
def blk (p : List Int) (s : St) : St := blockF p (sta s) (stb s) (stc s) (std s) (ste s)
def foldB (l : List Int) (s : St) : St := if 64 ≤ l.length then foldB (l.drop 64) (blk (l.take 64) s) else s
termination_by l.length
decreasing_by simp; omega
def restB (l : List Int) : List Int := if 64 ≤ l.length then restB (l.drop 64) else l
termination_by l.length
decreasing_by simp; omega
theorem foldB_go (l : List Int) (s : St) (h : 64 ≤ l.length) : foldB l s = foldB (l.drop 64) (blk (l.take 64) s) := by rw [foldB, if_pos h]
theorem foldB_end (l : List Int) (s : St) (h : ¬ 64 ≤ l.length) : foldB l s = s := by rw [foldB, if_neg h]
theorem restB_go (l : List Int) (h : 64 ≤ l.length) : restB l = restB (l.drop 64) := by rw [restB, if_pos h]
theorem restB_end (l : List Int) (h : ¬ 64 ≤ l.length) : restB l = l := by rw [restB, if_neg h]
theorem five' {w : World} {g : Nat} {a0 a1 a2 a3 a4 : Value} (v0 v1 v2 v3 v4 : Value) (h : w.heap[g]? = some (.cells #[a0, a1, a2, a3, a4] 127 (0, 0))) :
    (((((w.setCell ⟨g, 0, none⟩ v0).setCell ⟨g, 1, none⟩ v1).setCell ⟨g, 2, none⟩ v2).setCell ⟨g, 3, none⟩ v3).setCell ⟨g, 4, none⟩ v4).heap[g]? = some (.cells #[v0, v1, v2, v3, v4] 127 (0, 0)) := by
  have h1 := heap_setCell_same w g 0 _ 127 v0 h
  have h2 := heap_setCell_same _ g 1 _ 127 v1 h1
  have h3 := heap_setCell_same _ g 2 _ 127 v2 h2
  have h4 := heap_setCell_same _ g 3 _ 127 v3 h3
  exact heap_setCell_same _ g 4 _ 127 v4 h4

/-- What the two variables of digest hold: the result's twenty bytes, still 0; the five numbers. -/
def DInv (w : World) (g3 : Nat) (wr : World) (s : St) : Prop :=
  w.heap.size + 1 ≤ g3 ∧ wr.heap[w.heap.size]? = some (.cells (List.replicate 20 (Value.int .u8 0)).toArray 86 (0, 0)) ∧ wr.heap[g3]? = some (.cells (stV s) 127 (0, 0)) ∧ Below w.heap.size w wr
theorem undrew {wr w3 : World} (hb : Below wr.drew.heap.size wr.drew w3) : Below wr.heap.size wr w3 := ⟨hb.os, hb.tape, hb.output, hb.size, hb.block⟩
theorem DInv.step {w wr w3 : World} {g3 : Nat} {s : St} (h : DInv w g3 wr s) (hb : Below wr.heap.size wr w3) (s' : St) :
    DInv w g3 (((((w3.setCell ⟨g3, 0, none⟩ (.int .u32 (sta s'))).setCell ⟨g3, 1, none⟩ (.int .u32 (stb s'))).setCell ⟨g3, 2, none⟩ (.int .u32 (stc s'))).setCell ⟨g3, 3, none⟩ (.int .u32 (std s'))).setCell ⟨g3, 4, none⟩ (.int .u32 (ste s'))) s' := by
  obtain ⟨hlo, hz, ht, hbel⟩ := h
  have ht3 : w3.heap[g3]? = some (.cells (stV s) 127 (0, 0)) := (hb.block _ (blk_lt ht)).trans ht
  have hb3 : Below w.heap.size w w3 := below_then hbel hbel.size hb
  refine ⟨hlo, ?_, five' _ _ _ _ _ ht3, ((((hb3.setCell (by simp; omega) _).setCell (by simp; omega) _).setCell (by simp; omega) _).setCell (by simp; omega) _).setCell (by simp; omega) _⟩
  rw [Below.heap_setCell _ _ _ _ (by simp; omega), Below.heap_setCell _ _ _ _ (by simp; omega), Below.heap_setCell _ _ _ _ (by simp; omega), Below.heap_setCell _ _ _ _ (by simp; omega), Below.heap_setCell _ _ _ _ (by simp; omega)]
  exact (hb.block _ (blk_lt hz)).trans hz
theorem DInv.grown {w W w1 : World} {g3 : Nat} {s : St} {B : Nat} {v : Value} {n : Nat} {xs : List Value} (h : DInv w g3 W s) (ho : W.ownsRow B 5 1 v n xs) (hg : W.grownBy w1 v.ownBlock) (hb : Below w.heap.size w w1) : DInv w g3 w1 s := by
  obtain ⟨hlo, hz, ht, _⟩ := h
  exact ⟨hlo, blk_grown hz hg (own_ne ho hz (by decide)), blk_grown ht hg (own_ne ho ht (by decide)), hb⟩
theorem slice_len {w : World} {B : Nat} {e : TypeId} {A : Option Addr} {n m c : Nat} {xs : List Value} (h : w.ownsRow B e 1 (.slice A n c) m xs) : n = m := by
  rcases h.2 with ⟨hv, h0⟩ | ⟨g, cap, cur, hv, _⟩
  · injection hv with _ hn _; omega
  · injection hv
def be8 (U : Int) : List Int := [U / 72057594037927936 % 256, U / 281474976710656 % 256, U / 1099511627776 % 256, U / 4294967296 % 256, U / 16777216 % 256, U / 65536 % 256, U / 256 % 256, U % 256]
def Sh (j : Nat) (S : Int) : Prop := j = 0 ∧ S = 56 ∨ j = 1 ∧ S = 48 ∨ j = 2 ∧ S = 40 ∨ j = 3 ∧ S = 32 ∨ j = 4 ∧ S = 24 ∨ j = 5 ∧ S = 16 ∨ j = 6 ∧ S = 8 ∨ j = 7 ∧ S = 0 ∨ j = 8 ∧ S = -8
theorem mid1 {j : Nat} {S : Int} (h : j = 1) (h' : S = 48) : Sh j S := by unfold Sh; omega
theorem mid2 {j : Nat} {S : Int} (h : j = 2) (h' : S = 40) : Sh j S := by unfold Sh; omega
theorem mid3 {j : Nat} {S : Int} (h : j = 3) (h' : S = 32) : Sh j S := by unfold Sh; omega
theorem mid4 {j : Nat} {S : Int} (h : j = 4) (h' : S = 24) : Sh j S := by unfold Sh; omega
theorem mid5 {j : Nat} {S : Int} (h : j = 5) (h' : S = 16) : Sh j S := by unfold Sh; omega
theorem mid6 {j : Nat} {S : Int} (h : j = 6) (h' : S = 8) : Sh j S := by unfold Sh; omega
theorem mid7 {j : Nat} {S : Int} (h : j = 7) (h' : S = 0) : Sh j S := by unfold Sh; omega
theorem mid8 {j : Nat} {S : Int} (h : j = 8) (h' : S = -8) : Sh j S := by unfold Sh; omega
theorem own_nums {w : World} {B : Nat} {e : TypeId} {v : Value} {n : Nat} {xs ys : List Int} (h : xs = ys) (ho : w.ownsRow B e 1 v n (nums .u8 xs)) : w.ownsRow B e 1 v n (nums .u8 ys) := h ▸ ho
theorem own_cells {w : World} {B : Nat} {e : TypeId} {v : Value} {n : Nat} {xs ys : List Value} (h : xs = ys) (ho : w.ownsRow B e 1 v n xs) : w.ownsRow B e 1 v n ys := h ▸ ho
theorem bytes_app {l r : List Int} (h : Bytes l) (k : Bytes r) : Bytes (l ++ r) := fun y hy => (List.mem_append.1 hy).elim (h y) (k y)
theorem keep5 {w4 wr w3 : World} {g3 : Nat} {v0 v1 v2 v3 v4 : Value} (h : KeepBut w4 wr g3 none) (hb : Below wr.heap.size wr w3) :
    KeepBut w4 (((((w3.setCell ⟨g3, 0, none⟩ v0).setCell ⟨g3, 1, none⟩ v1).setCell ⟨g3, 2, none⟩ v2).setCell ⟨g3, 3, none⟩ v3).setCell ⟨g3, 4, none⟩ v4) g3 none :=
  ((((((h.trans (KeepBut.of_below hb g3 none) (.inl rfl)).set_ 0 v0).set_ 1 v1).set_ 2 v2).set_ 3 v3).set_ 4 v4)
/-- The twenty bytes of five numbers. -/
def outL (s : St) : List Int := [sta s / 16777216 % 256, sta s / 65536 % 256, sta s / 256 % 256, sta s % 256, stb s / 16777216 % 256, stb s / 65536 % 256, stb s / 256 % 256, stb s % 256, stc s / 16777216 % 256, stc s / 65536 % 256, stc s / 256 % 256, stc s % 256,
  std s / 16777216 % 256, std s / 65536 % 256, std s / 256 % 256, std s % 256, ste s / 16777216 % 256, ste s / 65536 % 256, ste s / 256 % 256, ste s % 256]
def ocells (s : St) (k : Nat) : List Value := nums .u8 ((outL s).take k) ++ List.replicate (20 - k) (.int .u8 0)
theorem outL_length (s : St) : (outL s).length = 20 := rfl
theorem ocells_zero (s : St) {k : Nat} (hk : k < 20) : (ocells s k)[k]? = some (.int .u8 0) := by
  unfold ocells
  have h : (nums .u8 ((outL s).take k)).length = k := by rw [nums_length, List.length_take, outL_length]; omega
  rw [List.getElem?_append_right (by omega), h, Nat.sub_self, show 20 - k = (20 - (k + 1)) + 1 by omega, List.replicate_succ]
  rfl
theorem ocells_set (s : St) {k : Nat} (hk : k < 20) {y : Int} (hy : (outL s).getD k 0 = y) : (ocells s k).set k (.int .u8 y) = ocells s (k + 1) := by
  unfold ocells
  have h : (nums .u8 ((outL s).take k)).length = k := by rw [nums_length, List.length_take, outL_length]; omega
  rw [List.set_append_right _ _ (by omega), h, Nat.sub_self, show 20 - k = (20 - (k + 1)) + 1 by omega, List.replicate_succ, List.set_cons_zero]
  rw [List.take_succ_eq_append_getElem (by rw [outL_length]; exact hk), nums_append, List.append_assoc]
  have : (outL s)[k]'(by rw [outL_length]; exact hk) = y := by
    rw [← hy, List.getD_eq_getElem?_getD, List.getElem?_eq_getElem (by rw [outL_length]; exact hk)]; rfl
  rw [this]; rfl
theorem ocell_zero {wr : World} {gO : Nat} {s : St} {k : Nat} (h : wr.heap[gO]? = some (.cells (ocells s k).toArray 86 (0, 0))) (hk : k < 20) : wr.cell? ⟨gO, k, none⟩ = some (.int .u8 0) := by
  rw [cell_of_row _ _ _ _ _ _ h, List.getElem?_toArray]; exact ocells_zero s hk
theorem ocell_set {wr : World} {gO : Nat} {s : St} {k : Nat} {y : Int} (h : wr.heap[gO]? = some (.cells (ocells s k).toArray 86 (0, 0))) (hk : k < 20) (hy : (outL s).getD k 0 = y) :
    (wr.setCell ⟨gO, k, none⟩ (.int .u8 y)).heap[gO]? = some (.cells (ocells s (k + 1)).toArray 86 (0, 0)) := by
  rw [heap_setCell_same wr gO k _ 86 (.int .u8 y) h, ← ocells_set s hk hy]
  simp
theorem DInv.setO {w wr : World} {g3 gO : Nat} {s : St} (h : Hid (DInv w g3 wr s)) (hgw : w.heap.size + 1 ≤ gO) (hg3 : g3 < gO) {k : Nat} (y : Value) : Hid (DInv w g3 (wr.setCell ⟨gO, k, none⟩ y) s) := by
  obtain ⟨a, b, c, d⟩ := h.out
  exact ⟨a, (Below.heap_setCell _ _ _ _ (by simp; omega)).trans b, (Below.heap_setCell _ _ _ _ (by simp; omega)).trans c, d.setCell (by simp; omega) _⟩
/-- How many zeros behind the 128. -/
def padZ (n : Nat) : Nat := (119 - n % 64) % 64
/-- The blocks behind the whole ones. -/
def tailL (l : List Int) : List Int := restB l ++ 128 :: List.replicate (padZ (restB l).length) 0 ++ be8 ((l.length : Int) * 8)
/-- The digest of bytes. -/
def digL (l : List Int) : List Int := outL (foldB (tailL l) (foldB l st0))
theorem take_C {w : World} {A : Option Addr} {n : Nat} {l : List Int} (h : Kd.C (Kd.int .u8) w A n l) (i : Nat) (hi : i ≤ n) : Kd.C (Kd.int .u8) w A i (l.take i) := by
  have h1 : ReadsInt w .u8 A n l := readsInt_of.2 (Kd.reads_of_C h)
  exact Kd.C_of_reads (readsInt_of.1 (h1.take_ i hi))
theorem C_at {w w1 : World} {A : Option Addr} {n : Nat} {l : List Int} (h : Kd.C (Kd.int .u8) w A n l) (hb : Below w.heap.size w w1) : Kd.C (Kd.int .u8) w1 A n l := Kd.C_below h hb

set_option maxHeartbeats 4000000 in
set_option maxRecDepth 100000 in
theorem digest_any (A : Option Addr) (c : Nat) (l : List Int) (w : World) (hr : Kd.C (Kd.int .u8) w A l.length l) (hcap : l.length ≤ c) (hl : l.length ≤ 1000000000) (hb : Bytes l) :
    Calls Tryd.prog 50 #[.slice A l.length c] w fun e w' => e = .returned (.agg (nums .u8 (digL l)).toArray) ∧ Below w.heap.size w w' := by
  have h63 : l.length ≤ 9223372036854775807 := by omega
  go_enter Tryd.func50, Tryd.ntmps50
  go_wp2_with fail
  refine (start_any _).mono ?_
  rintro e w1 ⟨rfl, hb1⟩
  have hsz : w.heap.size + 1 ≤ w1.heap.size := by have := hb1.size; simpa using this
  obtain ⟨z20, hz20⟩ : ∃ z : Array Value, w1.heap[w.heap.size]? = some (.cells z 86 (0, 0)) ∧ z = (List.replicate 20 (Value.int .u8 0)).toArray := ⟨_, (hb1.block _ (by simp)).trans (heap_alloc_new w _), by rfl⟩
  have hbel : Below w.heap.size w w1 := ((Below.refl w.heap.size w).alloc (Nat.le_refl _) _).trans (hb1.mono (by simp))
  have HZ := Lib.hid hz20
  have HR := Lib.hid hr
  have HB := Lib.hid hb
  clear hz20 hr hb hb1
  go_wp2_with fail
  obtain ⟨g3, hg3⟩ : ∃ g, g = w1.heap.size := ⟨_, rfl⟩
  have hI0 : DInv w g3 (w1.alloc (.cells #[.int .u32 1732584193, .int .u32 4023233417, .int .u32 2562383102, .int .u32 271733878, .int .u32 3285377520] 127)) st0 := by
    rw [hg3]
    refine ⟨by omega, ?_, heap_alloc_new w1 _, hbel.alloc (by omega) _⟩
    rw [Below.heap_alloc _ _ _ (by omega), HZ.out.1, HZ.out.2]
  rw [← hg3]
  clear HZ hsz hbel hg3
  go_loopw [4] (fun r wr => ∃ (rest : List Int) (A1 : Option Addr) (c1 : Nat) (s : St), r = .slice A1 rest.length c1 ∧ rest.length ≤ c1 ∧ Kd.C (Kd.int .u8) w A1 rest.length rest ∧ Hid (foldB l st0 = foldB rest s) ∧ Hid (restB l = restB rest) ∧
      Bytes rest ∧ rest.length ≤ l.length ∧ DInv w g3 wr s) (fun r _ => match r with | .slice _ n _ => n | _ => 0)
  case atStart => exact ⟨l, A, c, st0, rfl, hcap, HR.out, rfl, rfl, HB.out, Nat.le_refl _, hI0⟩
  case round =>
    obtain ⟨rest, A1, c1, s, rfl, hc1, hr1, HF, HS, hb1, hrl, hI⟩ := hrel
    clear hI0 HR HB hcap
    by_cases hlt : 64 ≤ rest.length
    · have h64 : (rest.take 64).length = 64 := by rw [List.length_take, Nat.min_eq_left hlt]
      have hC64 := take_C hr1 64 hlt
      have HT := Lib.hid hC64
      have HBy : Hid (Bytes (rest.take 64) ∧ Bytes (rest.drop 64)) := ⟨fun x hx => hb1 x (List.mem_of_mem_take hx), fun x hx => hb1 x (List.mem_of_mem_drop hx)⟩
      obtain ⟨n, hn⟩ : ∃ n, n = rest.length := ⟨_, rfl⟩
      have HI := Lib.hid hI
      obtain ⟨hlo, hz, ht, hbel⟩ := hI
      have c0 : wr.cell? ⟨g3, 0, none⟩ = some (.int .u32 (sta s)) := by rw [cell_of_row _ _ _ _ _ _ ht]; rfl
      have c1' : wr.cell? ⟨g3, 1, none⟩ = some (.int .u32 (stb s)) := by rw [cell_of_row _ _ _ _ _ _ ht]; rfl
      have c2 : wr.cell? ⟨g3, 2, none⟩ = some (.int .u32 (stc s)) := by rw [cell_of_row _ _ _ _ _ _ ht]; rfl
      have c3 : wr.cell? ⟨g3, 3, none⟩ = some (.int .u32 (std s)) := by rw [cell_of_row _ _ _ _ _ _ ht]; rfl
      have c4 : wr.cell? ⟨g3, 4, none⟩ = some (.int .u32 (ste s)) := by rw [cell_of_row _ _ _ _ _ _ ht]; rfl
      have f0 : ∀ j, wr.frozen? ⟨g3, j, none⟩ = false := blk_frozen ht
      obtain ⟨i0, hi, _, hz1, _⟩ := info_parts dinfo5
      obtain ⟨A2, hcut0, hA2⟩ := print_cut (P := Tryd.prog) 22 5 .i64 Tryd.underlying22 hi hz1 A1 rest.length c1 64 hlt
      have HC : Hid (Kd.C (Kd.int .u8) w A2 (rest.length - 64) (rest.drop 64)) := Kd.C_of_reads (readsInt_of.1 (hA2 w .u8 rest hc1 (readsInt_of.2 (Kd.reads_of_C hr1))))
      rw [← hn] at hlt hc1 hcut0 ⊢
      have hcut : ∀ W : World, (Instr.slice 22 (.slice A1 n c1) (some (.int .i64 64)) none none).run Tryd.prog W = .ok (.slice A2 (n - 64) (c1 - 64)) W := hcut0
      clear hi hz1 hA2 hcut0
      have HN := Lib.hid hn
      have HCW := Lib.hid (C_at HT.out (below_drew hbel))
      clear hr1 hC64 hb1 hn hz ht h64 hbel
      go_wp2_with fail
      have hlt3 : g3 < wr.heap.size := blk_lt HI.out.2.2.1
      have h64c : 64 ≤ c1 := by omega
      have h64i : (64 : Int) ≤ (c1 : Int) := by omega
      have h64n : (64 : Int) ≤ (n : Int) := by omega
      go_region_with (go_at_call 84; (with_reducible refine (block_any (sta s) (stb s) (stc s) (std s) (ste s) A1 c1 (rest.take 64) _ HCW.out (by omega) HBy.out.1).mono ?_); rintro e w3 ⟨rfl, hb3⟩; have k0 := (hb3.cell (p := ⟨g3, 0, none⟩) hlt3).trans c0; have k1 := (hb3.cell (p := ⟨g3, 1, none⟩) hlt3).trans c1'; have k2 := (hb3.cell (p := ⟨g3, 2, none⟩) hlt3).trans c2; have k3 := (hb3.cell (p := ⟨g3, 3, none⟩) hlt3).trans c3; have k4 := (hb3.cell (p := ⟨g3, 4, none⟩) hlt3).trans c4; have f3 : ∀ j, w3.frozen? ⟨g3, j, none⟩ = false := fun j => (hb3.frozen (p := ⟨g3, j, none⟩) hlt3).trans (f0 j); unfold stV)
      all_goals
        go_simp
        go_roundw
        case rel =>
          have hl64 : (rest.drop 64).length = n - 64 := by rw [List.length_drop, HN.out]
          refine ⟨_, _, _, _, _, _, _, _, _, _, ⟨rest.drop 64, A2, c1 - 64, blk (rest.take 64) s, by rw [hl64], by rw [hl64]; omega, by rw [hl64, HN.out]; exact HC.out, ?_, ?_, HBy.out.2, by rw [hl64]; have := HN.out; omega, ?_⟩, rfl⟩
          · have h := HF.out; rw [foldB_go rest s (by have := HN.out; omega)] at h; exact h
          · have h := HS.out; rw [restB_go rest (by have := HN.out; omega)] at h; exact h
          · exact DInv.step HI.out (undrew hb3) _
        case measure =>
          show n - 64 < n
          omega
    · have HFE : Hid (foldB l st0 = s) := HF.out.trans (foldB_end rest s hlt)
      have HSE : Hid (restB l = rest) := HS.out.trans (restB_end rest hlt)
      have hCr : Kd.C (Kd.int .u8) wr A1 rest.length rest := C_at hr1 hI.2.2.2
      have hRI : ReadsInt wr .u8 A1 rest.length rest := readsInt_of.2 (Kd.reads_of_C hCr)
      have HRI := Lib.hid hRI
      have HI := Lib.hid hI
      have HBr := Lib.hid hb1
      have HBW := Lib.hid hI.2.2.2
      clear hr1 hb1 hI hCr hRI
      go_wp2_with (at_builtin; refine print_append_row (w0 := w) w.heap.size rfl (.const (.slice none 0 0)) (.tmp 21) 22 5 .u8 1 rfl Tryd.underlying22 dinfo5 (by decide) _ [] rest A1 _ c1 rfl rfl (own_nil _ _ _ _) HRI.out HBW.out HBW.out.size (by simp; omega) ?_)
      intro v1 w2 hown1 hb2 hg2 _
      go_wp2_with (at_builtin; refine print_append_num (w0 := w) w.heap.size rfl (.tmp 22) (.tmp 23) 22 5 .u8 1 rfl Tryd.underlying22 dinfo5 (by decide) _ _ _ rfl rfl hown1 hb2 hb2.size (by simp; omega) ?_)
      intro v2 w3 hown2 hb3 hg3 _
      have HI3 : Hid (DInv w g3 w3 s) := (HI.out.grown (own_nil wr w.heap.size 5 1) hg2 hb2).grown hown1 hg3 hb3
      clear HI HRI HBW hown1 hb2 hg2 hg3 hb3
      have HO3 := Lib.hid hown2
      clear hown2
      go_wp2_with fail
      go_loopw [5] (fun v wr => ∃ (m : Nat) (xs : List Int), m ≤ rest.length + 1 + padZ rest.length ∧ Hid (xs = rest ++ 128 :: List.replicate (m - (rest.length + 1)) 0 ∧ rest.length + 1 ≤ m ∧ xs.length = m) ∧ wr.ownsRow w.heap.size 5 1 v m (nums .u8 xs) ∧ Hid (DInv w g3 wr s)) (fun v _ => match v with | .slice _ n _ => rest.length + 65 - n | _ => 0)
      case atStart => exact ⟨rest.length + 1, rest ++ [128], by omega, ⟨by simp, by omega, by simp⟩, HO3.out, HI3⟩
      case round =>
        obtain ⟨m, xs, hm, HX, hown, hI⟩ := hrel
        clear HO3 HI3
        have hp64 : padZ rest.length < 64 := Nat.mod_lt _ (by omega)
        have hbelr := hI.out.2.2.2
        obtain ⟨A5, c5, rfl⟩ := own_slice hown
        have hxl : xs.length = m := HX.out.2.2
        by_cases hz : m < rest.length + 1 + padZ rest.length
        · have ht : ((m : Int) % 64 != 56) = true := by
            have h1 := HX.out.2.1
            simp only [bne_iff_ne, ne_eq]
            unfold padZ at hz
            omega
          have hlm : rest.length + 1 ≤ m := HX.out.2.1
          go_wp2_with (at_builtin; refine print_append_num (w0 := w) w.heap.size rfl (.tmp 29) (.tmp 30) 22 5 .u8 1 rfl Tryd.underlying22 dinfo5 (by decide) _ xs _ (by rfl) rfl (own_len hxl.symm hown) hbelr hbelr.size (by omega) ?_)
          intro v1 w2 hown1 hb2 hg2 _
          have hI2 : Hid (DInv w g3 w2 s) := hI.out.grown hown hg2 hb2
          have hvs := own_slice hown1
          obtain ⟨A6, c6, rfl⟩ := hvs
          go_wp2_with fail
          go_roundw
          case rel =>
            refine ⟨m + 1, xs ++ [0], by omega, ⟨?_, by omega, by simp [hxl]⟩, own_len (by simp) hown1, hI2⟩
            rw [HX.out.1, List.append_assoc, List.cons_append, ← List.replicate_succ', show m + 1 - (rest.length + 1) = m - (rest.length + 1) + 1 by omega]
          case measure =>
            have h6 := slice_len hown1
            show rest.length + 65 - _ < rest.length + 65 - m
            simp at h6
            omega
        · have hme : m = rest.length + 1 + padZ rest.length := by omega
          have ht : ((m : Int) % 64 != 56) = false := by
            have h1 := HX.out.2.1
            simp only [bne_eq_false_iff_eq]
            rw [hme]
            unfold padZ
            omega
          have HME := Lib.hid hme
          have HXL := Lib.hid hxl
          have HO := Lib.hid hown
          have hm9 : m ≤ 1000000100 := by omega
          clear hme hz hxl hown hp64
          go_wp2_with fail
          obtain ⟨wo, hwo⟩ : ∃ wo : World, wo = wr := ⟨_, rfl⟩
          rw [← hwo] at HO hI hbelr ⊢
          clear hwo
          obtain ⟨U, hU⟩ : ∃ U : Int, U = (l.length : Int) * 8 := ⟨_, rfl⟩
          rw [← hU]
          have HU := Lib.hid hU
          have hU0 : 0 ≤ U := by omega
          have hU1 : U < 1099511627776 := by omega
          clear hU
          go_loopw [5, 7] (fun v t wr => ∃ (j : Nat) (S : Int), Sh j S ∧ t = .int .i64 S ∧ wr.ownsRow w.heap.size 5 1 v (m + j) (nums .u8 (xs ++ (be8 U).take j)) ∧ Hid (DInv w g3 wr s)) (fun _ t _ => (64 + intOf t).toNat)
          case atStart => exact ⟨0, 56, .inl ⟨rfl, rfl⟩, rfl, by simpa using HO.out, hI⟩
          case round =>
            obtain ⟨j, S, hS, rfl, hown, hI⟩ := hrel
            clear HO
            have hbel3 := hI.out.2.2.2
            unfold Sh at hS
            rcases hS with ⟨rfl, rfl⟩ | ⟨rfl, rfl⟩ | ⟨rfl, rfl⟩ | ⟨rfl, rfl⟩ | ⟨rfl, rfl⟩ | ⟨rfl, rfl⟩ | ⟨rfl, rfl⟩ | ⟨rfl, rfl⟩ | ⟨rfl, rfl⟩
            · go_wp2_with (at_builtin; refine print_append_num (w0 := w) w.heap.size rfl (.tmp 40) (.tmp 45) 22 5 .u8 1 rfl Tryd.underlying22 dinfo5 (by decide) _ _ _ (by rfl) rfl (own_len (by simp [be8, HXL.out]) hown) hbel3 hbel3.size (by simp [be8, HXL.out]; omega) ?_)
              intro v1 w2 hown1 hb2 hg2 _
              have hI2 : Hid (DInv w g3 w2 s) := hI.out.grown hown hg2 hb2
              go_wp2_with fail
              go_roundw
              case rel => exact ⟨1, 48, mid1 rfl rfl, rfl, own_len (by simp [HXL.out]) (own_nums (by simp [be8] <;> omega) hown1), hI2⟩
              case measure => simp [intOf]
            · go_wp2_with (at_builtin; refine print_append_num (w0 := w) w.heap.size rfl (.tmp 40) (.tmp 45) 22 5 .u8 1 rfl Tryd.underlying22 dinfo5 (by decide) _ _ _ (by rfl) rfl (own_len (by simp [be8, HXL.out]) hown) hbel3 hbel3.size (by simp [be8, HXL.out]; omega) ?_)
              intro v1 w2 hown1 hb2 hg2 _
              have hI2 : Hid (DInv w g3 w2 s) := hI.out.grown hown hg2 hb2
              go_wp2_with fail
              go_roundw
              case rel => exact ⟨2, 40, mid2 rfl rfl, rfl, own_len (by simp [be8, HXL.out]) (own_nums (by simp [be8] <;> omega) hown1), hI2⟩
              case measure => simp [intOf]
            · go_wp2_with (at_builtin; refine print_append_num (w0 := w) w.heap.size rfl (.tmp 40) (.tmp 45) 22 5 .u8 1 rfl Tryd.underlying22 dinfo5 (by decide) _ _ _ (by rfl) rfl (own_len (by simp [be8, HXL.out]) hown) hbel3 hbel3.size (by simp [be8, HXL.out]; omega) ?_)
              intro v1 w2 hown1 hb2 hg2 _
              have hI2 : Hid (DInv w g3 w2 s) := hI.out.grown hown hg2 hb2
              go_wp2_with fail
              go_roundw
              case rel => exact ⟨3, 32, mid3 rfl rfl, rfl, own_len (by simp [be8, HXL.out]) (own_nums (by simp [be8] <;> omega) hown1), hI2⟩
              case measure => simp [intOf]
            · go_wp2_with (at_builtin; refine print_append_num (w0 := w) w.heap.size rfl (.tmp 40) (.tmp 45) 22 5 .u8 1 rfl Tryd.underlying22 dinfo5 (by decide) _ _ _ (by rfl) rfl (own_len (by simp [be8, HXL.out]) hown) hbel3 hbel3.size (by simp [be8, HXL.out]; omega) ?_)
              intro v1 w2 hown1 hb2 hg2 _
              have hI2 : Hid (DInv w g3 w2 s) := hI.out.grown hown hg2 hb2
              go_wp2_with fail
              go_roundw
              case rel => exact ⟨4, 24, mid4 rfl rfl, rfl, own_len (by simp [be8, HXL.out]) (own_nums (by simp [be8] <;> omega) hown1), hI2⟩
              case measure => simp [intOf]
            · go_wp2_with (at_builtin; refine print_append_num (w0 := w) w.heap.size rfl (.tmp 40) (.tmp 45) 22 5 .u8 1 rfl Tryd.underlying22 dinfo5 (by decide) _ _ _ (by rfl) rfl (own_len (by simp [be8, HXL.out]) hown) hbel3 hbel3.size (by simp [be8, HXL.out]; omega) ?_)
              intro v1 w2 hown1 hb2 hg2 _
              have hI2 : Hid (DInv w g3 w2 s) := hI.out.grown hown hg2 hb2
              go_wp2_with fail
              go_roundw
              case rel => exact ⟨5, 16, mid5 rfl rfl, rfl, own_len (by simp [be8, HXL.out]) (own_nums (by simp [be8] <;> omega) hown1), hI2⟩
              case measure => simp [intOf]
            · go_wp2_with (at_builtin; refine print_append_num (w0 := w) w.heap.size rfl (.tmp 40) (.tmp 45) 22 5 .u8 1 rfl Tryd.underlying22 dinfo5 (by decide) _ _ _ (by rfl) rfl (own_len (by simp [be8, HXL.out]) hown) hbel3 hbel3.size (by simp [be8, HXL.out]; omega) ?_)
              intro v1 w2 hown1 hb2 hg2 _
              have hI2 : Hid (DInv w g3 w2 s) := hI.out.grown hown hg2 hb2
              go_wp2_with fail
              go_roundw
              case rel => exact ⟨6, 8, mid6 rfl rfl, rfl, own_len (by simp [be8, HXL.out]) (own_nums (by simp [be8] <;> omega) hown1), hI2⟩
              case measure => simp [intOf]
            · go_wp2_with (at_builtin; refine print_append_num (w0 := w) w.heap.size rfl (.tmp 40) (.tmp 45) 22 5 .u8 1 rfl Tryd.underlying22 dinfo5 (by decide) _ _ _ (by rfl) rfl (own_len (by simp [be8, HXL.out]) hown) hbel3 hbel3.size (by simp [be8, HXL.out]; omega) ?_)
              intro v1 w2 hown1 hb2 hg2 _
              have hI2 : Hid (DInv w g3 w2 s) := hI.out.grown hown hg2 hb2
              go_wp2_with fail
              go_roundw
              case rel => exact ⟨7, 0, mid7 rfl rfl, rfl, own_len (by simp [be8, HXL.out]) (own_nums (by simp [be8] <;> omega) hown1), hI2⟩
              case measure => simp [intOf]
            · go_wp2_with (at_builtin; refine print_append_num (w0 := w) w.heap.size rfl (.tmp 40) (.tmp 45) 22 5 .u8 1 rfl Tryd.underlying22 dinfo5 (by decide) _ _ _ (by rfl) rfl (own_len (by simp [be8, HXL.out]) hown) hbel3 hbel3.size (by simp [be8, HXL.out]; omega) ?_)
              intro v1 w2 hown1 hb2 hg2 _
              have hI2 : Hid (DInv w g3 w2 s) := hI.out.grown hown hg2 hb2
              go_wp2_with fail
              go_roundw
              case rel => exact ⟨8, -8, mid8 rfl rfl, rfl, own_len (by simp [be8, HXL.out]) (own_nums (by simp [be8] <;> omega) hown1), hI2⟩
              case measure => simp [intOf]
            · obtain ⟨w4, hw4⟩ : ∃ w4 : World, w4 = wr := ⟨_, rfl⟩
              rw [← hw4] at hown hI hbel3 ⊢
              clear hw4
              obtain ⟨L, hL⟩ : ∃ L : List Int, L = xs ++ (be8 U).take 8 := ⟨_, rfl⟩
              rw [← hL] at hown
              have hLl : L.length = m + 8 := by rw [hL]; simp [be8, HXL.out]
              have hm64 : (m + 8) % 64 = 0 := by rw [HME.out]; unfold padZ; omega
              have hLb : Bytes L := by
                rw [hL, HX.out.1]
                refine bytes_app (bytes_app HBr.out ?_) ?_
                · intro y hy
                  rcases List.mem_cons.1 hy with rfl | hy
                  · exact ⟨by omega, by omega⟩
                  · rw [List.eq_of_mem_replicate hy]; exact ⟨by omega, by omega⟩
                · intro y hy
                  simp only [be8, List.take_succ_cons, List.take_zero, List.mem_cons, List.not_mem_nil, or_false] at hy
                  rcases hy with rfl | rfl | rfl | rfl | rfl | rfl | rfl | rfl <;> exact ⟨by omega, by omega⟩
              have hRall : ∀ W, KeepBut w4 W g3 none → ∃ A c, u5 = .slice A (m + 8) c ∧ m + 8 ≤ c ∧ Kd.C (Kd.int .u8) W A (m + 8) L := by
                intro W hk
                have ho := hk.own hown (Ne.symm (own_ne hown hI.out.2.2.1 (by decide))) (by cases u5.ownBlock <;> simp)
                have hR := Kd.R_of_own (enc := Value.int .u8) (h1 := fun _ => rfl) (ok := fun _ => True) (own_len hLl.symm ho) (fun _ _ => trivial)
                obtain ⟨A, cc, h1, h2, h3⟩ := Kd.R_reads hR
                rw [hLl] at h1 h2 h3
                exact ⟨A, cc, h1, h2, h3⟩
              obtain ⟨A8, c8, hu5, hc8, _⟩ := hRall w4 (KeepBut.refl _ _ _)
              have HRA : Hid (∀ W, KeepBut w4 W g3 none → Kd.C (Kd.int .u8) W A8 (m + 8) L) := by
                intro W hk
                obtain ⟨A, cc, h1, _, h3⟩ := hRall W hk
                rw [hu5] at h1
                injection h1 with h1 _ _
                rw [h1]; exact h3
              rw [hu5]
              have HLL := Lib.hid hLl
              have HL := Lib.hid hL
              have HI4 := hI
              clear hown hL hLl hRall hu5 hI hbelr hbel3
              go_wp2_with fail
              go_loopw [5] (fun v wr => ∃ (r5 : List Int) (n5 : Nat) (A5 : Option Addr) (c5 : Nat) (s5 : St), v = .slice A5 n5 c5 ∧ n5 ≤ c5 ∧ Hid (r5.length = n5) ∧ Hid (n5 % 64 = 0) ∧ n5 ≤ 2000000000 ∧ Hid (∀ W, KeepBut w4 W g3 none → Kd.C (Kd.int .u8) W A5 n5 r5) ∧ Hid (foldB L s = foldB r5 s5) ∧ Hid (Bytes r5) ∧ Hid (DInv w g3 wr s5) ∧ Hid (KeepBut w4 wr g3 none)) (fun v _ => match v with | .slice _ n _ => n | _ => 0)
              case atStart => exact ⟨L, m + 8, A8, c8, s, rfl, hc8, HLL.out, hm64, by omega, HRA, rfl, hLb, HI4, KeepBut.refl _ _ _⟩
              case round =>
                obtain ⟨r5, n5, A5, c5, s5, rfl, hc5, HRL, HM, hn9, HRW, HF5, HB5, HI5, HK5⟩ := hrel
                clear HI4 HRA
                by_cases hpos : 0 < n5
                · have hlt : 64 ≤ n5 := by have := HM.out; omega
                  have h64 : (r5.take 64).length = 64 := by rw [List.length_take, HRL.out, Nat.min_eq_left hlt]
                  obtain ⟨i0, hi, _, hz1, _⟩ := info_parts dinfo5
                  obtain ⟨A2, hcut0, hA2⟩ := print_cut (P := Tryd.prog) 22 5 .i64 Tryd.underlying22 hi hz1 A5 n5 c5 64 hlt
                  have HC : Hid (∀ W, KeepBut w4 W g3 none → Kd.C (Kd.int .u8) W A2 (n5 - 64) (r5.drop 64)) := fun W hk => Kd.C_of_reads (readsInt_of.1 (hA2 W .u8 r5 hc5 (readsInt_of.2 (Kd.reads_of_C (HRW.out W hk)))))
                  have hcut : ∀ W : World, (Instr.slice 22 (.slice A5 n5 c5) (some (.int .i64 64)) none none).run Tryd.prog W = .ok (.slice A2 (n5 - 64) (c5 - 64)) W := hcut0
                  have HBy : Hid (Bytes (r5.take 64) ∧ Bytes (r5.drop 64)) := ⟨fun x hx => HB5.out x (List.mem_of_mem_take hx), fun x hx => HB5.out x (List.mem_of_mem_drop hx)⟩
                  have c0 : wr.cell? ⟨g3, 0, none⟩ = some (.int .u32 (sta s5)) := by rw [cell_of_row _ _ _ _ _ _ HI5.out.2.2.1]; rfl
                  have c1' : wr.cell? ⟨g3, 1, none⟩ = some (.int .u32 (stb s5)) := by rw [cell_of_row _ _ _ _ _ _ HI5.out.2.2.1]; rfl
                  have c2 : wr.cell? ⟨g3, 2, none⟩ = some (.int .u32 (stc s5)) := by rw [cell_of_row _ _ _ _ _ _ HI5.out.2.2.1]; rfl
                  have c3 : wr.cell? ⟨g3, 3, none⟩ = some (.int .u32 (std s5)) := by rw [cell_of_row _ _ _ _ _ _ HI5.out.2.2.1]; rfl
                  have c4 : wr.cell? ⟨g3, 4, none⟩ = some (.int .u32 (ste s5)) := by rw [cell_of_row _ _ _ _ _ _ HI5.out.2.2.1]; rfl
                  have f0 : ∀ j, wr.frozen? ⟨g3, j, none⟩ = false := blk_frozen HI5.out.2.2.1
                  have HCW := Lib.hid (take_C (HRW.out wr.drew HK5.out) 64 hlt)
                  have hlt3 : g3 < wr.heap.size := blk_lt HI5.out.2.2.1
                  have h64c : 64 ≤ c5 := by omega
                  have h64i : (64 : Int) ≤ (c5 : Int) := by omega
                  have h64n : (64 : Int) ≤ (n5 : Int) := by omega
                  clear hi hz1 hA2 hcut0 h64
                  go_wp2_with fail
                  go_region_with (go_at_call 84; (with_reducible refine (block_any (sta s5) (stb s5) (stc s5) (std s5) (ste s5) A5 c5 (r5.take 64) _ HCW.out (by omega) HBy.out.1).mono ?_); rintro e w3 ⟨rfl, hb3⟩; have k0 := (hb3.cell (p := ⟨g3, 0, none⟩) hlt3).trans c0; have k1 := (hb3.cell (p := ⟨g3, 1, none⟩) hlt3).trans c1'; have k2 := (hb3.cell (p := ⟨g3, 2, none⟩) hlt3).trans c2; have k3 := (hb3.cell (p := ⟨g3, 3, none⟩) hlt3).trans c3; have k4 := (hb3.cell (p := ⟨g3, 4, none⟩) hlt3).trans c4; have f3 : ∀ j, w3.frozen? ⟨g3, j, none⟩ = false := fun j => (hb3.frozen (p := ⟨g3, j, none⟩) hlt3).trans (f0 j); unfold stV)
                  all_goals
                    go_simp
                    go_roundw
                    case rel =>
                      have hl64 : (r5.drop 64).length = n5 - 64 := by rw [List.length_drop, HRL.out]
                      refine ⟨_, _, _, _, _, _, _, _, _, _, ⟨r5.drop 64, n5 - 64, A2, c5 - 64, blk (r5.take 64) s5, rfl, by omega, hl64, ?_, by omega, HC, ?_, HBy.out.2, ?_, ?_⟩, rfl⟩
                      · have := HM.out; show (n5 - 64) % 64 = 0; omega
                      · have h := HF5.out; rw [foldB_go r5 s5 (by have := HRL.out; omega)] at h; exact h
                      · exact DInv.step HI5.out (undrew hb3) _
                      · exact keep5 HK5.out (undrew hb3)
                    case measure =>
                      show n5 - 64 < n5
                      omega
                · have hn0 : n5 = 0 := by omega
                  subst hn0
                  go_wp2_with fail
                  obtain ⟨gO, hgO⟩ : ∃ g, g = wr.heap.size := ⟨_, rfl⟩
                  have hb5 := HI5.out.2.2.2
                  have hgw : w.heap.size + 1 ≤ gO := by
                    have h1 := blk_lt HI5.out.2.1
                    omega
                  have hg3O : g3 < gO := by rw [hgO]; exact blk_lt HI5.out.2.2.1
                  have HI6 : Hid (DInv w g3 (wr.alloc (.cells (ocells s5 0).toArray 86)) s5) := by
                    refine ⟨HI5.out.1, ?_, ?_, hb5.alloc hb5.size _⟩
                    · exact (Below.heap_alloc _ _ _ (blk_lt HI5.out.2.1)).trans HI5.out.2.1
                    · exact (Below.heap_alloc _ _ _ (blk_lt HI5.out.2.2.1)).trans HI5.out.2.2.1
                  have HO0 : Hid ((wr.alloc (.cells (ocells s5 0).toArray 86)).heap[gO]? = some (.cells (ocells s5 0).toArray 86 (0, 0))) := by rw [hgO]; exact heap_alloc_new wr _
                  have HF6 : Hid (foldB L s = s5) := HF5.out.trans (foldB_end r5 s5 (by have := HRL.out; omega))
                  rw [← hgO]
                  clear hgO hb5 HF5 HRW HB5 HI5 HK5 HRL HM
                  go_loopw [9, 56] (fun _ t wr => ∃ k : Int, 0 ≤ k ∧ k ≤ 20 ∧ t = .int .i64 k ∧ wr.heap[gO]? = some (.cells (ocells s5 k.toNat).toArray 86 (0, 0)) ∧ Hid (DInv w g3 wr s5)) (fun _ t _ => (20 - intOf t).toNat)
                  case atStart => exact ⟨0, by omega, by omega, rfl, HO0.out, HI6⟩
                  case round =>
                    obtain ⟨k, hk0, hk1, rfl, hO, HI6⟩ := hrel
                    clear HO0
                    have c0 : wr.cell? ⟨g3, 0, none⟩ = some (.int .u32 (sta s5)) := by rw [cell_of_row _ _ _ _ _ _ HI6.out.2.2.1]; rfl
                    have c1' : wr.cell? ⟨g3, 1, none⟩ = some (.int .u32 (stb s5)) := by rw [cell_of_row _ _ _ _ _ _ HI6.out.2.2.1]; rfl
                    have c2 : wr.cell? ⟨g3, 2, none⟩ = some (.int .u32 (stc s5)) := by rw [cell_of_row _ _ _ _ _ _ HI6.out.2.2.1]; rfl
                    have c3 : wr.cell? ⟨g3, 3, none⟩ = some (.int .u32 (std s5)) := by rw [cell_of_row _ _ _ _ _ _ HI6.out.2.2.1]; rfl
                    have c4 : wr.cell? ⟨g3, 4, none⟩ = some (.int .u32 (ste s5)) := by rw [cell_of_row _ _ _ _ _ _ HI6.out.2.2.1]; rfl
                    rcases (show k = 0 ∨ k = 1 ∨ k = 2 ∨ k = 3 ∨ k = 4 ∨ k = 5 ∨ k = 6 ∨ k = 7 ∨ k = 8 ∨ k = 9 ∨ k = 10 ∨ k = 11 ∨ k = 12 ∨ k = 13 ∨ k = 14 ∨ k = 15 ∨ k = 16 ∨ k = 17 ∨ k = 18 ∨ k = 19 ∨ k = 20 by omega) with rfl | rfl | rfl | rfl | rfl | rfl | rfl | rfl | rfl | rfl | rfl | rfl | rfl | rfl | rfl | rfl | rfl | rfl | rfl | rfl | rfl
                    · have hz : wr.cell? ⟨gO, 0, none⟩ = some (.int .u8 0) := ocell_zero (k := 0) hO (by decide : 0 < 20)
                      have hfz : wr.frozen? ⟨gO, 0, none⟩ = false := blk_frozen hO 0
                      have HO := Lib.hid hO
                      clear hO
                      go_wp2_with fail
                      go_roundw
                      case rel => exact ⟨1, by omega, by omega, rfl, ocell_set HO.out (by decide : 0 < 20) (by rfl), DInv.setO HI6 hgw hg3O _⟩
                      case measure => simp [intOf]
                    · have hz : wr.cell? ⟨gO, 1, none⟩ = some (.int .u8 0) := ocell_zero (k := 1) hO (by decide : 1 < 20)
                      have hfz : wr.frozen? ⟨gO, 1, none⟩ = false := blk_frozen hO 1
                      have HO := Lib.hid hO
                      clear hO
                      go_wp2_with fail
                      go_roundw
                      case rel => exact ⟨2, by omega, by omega, rfl, ocell_set HO.out (by decide : 1 < 20) (by rfl), DInv.setO HI6 hgw hg3O _⟩
                      case measure => simp [intOf]
                    · have hz : wr.cell? ⟨gO, 2, none⟩ = some (.int .u8 0) := ocell_zero (k := 2) hO (by decide : 2 < 20)
                      have hfz : wr.frozen? ⟨gO, 2, none⟩ = false := blk_frozen hO 2
                      have HO := Lib.hid hO
                      clear hO
                      go_wp2_with fail
                      go_roundw
                      case rel => exact ⟨3, by omega, by omega, rfl, ocell_set HO.out (by decide : 2 < 20) (by rfl), DInv.setO HI6 hgw hg3O _⟩
                      case measure => simp [intOf]
                    · have hz : wr.cell? ⟨gO, 3, none⟩ = some (.int .u8 0) := ocell_zero (k := 3) hO (by decide : 3 < 20)
                      have hfz : wr.frozen? ⟨gO, 3, none⟩ = false := blk_frozen hO 3
                      have HO := Lib.hid hO
                      clear hO
                      go_wp2_with fail
                      go_roundw
                      case rel => exact ⟨4, by omega, by omega, rfl, ocell_set HO.out (by decide : 3 < 20) (by rfl), DInv.setO HI6 hgw hg3O _⟩
                      case measure => simp [intOf]
                    · have hz : wr.cell? ⟨gO, 4, none⟩ = some (.int .u8 0) := ocell_zero (k := 4) hO (by decide : 4 < 20)
                      have hfz : wr.frozen? ⟨gO, 4, none⟩ = false := blk_frozen hO 4
                      have HO := Lib.hid hO
                      clear hO
                      go_wp2_with fail
                      go_roundw
                      case rel => exact ⟨5, by omega, by omega, rfl, ocell_set HO.out (by decide : 4 < 20) (by rfl), DInv.setO HI6 hgw hg3O _⟩
                      case measure => simp [intOf]
                    · have hz : wr.cell? ⟨gO, 5, none⟩ = some (.int .u8 0) := ocell_zero (k := 5) hO (by decide : 5 < 20)
                      have hfz : wr.frozen? ⟨gO, 5, none⟩ = false := blk_frozen hO 5
                      have HO := Lib.hid hO
                      clear hO
                      go_wp2_with fail
                      go_roundw
                      case rel => exact ⟨6, by omega, by omega, rfl, ocell_set HO.out (by decide : 5 < 20) (by rfl), DInv.setO HI6 hgw hg3O _⟩
                      case measure => simp [intOf]
                    · have hz : wr.cell? ⟨gO, 6, none⟩ = some (.int .u8 0) := ocell_zero (k := 6) hO (by decide : 6 < 20)
                      have hfz : wr.frozen? ⟨gO, 6, none⟩ = false := blk_frozen hO 6
                      have HO := Lib.hid hO
                      clear hO
                      go_wp2_with fail
                      go_roundw
                      case rel => exact ⟨7, by omega, by omega, rfl, ocell_set HO.out (by decide : 6 < 20) (by rfl), DInv.setO HI6 hgw hg3O _⟩
                      case measure => simp [intOf]
                    · have hz : wr.cell? ⟨gO, 7, none⟩ = some (.int .u8 0) := ocell_zero (k := 7) hO (by decide : 7 < 20)
                      have hfz : wr.frozen? ⟨gO, 7, none⟩ = false := blk_frozen hO 7
                      have HO := Lib.hid hO
                      clear hO
                      go_wp2_with fail
                      go_roundw
                      case rel => exact ⟨8, by omega, by omega, rfl, ocell_set HO.out (by decide : 7 < 20) (by rfl), DInv.setO HI6 hgw hg3O _⟩
                      case measure => simp [intOf]
                    · have hz : wr.cell? ⟨gO, 8, none⟩ = some (.int .u8 0) := ocell_zero (k := 8) hO (by decide : 8 < 20)
                      have hfz : wr.frozen? ⟨gO, 8, none⟩ = false := blk_frozen hO 8
                      have HO := Lib.hid hO
                      clear hO
                      go_wp2_with fail
                      go_roundw
                      case rel => exact ⟨9, by omega, by omega, rfl, ocell_set HO.out (by decide : 8 < 20) (by rfl), DInv.setO HI6 hgw hg3O _⟩
                      case measure => simp [intOf]
                    · have hz : wr.cell? ⟨gO, 9, none⟩ = some (.int .u8 0) := ocell_zero (k := 9) hO (by decide : 9 < 20)
                      have hfz : wr.frozen? ⟨gO, 9, none⟩ = false := blk_frozen hO 9
                      have HO := Lib.hid hO
                      clear hO
                      go_wp2_with fail
                      go_roundw
                      case rel => exact ⟨10, by omega, by omega, rfl, ocell_set HO.out (by decide : 9 < 20) (by rfl), DInv.setO HI6 hgw hg3O _⟩
                      case measure => simp [intOf]
                    · have hz : wr.cell? ⟨gO, 10, none⟩ = some (.int .u8 0) := ocell_zero (k := 10) hO (by decide : 10 < 20)
                      have hfz : wr.frozen? ⟨gO, 10, none⟩ = false := blk_frozen hO 10
                      have HO := Lib.hid hO
                      clear hO
                      go_wp2_with fail
                      go_roundw
                      case rel => exact ⟨11, by omega, by omega, rfl, ocell_set HO.out (by decide : 10 < 20) (by rfl), DInv.setO HI6 hgw hg3O _⟩
                      case measure => simp [intOf]
                    · have hz : wr.cell? ⟨gO, 11, none⟩ = some (.int .u8 0) := ocell_zero (k := 11) hO (by decide : 11 < 20)
                      have hfz : wr.frozen? ⟨gO, 11, none⟩ = false := blk_frozen hO 11
                      have HO := Lib.hid hO
                      clear hO
                      go_wp2_with fail
                      go_roundw
                      case rel => exact ⟨12, by omega, by omega, rfl, ocell_set HO.out (by decide : 11 < 20) (by rfl), DInv.setO HI6 hgw hg3O _⟩
                      case measure => simp [intOf]
                    · have hz : wr.cell? ⟨gO, 12, none⟩ = some (.int .u8 0) := ocell_zero (k := 12) hO (by decide : 12 < 20)
                      have hfz : wr.frozen? ⟨gO, 12, none⟩ = false := blk_frozen hO 12
                      have HO := Lib.hid hO
                      clear hO
                      go_wp2_with fail
                      go_roundw
                      case rel => exact ⟨13, by omega, by omega, rfl, ocell_set HO.out (by decide : 12 < 20) (by rfl), DInv.setO HI6 hgw hg3O _⟩
                      case measure => simp [intOf]
                    · have hz : wr.cell? ⟨gO, 13, none⟩ = some (.int .u8 0) := ocell_zero (k := 13) hO (by decide : 13 < 20)
                      have hfz : wr.frozen? ⟨gO, 13, none⟩ = false := blk_frozen hO 13
                      have HO := Lib.hid hO
                      clear hO
                      go_wp2_with fail
                      go_roundw
                      case rel => exact ⟨14, by omega, by omega, rfl, ocell_set HO.out (by decide : 13 < 20) (by rfl), DInv.setO HI6 hgw hg3O _⟩
                      case measure => simp [intOf]
                    · have hz : wr.cell? ⟨gO, 14, none⟩ = some (.int .u8 0) := ocell_zero (k := 14) hO (by decide : 14 < 20)
                      have hfz : wr.frozen? ⟨gO, 14, none⟩ = false := blk_frozen hO 14
                      have HO := Lib.hid hO
                      clear hO
                      go_wp2_with fail
                      go_roundw
                      case rel => exact ⟨15, by omega, by omega, rfl, ocell_set HO.out (by decide : 14 < 20) (by rfl), DInv.setO HI6 hgw hg3O _⟩
                      case measure => simp [intOf]
                    · have hz : wr.cell? ⟨gO, 15, none⟩ = some (.int .u8 0) := ocell_zero (k := 15) hO (by decide : 15 < 20)
                      have hfz : wr.frozen? ⟨gO, 15, none⟩ = false := blk_frozen hO 15
                      have HO := Lib.hid hO
                      clear hO
                      go_wp2_with fail
                      go_roundw
                      case rel => exact ⟨16, by omega, by omega, rfl, ocell_set HO.out (by decide : 15 < 20) (by rfl), DInv.setO HI6 hgw hg3O _⟩
                      case measure => simp [intOf]
                    · have hz : wr.cell? ⟨gO, 16, none⟩ = some (.int .u8 0) := ocell_zero (k := 16) hO (by decide : 16 < 20)
                      have hfz : wr.frozen? ⟨gO, 16, none⟩ = false := blk_frozen hO 16
                      have HO := Lib.hid hO
                      clear hO
                      go_wp2_with fail
                      go_roundw
                      case rel => exact ⟨17, by omega, by omega, rfl, ocell_set HO.out (by decide : 16 < 20) (by rfl), DInv.setO HI6 hgw hg3O _⟩
                      case measure => simp [intOf]
                    · have hz : wr.cell? ⟨gO, 17, none⟩ = some (.int .u8 0) := ocell_zero (k := 17) hO (by decide : 17 < 20)
                      have hfz : wr.frozen? ⟨gO, 17, none⟩ = false := blk_frozen hO 17
                      have HO := Lib.hid hO
                      clear hO
                      go_wp2_with fail
                      go_roundw
                      case rel => exact ⟨18, by omega, by omega, rfl, ocell_set HO.out (by decide : 17 < 20) (by rfl), DInv.setO HI6 hgw hg3O _⟩
                      case measure => simp [intOf]
                    · have hz : wr.cell? ⟨gO, 18, none⟩ = some (.int .u8 0) := ocell_zero (k := 18) hO (by decide : 18 < 20)
                      have hfz : wr.frozen? ⟨gO, 18, none⟩ = false := blk_frozen hO 18
                      have HO := Lib.hid hO
                      clear hO
                      go_wp2_with fail
                      go_roundw
                      case rel => exact ⟨19, by omega, by omega, rfl, ocell_set HO.out (by decide : 18 < 20) (by rfl), DInv.setO HI6 hgw hg3O _⟩
                      case measure => simp [intOf]
                    · have hz : wr.cell? ⟨gO, 19, none⟩ = some (.int .u8 0) := ocell_zero (k := 19) hO (by decide : 19 < 20)
                      have hfz : wr.frozen? ⟨gO, 19, none⟩ = false := blk_frozen hO 19
                      have HO := Lib.hid hO
                      clear hO
                      go_wp2_with fail
                      go_roundw
                      case rel => exact ⟨20, by omega, by omega, rfl, ocell_set HO.out (by decide : 19 < 20) (by rfl), DInv.setO HI6 hgw hg3O _⟩
                      case measure => simp [intOf]
                    · have hO20 : wr.heap[gO]? = some (.cells (nums .u8 (outL s5)).toArray 86 (0, 0)) := by rw [hO]; unfold ocells; simp only [show ((20 : Int).toNat) = 20 by rfl, Nat.sub_self, List.replicate_zero, List.append_nil, show (outL s5).take 20 = outL s5 by rfl]
                      have HO := Lib.hid hO20
                      clear hO hO20
                      have hzero : wr.heap[w.heap.size]? = some (.cells (List.replicate 20 (Value.int .u8 0)).toArray 86 (0, 0)) := HI6.out.2.1
                      have HZ := Lib.hid hzero
                      clear hzero
                      have hs20 : (Tryd.prog.info? 86).map (·.size) = some ((nums .u8 (outL s5)).toArray).size := by rw [List.size_toArray, nums_length, outL_length]; kernel_rfl
                      have hone : ((nums .u8 (outL s5)).toArray).all (·.oneCell') = true := by simp [nums, Value.oneCell']
                      have hsz20 : (List.replicate 20 (Value.int .u8 0)).toArray.size = (nums .u8 (outL s5)).toArray.size := by rw [List.size_toArray, List.size_toArray, nums_length]; rfl
                      go_wp2_with (first | (refine wpList_load_row rfl 86 _ rfl gO (by rfl) 86 _ (0, 0) _ HO.out Tryd.underlying86 rfl hs20 ?_) | (refine wpList_store_row rfl 86 _ _ rfl w.heap.size _ (by rfl) (by rfl) 86 _ HZ.out hs20 hsz20 hone ?_))
                      refine bodyPost_ret (results_cell_row Tryd.results50 _ _ w.heap.size 86 _ (0, 0) _ rfl (setRow_heap wr w.heap.size _ _ 86 (0, 0) HZ.out) Tryd.underlying86 rfl hs20) rfl ⟨?_, below_setRow HI6.out.2.2.2 (Nat.le_refl _) _⟩
                      unfold digL tailL
                      rw [HFE.out, HSE.out]
                      have hLe : L = rest ++ 128 :: List.replicate (padZ rest.length) 0 ++ be8 ((l.length : Int) * 8) := by
                        rw [HL.out, HX.out.1, HME.out, HU.out, Nat.add_sub_cancel_left]; rfl
                      rw [← hLe, HF6.out]
end Go.Proofs.YtmmgdngnffoflaaDoor
