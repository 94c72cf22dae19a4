import Derived.Test.YtmmgdngnffoflaaDoorH0
import Derived.BigRegion
/-
  digest.start, bits.RotateLeft32, digest.(state).block: their contracts.
-/
namespace Go.Proofs.YtmmgdngnffoflaaDoor
open Go.RowKit Go.Proofs.YtmmgdngnffoflaaDoorW.PrintWords

def rol (x k : Int) : Int := bits .or .u32 (x * 2 ^ k.toNat % 4294967296) (x / 2 ^ (32 - k).toNat)
theorem rot1 (x : Int) (w : World) : Calls Tryd.prog 109 #[.int .u32 x, .int .i64 1] w fun e w' => e = .returned (.int .u32 (rol x 1)) ∧ w = w' := by
  have e1 : bits .and .u64 1 31 = 1 := by decide
  go_enter Tryd.func109, Tryd.ntmps109
  go_wp2
  go_ret
  exact ⟨by simp [rol], rfl⟩
theorem rot5 (x : Int) (w : World) : Calls Tryd.prog 109 #[.int .u32 x, .int .i64 5] w fun e w' => e = .returned (.int .u32 (rol x 5)) ∧ w = w' := by
  have e1 : bits .and .u64 5 31 = 5 := by decide
  go_enter Tryd.func109, Tryd.ntmps109
  go_wp2
  go_ret
  exact ⟨by simp [rol], rfl⟩
theorem rot30 (x : Int) (w : World) : Calls Tryd.prog 109 #[.int .u32 x, .int .i64 30] w fun e w' => e = .returned (.int .u32 (rol x 30)) ∧ w = w' := by
  have e1 : bits .and .u64 30 31 = 30 := by decide
  go_enter Tryd.func109, Tryd.ntmps109
  go_wp2
  go_ret
  exact ⟨by simp [rol], rfl⟩
theorem start_any (w : World) : Calls Tryd.prog 83 #[] w fun e w' => e = .returned (.agg #[.int .u32 1732584193, .int .u32 4023233417, .int .u32 2562383102, .int .u32 271733878, .int .u32 3285377520]) ∧ Below w.heap.size w w' := by
  go_enter Tryd.func83, Tryd.ntmps83
  go_wp2
  exact bodyPost_ret (v := .agg #[.int .u32 1732584193, .int .u32 4023233417, .int .u32 2562383102, .int .u32 271733878, .int .u32 3285377520]) (by simp [results, Tryd.results83, go_sem]) rfl ⟨rfl, (Below.refl _ _).alloc (Nat.le_refl _) _⟩
theorem add_add (a : Addr) (i j : Nat) : (a.add i).add j = a.add (i + j) := by
  unfold Addr.add
  by_cases hi : i = 0 <;> by_cases hj : j = 0 <;> simp [hi, hj, Nat.add_assoc]
def w32 (a b c d : Int) : Int := a * 16777216 + b * 65536 + c * 256 + d
def xor4 (a b c d : Int) : Int := bits .xor .u32 (bits .xor .u32 (bits .xor .u32 a b) c) d
def wnext (p l : List Int) (n : Nat) : Int :=
  if n < 16 then w32 (p.getD (4 * n) 0) (p.getD (4 * n + 1) 0) (p.getD (4 * n + 2) 0) (p.getD (4 * n + 3) 0)
  else rol (xor4 (l.getD (n - 3) 0) (l.getD (n - 8) 0) (l.getD (n - 14) 0) (l.getD (n - 16) 0)) 1
def wl (p : List Int) : Nat → List Int
  | 0 => []
  | n + 1 => wl p n ++ [wnext p (wl p n) n]
theorem wl_length (p : List Int) (n : Nat) : (wl p n).length = n := by
  induction n with
  | zero => rfl
  | succ n ih => simp [wl, ih]
/-- The array's cells behind k rounds. -/
def wcells (p : List Int) (k : Nat) : List Value := nums .u32 (wl p k) ++ List.replicate (80 - k) (.int .u32 0)
theorem wcells_length (p : List Int) (k : Nat) (hk : k ≤ 80) : (wcells p k).length = 80 := by simp [wcells, nums, wl_length]; omega
theorem wcells_at (p : List Int) (k j : Nat) (hj : j < k) : (wcells p k)[j]? = some (.int .u32 ((wl p k).getD j 0)) := by
  have h : j < (wl p k).length := by rw [wl_length]; exact hj
  unfold wcells
  rw [List.getElem?_append_left (by rw [nums_length]; exact h)]
  simp [nums, List.getElem?_eq_getElem h, List.getD_eq_getElem?_getD]
theorem wcells_zero (p : List Int) (k : Nat) (hk : k < 80) : (wcells p k)[k]? = some (.int .u32 0) := by
  unfold wcells
  rw [List.getElem?_append_right (by simp [nums, wl_length])]
  simp only [nums, List.length_map, wl_length, Nat.sub_self]
  rw [show 80 - k = (80 - (k + 1)) + 1 by omega, List.replicate_succ]; rfl
theorem wcells_set (p : List Int) (k : Nat) (hk : k < 80) : (wcells p k).set k (.int .u32 (wnext p (wl p k) k)) = wcells p (k + 1) := by
  unfold wcells
  rw [List.set_append_right _ _ (by simp [nums, wl_length])]
  simp only [nums, List.length_map, wl_length, Nat.sub_self]
  rw [show 80 - k = (80 - (k + 1)) + 1 by omega, List.replicate_succ, List.set_cons_zero]
  simp [wl]

theorem w32_or (a b c d : Int) (a0 : 0 ≤ a) (a1 : a ≤ 255) (b0 : 0 ≤ b) (b1 : b ≤ 255) (c0 : 0 ≤ c) (c1 : c ≤ 255) (d0 : 0 ≤ d) (d1 : d ≤ 255) :
    bits .or .u32 (bits .or .u32 (bits .or .u32 (a * 16777216) (b * 65536)) (c * 256)) d = w32 a b c d := by
  have wr : ∀ n : Int, 0 ≤ n → n < 2 ^ 32 → IntKind.u32.wrap n = n := fun n h0 h1 => by rw [IntKind.wrap_u32]; omega
  rw [bits_join .u32 32 (by decide) wr 24 (a * 16777216) (b * 65536) (by omega) (by omega) (by omega) (by omega) (by omega) (by omega)]
  rw [bits_join .u32 32 (by decide) wr 16 (a * 16777216 + b * 65536) (c * 256) (by omega) (by omega) (by omega) (by omega) (by omega) (by omega)]
  rw [bits_join .u32 32 (by decide) wr 8 (a * 16777216 + b * 65536 + c * 256) d (by omega) (by omega) (by omega) (by omega) (by omega) (by omega)]
  rfl
def z5 : Array Value := #[.int .u32 0, .int .u32 0, .int .u32 0, .int .u32 0, .int .u32 0]
def BInv (w wr : World) (hs : Array Value) (p : List Int) (k : Nat) : Prop :=
  wr.heap[w.heap.size]? = some (.cells hs 127 (0, 0)) ∧ wr.heap[w.heap.size + 1]? = some (.cells z5 127 (0, 0)) ∧ wr.heap[w.heap.size + 1 + 1]? = some (.cells (wcells p k).toArray 154 (0, 0)) ∧ Below w.heap.size w wr
theorem BInv.start (w : World) (hs : Array Value) (p : List Int) : BInv w (((w.alloc (.cells hs 127)).alloc (.cells z5 127)).alloc (.cells Tryd.zeroCells154 154)) hs p 0 := by
  refine ⟨?_, ?_, ?_, ?_⟩
  · exact Below.heap_alloc _ _ _ (by simp; omega) |>.trans (heap_alloc2_old w _ _)
  · exact Below.heap_alloc _ _ _ (by simp) |>.trans (heap_alloc2_new w _ _)
  · have h := heap_alloc_new ((w.alloc (.cells hs 127)).alloc (.cells z5 127)) (.cells Tryd.zeroCells154 154)
    simp only [World.size_alloc] at h
    rw [h]
    have : Tryd.zeroCells154 = (wcells p 0).toArray := by
      show Tryd.zeroCells154 = (List.replicate 80 (Value.int .u32 0)).toArray
      kernel_rfl
    rw [this]
  · exact (((Below.refl _ _).alloc (Nat.le_refl _) _).alloc (by simp) _).alloc (by simp; omega) _
theorem BInv.store {w wr : World} {hs : Array Value} {p : List Int} {k : Nat} (h : BInv w wr hs p k) (hk : k < 80) (n : Nat) :
    BInv w ((wr.drewN n).setCell ⟨w.heap.size + 1 + 1, k, none⟩ (.int .u32 (wnext p (wl p k) k))) hs p (k + 1) := by
  obtain ⟨a, b, c, d⟩ := h
  have d' : Below w.heap.size w (wr.drewN n) := pw_below_drewN d n
  refine ⟨?_, ?_, ?_, ?_⟩
  · exact (Below.heap_setCell _ _ _ _ (by simp; omega)).trans a
  · exact (Below.heap_setCell _ _ _ _ (by simp)).trans b
  · have := heap_setCell_same (wr.drewN n) (w.heap.size + 1 + 1) k (wcells p k).toArray 154 (.int .u32 (wnext p (wl p k) k)) c
    rw [this, ← wcells_set p k hk]
    simp
  · exact d'.setCell (by simp; omega) _

abbrev St := Int × Int × Int × Int × Int
def sta (s : St) : Int := s.1
def stb (s : St) : Int := s.2.1
def stc (s : St) : Int := s.2.2.1
def std (s : St) : Int := s.2.2.2.1
def ste (s : St) : Int := s.2.2.2.2
def fnc (k : Nat) (b c d : Int) : Int :=
  if k < 20 then bits .or .u32 (bits .and .u32 b c) (bits .and .u32 (bits .xor .u32 IntKind.u32.max b) d) else if k < 40 then bits .xor .u32 (bits .xor .u32 b c) d
  else if k < 60 then bits .or .u32 (bits .or .u32 (bits .and .u32 b c) (bits .and .u32 b d)) (bits .and .u32 c d) else bits .xor .u32 (bits .xor .u32 b c) d
def cst (k : Nat) : Int := if k < 20 then 1518500249 else if k < 40 then 1859775393 else if k < 60 then 2400959708 else 3395469782
def rnd (k : Nat) (x : Int) (s : St) : St :=
  ((rol (sta s) 5 + fnc k (stb s) (stc s) (std s) + ste s + cst k + x) % 4294967296, sta s, rol (stb s) 30, stc s, std s)
def rounds (p : List Int) (h0 h1 h2 h3 h4 : Int) : Nat → St
  | 0 => (h0, h1, h2, h3, h4)
  | k + 1 => rnd k ((wl p 80).getD k 0) (rounds p h0 h1 h2 h3 h4 k)
theorem rounds_succ (p : List Int) (h0 h1 h2 h3 h4 : Int) (k : Nat) : rounds p h0 h1 h2 h3 h4 (k + 1) = rnd k ((wl p 80).getD k 0) (rounds p h0 h1 h2 h3 h4 k) := rfl
theorem fnc_0 {k : Nat} (b c d : Int) (h : k < 20) : fnc k b c d = bits .or .u32 (bits .and .u32 b c) (bits .and .u32 (bits .xor .u32 IntKind.u32.max b) d) := by unfold fnc; rw [if_pos h]
theorem fnc_1 {k : Nat} (b c d : Int) (h : 20 ≤ k ∧ k < 40) : fnc k b c d = bits .xor .u32 (bits .xor .u32 b c) d := by unfold fnc; rw [if_neg (by omega), if_pos (by omega)]
theorem fnc_2 {k : Nat} (b c d : Int) (h : 40 ≤ k ∧ k < 60) : fnc k b c d = bits .or .u32 (bits .or .u32 (bits .and .u32 b c) (bits .and .u32 b d)) (bits .and .u32 c d) := by unfold fnc; rw [if_neg (by omega), if_neg (by omega), if_pos (by omega)]
theorem fnc_3 {k : Nat} (b c d : Int) (h : 60 ≤ k) : fnc k b c d = bits .xor .u32 (bits .xor .u32 b c) d := by unfold fnc; rw [if_neg (by omega), if_neg (by omega), if_neg (by omega)]
theorem cst_0 {k : Nat} (h : k < 20) : cst k = 1518500249 := by unfold cst; rw [if_pos h]
theorem cst_1 {k : Nat} (h : 20 ≤ k ∧ k < 40) : cst k = 1859775393 := by unfold cst; rw [if_neg (by omega), if_pos (by omega)]
theorem cst_2 {k : Nat} (h : 40 ≤ k ∧ k < 60) : cst k = 2400959708 := by unfold cst; rw [if_neg (by omega), if_neg (by omega), if_pos (by omega)]
theorem cst_3 {k : Nat} (h : 60 ≤ k) : cst k = 3395469782 := by unfold cst; rw [if_neg (by omega), if_neg (by omega), if_neg (by omega)]
/-- The five numbers behind a block. -/
def blockF (p : List Int) (h0 h1 h2 h3 h4 : Int) : St :=
  let s := rounds p h0 h1 h2 h3 h4 80
  ((h0 + sta s) % 4294967296, (h1 + stb s) % 4294967296, (h2 + stc s) % 4294967296, (h3 + std s) % 4294967296, (h4 + ste s) % 4294967296)
def stV (s : St) : Array Value := #[.int .u32 (sta s), .int .u32 (stb s), .int .u32 (stc s), .int .u32 (std s), .int .u32 (ste s)]
theorem five {w : World} {g : Nat} (v0 v1 v2 v3 v4 : Value) (h : w.heap[g]? = some (.cells z5 127 (0, 0))) :
    (((((w.setCell ⟨g, 0, none⟩ v0).setCell ⟨g, 1, none⟩ v1).setCell ⟨g, 2, none⟩ v2).setCell ⟨g, 3, none⟩ v3).setCell ⟨g, 4, none⟩ v4).heap[g]? = some (.cells #[v0, v1, v2, v3, v4] 127 (0, 0)) := by
  have h1 := heap_setCell_same w g 0 z5 127 v0 h
  have h2 := heap_setCell_same _ g 1 _ 127 v1 h1
  have h3 := heap_setCell_same _ g 2 _ 127 v2 h2
  have h4 := heap_setCell_same _ g 3 _ 127 v3 h3
  exact heap_setCell_same _ g 4 _ 127 v4 h4
theorem heap_drewN {wr : World} {g : Nat} {o : Obj} (h : wr.heap[g]? = some o) (n : Nat) : (wr.drewN n).heap[g]? = some o := h
theorem BInv.drewN {w wr : World} {hs : Array Value} {p : List Int} {k : Nat} (h : BInv w wr hs p k) (n : Nat) : BInv w (wr.drewN n) hs p k := ⟨h.1, h.2.1, h.2.2.1, pw_below_drewN h.2.2.2 n⟩
theorem run_index_w (cs : Array Value) (k : Nat) (v : Value) (hk : k < 80) (hv : cs[k]? = some v) (w : World) : (Instr.index 154 (.agg cs) (.int .i64 (k : Int))).run Tryd.prog w = .ok v w := by
  have hs : (Go.sizeOf 125).run Tryd.prog w = .ok 1 w := Tryd.sizeOf125 w
  simp [Instr.index, asIntOf, run_underlying Tryd.underlying154, part, hs, hv, hk]

set_option maxHeartbeats 4000000 in
set_option maxRecDepth 100000 in
theorem block_any (h0 h1 h2 h3 h4 : Int) (A : Option Addr) (c : Nat) (p : List Int) (w : World) (hr : Kd.C (Kd.int .u8) w A 64 p) (hc : 64 ≤ c) (hb : Bytes p) :
    Calls Tryd.prog 84 #[.agg #[.int .u32 h0, .int .u32 h1, .int .u32 h2, .int .u32 h3, .int .u32 h4], .slice A 64 c] w fun e w' => e = .returned (.agg (stV (blockF p h0 h1 h2 h3 h4))) ∧ Below w.heap.size w w' := by
  obtain ⟨ad, rfl, _, hblk⟩ := bytes_at hr (k := 0) (by omega)
  have HR := Lib.hid hr
  have HB := Lib.hid hb
  clear hr hb
  obtain ⟨hs, hhs⟩ : ∃ hs : Array Value, hs = #[.int .u32 h0, .int .u32 h1, .int .u32 h2, .int .u32 h3, .int .u32 h4] := ⟨_, rfl⟩
  rw [← hhs]
  have HH := Lib.hid hhs
  clear hhs
  go_enter Tryd.func84, Tryd.ntmps84
  go_wp2_with fail
  go_loopw [6, 7, 18] (fun _ _ t wr => ∃ k : Nat, k ≤ 16 ∧ t = .int .i64 k ∧ BInv w wr hs p k) (fun _ _ t _ => (16 - intOf t).toNat)
  case atStart => exact ⟨0, by omega, rfl, BInv.start w hs p⟩
  case round =>
    obtain ⟨k, hk, rfl, hI⟩ := hrel
    by_cases hlt : k < 16
    · obtain ⟨_, e, q0, _⟩ := bytes_at HR.out (k := 4 * k) (by omega)
      cases e
      obtain ⟨_, e, q1, _⟩ := bytes_at HR.out (k := 4 * k + 1) (by omega)
      cases e
      obtain ⟨_, e, q2, _⟩ := bytes_at HR.out (k := 4 * k + 2) (by omega)
      cases e
      obtain ⟨_, e, q3, _⟩ := bytes_at HR.out (k := 4 * k + 3) (by omega)
      cases e
      have hbl : ∀ j, (ad.add (4 * k + j)).block < w.heap.size := fun j => by rw [add_block]; exact hblk
      have b0 := HB.out.get (4 * k)
      have b1 := HB.out.get (4 * k + 1)
      have b2 := HB.out.get (4 * k + 2)
      have b3 := HB.out.get (4 * k + 3)
      have HN : Hid (wnext p (wl p k) k = w32 (p.getD (4 * k) 0) (p.getD (4 * k + 1) 0) (p.getD (4 * k + 2) 0) (p.getD (4 * k + 3) 0)) := by
        show wnext p (wl p k) k = _
        unfold wnext; rw [if_pos hlt]
      obtain ⟨x0, hx0⟩ : ∃ x, x = p.getD (4 * k) 0 := ⟨_, rfl⟩
      obtain ⟨x1, hx1⟩ : ∃ x, x = p.getD (4 * k + 1) 0 := ⟨_, rfl⟩
      obtain ⟨x2, hx2⟩ : ∃ x, x = p.getD (4 * k + 2) 0 := ⟨_, rfl⟩
      obtain ⟨x3, hx3⟩ : ∃ x, x = p.getD (4 * k + 3) 0 := ⟨_, rfl⟩
      rw [← hx0] at q0 b0
      rw [← hx1] at q1 b1
      rw [← hx2] at q2 b2
      rw [← hx3] at q3 b3
      rw [← hx0, ← hx1, ← hx2, ← hx3] at HN
      have hbel := hI.2.2.2
      have r0 : wr.cell? (ad.add (4 * k)) = some (.int .u8 x0) := (hbel.cell (hbl 0)).trans q0
      have r1 : wr.cell? ⟨(ad.add (4 * k)).block, (ad.add (4 * k)).off + 1, none⟩ = some (.int .u8 x1) := by rw [← add_field ad (4 * k) 1 (by omega)]; exact (hbel.cell (hbl 1)).trans q1
      have r2 : wr.cell? ⟨(ad.add (4 * k)).block, (ad.add (4 * k)).off + 2, none⟩ = some (.int .u8 x2) := by rw [← add_field ad (4 * k) 2 (by omega)]; exact (hbel.cell (hbl 2)).trans q2
      have r3 : wr.cell? ⟨(ad.add (4 * k)).block, (ad.add (4 * k)).off + 3, none⟩ = some (.int .u8 x3) := by rw [← add_field ad (4 * k) 3 (by omega)]; exact (hbel.cell (hbl 3)).trans q3
      obtain ⟨b00, b01⟩ := b0
      obtain ⟨b10, b11⟩ := b1
      obtain ⟨b20, b21⟩ := b2
      obtain ⟨b30, b31⟩ := b3
      have v0 : IntKind.u32.wrap x0 = x0 := by rw [IntKind.wrap_u32]; omega
      have v1 : IntKind.u32.wrap x1 = x1 := by rw [IntKind.wrap_u32]; omega
      have v2 : IntKind.u32.wrap x2 = x2 := by rw [IntKind.wrap_u32]; omega
      have v3 : IntKind.u32.wrap x3 = x3 := by rw [IntKind.wrap_u32]; omega
      have y0 : IntKind.u32.wrap (x0 * 16777216) = x0 * 16777216 := by rw [IntKind.wrap_u32]; omega
      have y1 : IntKind.u32.wrap (x1 * 65536) = x1 * 65536 := by rw [IntKind.wrap_u32]; omega
      have y2 : IntKind.u32.wrap (x2 * 256) = x2 * 256 := by rw [IntKind.wrap_u32]; omega
      have h80 : (k : Int) < 80 := by omega
      have hw := w32_or x0 x1 x2 x3 b00 b01 b10 b11 b20 b21 b30 b31
      have hz : wr.cell? ⟨w.heap.size + 1 + 1, k, none⟩ = some (.int .u32 0) := by rw [cell_of_row _ _ _ _ _ _ hI.2.2.1, List.getElem?_toArray]; exact wcells_zero p k (by omega)
      have hf : wr.frozen? ⟨w.heap.size + 1 + 1, k, none⟩ = false := blk_frozen hI.2.2.1 k
      have HI := Lib.hid hI
      clear q0 q1 q2 q3 hx0 hx1 hx2 hx3 hbl hbel hI
      go_wp2_with fail
      go_still_tail 24, (by kernel_rfl)
      clear r0 r1 r2 r3 v0 v1 v2 v3 y0 y1 y2 hw
      go_wp2_with fail
      go_roundw
      case rel =>
        refine ⟨k + 1, by omega, by go_num, ?_⟩
        have h := BInv.store HI.out (by omega) 1
        rw [HN.out] at h
        exact h
      case measure => simp [intOf]; omega
    · obtain rfl : k = 16 := by omega
      go_wp2_with fail
      obtain ⟨wo, hwo⟩ : ∃ wo : World, wo = wr := ⟨_, rfl⟩
      rw [← hwo] at hI ⊢
      clear hwo
      rw [show ((16 : Nat) : Int) = 16 from rfl]
      go_loopw [8] (fun i wr => ∃ k : Nat, 16 ≤ k ∧ k ≤ 80 ∧ i = .int .i64 k ∧ BInv w wr hs p k) (fun i _ => (80 - intOf i).toNat)
      case atStart => exact ⟨16, by omega, by omega, rfl, hI⟩
      case round =>
        obtain ⟨k, hk1, hk2, rfl, hI⟩ := hrel
        by_cases hlt : k < 80
        · have HN : Hid (wnext p (wl p k) k = rol (xor4 ((wl p k).getD (k - 3) 0) ((wl p k).getD (k - 8) 0) ((wl p k).getD (k - 14) 0) ((wl p k).getD (k - 16) 0)) 1) := by
            show wnext p (wl p k) k = _
            unfold wnext; rw [if_neg (by omega)]
          have rr : ∀ j, j < k → wr.cell? ⟨w.heap.size + 1 + 1, j, none⟩ = some (.int .u32 ((wl p k).getD j 0)) := fun j hj => by
            rw [cell_of_row _ _ _ _ _ _ hI.2.2.1, List.getElem?_toArray]; exact wcells_at p k j hj
          have r3 := rr (k - 3) (by omega)
          have r8 := rr (k - 8) (by omega)
          have r14 := rr (k - 14) (by omega)
          have r16 := rr (k - 16) (by omega)
          obtain ⟨x3, hx3⟩ : ∃ x, x = (wl p k).getD (k - 3) 0 := ⟨_, rfl⟩
          obtain ⟨x8, hx8⟩ : ∃ x, x = (wl p k).getD (k - 8) 0 := ⟨_, rfl⟩
          obtain ⟨x14, hx14⟩ : ∃ x, x = (wl p k).getD (k - 14) 0 := ⟨_, rfl⟩
          obtain ⟨x16, hx16⟩ : ∃ x, x = (wl p k).getD (k - 16) 0 := ⟨_, rfl⟩
          rw [← hx3] at r3
          rw [← hx8] at r8
          rw [← hx14] at r14
          rw [← hx16] at r16
          rw [← hx3, ← hx8, ← hx14, ← hx16] at HN
          have hz : wr.cell? ⟨w.heap.size + 1 + 1, k, none⟩ = some (.int .u32 0) := by rw [cell_of_row _ _ _ _ _ _ hI.2.2.1, List.getElem?_toArray]; exact wcells_zero p k (by omega)
          have hf : wr.frozen? ⟨w.heap.size + 1 + 1, k, none⟩ = false := blk_frozen hI.2.2.1 k
          have HI := Lib.hid hI
          have h80 : (k : Int) < 80 := by omega
          clear hI rr hx3 hx8 hx14 hx16
          go_wp2_with fail
          have s3 : IntKind.i64.wrap ((k : Int) - 3) = (k : Int) - 3 := IntWalk.i64_in _ (by omega)
          have l3 : (3 : Int) ≤ (k : Int) := by omega
          have m3 : (0 : Int) ≤ (k : Int) - 3 := by omega
          have n3 : (k : Int) - 3 < 80 := by omega
          have o3 : ((k : Int) - 3).toNat = k - 3 := by omega
          have s8 : IntKind.i64.wrap ((k : Int) - 8) = (k : Int) - 8 := IntWalk.i64_in _ (by omega)
          have l8 : (8 : Int) ≤ (k : Int) := by omega
          have m8 : (0 : Int) ≤ (k : Int) - 8 := by omega
          have n8 : (k : Int) - 8 < 80 := by omega
          have o8 : ((k : Int) - 8).toNat = k - 8 := by omega
          have s14 : IntKind.i64.wrap ((k : Int) - 14) = (k : Int) - 14 := IntWalk.i64_in _ (by omega)
          have l14 : (14 : Int) ≤ (k : Int) := by omega
          have m14 : (0 : Int) ≤ (k : Int) - 14 := by omega
          have n14 : (k : Int) - 14 < 80 := by omega
          have o14 : ((k : Int) - 14).toNat = k - 14 := by omega
          have s16 : IntKind.i64.wrap ((k : Int) - 16) = (k : Int) - 16 := IntWalk.i64_in _ (by omega)
          have l16 : (16 : Int) ≤ (k : Int) := by omega
          have m16 : (0 : Int) ≤ (k : Int) - 16 := by omega
          have n16 : (k : Int) - 16 < 80 := by omega
          have o16 : ((k : Int) - 16).toNat = k - 16 := by omega
          go_still_tail 21, (by kernel_rfl)
          still_call ((rot1 _ _).mono fun _ _ ⟨a, b⟩ => ⟨a, b.symm⟩)
          repeat still_step
          refine wpStill_nil ?_
          clear r3 r8 r14 r16 s3 s8 s14 s16 l3 l8 l14 l16 m3 m8 m14 m16 n3 n8 n14 n16 o3 o8 o14 o16
          go_wp2_with fail
          go_roundw
          case rel =>
            refine ⟨k + 1, by omega, by omega, by go_num, ?_⟩
            have h := BInv.store HI.out hlt 1
            rw [HN.out] at h
            exact h
          case measure => simp [intOf]; omega
        · obtain rfl : k = 80 := by omega
          have g0 : wr.cell? ⟨w.heap.size, 0, none⟩ = some (.int .u32 h0) := by rw [cell_of_row _ _ _ _ _ _ hI.1, HH.out]; rfl
          have g1 : wr.cell? ⟨w.heap.size, 1, none⟩ = some (.int .u32 h1) := by rw [cell_of_row _ _ _ _ _ _ hI.1, HH.out]; rfl
          have g2 : wr.cell? ⟨w.heap.size, 2, none⟩ = some (.int .u32 h2) := by rw [cell_of_row _ _ _ _ _ _ hI.1, HH.out]; rfl
          have g3 : wr.cell? ⟨w.heap.size, 3, none⟩ = some (.int .u32 h3) := by rw [cell_of_row _ _ _ _ _ _ hI.1, HH.out]; rfl
          have g4 : wr.cell? ⟨w.heap.size, 4, none⟩ = some (.int .u32 h4) := by rw [cell_of_row _ _ _ _ _ _ hI.1, HH.out]; rfl
          have HI := Lib.hid hI
          clear hI
          go_wp2_with fail
          go_quiet (fail)
          have HC := heap_drewN HI.out.2.2.1 nq
          obtain ⟨w2, hw2⟩ : ∃ w2 : World, w2 = wr.drewN nq := ⟨_, rfl⟩
          have HI2 : Hid (BInv w w2 hs p 80) := by rw [hw2]; exact BInv.drewN HI.out nq
          rw [← hw2] at HC ⊢
          clear hw2 HI g0 g1 g2 g3 g4
          obtain ⟨cs, hcs⟩ : ∃ cs, cs = (wcells p 80).toArray := ⟨_, rfl⟩
          rw [← hcs] at HC
          have hsz : cs.size = 80 := by rw [hcs, List.size_toArray, wcells_length p 80 (by omega)]
          have HCS := Lib.hid hcs
          clear hcs
          go_wp2_with (refine wpList_load_row rfl 154 _ rfl (w.heap.size + 1 + 1) rfl 154 cs (0, 0) _ HC Tryd.underlying154 rfl (by rw [hsz]; kernel_rfl) ?_)
          clear HC hsz
          go_loopw [9, 10, 11, 12, 13, 14, 15, 16, 17, 90] (fun a b c d e _ _ _ _ t wr => ∃ k : Nat, k ≤ 80 ∧ t = .int .i64 k ∧ a = .int .u32 (sta (rounds p h0 h1 h2 h3 h4 k)) ∧ b = .int .u32 (stb (rounds p h0 h1 h2 h3 h4 k)) ∧ c = .int .u32 (stc (rounds p h0 h1 h2 h3 h4 k)) ∧ d = .int .u32 (std (rounds p h0 h1 h2 h3 h4 k)) ∧ e = .int .u32 (ste (rounds p h0 h1 h2 h3 h4 k)) ∧ w2 = wr) (fun _ _ _ _ _ _ _ _ _ t _ => (80 - intOf t).toNat)
          case atStart => exact ⟨0, by omega, rfl, rfl, rfl, rfl, rfl, rfl, rfl⟩
          case round =>
            obtain ⟨k, hk, rfl, rfl, rfl, rfl, rfl, rfl, rfl⟩ := hrel
            by_cases hlt : k < 80
            · have hix : ∀ W, (Instr.index 154 (.agg cs) (.int .i64 (k : Int))).run Tryd.prog W = .ok (.int .u32 ((wl p 80).getD k 0)) W := run_index_w cs k _ hlt (by rw [HCS.out, List.getElem?_toArray]; exact wcells_at p 80 k hlt)
              have HS := Lib.hid (rounds_succ p h0 h1 h2 h3 h4 k)
              obtain ⟨x, hx⟩ : ∃ x, x = (wl p 80).getD k 0 := ⟨_, rfl⟩
              rw [← hx] at hix HS
              obtain ⟨s, hs⟩ : ∃ s, s = rounds p h0 h1 h2 h3 h4 k := ⟨_, rfl⟩
              rw [← hs] at HS ⊢
              clear hx hs
              obtain ⟨a, b, cc, d, e⟩ := s
              simp only [sta, stb, stc, std, ste] at HS ⊢
              rcases (show k < 20 ∨ (20 ≤ k ∧ k < 40) ∨ (40 ≤ k ∧ k < 60) ∨ 60 ≤ k by omega) with hk1 | ⟨hk1, hk2⟩ | ⟨hk1, hk2⟩ | hk1
              · have t1 : ((k : Int) / 20 == 0) = true := by simp; omega
                have HF : Hid (fnc k b cc d = _ ∧ cst k = _) := ⟨fnc_0 b cc d (by omega), cst_0 (by omega)⟩
                go_wp2_with fail
                refine (rot5 _ _).mono ?_
                rintro e1 w3 ⟨rfl, rfl⟩
                go_wp2_with fail
                refine (rot30 _ _).mono ?_
                rintro e1 w3 ⟨rfl, rfl⟩
                go_wp2_with fail
                go_roundw
                case rel =>
                  refine ⟨k + 1, by omega, by go_num, ?_, ?_, ?_, ?_, ?_, trivial⟩
                  · rw [HS.out]; simp only [rnd, sta, stb, stc, std, ste]; rw [HF.out.1, HF.out.2]
                  · rw [HS.out]; rfl
                  · rw [HS.out]; rfl
                  · rw [HS.out]; rfl
                  · rw [HS.out]; rfl
                case measure => simp [intOf]; omega
              · have t1 : ((k : Int) / 20 == 0) = false := by simp; omega
                have t2 : ((k : Int) / 20 == 1) = true := by simp; omega
                have HF : Hid (fnc k b cc d = _ ∧ cst k = _) := ⟨fnc_1 b cc d (by omega), cst_1 (by omega)⟩
                go_wp2_with fail
                refine (rot5 _ _).mono ?_
                rintro e1 w3 ⟨rfl, rfl⟩
                go_wp2_with fail
                refine (rot30 _ _).mono ?_
                rintro e1 w3 ⟨rfl, rfl⟩
                go_wp2_with fail
                go_roundw
                case rel =>
                  refine ⟨k + 1, by omega, by go_num, ?_, ?_, ?_, ?_, ?_, trivial⟩
                  · rw [HS.out]; simp only [rnd, sta, stb, stc, std, ste]; rw [HF.out.1, HF.out.2]
                  · rw [HS.out]; rfl
                  · rw [HS.out]; rfl
                  · rw [HS.out]; rfl
                  · rw [HS.out]; rfl
                case measure => simp [intOf]; omega
              · have t1 : ((k : Int) / 20 == 0) = false := by simp; omega
                have t2 : ((k : Int) / 20 == 1) = false := by simp; omega
                have t3 : ((k : Int) / 20 == 2) = true := by simp; omega
                have HF : Hid (fnc k b cc d = _ ∧ cst k = _) := ⟨fnc_2 b cc d (by omega), cst_2 (by omega)⟩
                go_wp2_with fail
                refine (rot5 _ _).mono ?_
                rintro e1 w3 ⟨rfl, rfl⟩
                go_wp2_with fail
                refine (rot30 _ _).mono ?_
                rintro e1 w3 ⟨rfl, rfl⟩
                go_wp2_with fail
                go_roundw
                case rel =>
                  refine ⟨k + 1, by omega, by go_num, ?_, ?_, ?_, ?_, ?_, trivial⟩
                  · rw [HS.out]; simp only [rnd, sta, stb, stc, std, ste]; rw [HF.out.1, HF.out.2]
                  · rw [HS.out]; rfl
                  · rw [HS.out]; rfl
                  · rw [HS.out]; rfl
                  · rw [HS.out]; rfl
                case measure => simp [intOf]; omega
              · have t1 : ((k : Int) / 20 == 0) = false := by simp; omega
                have t2 : ((k : Int) / 20 == 1) = false := by simp; omega
                have t3 : ((k : Int) / 20 == 2) = false := by simp; omega
                have HF : Hid (fnc k b cc d = _ ∧ cst k = _) := ⟨fnc_3 b cc d (by omega), cst_3 (by omega)⟩
                go_wp2_with fail
                refine (rot5 _ _).mono ?_
                rintro e1 w3 ⟨rfl, rfl⟩
                go_wp2_with fail
                refine (rot30 _ _).mono ?_
                rintro e1 w3 ⟨rfl, rfl⟩
                go_wp2_with fail
                go_roundw
                case rel =>
                  refine ⟨k + 1, by omega, by go_num, ?_, ?_, ?_, ?_, ?_, trivial⟩
                  · rw [HS.out]; simp only [rnd, sta, stb, stc, std, ste]; rw [HF.out.1, HF.out.2]
                  · rw [HS.out]; rfl
                  · rw [HS.out]; rfl
                  · rw [HS.out]; rfl
                  · rw [HS.out]; rfl
                case measure => simp [intOf]; omega
            · obtain rfl : k = 80 := by omega
              have g0 : w2.cell? ⟨w.heap.size, 0, none⟩ = some (.int .u32 h0) := by rw [cell_of_row _ _ _ _ _ _ HI2.out.1, HH.out]; rfl
              have g1 : w2.cell? ⟨w.heap.size, 1, none⟩ = some (.int .u32 h1) := by rw [cell_of_row _ _ _ _ _ _ HI2.out.1, HH.out]; rfl
              have g2 : w2.cell? ⟨w.heap.size, 2, none⟩ = some (.int .u32 h2) := by rw [cell_of_row _ _ _ _ _ _ HI2.out.1, HH.out]; rfl
              have g3 : w2.cell? ⟨w.heap.size, 3, none⟩ = some (.int .u32 h3) := by rw [cell_of_row _ _ _ _ _ _ HI2.out.1, HH.out]; rfl
              have g4 : w2.cell? ⟨w.heap.size, 4, none⟩ = some (.int .u32 h4) := by rw [cell_of_row _ _ _ _ _ _ HI2.out.1, HH.out]; rfl
              obtain ⟨s, hs⟩ : ∃ s, s = rounds p h0 h1 h2 h3 h4 80 := ⟨_, rfl⟩
              rw [← hs]
              have HSS := Lib.hid hs
              clear hs
              obtain ⟨a, b, cc, d, e⟩ := s
              simp only [sta, stb, stc, std, ste]
              have z0 : w2.cell? ⟨w.heap.size + 1, 0, none⟩ = some (.int .u32 0) := by rw [cell_of_row _ _ _ _ _ _ HI2.out.2.1]; rfl
              have z1 : w2.cell? ⟨w.heap.size + 1, 1, none⟩ = some (.int .u32 0) := by rw [cell_of_row _ _ _ _ _ _ HI2.out.2.1]; rfl
              have z2 : w2.cell? ⟨w.heap.size + 1, 2, none⟩ = some (.int .u32 0) := by rw [cell_of_row _ _ _ _ _ _ HI2.out.2.1]; rfl
              have z3 : w2.cell? ⟨w.heap.size + 1, 3, none⟩ = some (.int .u32 0) := by rw [cell_of_row _ _ _ _ _ _ HI2.out.2.1]; rfl
              have z4 : w2.cell? ⟨w.heap.size + 1, 4, none⟩ = some (.int .u32 0) := by rw [cell_of_row _ _ _ _ _ _ HI2.out.2.1]; rfl
              have f0 : ∀ j, w2.frozen? ⟨w.heap.size + 1, j, none⟩ = false := blk_frozen HI2.out.2.1
              go_wp2_with fail
              have H5 := five (.int .u32 ((h0 + a) % 4294967296)) (.int .u32 ((h1 + b) % 4294967296)) (.int .u32 ((h2 + cc) % 4294967296)) (.int .u32 ((h3 + d) % 4294967296)) (.int .u32 ((h4 + e) % 4294967296)) HI2.out.2.1
              have hB5 := HI2.out.2.2.2
              refine bodyPost_ret (results_cell_row Tryd.results84 _ _ (w.heap.size + 1) 127 _ (0, 0) _ rfl H5 Tryd.underlying127 rfl (by kernel_rfl)) rfl ⟨?_, ?_⟩
              · unfold blockF; rw [← HSS.out]; rfl
              · exact ((((hB5.setCell (by simp) _).setCell (by simp) _).setCell (by simp) _).setCell (by simp) _).setCell (by simp) _
end Go.Proofs.YtmmgdngnffoflaaDoor
