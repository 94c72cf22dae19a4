import Derived.Test.YtmmgdngnffoflaaDoorHxA
import Derived.Laws.CopyOwn
/-
  digest.Encode: its contract.
-/
namespace Go.Proofs.YtmmgdngnffoflaaDoor
open Go.RowKit Go.Proofs.YtmmgdngnffoflaaDoorW.PrintWords

def signsL : List UInt8 := [65, 66, 67, 68, 69, 70, 71, 72, 73, 74, 75, 76, 77, 78, 79, 80, 81, 82, 83, 84, 85, 86, 87, 88, 89, 90, 97, 98, 99, 100, 101, 102, 103, 104, 105, 106, 107, 108, 109, 110, 111, 112, 113, 114, 115, 116, 117, 118, 119, 120, 121, 122, 48, 49, 50, 51, 52, 53, 54, 55, 56, 57, 43, 47]
def sgn (n : Int) : UInt8 := signsL.getD n.toNat 0
def encB : List Int → List UInt8
  | a :: b :: c :: r => sgn (a / 4) :: sgn (a % 4 * 16 + b / 16) :: sgn (b % 16 * 4 + c / 64) :: sgn (c % 64) :: encB r
  | [a, b] => [sgn (a / 4), sgn (a % 4 * 16 + b / 16), sgn (b % 16 * 4), 61]
  | [a] => [sgn (a / 4), sgn (a % 4 * 16), 61, 61]
  | [] => []
theorem encB_le (l : List Int) : (encB l).length ≤ 4 * l.length := by
  fun_induction encB l <;> simp <;> omega
/-- What comes behind whole threes. -/
theorem encB_append (p r : List Int) (h : p.length % 3 = 0) : encB (p ++ r) = encB p ++ encB r := by
  fun_induction encB p with
  | case1 a b c q ih =>
    simp only [List.cons_append, encB]
    rw [ih (by simp only [List.length_cons] at h; omega)]
  | case2 a b => simp at h
  | case3 a => simp at h
  | case4 => rfl

/-- A slice of bytes of which the first 'm' have been cut off. -/
theorem cut_C {w : World} {A : Option Addr} {n c : Nat} {l : List Int} (h : Kd.C (Kd.int .u8) w A n l) (i : Nat) (hi : i ≤ n) (hc : n ≤ c) :
    Kd.C (Kd.int .u8) w (if c = i then A else A.map (·.add i)) (n - i) (l.drop i) := by
  have h1 : ReadsInt w .u8 A n l := readsInt_of.2 (Kd.reads_of_C h)
  exact Kd.C_of_reads (readsInt_of.1 (h1.drop_ i hi hc))

theorem wraps_i64 (n : Int) (h₀ : 0 ≤ n) (h₁ : n < 2 ^ 62) : IntKind.i64.wrap n = n := by rw [IntKind.wrap_i64]; omega
theorem or3 (a b c : Int) (a0 : 0 ≤ a) (a1 : a ≤ 255) (b0 : 0 ≤ b) (b1 : b ≤ 255) (c0 : 0 ≤ c) (c1 : c ≤ 255) :
    bits .or .i64 (bits .or .i64 (a * 65536) (b * 256)) c = a * 65536 + b * 256 + c := by
  rw [bits_join .i64 62 (by decide) wraps_i64 16 (a * 65536) (b * 256) (by omega) (by omega) (by omega) (by omega) (by omega) (by omega)]
  rw [bits_join .i64 62 (by decide) wraps_i64 8 (a * 65536 + b * 256) c (by omega) (by omega) (by omega) (by omega) (by omega) (by omega)]
theorem and63 (x : Int) (h0 : 0 ≤ x) (h1 : x < 1073741824) : bits .and .i64 x 63 = x % 64 := bits_mask .i64 62 (by decide) wraps_i64 6 (by decide) x h0 (by omega)
theorem sgn_at (y : Int) (h0 : 0 ≤ y) (h1 : y < 64) (hp : y.toNat < (⟨#[65, 66, 67, 68, 69, 70, 71, 72, 73, 74, 75, 76, 77, 78, 79, 80, 81, 82, 83, 84, 85, 86, 87, 88, 89, 90, 97, 98, 99, 100, 101, 102, 103, 104, 105, 106, 107, 108, 109, 110, 111, 112, 113, 114, 115, 116, 117, 118, 119, 120, 121, 122, 48, 49, 50, 51, 52, 53, 54, 55, 56, 57, 43, 47]⟩ : ByteArray).size) : (⟨#[65, 66, 67, 68, 69, 70, 71, 72, 73, 74, 75, 76, 77, 78, 79, 80, 81, 82, 83, 84, 85, 86, 87, 88, 89, 90, 97, 98, 99, 100, 101, 102, 103, 104, 105, 106, 107, 108, 109, 110, 111, 112, 113, 114, 115, 116, 117, 118, 119, 120, 121, 122, 48, 49, 50, 51, 52, 53, 54, 55, 56, 57, 43, 47]⟩ : ByteArray)[y.toNat] = sgn y := by
  obtain ⟨n, rfl⟩ := Int.eq_ofNat_of_zero_le h0
  simp only [Int.toNat_natCast] at hp ⊢
  have hn : n < signsL.length := by simp [signsL]; omega
  show signsL.toArray[n]'hn = _
  unfold sgn
  rw [Int.toNat_natCast, List.getD_eq_getElem?_getD, List.getElem?_eq_getElem hn, List.getElem_toArray, Option.getD_some]

theorem or2 (a b : Int) (a0 : 0 ≤ a) (a1 : a ≤ 255) (b0 : 0 ≤ b) (b1 : b ≤ 255) :
    bits .or .i64 (bits .or .i64 (a * 65536) (b * 256)) 0 = a * 65536 + b * 256 := by
  rw [or3 a b 0 a0 a1 b0 b1 (by omega) (by omega)]; omega
theorem or1 (a : Int) (a0 : 0 ≤ a) (a1 : a ≤ 255) : bits .or .i64 (bits .or .i64 (a * 65536) 0) 0 = a * 65536 := by
  have := or2 a 0 a0 a1 (by omega) (by omega)
  simpa using this
theorem enc3 (a b c u : Int) (a0 : 0 ≤ a) (a1 : a ≤ 255) (b0 : 0 ≤ b) (b1 : b ≤ 255) (c0 : 0 ≤ c) (c1 : c ≤ 255) (hu : u = a * 65536 + b * 256 + c) :
    encB [a, b, c] = [sgn (u / 262144 % 64), sgn (u / 4096 % 64), sgn (u / 64 % 64), sgn (u % 64)] := by
  simp only [encB]
  rw [show u / 262144 % 64 = a / 4 by omega, show u / 4096 % 64 = a % 4 * 16 + b / 16 by omega, show u / 64 % 64 = b % 16 * 4 + c / 64 by omega, show u % 64 = c % 64 by omega]
theorem enc2 (a b u : Int) (a0 : 0 ≤ a) (a1 : a ≤ 255) (b0 : 0 ≤ b) (b1 : b ≤ 255) (hu : u = a * 65536 + b * 256) :
    encB [a, b] = [sgn (u / 262144 % 64), sgn (u / 4096 % 64), sgn (u / 64 % 64), 61] := by
  simp only [encB]
  rw [show u / 262144 % 64 = a / 4 by omega, show u / 4096 % 64 = a % 4 * 16 + b / 16 by omega, show u / 64 % 64 = b % 16 * 4 by omega]
theorem enc1 (a u : Int) (a0 : 0 ≤ a) (a1 : a ≤ 255) (hu : u = a * 65536) :
    encB [a] = [sgn (u / 262144 % 64), sgn (u / 4096 % 64), 61, 61] := by
  simp only [encB]
  rw [show u / 262144 % 64 = a / 4 by omega, show u / 4096 % 64 = a % 4 * 16 by omega]

theorem builderAt_below {T e : TypeId} {B b : Nat} {p : Value} {bs : List Value} {w w1 : World} (h : Lib.BuilderAt T e B b p bs w) (hb : Below w.heap.size w w1) : Lib.BuilderAt T e B b p bs w1 := by
  have hlt := h.lt
  obtain ⟨hB, v, hv, hown, hne⟩ := h
  exact ⟨hB, v, (hb.block b hlt).trans hv, pw_own_below hown hb, hne⟩
theorem isBuilder_below {T e : TypeId} {B b : Nat} {bs : List Value} {w w1 : World} (h : Lib.IsBuilder T e B b bs w) (hb : Below w.heap.size w w1) : Lib.IsBuilder T e B b bs w1 := by
  rcases h with h | h
  · exact .inl (builderAt_below h hb)
  · exact .inr (builderAt_below h hb)
theorem put1 {B b : Nat} {p : Value} {l : List UInt8} {n : Int} {u : UInt8} {w : World} (h : Lib.BuilderAt 76 5 B b p (Lib.byteCells l ++ [.int .u8 n]) w) (hn : n = u.toNat) : Lib.BuilderAt 76 5 B b p (Lib.byteCells (l ++ [u])) w := by
  subst hn
  rw [byteCells_append]
  exact h


set_option maxHeartbeats 4000000 in
set_option maxRecDepth 100000 in
theorem enc_any (A : Option Addr) (c : Nat) (l : List Int) (w : World) (hr : Kd.C (Kd.int .u8) w A l.length l) (hcap : l.length ≤ c) (hl : l.length ≤ 1000000000) (hb : Bytes l) :
    Calls Tryd.prog 15 #[.slice A l.length c] w fun e w' => e = .returned (.string ⟨(encB l).toArray⟩) ∧ Below w.heap.size w w' := by
  have h63 : l.length ≤ 9223372036854775807 := by omega
  go_enter Tryd.func15, Tryd.ntmps15
  go_wp2_with fail
  go_loopw [0] (fun s wr => ∃ (pre rest : List Int) (A1 : Option Addr) (c1 : Nat), l = pre ++ rest ∧ (rest ≠ [] → pre.length % 3 = 0) ∧ s = .slice A1 rest.length c1 ∧ rest.length ≤ c1 ∧ Kd.C (Kd.int .u8) w A1 rest.length rest ∧
      Lib.IsBuilder 76 5 w.heap.size w.heap.size (Lib.byteCells (encB pre)) wr ∧ Below w.heap.size w wr) (fun s _ => match s with | .slice _ n _ => n | _ => 0)
  case atStart => exact ⟨[], l, A, c, rfl, fun _ => rfl, rfl, hcap, hr, Lib.fresh_isBuilder 76 5 w, (Below.refl _ _).alloc (Nat.le_refl _) _⟩
  case round =>
    obtain ⟨pre, rest, A1, c1, hpre, hmod, rfl, hc1, hr1, hB, hbel⟩ := hrel
    have hpl : (encB pre).length ≤ 4000000000 := by
      have h1 := encB_le pre
      have h2 : l.length = pre.length + rest.length := by rw [hpre, List.length_append]
      omega
    clear hr hcap
    obtain ⟨wo, hwo⟩ : ∃ wo : World, wo = wr := ⟨_, rfl⟩
    rw [← hwo] at hB hbel ⊢
    clear hwo
    match rest, hpre, hmod, hc1, hr1 with
    | [], hpre, _, hc1, hr1 =>
      obtain rfl : l = pre := by simpa using hpre
      obtain ⟨bs, hbs⟩ : ∃ bs, bs = encB l := ⟨_, rfl⟩
      rw [← hbs] at hB
      have HBs := Lib.hid hbs
      clear hpre hr1 hb hl hpl h63 hbs
      go_wp2_with fail
      refine (Tryd.Builder_String_any w.heap.size w.heap.size _ wo hB hbel.size).mono ?_
      rintro e w1 ⟨rfl, hb1⟩
      go_wp2_with fail
      go_ret
      exact ⟨by rw [← HBs.out]; rfl, hbel.trans hb1⟩
    | x0 :: x1 :: x2 :: rest, hpre, hmod, hc1, hr1 =>
      have hmod3 : pre.length % 3 = 0 := hmod (by simp)
      clear hmod
      have hl3 : (x0 :: x1 :: x2 :: rest : List Int).length = rest.length + 3 := rfl
      rw [hl3] at hc1 hr1 ⊢
      have hrl : rest.length + 3 ≤ 1000000000 := by
        have h2 : l.length = pre.length + (rest.length + 3) := by rw [hpre, List.length_append, hl3]
        omega
      obtain ⟨ad, rfl, _, hblk⟩ := bytes_at hr1 (k := 0) (by omega)
      have hc_0 : w.cell? (ad.add 0) = some (.int .u8 x0) := by obtain ⟨_, h, hc, _⟩ := bytes_at hr1 (k := 0) (by omega); cases h; exact hc
      have hc_1 : w.cell? (ad.add 1) = some (.int .u8 x1) := by obtain ⟨_, h, hc, _⟩ := bytes_at hr1 (k := 1) (by omega); cases h; exact hc
      have hc_2 : w.cell? (ad.add 2) = some (.int .u8 x2) := by obtain ⟨_, h, hc, _⟩ := bytes_at hr1 (k := 2) (by omega); cases h; exact hc
      obtain ⟨b00, b01⟩ := hb x0 (by rw [hpre]; simp)
      obtain ⟨b10, b11⟩ := hb x1 (by rw [hpre]; simp)
      obtain ⟨b20, b21⟩ := hb x2 (by rw [hpre]; simp)
      have HP := Lib.hid hpre
      have HR := Lib.hid hr1
      obtain ⟨m, hm⟩ : ∃ m, m = rest.length := ⟨_, rfl⟩
      rw [← hm] at hc1 hrl ⊢
      have HM := Lib.hid hm
      have e0 : wo.cell? (ad.add 0) = some (.int .u8 x0) := (hbel.cell (by rw [add_block]; exact hblk)).trans hc_0
      have e1 : wo.cell? (ad.add 1) = some (.int .u8 x1) := (hbel.cell (by rw [add_block]; exact hblk)).trans hc_1
      have e2 : wo.cell? (ad.add 2) = some (.int .u8 x2) := (hbel.cell (by rw [add_block]; exact hblk)).trans hc_2
      have hsrc : ∀ (o : Obj) (j : Nat) (v : Value), ([.int .u8 x0, .int .u8 x1, .int .u8 x2] : List Value)[j]? = some v → (wo.alloc o).cell? (ad.add j) = some v := by
        intro o j v hj
        have hb2 : (ad.add j).block < wo.heap.size := by rw [add_block]; exact Nat.lt_of_lt_of_le hblk hbel.size
        rw [World.cell?_alloc_lt wo o _ hb2]
        match j, hj with
        | 0, hj => cases hj; exact e0
        | 1, hj => cases hj; exact e1
        | 2, hj => cases hj; exact e2
      have HS := Lib.hid hsrc
      have HMo := Lib.hid hmod3
      clear hpre hl3 hr1 hsrc hmod3 hc_0 e0 hc_1 e1 hc_2 e2 hm
      go_wp2_with (with_reducible refine wpList_copy_splice rfl (.tmp 16) (.tmp 17) 22 22 rfl 5 Tryd.underlying22 (by kernel_rfl) _ _ 3 3 (m + 3) c1 rfl rfl wo.heap.size 0 [.int .u8 0, .int .u8 0, .int .u8 0] 77 ?hg [.int .u8 x0, .int .u8 x1, .int .u8 x2] ?hn ?hpos ?hfit ?h1 wo.heap.size wo ?hbb ?hBg ?_)
      case hg => exact heap_alloc_new wo _
      case hn => show 3 = min (m + 3) 3; omega
      case hpos => first | exact fun j v hj => HS.out _ j v hj | exact fun _ => ⟨rfl, ad, rfl, fun j v hj => HS.out _ j v hj⟩
      case hfit => simp
      case h1 => intro v hv; simp at hv; rcases hv with rfl | rfl | rfl <;> rfl
      case hbb => exact (Below.refl _ _).alloc (Nat.le_refl _) _
      case hBg => exact Nat.le_refl _
      intro w2 HG hb2
      have q0 : w2.cell? ⟨wo.heap.size, 0, none⟩ = some (.int .u8 x0) := by rw [cell_of_row _ _ _ _ _ _ HG.out]; rfl
      have q1 : w2.cell? ⟨wo.heap.size, 1, none⟩ = some (.int .u8 x1) := by rw [cell_of_row _ _ _ _ _ _ HG.out]; rfl
      have q2 : w2.cell? ⟨wo.heap.size, 2, none⟩ = some (.int .u8 x2) := by rw [cell_of_row _ _ _ _ _ _ HG.out]; rfl
      have hBs := isBuilder_below hB hb2
      have hbels := hbel.trans (hb2.mono hbel.size)
      clear hB
      go_wp2_with fail
      rw [or3 x0 x1 x2 b00 b01 b10 b11 b20 b21]
      obtain ⟨u, hu⟩ : ∃ u, u = x0 * 65536 + x1 * 256 + x2 := ⟨_, rfl⟩
      rw [← hu]
      have hu0 : 0 ≤ u := by omega
      have hu1 : u < 16777216 := by omega
      have HU := Lib.hid hu
      clear hu HG hb2 HS hbel q0 q1 q2
      go_loopw [7, 32] (fun _ i wr => ∃ j : Int, 0 ≤ j ∧ j ≤ 4 ∧ i = .int .i64 j ∧ Lib.IsBuilder 76 5 w.heap.size w.heap.size (Lib.byteCells (encB pre ++ [sgn (u / 262144 % 64), sgn (u / 4096 % 64), sgn (u / 64 % 64), sgn (u % 64)].take j.toNat)) wr ∧ Below w.heap.size w wr) (fun _ i _ => (4 - intOf i).toNat)
      case atStart => exact ⟨0, by omega, by omega, rfl, by simpa using hBs, hbels⟩
      case round =>
        obtain ⟨j, hj0, hj1, rfl, hB2, hbel2⟩ := hrel
        clear hBs hbels
        rcases (show j = 0 ∨ j = 1 ∨ j = 2 ∨ j = 3 ∨ j = 4 by omega) with rfl | rfl | rfl | rfl | rfl
        · have a0 := and63 (u / 262144) (by omega) (by omega)
          go_wp2_with fail
          refine (Tryd.Builder_WriteByte w.heap.size w.heap.size _ _ wr hB2 ?_ hbel2.size).mono ?_
          · rw [byteCells_length, List.length_append]; simp; omega
          rintro e w3 ⟨rfl, hB3, hb3⟩
          have hbel3 := hbel2.trans hb3
          have hB4 := put1 (u := sgn (u / 262144 % 64)) hB3 (by rw [sgn_at _ (by omega) (by omega)])
          rw [List.append_assoc] at hB4
          clear hB3 hB2
          go_wp2_with fail
          go_roundw
          case rel => exact ⟨1, by omega, by omega, rfl, .inr hB4, hbel3⟩
          case measure => simp [intOf]
        · have a1 := and63 (u / 4096) (by omega) (by omega)
          go_wp2_with fail
          refine (Tryd.Builder_WriteByte w.heap.size w.heap.size _ _ wr hB2 ?_ hbel2.size).mono ?_
          · rw [byteCells_length, List.length_append]; simp; omega
          rintro e w3 ⟨rfl, hB3, hb3⟩
          have hbel3 := hbel2.trans hb3
          have hB4 := put1 (u := sgn (u / 4096 % 64)) hB3 (by rw [sgn_at _ (by omega) (by omega)])
          rw [List.append_assoc] at hB4
          clear hB3 hB2
          go_wp2_with fail
          go_roundw
          case rel => exact ⟨2, by omega, by omega, rfl, .inr hB4, hbel3⟩
          case measure => simp [intOf]
        · have a2 := and63 (u / 64) (by omega) (by omega)
          go_wp2_with fail
          refine (Tryd.Builder_WriteByte w.heap.size w.heap.size _ _ wr hB2 ?_ hbel2.size).mono ?_
          · rw [byteCells_length, List.length_append]; simp; omega
          rintro e w3 ⟨rfl, hB3, hb3⟩
          have hbel3 := hbel2.trans hb3
          have hB4 := put1 (u := sgn (u / 64 % 64)) hB3 (by rw [sgn_at _ (by omega) (by omega)])
          rw [List.append_assoc] at hB4
          clear hB3 hB2
          go_wp2_with fail
          go_roundw
          case rel => exact ⟨3, by omega, by omega, rfl, .inr hB4, hbel3⟩
          case measure => simp [intOf]
        · have a3 := and63 (u) (by omega) (by omega)
          go_wp2_with fail
          refine (Tryd.Builder_WriteByte w.heap.size w.heap.size _ _ wr hB2 ?_ hbel2.size).mono ?_
          · rw [byteCells_length, List.length_append]; simp; omega
          rintro e w3 ⟨rfl, hB3, hb3⟩
          have hbel3 := hbel2.trans hb3
          have hB4 := put1 (u := sgn (u % 64)) hB3 (by rw [sgn_at _ (by omega) (by omega)])
          rw [List.append_assoc] at hB4
          clear hB3 hB2
          go_wp2_with fail
          go_roundw
          case rel => exact ⟨4, by omega, by omega, rfl, .inr hB4, hbel3⟩
          case measure => simp [intOf]
        · go_wp2_with fail
          have em : (min 3 ((m : Int) + 3)).toNat = 3 := by omega
          try rw [em]
          have hen := enc3 x0 x1 x2 u b00 b01 b10 b11 b20 b21 HU.out
          rw [show (4 : Int).toNat = 4 from rfl, List.take_of_length_le (by simp), ← hen, ← encB_append _ _ HMo.out] at hB2
          have hcut := cut_C HR.out 3 (by omega) (by have := HM.out; omega : rest.length + 3 ≤ c1)
          simp only [Nat.add_sub_cancel, List.drop_succ_cons, List.drop_zero] at hcut
          refine ⟨⟨pre ++ [x0, x1, x2], rest, _, c1 - 3, by rw [HP.out]; simp, fun _ => ?_, by rw [Nat.add_sub_cancel, HM.out]; rfl, by have := HM.out; omega, hcut, hB2, hbel2⟩, ?_⟩
          · have := HMo.out; simp only [List.length_append, List.length_cons, List.length_nil]; omega
          · show m + 3 - 3 < m + 3; omega
    | [x0, x1], hpre, hmod, hc1, hr1 =>
      have hmod3 : pre.length % 3 = 0 := hmod (by simp)
      clear hmod
      have hl3 : ([x0, x1] : List Int).length = 2 := rfl
      rw [hl3] at hc1 hr1 ⊢
      have hrl : 2 ≤ 1000000000 := by
        have h2 : l.length = pre.length + (2) := by rw [hpre, List.length_append, hl3]
        omega
      obtain ⟨ad, rfl, _, hblk⟩ := bytes_at hr1 (k := 0) (by omega)
      have hc_0 : w.cell? (ad.add 0) = some (.int .u8 x0) := by obtain ⟨_, h, hc, _⟩ := bytes_at hr1 (k := 0) (by omega); cases h; exact hc
      have hc_1 : w.cell? (ad.add 1) = some (.int .u8 x1) := by obtain ⟨_, h, hc, _⟩ := bytes_at hr1 (k := 1) (by omega); cases h; exact hc
      obtain ⟨b00, b01⟩ := hb x0 (by rw [hpre]; simp)
      obtain ⟨b10, b11⟩ := hb x1 (by rw [hpre]; simp)
      have HP := Lib.hid hpre
      have HR := Lib.hid hr1
      have e0 : wo.cell? (ad.add 0) = some (.int .u8 x0) := (hbel.cell (by rw [add_block]; exact hblk)).trans hc_0
      have e1 : wo.cell? (ad.add 1) = some (.int .u8 x1) := (hbel.cell (by rw [add_block]; exact hblk)).trans hc_1
      have hsrc : ∀ (o : Obj) (j : Nat) (v : Value), ([.int .u8 x0, .int .u8 x1] : List Value)[j]? = some v → (wo.alloc o).cell? (ad.add j) = some v := by
        intro o j v hj
        have hb2 : (ad.add j).block < wo.heap.size := by rw [add_block]; exact Nat.lt_of_lt_of_le hblk hbel.size
        rw [World.cell?_alloc_lt wo o _ hb2]
        match j, hj with
        | 0, hj => cases hj; exact e0
        | 1, hj => cases hj; exact e1
      have HS := Lib.hid hsrc
      have HMo := Lib.hid hmod3
      clear hpre hl3 hr1 hsrc hmod3 hc_0 e0 hc_1 e1
      go_wp2_with (with_reducible refine wpList_copy_splice rfl (.tmp 16) (.tmp 17) 22 22 rfl 5 Tryd.underlying22 (by kernel_rfl) _ _ 3 3 (2) c1 rfl rfl wo.heap.size 0 [.int .u8 0, .int .u8 0, .int .u8 0] 77 ?hg [.int .u8 x0, .int .u8 x1] ?hn ?hpos ?hfit ?h1 wo.heap.size wo ?hbb ?hBg ?_)
      case hg => exact heap_alloc_new wo _
      case hn => show 2 = min (2) 3; omega
      case hpos => first | exact fun j v hj => HS.out _ j v hj | exact fun _ => ⟨rfl, ad, rfl, fun j v hj => HS.out _ j v hj⟩
      case hfit => simp
      case h1 => intro v hv; simp at hv; rcases hv with rfl | rfl <;> rfl
      case hbb => exact (Below.refl _ _).alloc (Nat.le_refl _) _
      case hBg => exact Nat.le_refl _
      intro w2 HG hb2
      have q0 : w2.cell? ⟨wo.heap.size, 0, none⟩ = some (.int .u8 x0) := by rw [cell_of_row _ _ _ _ _ _ HG.out]; rfl
      have q1 : w2.cell? ⟨wo.heap.size, 1, none⟩ = some (.int .u8 x1) := by rw [cell_of_row _ _ _ _ _ _ HG.out]; rfl
      have q2 : w2.cell? ⟨wo.heap.size, 2, none⟩ = some (.int .u8 0) := by rw [cell_of_row _ _ _ _ _ _ HG.out]; rfl
      have hBs := isBuilder_below hB hb2
      have hbels := hbel.trans (hb2.mono hbel.size)
      clear hB
      go_wp2_with fail
      rw [or2 x0 x1 b00 b01 b10 b11]
      obtain ⟨u, hu⟩ : ∃ u, u = x0 * 65536 + x1 * 256 := ⟨_, rfl⟩
      rw [← hu]
      have hu0 : 0 ≤ u := by omega
      have hu1 : u < 16777216 := by omega
      have HU := Lib.hid hu
      clear hu HG hb2 HS hbel q0 q1 q2
      go_loopw [7, 32] (fun _ i wr => ∃ j : Int, 0 ≤ j ∧ j ≤ 4 ∧ i = .int .i64 j ∧ Lib.IsBuilder 76 5 w.heap.size w.heap.size (Lib.byteCells (encB pre ++ [sgn (u / 262144 % 64), sgn (u / 4096 % 64), sgn (u / 64 % 64), 61].take j.toNat)) wr ∧ Below w.heap.size w wr) (fun _ i _ => (4 - intOf i).toNat)
      case atStart => exact ⟨0, by omega, by omega, rfl, by simpa using hBs, hbels⟩
      case round =>
        obtain ⟨j, hj0, hj1, rfl, hB2, hbel2⟩ := hrel
        clear hBs hbels
        rcases (show j = 0 ∨ j = 1 ∨ j = 2 ∨ j = 3 ∨ j = 4 by omega) with rfl | rfl | rfl | rfl | rfl
        · have a0 := and63 (u / 262144) (by omega) (by omega)
          go_wp2_with fail
          refine (Tryd.Builder_WriteByte w.heap.size w.heap.size _ _ wr hB2 ?_ hbel2.size).mono ?_
          · rw [byteCells_length, List.length_append]; simp; omega
          rintro e w3 ⟨rfl, hB3, hb3⟩
          have hbel3 := hbel2.trans hb3
          have hB4 := put1 (u := sgn (u / 262144 % 64)) hB3 (by rw [sgn_at _ (by omega) (by omega)])
          rw [List.append_assoc] at hB4
          clear hB3 hB2
          go_wp2_with fail
          go_roundw
          case rel => exact ⟨1, by omega, by omega, rfl, .inr hB4, hbel3⟩
          case measure => simp [intOf]
        · have a1 := and63 (u / 4096) (by omega) (by omega)
          go_wp2_with fail
          refine (Tryd.Builder_WriteByte w.heap.size w.heap.size _ _ wr hB2 ?_ hbel2.size).mono ?_
          · rw [byteCells_length, List.length_append]; simp; omega
          rintro e w3 ⟨rfl, hB3, hb3⟩
          have hbel3 := hbel2.trans hb3
          have hB4 := put1 (u := sgn (u / 4096 % 64)) hB3 (by rw [sgn_at _ (by omega) (by omega)])
          rw [List.append_assoc] at hB4
          clear hB3 hB2
          go_wp2_with fail
          go_roundw
          case rel => exact ⟨2, by omega, by omega, rfl, .inr hB4, hbel3⟩
          case measure => simp [intOf]
        · have a2 := and63 (u / 64) (by omega) (by omega)
          go_wp2_with fail
          refine (Tryd.Builder_WriteByte w.heap.size w.heap.size _ _ wr hB2 ?_ hbel2.size).mono ?_
          · rw [byteCells_length, List.length_append]; simp; omega
          rintro e w3 ⟨rfl, hB3, hb3⟩
          have hbel3 := hbel2.trans hb3
          have hB4 := put1 (u := sgn (u / 64 % 64)) hB3 (by rw [sgn_at _ (by omega) (by omega)])
          rw [List.append_assoc] at hB4
          clear hB3 hB2
          go_wp2_with fail
          go_roundw
          case rel => exact ⟨3, by omega, by omega, rfl, .inr hB4, hbel3⟩
          case measure => simp [intOf]
        · have a3 := and63 (u) (by omega) (by omega)
          go_wp2_with fail
          refine (Tryd.Builder_WriteByte w.heap.size w.heap.size _ _ wr hB2 ?_ hbel2.size).mono ?_
          · rw [byteCells_length, List.length_append]; simp; omega
          rintro e w3 ⟨rfl, hB3, hb3⟩
          have hbel3 := hbel2.trans hb3
          have hB4 := put1 (u := 61) hB3 (by rfl)
          rw [List.append_assoc] at hB4
          clear hB3 hB2
          go_wp2_with fail
          go_roundw
          case rel => exact ⟨4, by omega, by omega, rfl, .inr hB4, hbel3⟩
          case measure => simp [intOf]
        · go_wp2_with fail
          have em : (min 3 (2 : Int)).toNat = 2 := by omega
          try rw [em]
          have hen := enc2 x0 x1 u b00 b01 b10 b11 HU.out
          rw [show (4 : Int).toNat = 4 from rfl, List.take_of_length_le (by simp), ← hen, ← encB_append _ _ HMo.out] at hB2
          have hcut := cut_C HR.out 2 (by omega) hc1
          simp only [Nat.sub_self, List.drop_succ_cons, List.drop_zero] at hcut
          refine ⟨⟨pre ++ [x0, x1], [], _, _, by rw [HP.out]; simp, fun h => absurd rfl h, rfl, by simp, hcut, hB2, hbel2⟩, ?_⟩
          show 0 < 2; omega
    | [x0], hpre, hmod, hc1, hr1 =>
      have hmod3 : pre.length % 3 = 0 := hmod (by simp)
      clear hmod
      have hl3 : ([x0] : List Int).length = 1 := rfl
      rw [hl3] at hc1 hr1 ⊢
      have hrl : 1 ≤ 1000000000 := by
        have h2 : l.length = pre.length + (1) := by rw [hpre, List.length_append, hl3]
        omega
      obtain ⟨ad, rfl, _, hblk⟩ := bytes_at hr1 (k := 0) (by omega)
      have hc_0 : w.cell? (ad.add 0) = some (.int .u8 x0) := by obtain ⟨_, h, hc, _⟩ := bytes_at hr1 (k := 0) (by omega); cases h; exact hc
      obtain ⟨b00, b01⟩ := hb x0 (by rw [hpre]; simp)
      have HP := Lib.hid hpre
      have HR := Lib.hid hr1
      have e0 : wo.cell? (ad.add 0) = some (.int .u8 x0) := (hbel.cell (by rw [add_block]; exact hblk)).trans hc_0
      have hsrc : ∀ (o : Obj) (j : Nat) (v : Value), ([.int .u8 x0] : List Value)[j]? = some v → (wo.alloc o).cell? (ad.add j) = some v := by
        intro o j v hj
        have hb2 : (ad.add j).block < wo.heap.size := by rw [add_block]; exact Nat.lt_of_lt_of_le hblk hbel.size
        rw [World.cell?_alloc_lt wo o _ hb2]
        match j, hj with
        | 0, hj => cases hj; exact e0
      have HS := Lib.hid hsrc
      have HMo := Lib.hid hmod3
      clear hpre hl3 hr1 hsrc hmod3 hc_0 e0
      go_wp2_with (with_reducible refine wpList_copy_splice rfl (.tmp 16) (.tmp 17) 22 22 rfl 5 Tryd.underlying22 (by kernel_rfl) _ _ 3 3 (1) c1 rfl rfl wo.heap.size 0 [.int .u8 0, .int .u8 0, .int .u8 0] 77 ?hg [.int .u8 x0] ?hn ?hpos ?hfit ?h1 wo.heap.size wo ?hbb ?hBg ?_)
      case hg => exact heap_alloc_new wo _
      case hn => show 1 = min (1) 3; omega
      case hpos => first | exact fun j v hj => HS.out _ j v hj | exact fun _ => ⟨rfl, ad, rfl, fun j v hj => HS.out _ j v hj⟩
      case hfit => simp
      case h1 => intro v hv; simp at hv; subst hv; rfl
      case hbb => exact (Below.refl _ _).alloc (Nat.le_refl _) _
      case hBg => exact Nat.le_refl _
      intro w2 HG hb2
      have q0 : w2.cell? ⟨wo.heap.size, 0, none⟩ = some (.int .u8 x0) := by rw [cell_of_row _ _ _ _ _ _ HG.out]; rfl
      have q1 : w2.cell? ⟨wo.heap.size, 1, none⟩ = some (.int .u8 0) := by rw [cell_of_row _ _ _ _ _ _ HG.out]; rfl
      have q2 : w2.cell? ⟨wo.heap.size, 2, none⟩ = some (.int .u8 0) := by rw [cell_of_row _ _ _ _ _ _ HG.out]; rfl
      have hBs := isBuilder_below hB hb2
      have hbels := hbel.trans (hb2.mono hbel.size)
      clear hB
      go_wp2_with fail
      rw [or1 x0 b00 b01]
      obtain ⟨u, hu⟩ : ∃ u, u = x0 * 65536 := ⟨_, rfl⟩
      rw [← hu]
      have hu0 : 0 ≤ u := by omega
      have hu1 : u < 16777216 := by omega
      have HU := Lib.hid hu
      clear hu HG hb2 HS hbel q0 q1 q2
      go_loopw [7, 32] (fun _ i wr => ∃ j : Int, 0 ≤ j ∧ j ≤ 4 ∧ i = .int .i64 j ∧ Lib.IsBuilder 76 5 w.heap.size w.heap.size (Lib.byteCells (encB pre ++ [sgn (u / 262144 % 64), sgn (u / 4096 % 64), 61, 61].take j.toNat)) wr ∧ Below w.heap.size w wr) (fun _ i _ => (4 - intOf i).toNat)
      case atStart => exact ⟨0, by omega, by omega, rfl, by simpa using hBs, hbels⟩
      case round =>
        obtain ⟨j, hj0, hj1, rfl, hB2, hbel2⟩ := hrel
        clear hBs hbels
        rcases (show j = 0 ∨ j = 1 ∨ j = 2 ∨ j = 3 ∨ j = 4 by omega) with rfl | rfl | rfl | rfl | rfl
        · have a0 := and63 (u / 262144) (by omega) (by omega)
          go_wp2_with fail
          refine (Tryd.Builder_WriteByte w.heap.size w.heap.size _ _ wr hB2 ?_ hbel2.size).mono ?_
          · rw [byteCells_length, List.length_append]; simp; omega
          rintro e w3 ⟨rfl, hB3, hb3⟩
          have hbel3 := hbel2.trans hb3
          have hB4 := put1 (u := sgn (u / 262144 % 64)) hB3 (by rw [sgn_at _ (by omega) (by omega)])
          rw [List.append_assoc] at hB4
          clear hB3 hB2
          go_wp2_with fail
          go_roundw
          case rel => exact ⟨1, by omega, by omega, rfl, .inr hB4, hbel3⟩
          case measure => simp [intOf]
        · have a1 := and63 (u / 4096) (by omega) (by omega)
          go_wp2_with fail
          refine (Tryd.Builder_WriteByte w.heap.size w.heap.size _ _ wr hB2 ?_ hbel2.size).mono ?_
          · rw [byteCells_length, List.length_append]; simp; omega
          rintro e w3 ⟨rfl, hB3, hb3⟩
          have hbel3 := hbel2.trans hb3
          have hB4 := put1 (u := sgn (u / 4096 % 64)) hB3 (by rw [sgn_at _ (by omega) (by omega)])
          rw [List.append_assoc] at hB4
          clear hB3 hB2
          go_wp2_with fail
          go_roundw
          case rel => exact ⟨2, by omega, by omega, rfl, .inr hB4, hbel3⟩
          case measure => simp [intOf]
        · have a2 := and63 (u / 64) (by omega) (by omega)
          go_wp2_with fail
          refine (Tryd.Builder_WriteByte w.heap.size w.heap.size _ _ wr hB2 ?_ hbel2.size).mono ?_
          · rw [byteCells_length, List.length_append]; simp; omega
          rintro e w3 ⟨rfl, hB3, hb3⟩
          have hbel3 := hbel2.trans hb3
          have hB4 := put1 (u := 61) hB3 (by rfl)
          rw [List.append_assoc] at hB4
          clear hB3 hB2
          go_wp2_with fail
          go_roundw
          case rel => exact ⟨3, by omega, by omega, rfl, .inr hB4, hbel3⟩
          case measure => simp [intOf]
        · have a3 := and63 (u) (by omega) (by omega)
          go_wp2_with fail
          refine (Tryd.Builder_WriteByte w.heap.size w.heap.size _ _ wr hB2 ?_ hbel2.size).mono ?_
          · rw [byteCells_length, List.length_append]; simp; omega
          rintro e w3 ⟨rfl, hB3, hb3⟩
          have hbel3 := hbel2.trans hb3
          have hB4 := put1 (u := 61) hB3 (by rfl)
          rw [List.append_assoc] at hB4
          clear hB3 hB2
          go_wp2_with fail
          go_roundw
          case rel => exact ⟨4, by omega, by omega, rfl, .inr hB4, hbel3⟩
          case measure => simp [intOf]
        · go_wp2_with fail
          have em : (min 3 (1 : Int)).toNat = 1 := by omega
          try rw [em]
          have hen := enc1 x0 u b00 b01 HU.out
          rw [show (4 : Int).toNat = 4 from rfl, List.take_of_length_le (by simp), ← hen, ← encB_append _ _ HMo.out] at hB2
          have hcut := cut_C HR.out 1 (by omega) hc1
          simp only [Nat.sub_self, List.drop_succ_cons, List.drop_zero] at hcut
          refine ⟨⟨pre ++ [x0], [], _, _, by rw [HP.out]; simp, fun h => absurd rfl h, rfl, by simp, hcut, hB2, hbel2⟩, ?_⟩
          show 0 < 1; omega
end Go.Proofs.YtmmgdngnffoflaaDoor
