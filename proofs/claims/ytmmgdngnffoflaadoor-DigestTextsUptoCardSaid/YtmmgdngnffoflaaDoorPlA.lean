import Derived.Test.YtmmgdngnffoflaaDoorRfA
import Derived.Test.YtmmgdngnffoflaaDoorRfH
import Derived.Test.YtmmgdngnffoflaaDoorDpA
import Derived.Test.YtmmgdngnffoflaaDoorHxA
/-
  The plain laws of the document's Hex, Encode and Decode: they are hexB, encB and decF.
-/
namespace Go.Proofs.YtmmgdngnffoflaaDoor
open Go.RowKit Go.Proofs.YtmmgdngnffoflaaDoorW.PrintWords Go.Proofs.YtmmgdngnffoflaaDoorW.PrintMore Go.Proofs.YtmmgdngnffoflaaDoor.PDigestTexts

def u8s (l : List UInt8) : List Int := l.map fun b => (b.toNat : Int)
theorem u8s_append (a b : List UInt8) : u8s (a ++ b) = u8s a ++ u8s b := List.map_append
theorem u8s_length (l : List UInt8) : (u8s l).length = l.length := List.length_map _
theorem str_u8s (l : List UInt8) : strOfNums (u8s l) = ⟨l.toArray⟩ := by
  unfold strOfNums u8s
  rw [List.map_map]
  congr 2
  conv => rhs; rw [← List.map_id l]
  apply List.map_congr_left
  intro b _
  simp
theorem w64 {n : Int} (h0 : 0 ≤ n) (h1 : n ≤ 1000000000000) : wrap64 n = n := by unfold wrap64; omega
theorem rd_pre (p : List Int) (x : Int) (r : List Int) : rd (p ++ x :: r) (p.length : Int) = x := by
  unfold rd
  rw [Int.toNat_natCast, List.getD_eq_getElem?_getD, List.getElem?_append_right (Nat.le_refl _), Nat.sub_self]; rfl
theorem bt_hex (y : Int) (h0 : 0 ≤ y) (h1 : y < 16) : bt (⟨#[48, 49, 50, 51, 52, 53, 54, 55, 56, 57, 97, 98, 99, 100, 101, 102]⟩ : ByteArray) y = ((hexd y).toNat : Int) := by
  have hp : y.toNat < (⟨#[48, 49, 50, 51, 52, 53, 54, 55, 56, 57, 97, 98, 99, 100, 101, 102]⟩ : ByteArray).size := by show y.toNat < 16; omega
  rw [← bt_at _ y hp, hexd_at y h0 h1 hp]
theorem bt_sgn (y : Int) (h0 : 0 ≤ y) (h1 : y < 64) : bt (⟨#[65, 66, 67, 68, 69, 70, 71, 72, 73, 74, 75, 76, 77, 78, 79, 80, 81, 82, 83, 84, 85, 86, 87, 88, 89, 90, 97, 98, 99, 100, 101, 102, 103, 104, 105, 106, 107, 108, 109, 110, 111, 112, 113, 114, 115, 116, 117, 118, 119, 120, 121, 122, 48, 49, 50, 51, 52, 53, 54, 55, 56, 57, 43, 47]⟩ : ByteArray) y = ((sgn y).toNat : Int) := by
  have hp : y.toNat < (⟨#[65, 66, 67, 68, 69, 70, 71, 72, 73, 74, 75, 76, 77, 78, 79, 80, 81, 82, 83, 84, 85, 86, 87, 88, 89, 90, 97, 98, 99, 100, 101, 102, 103, 104, 105, 106, 107, 108, 109, 110, 111, 112, 113, 114, 115, 116, 117, 118, 119, 120, 121, 122, 48, 49, 50, 51, 52, 53, 54, 55, 56, 57, 43, 47]⟩ : ByteArray).size := by show y.toNat < 64; omega
  rw [← bt_at _ y hp, sgn_at y h0 h1 hp]
theorem hex_l0 (r : List Int) : ∀ (p : List Int), Bytes r → (p ++ r).length ≤ 10000000 → blotterref10_Hex.l0 (r.length + 1) (p ++ r) (u8s (hexB p)) (p.length : Int) = some ⟨(hexB (p ++ r)).toArray⟩ := by
  induction r with
  | nil =>
    intro p _ _
    rw [List.append_nil, blotterref10_Hex.l0, if_neg (by omega), str_u8s]
  | cons x r ih =>
    intro p hb hl
    obtain ⟨hx, hb⟩ := bytes_tail hb
    have hl' : p.length + (r.length + 1) ≤ 10000000 := by simpa using hl
    have e1 : x.tdiv 16 % 256 = x / 16 := by rw [Int.tdiv_eq_ediv_of_nonneg hx.1]; omega
    have e2 : x.tmod 16 = x % 16 := Int.tmod_eq_emod_of_nonneg hx.1
    rw [List.length_cons, blotterref10_Hex.l0, if_pos (by simp; omega), if_pos (by omega), rd_pre, e1, e2, if_pos (by omega), if_pos (by omega), if_pos (by omega), if_pos (by omega), Option.bind_some]
    rw [if_pos (by rw [u8s_length, hexB_length]; simp only [List.length_cons, List.length_nil]; omega)]
    rw [bt_hex _ (by omega) (by omega), bt_hex _ (by omega) (by omega), w64 (by omega) (by omega)]
    have h := ih (p ++ [x]) hb (by simpa using hl)
    have e3 : u8s (hexB (p ++ [x])) = u8s (hexB p) ++ [((hexd (x / 16)).toNat : Int), ((hexd (x % 16)).toNat : Int)] := by rw [hexB_append, u8s_append]; rfl
    rw [e3, List.append_assoc, List.length_append] at h
    exact h
theorem hex_f (l : List Int) (h : Bytes l) (hl : l.length ≤ 10000000) : blotterref10_Hex.f (l.length + 1) l = some ⟨(hexB l).toArray⟩ := hex_l0 l [] h hl

/-- One bit goes over, no sign is full. -/
theorem bitE {x0 out : List Int} {h n i j h' : Int} {x : Int} {r : ByteArray} (hi0 : 0 ≤ i) (hi : i < x0.length) (hx : rd x0 i = x) (hx0 : 0 ≤ x) (hx1 : x ≤ 255) (hj0 : 0 ≤ j) (hj1 : j ≤ 7) (hh0 : 0 ≤ h) (hh1 : h < 64) (hn0 : 0 ≤ n) (hn1 : n < 5) (he : h' = h * 2 + x / 2 ^ j.toNat % 2)
    (H : ∃ k, blotterref10_Encode.l1 k x0 out h' (n + 1) i (j - 1) = some r) : ∃ k, blotterref10_Encode.l1 k x0 out h n i j = some r := by
  obtain ⟨k, H⟩ := H
  refine ⟨k + 1, ?_⟩
  have e1 : shr .u8 x j = x / 2 ^ j.toNat := by unfold shr; rw [Nat.min_eq_left (by show j.toNat ≤ 8; omega)]
  have hq0 : 0 ≤ x / 2 ^ j.toNat := Int.ediv_nonneg hx0 (by exact Int.le_of_lt (Int.pow_pos (by omega)))
  have hq1 : x / 2 ^ j.toNat ≤ x := Int.ediv_le_self _ hx0
  have e2 : wrap64 (x / 2 ^ j.toNat) = x / 2 ^ j.toNat := w64 hq0 (by omega)
  have e3 : (x / 2 ^ j.toNat).tmod 2 = x / 2 ^ j.toNat % 2 := Int.tmod_eq_emod_of_nonneg hq0
  rw [blotterref10_Encode.l1, if_pos hj0, if_pos hi0, if_pos hi, if_pos hj0, hx, e1, e2, e3, w64 (by omega) (by omega), if_neg (by omega), w64 (n := h * 2) (by omega) (by omega), w64 (n := h * 2 + _) (by omega) (by omega), ← he]
  have e4 : wrap64 (j - 1) = j - 1 := by unfold wrap64; omega
  rw [e4]
  exact H
/-- One bit goes over, and a sign is full. -/
theorem bitF {x0 out : List Int} {h i j h' : Int} {x : Int} {r : ByteArray} (hi0 : 0 ≤ i) (hi : i < x0.length) (hx : rd x0 i = x) (hx0 : 0 ≤ x) (hx1 : x ≤ 255) (hj0 : 0 ≤ j) (hj1 : j ≤ 7) (hh0 : 0 ≤ h) (hh1 : h < 32) (he : h' = h * 2 + x / 2 ^ j.toNat % 2) (hl : out.length < 140737488355328)
    (H : ∃ k, blotterref10_Encode.l1 k x0 (out ++ [((sgn h').toNat : Int)]) 0 0 i (j - 1) = some r) : ∃ k, blotterref10_Encode.l1 k x0 out h 5 i j = some r := by
  obtain ⟨k, H⟩ := H
  refine ⟨k + 1, ?_⟩
  have e1 : shr .u8 x j = x / 2 ^ j.toNat := by unfold shr; rw [Nat.min_eq_left (by show j.toNat ≤ 8; omega)]
  have hq0 : 0 ≤ x / 2 ^ j.toNat := Int.ediv_nonneg hx0 (by exact Int.le_of_lt (Int.pow_pos (by omega)))
  have hq1 : x / 2 ^ j.toNat ≤ x := Int.ediv_le_self _ hx0
  have e2 : wrap64 (x / 2 ^ j.toNat) = x / 2 ^ j.toNat := w64 hq0 (by omega)
  have e3 : (x / 2 ^ j.toNat).tmod 2 = x / 2 ^ j.toNat % 2 := Int.tmod_eq_emod_of_nonneg hq0
  rw [blotterref10_Encode.l1, if_pos hj0, if_pos hi0, if_pos hi, if_pos hj0, hx, e1, e2, e3, w64 (by omega) (by omega), if_pos (by omega), w64 (n := h * 2) (by omega) (by omega), w64 (n := h * 2 + _) (by omega) (by omega), ← he, if_pos (by omega), if_pos (by omega), if_pos hl]
  have e4 : wrap64 (j - 1) = j - 1 := by unfold wrap64; omega
  rw [e4, bt_sgn _ (by omega) (by omega)]
  exact H
theorem bitEnd {x0 out : List Int} {h n i : Int} {r : ByteArray} (hi0 : 0 ≤ i) (hi : i ≤ 100000000) (H : ∃ k, blotterref10_Encode.l0 k x0 out h n (i + 1) = some r) : ∃ k, blotterref10_Encode.l1 k x0 out h n i (-1) = some r := by
  obtain ⟨k, H⟩ := H
  refine ⟨k + 1, ?_⟩
  rw [blotterref10_Encode.l1, if_neg (by omega), w64 (by omega) (by omega)]
  exact H
theorem byteIn {x0 out : List Int} {h n i : Int} {r : ByteArray} (hi : i < x0.length) (H : ∃ k, blotterref10_Encode.l1 k x0 out h n i 7 = some r) : ∃ k, blotterref10_Encode.l0 k x0 out h n i = some r := by
  obtain ⟨k, H⟩ := H
  exact ⟨k + 1, by rw [blotterref10_Encode.l0, if_pos hi]; exact H⟩
theorem byte0 {x0 out : List Int} {a i : Int} {x : Int} {r : ByteArray} (hi0 : 0 ≤ i) (hi : i < x0.length) (hi9 : i ≤ 100000000) (hx : rd x0 i = x) (hx0 : 0 ≤ x) (hx1 : x ≤ 255) (ha0 : 0 ≤ a) (ha1 : a ≤ 0) (hl : out.length < 140737488355300)
    (H : ∃ k, blotterref10_Encode.l0 k x0 (out ++ [((sgn (x / 4)).toNat : Int)]) (x % 4) 2 (i + 1) = some r) : ∃ k, blotterref10_Encode.l0 k x0 out a 0 i = some r := by
  refine byteIn hi ?_
  refine bitE (h' := x / 128) hi0 hi hx hx0 hx1 (by decide) (by decide) (by omega) (by omega) (by decide) (by decide) (by first | omega | (simp; omega)) ?_
  refine bitE (h' := x / 64) hi0 hi hx hx0 hx1 (by decide) (by decide) (by omega) (by omega) (by decide) (by decide) (by first | omega | (simp; omega)) ?_
  refine bitE (h' := x / 32) hi0 hi hx hx0 hx1 (by decide) (by decide) (by omega) (by omega) (by decide) (by decide) (by first | omega | (simp; omega)) ?_
  refine bitE (h' := x / 16) hi0 hi hx hx0 hx1 (by decide) (by decide) (by omega) (by omega) (by decide) (by decide) (by first | omega | (simp; omega)) ?_
  refine bitE (h' := x / 8) hi0 hi hx hx0 hx1 (by decide) (by decide) (by omega) (by omega) (by decide) (by decide) (by first | omega | (simp; omega)) ?_
  refine bitF (h' := x / 4) hi0 hi hx hx0 hx1 (by decide) (by decide) (by omega) (by omega) (by first | omega | (simp; omega)) (by first | omega | (simp; omega)) ?_
  refine bitE (h' := x % 4 / 2) hi0 hi hx hx0 hx1 (by decide) (by decide) (by omega) (by omega) (by decide) (by decide) (by first | omega | (simp; omega)) ?_
  refine bitE (h' := x % 4) hi0 hi hx hx0 hx1 (by decide) (by decide) (by omega) (by omega) (by decide) (by decide) (by first | omega | (simp; omega)) ?_
  refine bitEnd hi0 hi9 ?_
  simpa [List.append_assoc] using H
theorem byte2 {x0 out : List Int} {a i : Int} {x : Int} {r : ByteArray} (hi0 : 0 ≤ i) (hi : i < x0.length) (hi9 : i ≤ 100000000) (hx : rd x0 i = x) (hx0 : 0 ≤ x) (hx1 : x ≤ 255) (ha0 : 0 ≤ a) (ha1 : a ≤ 3) (hl : out.length < 140737488355300)
    (H : ∃ k, blotterref10_Encode.l0 k x0 (out ++ [((sgn (a * 16 + x / 16)).toNat : Int)]) (x % 16) 4 (i + 1) = some r) : ∃ k, blotterref10_Encode.l0 k x0 out a 2 i = some r := by
  refine byteIn hi ?_
  refine bitE (h' := a * 2 + x / 128) hi0 hi hx hx0 hx1 (by decide) (by decide) (by omega) (by omega) (by decide) (by decide) (by first | omega | (simp; omega)) ?_
  refine bitE (h' := a * 4 + x / 64) hi0 hi hx hx0 hx1 (by decide) (by decide) (by omega) (by omega) (by decide) (by decide) (by first | omega | (simp; omega)) ?_
  refine bitE (h' := a * 8 + x / 32) hi0 hi hx hx0 hx1 (by decide) (by decide) (by omega) (by omega) (by decide) (by decide) (by first | omega | (simp; omega)) ?_
  refine bitF (h' := a * 16 + x / 16) hi0 hi hx hx0 hx1 (by decide) (by decide) (by omega) (by omega) (by first | omega | (simp; omega)) (by first | omega | (simp; omega)) ?_
  refine bitE (h' := x % 16 / 8) hi0 hi hx hx0 hx1 (by decide) (by decide) (by omega) (by omega) (by decide) (by decide) (by first | omega | (simp; omega)) ?_
  refine bitE (h' := x % 16 / 4) hi0 hi hx hx0 hx1 (by decide) (by decide) (by omega) (by omega) (by decide) (by decide) (by first | omega | (simp; omega)) ?_
  refine bitE (h' := x % 16 / 2) hi0 hi hx hx0 hx1 (by decide) (by decide) (by omega) (by omega) (by decide) (by decide) (by first | omega | (simp; omega)) ?_
  refine bitE (h' := x % 16) hi0 hi hx hx0 hx1 (by decide) (by decide) (by omega) (by omega) (by decide) (by decide) (by first | omega | (simp; omega)) ?_
  refine bitEnd hi0 hi9 ?_
  simpa [List.append_assoc] using H
theorem byte4 {x0 out : List Int} {a i : Int} {x : Int} {r : ByteArray} (hi0 : 0 ≤ i) (hi : i < x0.length) (hi9 : i ≤ 100000000) (hx : rd x0 i = x) (hx0 : 0 ≤ x) (hx1 : x ≤ 255) (ha0 : 0 ≤ a) (ha1 : a ≤ 15) (hl : out.length < 140737488355300)
    (H : ∃ k, blotterref10_Encode.l0 k x0 (out ++ [((sgn (a * 4 + x / 64)).toNat : Int), ((sgn (x % 64)).toNat : Int)]) (0) 0 (i + 1) = some r) : ∃ k, blotterref10_Encode.l0 k x0 out a 4 i = some r := by
  refine byteIn hi ?_
  refine bitE (h' := a * 2 + x / 128) hi0 hi hx hx0 hx1 (by decide) (by decide) (by omega) (by omega) (by decide) (by decide) (by first | omega | (simp; omega)) ?_
  refine bitF (h' := a * 4 + x / 64) hi0 hi hx hx0 hx1 (by decide) (by decide) (by omega) (by omega) (by first | omega | (simp; omega)) (by first | omega | (simp; omega)) ?_
  refine bitE (h' := x % 64 / 32) hi0 hi hx hx0 hx1 (by decide) (by decide) (by omega) (by omega) (by decide) (by decide) (by first | omega | (simp; omega)) ?_
  refine bitE (h' := x % 64 / 16) hi0 hi hx hx0 hx1 (by decide) (by decide) (by omega) (by omega) (by decide) (by decide) (by first | omega | (simp; omega)) ?_
  refine bitE (h' := x % 64 / 8) hi0 hi hx hx0 hx1 (by decide) (by decide) (by omega) (by omega) (by decide) (by decide) (by first | omega | (simp; omega)) ?_
  refine bitE (h' := x % 64 / 4) hi0 hi hx hx0 hx1 (by decide) (by decide) (by omega) (by omega) (by decide) (by decide) (by first | omega | (simp; omega)) ?_
  refine bitE (h' := x % 64 / 2) hi0 hi hx hx0 hx1 (by decide) (by decide) (by omega) (by omega) (by decide) (by decide) (by first | omega | (simp; omega)) ?_
  refine bitF (h' := x % 64) hi0 hi hx hx0 hx1 (by decide) (by decide) (by omega) (by omega) (by first | omega | (simp; omega)) (by first | omega | (simp; omega)) ?_
  refine bitEnd hi0 hi9 ?_
  simpa [List.append_assoc] using H
end Go.Proofs.YtmmgdngnffoflaaDoor
