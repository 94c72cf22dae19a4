import Derived.Test.YthpngienphnaoaaDoorPRunesLinesx2
import Derived.Test.YthpngienphnaoaaDoorU0
/-
  The plain law of the document's read: the runes of bytes.
-/
namespace Go.Proofs.YthpngienphnaoaaDoor.PRunesLines
open Go.RowKit Go.Proofs.YthpngienphnaoaaDoorW.PrintWords Go.Proofs.YthpngienphnaoaaDoorW.PrintLast Go.Proofs.YthpngienphnaoaaDoorW.PrintMore Go.Proofs.YthpngienphnaoaaDoor

theorem w64 {n : Int} (h0 : -1000000000000 ≤ n) (h1 : n ≤ 1000000000000) : wrap64 n = n := by unfold wrap64; omega
abbrev Bad : Option (List Int × Bool) := some (([] : List Int), false)
theorem cOk {x0 : ByteArray} {acc : List Int} {i x6 x7 x8 x9 b : Int} {R : List Int × Bool} (h9 : x9 ≤ x7) (hi0 : 0 ≤ i) (h90 : 0 ≤ x9) (h7 : x7 ≤ 3) (hi : i + x9 < x0.size) (hs : i ≤ 100000000) (hb : bt x0 (i + x9) = b) (b0 : 128 ≤ b) (b1 : b ≤ 191) (h60 : 0 ≤ x6) (h61 : x6 ≤ 1000000)
    (H : ∃ k, blotterref01_read.l1 k x0 acc i (x6 * 64 + b - 128) x7 x8 (x9 + 1) = some R) : ∃ k, blotterref01_read.l1 k x0 acc i x6 x7 x8 x9 = some R := by
  obtain ⟨k, H⟩ := H
  refine ⟨k + 1, ?_⟩
  rw [blotterref01_read.l1, if_pos h9, w64 (n := i + x9) (by omega) (by omega), if_pos (by omega), if_pos hi, hb, w64 (n := b) (by omega) (by omega), if_neg (by omega), if_neg (by omega), w64 (n := x6 * 64) (by omega) (by omega), w64 (n := x6 * 64 + b) (by omega) (by omega), w64 (n := x6 * 64 + b - 128) (by omega) (by omega), w64 (n := x9 + 1) (by omega) (by omega)]
  exact H
theorem cBad {x0 : ByteArray} {acc : List Int} {i x6 x7 x8 x9 b : Int} (h9 : x9 ≤ x7) (hi0 : 0 ≤ i) (h90 : 0 ≤ x9) (h7 : x7 ≤ 3) (hi : i + x9 < x0.size) (hs : i ≤ 100000000) (hb : bt x0 (i + x9) = b) (b0 : 0 ≤ b ∧ b ≤ 255) (b1 : ¬ (128 ≤ b ∧ b ≤ 191)) :
    ∃ k, blotterref01_read.l1 k x0 acc i x6 x7 x8 x9 = Bad := by
  refine ⟨1, ?_⟩
  rw [blotterref01_read.l1, if_pos h9, w64 (n := i + x9) (by omega) (by omega), if_pos (by omega), if_pos hi, hb, w64 (n := b) (by omega) (by omega)]
  by_cases h : b < 128
  · rw [if_pos h]
  · rw [if_neg h, if_pos (by omega)]
theorem eOk {x0 : ByteArray} {acc : List Int} {i x6 x7 x8 x9 : Int} {R : List Int × Bool} (h9 : x7 < x9) (hi0 : 0 ≤ i) (hs : i ≤ 100000000) (h7 : 0 ≤ x7 ∧ x7 ≤ 3) (h6 : x8 ≤ x6) (h61 : ¬ (55296 ≤ x6 ∧ x6 ≤ 57343)) (h62 : x6 ≤ 1114111) (hl : acc.length < 17592186044416)
    (H : ∃ k, blotterref01_read.l0 k x0 (acc ++ [x6]) (i + x7 + 1) = some R) : ∃ k, blotterref01_read.l1 k x0 acc i x6 x7 x8 x9 = some R := by
  obtain ⟨k, H⟩ := H
  refine ⟨k + 1, ?_⟩
  rw [blotterref01_read.l1, if_neg (by omega), if_neg (by omega), w64 (n := i + x7) (by omega) (by omega), w64 (n := i + x7 + 1) (by omega) (by omega)]
  by_cases h : x6 ≥ 55296
  · rw [if_pos h, if_neg (by omega), if_neg (by omega), if_pos hl]; exact H
  · rw [if_neg h, if_neg (by omega), if_pos hl]; exact H
theorem eBad {x0 : ByteArray} {acc : List Int} {i x6 x7 x8 x9 : Int} (h9 : x7 < x9) (h : x6 < x8 ∨ 55296 ≤ x6 ∧ x6 ≤ 57343 ∨ 1114111 < x6) : ∃ k, blotterref01_read.l1 k x0 acc i x6 x7 x8 x9 = Bad := by
  refine ⟨1, ?_⟩
  rw [blotterref01_read.l1, if_neg (by omega)]
  by_cases h1 : x6 < x8
  · rw [if_pos h1]
  · rw [if_neg h1]
    by_cases h2 : x6 ≥ 55296
    · rw [if_pos h2]
      by_cases h3 : x6 ≤ 57343
      · rw [if_pos h3]
      · rw [if_neg h3, if_pos (by omega)]
    · rw [if_neg h2, if_pos (by omega)]
theorem jGo {x0 : ByteArray} {acc : List Int} {i x6 x7 x8 : Int} {R : List Int × Bool} (hi0 : 0 ≤ i) (hs : i ≤ 100000000) (h7 : 0 ≤ x7 ∧ x7 ≤ 3) (hi : i + x7 < x0.size) (H : ∃ k, blotterref01_read.l1 k x0 acc i x6 x7 x8 1 = some R) : ∃ k, blotterref01_read.j3 k x0 acc i x6 x7 x8 = some R := by
  obtain ⟨k, H⟩ := H
  exact ⟨k + 1, by rw [blotterref01_read.j3, w64 (by omega) (by omega), if_neg (by omega)]; exact H⟩
theorem jBad {x0 : ByteArray} {acc : List Int} {i x6 x7 x8 : Int} (hi0 : 0 ≤ i) (hs : i ≤ 100000000) (h7 : 0 ≤ x7 ∧ x7 ≤ 3) (hi : ¬ i + x7 < x0.size) : ∃ k, blotterref01_read.j3 k x0 acc i x6 x7 x8 = Bad :=
  ⟨1, by rw [blotterref01_read.j3, w64 (by omega) (by omega), if_pos (by omega)]⟩
theorem lead0 {x0 : ByteArray} {acc : List Int} {i b : Int} {R : List Int × Bool} (hi0 : 0 ≤ i) (hi : i < x0.size) (hb : bt x0 i = b) (h0 : 0 ≤ b) (h : b < 128) (H : ∃ k, blotterref01_read.j3 k x0 acc i b 0 0 = some R) : ∃ k, blotterref01_read.l0 k x0 acc i = some R := by
  obtain ⟨k, H⟩ := H
  exact ⟨k + 1, by rw [blotterref01_read.l0, if_pos hi, if_pos hi0, hb, w64 (by omega) (by omega), if_pos h]; exact H⟩
theorem lead1 {x0 : ByteArray} {acc : List Int} {i b : Int} {R : List Int × Bool} (hi0 : 0 ≤ i) (hi : i < x0.size) (hb : bt x0 i = b) (h : 192 ≤ b ∧ b < 224) (H : ∃ k, blotterref01_read.j3 k x0 acc i (b - 192) 1 128 = some R) : ∃ k, blotterref01_read.l0 k x0 acc i = some R := by
  obtain ⟨k, H⟩ := H
  exact ⟨k + 1 + 1, by rw [blotterref01_read.l0, if_pos hi, if_pos hi0, hb, w64 (by omega) (by omega), if_neg (by omega), if_pos (by omega), blotterref01_read.j1, if_pos (by simpa using h.2), w64 (by omega) (by omega)]; exact H⟩
theorem lead2 {x0 : ByteArray} {acc : List Int} {i b : Int} {R : List Int × Bool} (hi0 : 0 ≤ i) (hi : i < x0.size) (hb : bt x0 i = b) (h : 224 ≤ b ∧ b < 240) (H : ∃ k, blotterref01_read.j3 k x0 acc i (b - 224) 2 2048 = some R) : ∃ k, blotterref01_read.l0 k x0 acc i = some R := by
  obtain ⟨k, H⟩ := H
  exact ⟨k + 1 + 1 + 1, by rw [blotterref01_read.l0, if_pos hi, if_pos hi0, hb, w64 (by omega) (by omega), if_neg (by omega), if_pos (by omega), blotterref01_read.j1, if_neg (by simp; omega), if_pos (by omega), blotterref01_read.j2, if_pos (by simpa using h.2), w64 (by omega) (by omega)]; exact H⟩
theorem lead3 {x0 : ByteArray} {acc : List Int} {i b : Int} {R : List Int × Bool} (hi0 : 0 ≤ i) (hi : i < x0.size) (hb : bt x0 i = b) (h : 240 ≤ b ∧ b < 248) (H : ∃ k, blotterref01_read.j3 k x0 acc i (b - 240) 3 65536 = some R) : ∃ k, blotterref01_read.l0 k x0 acc i = some R := by
  obtain ⟨k, H⟩ := H
  exact ⟨k + 1 + 1 + 1, by rw [blotterref01_read.l0, if_pos hi, if_pos hi0, hb, w64 (by omega) (by omega), if_neg (by omega), if_pos (by omega), blotterref01_read.j1, if_neg (by simp; omega), if_pos (by omega), blotterref01_read.j2, if_neg (by simp; omega), if_pos (by omega), if_pos (by omega), w64 (by omega) (by omega)]; exact H⟩
theorem leadBad {x0 : ByteArray} {acc : List Int} {i b : Int} (hi0 : 0 ≤ i) (hi : i < x0.size) (hb : bt x0 i = b) (h : 128 ≤ b ∧ b < 192 ∨ 248 ≤ b) (hb9 : b ≤ 255) : ∃ k, blotterref01_read.l0 k x0 acc i = Bad := by
  refine ⟨3, ?_⟩
  rw [blotterref01_read.l0, if_pos hi, if_pos hi0, hb, w64 (by omega) (by omega), if_neg (by omega)]
  by_cases h1 : b ≥ 192
  · rw [if_pos h1, blotterref01_read.j1, if_neg (by simp; omega), if_pos (by omega), blotterref01_read.j2, if_neg (by simp; omega), if_pos (by omega), if_neg (by omega)]
  · rw [if_neg h1, blotterref01_read.j1, if_neg (by simp), if_neg (by omega), blotterref01_read.j2, if_neg (by simp), if_neg (by omega)]
end Go.Proofs.YthpngienphnaoaaDoor.PRunesLines
