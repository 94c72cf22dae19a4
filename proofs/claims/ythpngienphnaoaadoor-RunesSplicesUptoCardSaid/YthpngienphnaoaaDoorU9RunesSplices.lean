import Derived.Test.YthpngienphnaoaaDoorU2RunesSplices
/-
  The plain law of the document's write: runes as bytes.
-/
namespace Go.Proofs.YthpngienphnaoaaDoor.PRunesSplices
open Go.RowKit Go.Proofs.YthpngienphnaoaaDoorW.PrintWords Go.Proofs.YthpngienphnaoaaDoorW.PrintLast Go.Proofs.YthpngienphnaoaaDoorW.PrintMore Go.Proofs.YthpngienphnaoaaDoor

def u8s (l : List UInt8) : List Int := l.map fun b => (b.toNat : Int)
theorem u8s_append (a b : List UInt8) : u8s (a ++ b) = u8s a ++ u8s b := List.map_append
theorem str_u8s (l : List UInt8) : strOfNums (u8s l) = ⟨l.toArray⟩ := by
  unfold strOfNums u8s
  rw [List.map_map]
  congr 2
  conv => rhs; rw [← List.map_id l]
  apply List.map_congr_left
  intro b _
  simp
theorem rd_ints (p : List Nat) (r : Nat) (t : List Nat) : rd (ints (p ++ r :: t)) (p.length : Int) = (r : Int) := by
  unfold rd ints
  rw [Int.toNat_natCast, List.getD_eq_getElem?_getD, List.getElem?_map, List.getElem?_append_right (Nat.le_refl _), Nat.sub_self]; rfl
theorem wr_step (p : List Nat) (r : Nat) (t : List Nat) (out : List Int) (R : ByteArray) (hr : scalar r) (hp : p.length ≤ 100000000) (ho : out.length ≤ 1000000000)
    (H : ∃ k, blotterref01_write.l0 k (ints (p ++ r :: t)) (out ++ u8s (encR r)) ((p.length : Int) + 1) = some R) : ∃ k, blotterref01_write.l0 k (ints (p ++ r :: t)) out (p.length : Int) = some R := by
  obtain ⟨k, H⟩ := H
  refine ⟨k + 1, ?_⟩
  unfold scalar at hr
  have hl : (p.length : Int) < ((ints (p ++ r :: t)).length : Int) := by simp [ints]; omega
  have d : ∀ n : Int, 0 < n → ((r : Int)).tdiv n = (r : Int) / n := fun n _ => Int.tdiv_eq_ediv_of_nonneg (by omega)
  rw [blotterref01_write.l0, if_pos hl, if_pos (by omega), rd_ints, w64 (n := (p.length : Int) + 1) (by omega) (by omega)]
  unfold encR at H
  by_cases h1 : r < 128
  · rw [if_pos h1] at H
    rw [if_pos (by omega), if_pos (by omega)]
    have e : u8s [UInt8.ofNat r] = [(r : Int) % 256] := by simp [u8s, ofNat_toNat' (show r < 256 by omega)]; omega
    rw [e] at H
    exact H
  · rw [if_neg h1] at H
    rw [if_neg (by omega)]
    have m : ∀ n : Int, ((n : Int)) ≥ 0 → n.tmod 64 = n % 64 := fun n h => Int.tmod_eq_emod_of_nonneg h
    by_cases h2 : r < 2048
    · rw [if_pos h2] at H
      rw [if_pos (by omega), Option.bind_some, if_pos (by simp; omega), d 64 (by omega), m _ (by omega), w64 (n := (r : Int) / 64) (by omega) (by omega), w64 (n := 192 + _) (by omega) (by omega), w64 (n := 128 + _) (by omega) (by omega)]
      have e : u8s [UInt8.ofNat (192 + r / 64), UInt8.ofNat (128 + r % 64)] = [(192 + (r : Int) / 64) % 256, (128 + (r : Int) % 64) % 256] := by
        simp only [u8s, List.map_cons, List.map_nil, ofNat_toNat' (show 192 + r / 64 < 256 by omega), ofNat_toNat' (show 128 + r % 64 < 256 by omega)]
        congr 1
        · omega
        · congr 1; omega
      rw [e] at H
      exact H
    · rw [if_neg h2] at H
      rw [if_neg (by omega)]
      by_cases h3 : r < 65536
      · rw [if_pos h3] at H
        rw [if_pos (by omega), Option.bind_some, if_pos (by simp; omega), d 4096 (by omega), d 64 (by omega), w64 (n := (r : Int) / 4096) (by omega) (by omega), w64 (n := (r : Int) / 64) (by omega) (by omega), m _ (by omega), m _ (by omega), w64 (n := 224 + _) (by omega) (by omega), w64 (n := 128 + (r : Int) / 64 % 64) (by omega) (by omega), w64 (n := 128 + (r : Int) % 64) (by omega) (by omega)]
        have e : u8s [UInt8.ofNat (224 + r / 4096), UInt8.ofNat (128 + r / 64 % 64), UInt8.ofNat (128 + r % 64)] = [(224 + (r : Int) / 4096) % 256, (128 + (r : Int) / 64 % 64) % 256, (128 + (r : Int) % 64) % 256] := by
          simp only [u8s, List.map_cons, List.map_nil, ofNat_toNat' (show 224 + r / 4096 < 256 by omega), ofNat_toNat' (show 128 + r / 64 % 64 < 256 by omega), ofNat_toNat' (show 128 + r % 64 < 256 by omega)]
          congr 1
          · omega
          · congr 1
            · omega
            · congr 1; omega
        rw [e] at H
        exact H
      · rw [if_neg h3] at H
        rw [if_neg (by omega), Option.bind_some, if_pos (by simp; omega), d 262144 (by omega), d 4096 (by omega), d 64 (by omega), w64 (n := (r : Int) / 262144) (by omega) (by omega), w64 (n := (r : Int) / 4096) (by omega) (by omega), w64 (n := (r : Int) / 64) (by omega) (by omega), m _ (by omega), m _ (by omega), m _ (by omega), w64 (n := 240 + _) (by omega) (by omega), w64 (n := 128 + (r : Int) / 4096 % 64) (by omega) (by omega), w64 (n := 128 + (r : Int) / 64 % 64) (by omega) (by omega), w64 (n := 128 + (r : Int) % 64) (by omega) (by omega)]
        have e : u8s [UInt8.ofNat (240 + r / 262144), UInt8.ofNat (128 + r / 4096 % 64), UInt8.ofNat (128 + r / 64 % 64), UInt8.ofNat (128 + r % 64)] = [(240 + (r : Int) / 262144) % 256, (128 + (r : Int) / 4096 % 64) % 256, (128 + (r : Int) / 64 % 64) % 256, (128 + (r : Int) % 64) % 256] := by
          simp only [u8s, List.map_cons, List.map_nil, ofNat_toNat' (show 240 + r / 262144 < 256 by omega), ofNat_toNat' (show 128 + r / 4096 % 64 < 256 by omega), ofNat_toNat' (show 128 + r / 64 % 64 < 256 by omega), ofNat_toNat' (show 128 + r % 64 < 256 by omega)]
          congr 1
          · omega
          · congr 1
            · omega
            · congr 1
              · omega
              · congr 1; omega
        rw [e] at H
        exact H
theorem encS_le (l : List Nat) : (encS l).length ≤ 4 * l.length := by
  induction l with
  | nil => simp [encS]
  | cons r l ih =>
    have hp := encR_pos r
    rw [encS_cons, List.length_append, List.length_cons]
    omega
theorem write_l0 (rest : List Nat) : ∀ (p : List Nat) (out : List Int), (∀ r ∈ rest, scalar r) → (p ++ rest).length ≤ 100000000 → out.length + 4 * rest.length ≤ 1000000000 →
    ∃ k, blotterref01_write.l0 k (ints (p ++ rest)) out (p.length : Int) = some (strOfNums (out ++ u8s (encS rest))) := by
  induction rest with
  | nil =>
    intro p out _ _ _
    refine ⟨1, ?_⟩
    rw [blotterref01_write.l0, if_neg (by simp [ints])]
    simp [encS, u8s]
  | cons r t ih =>
    intro p out hs hl ho
    have hp := encR_pos r
    have hl' : p.length + (t.length + 1) ≤ 100000000 := by simpa using hl
    have ho' : out.length + 4 * (t.length + 1) ≤ 1000000000 := by simpa using ho
    refine wr_step p r t out _ (hs r (List.mem_cons_self ..)) (by omega) (by omega) ?_
    have h := ih (p ++ [r]) (out ++ u8s (encR r)) (fun x hx => hs x (List.mem_cons_of_mem _ hx)) (by simpa using hl) (by simp [u8s]; omega)
    rw [List.append_assoc, List.length_append] at h
    rw [encS_cons, u8s_append, ← List.append_assoc]
    exact h
theorem write_f (l : List Nat) (hs : ∀ r ∈ l, scalar r) (hl : l.length ≤ 100000000) : ∃ k, blotterref01_write.f k (ints l) = some ⟨(encS l).toArray⟩ := by
  obtain ⟨k, hk⟩ := write_l0 l [] [] hs hl (by simp; omega)
  refine ⟨k, ?_⟩
  rw [← str_u8s]
  exact hk
end Go.Proofs.YthpngienphnaoaaDoor.PRunesSplices
