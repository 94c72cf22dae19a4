import Derived.Test.YtmmgdngnffoflaaDoorPlA
/-
  The plain laws of the document's Encode and Decode: they are encB and decF.
-/
namespace Go.Proofs.YtmmgdngnffoflaaDoor
open Go.RowKit Go.Proofs.YtmmgdngnffoflaaDoorW.PrintWords Go.Proofs.YtmmgdngnffoflaaDoorW.PrintMore Go.Proofs.YtmmgdngnffoflaaDoor.PDigestTexts

theorem padEnd {out : List Int} (h : (out.length : Int) % 4 = 0) : ∃ k, blotterref10_Encode.l3 k out = some (strOfNums out) := ⟨1, by rw [blotterref10_Encode.l3, if_pos h]⟩
theorem padOne {out : List Int} {r : ByteArray} (h : ¬ (out.length : Int) % 4 = 0) (hl : out.length < 140737488355328) (H : ∃ k, blotterref10_Encode.l3 k (out ++ [61]) = some r) : ∃ k, blotterref10_Encode.l3 k out = some r := by
  obtain ⟨k, H⟩ := H
  exact ⟨k + 1, by rw [blotterref10_Encode.l3, if_neg h, if_pos hl]; exact H⟩
theorem padIn {out : List Int} {r : ByteArray} (H : ∃ k, blotterref10_Encode.l3 k out = some r) : ∃ k, blotterref10_Encode.j3 k out = some r := by
  obtain ⟨k, H⟩ := H
  exact ⟨k + 1, by rw [blotterref10_Encode.j3]; exact H⟩
theorem shiftOne {out : List Int} {h n : Int} {r : ByteArray} (h0 : 0 ≤ h) (h1 : h < 64) (n0 : 0 ≤ n) (hn : n < 6) (H : ∃ k, blotterref10_Encode.l2 k out (h * 2) (n + 1) = some r) : ∃ k, blotterref10_Encode.l2 k out h n = some r := by
  obtain ⟨k, H⟩ := H
  exact ⟨k + 1, by rw [blotterref10_Encode.l2, if_pos hn, w64 (by omega) (by omega), w64 (by omega) (by omega)]; exact H⟩
theorem shiftEnd {out : List Int} {h : Int} {r : ByteArray} (h0 : 0 ≤ h) (h1 : h < 64) (hl : out.length < 140737488355328) (H : ∃ k, blotterref10_Encode.j3 k (out ++ [((sgn h).toNat : Int)]) = some r) : ∃ k, blotterref10_Encode.l2 k out h 6 = some r := by
  obtain ⟨k, H⟩ := H
  exact ⟨k + 1, by rw [blotterref10_Encode.l2, if_neg (by omega), if_pos h0, if_pos h1, if_pos hl, bt_sgn _ h0 h1]; exact H⟩
theorem endNo {x0 out : List Int} {h i : Int} {r : ByteArray} (hi : ¬ i < x0.length) (H : ∃ k, blotterref10_Encode.j3 k out = some r) : ∃ k, blotterref10_Encode.l0 k x0 out h 0 i = some r := by
  obtain ⟨k, H⟩ := H
  exact ⟨k + 1, by rw [blotterref10_Encode.l0, if_neg hi, if_neg (by omega)]; exact H⟩
theorem endSome {x0 out : List Int} {h n i : Int} {r : ByteArray} (hi : ¬ i < x0.length) (hn : n > 0) (H : ∃ k, blotterref10_Encode.l2 k out h n = some r) : ∃ k, blotterref10_Encode.l0 k x0 out h n i = some r := by
  obtain ⟨k, H⟩ := H
  exact ⟨k + 1, by rw [blotterref10_Encode.l0, if_neg hi, if_pos hn]; exact H⟩
theorem rd_at (p : List Int) (q : List Int) (x : Int) (r : List Int) (i : Int) (hi : i = (p.length : Int) + q.length) : rd (p ++ (q ++ x :: r)) i = x := by
  have := rd_pre (p ++ q) x r
  rw [List.append_assoc, List.length_append] at this
  rw [hi]
  simpa using this
theorem enc_l0 (rest : List Int) : ∀ (p out : List Int), Bytes rest → (p ++ rest).length ≤ 10000000 → (out.length : Int) % 4 = 0 → out.length + 4 * rest.length ≤ 140737488355000 →
    ∃ k, blotterref10_Encode.l0 k (p ++ rest) out 0 0 (p.length : Int) = some (strOfNums (out ++ u8s (encB rest))) := by
  fun_induction encB rest with
  | case1 a b c r ih =>
    intro p out hb hl ho hs
    obtain ⟨ha, hb⟩ := bytes_tail hb
    obtain ⟨hbb, hb⟩ := bytes_tail hb
    obtain ⟨hc, hb⟩ := bytes_tail hb
    have hl' : p.length + (r.length + 3) ≤ 10000000 := by simpa using hl
    have hs' : out.length + 4 * (r.length + 3) ≤ 140737488355000 := by simpa using hs
    have hL : ((p ++ a :: b :: c :: r).length : Int) = p.length + (r.length + 3) := by simp; omega
    refine byte0 (x := a) (by omega) (by omega) (by omega) (rd_at p [] a _ _ (by simp)) ha.1 ha.2 (by omega) (by omega) (by omega) ?_
    refine byte2 (x := b) (by omega) (by omega) (by omega) (rd_at p [a] b _ _ (by simp)) hbb.1 hbb.2 (by omega) (by omega) (by simp; omega) ?_
    refine byte4 (x := c) (by omega) (by omega) (by omega) (rd_at p [a, b] c _ _ (by simp; omega)) hc.1 hc.2 (by omega) (by omega) (by simp; omega) ?_
    have h := ih (p ++ [a, b, c]) (out ++ [((sgn (a / 4)).toNat : Int)] ++ [((sgn (a % 4 * 16 + b / 16)).toNat : Int)] ++ [((sgn (b % 16 * 4 + c / 64)).toNat : Int), ((sgn (c % 64)).toNat : Int)]) hb (by simpa using hl) (by simp; omega) (by simp; omega)
    rw [List.append_assoc p, List.length_append] at h
    have e : ((p.length + [a, b, c].length : Nat) : Int) = (p.length : Int) + 1 + 1 + 1 := by simp; omega
    rw [e] at h
    simpa [u8s, List.append_assoc] using h
  | case2 a b =>
    intro p out hb hl ho hs
    obtain ⟨ha, hb⟩ := bytes_tail hb
    obtain ⟨hbb, hb⟩ := bytes_tail hb
    have hl' : p.length + 2 ≤ 10000000 := by simpa using hl
    have hs' : out.length + 8 ≤ 140737488355000 := by simpa using hs
    have hL : ((p ++ [a, b]).length : Int) = p.length + 2 := by simp
    refine byte0 (x := a) (by omega) (by omega) (by omega) (rd_at p [] a _ _ (by simp)) ha.1 ha.2 (by omega) (by omega) (by omega) ?_
    refine byte2 (x := b) (by omega) (by omega) (by omega) (rd_at p [a] b _ _ (by simp)) hbb.1 hbb.2 (by omega) (by omega) (by simp; omega) ?_
    refine endSome (by omega) (by omega) ?_
    refine shiftOne (by omega) (by omega) (by omega) (by omega) ?_
    refine shiftOne (by omega) (by omega) (by omega) (by omega) ?_
    refine shiftEnd (by omega) (by omega) (by simp; omega) (padIn ?_)
    refine padOne (by simp; omega) (by simp; omega) ?_
    have h := padEnd (out := out ++ [((sgn (a / 4)).toNat : Int)] ++ [((sgn (a % 4 * 16 + b / 16)).toNat : Int)] ++ [((sgn (b % 16 * 2 * 2)).toNat : Int)] ++ [61]) (by simp; omega)
    have e : b % 16 * 2 * 2 = b % 16 * 4 := by omega
    rw [e] at h ⊢
    simpa [u8s, List.append_assoc] using h
  | case3 a =>
    intro p out hb hl ho hs
    obtain ⟨ha, hb⟩ := bytes_tail hb
    have hl' : p.length + 1 ≤ 10000000 := by simpa using hl
    have hs' : out.length + 4 ≤ 140737488355000 := by simpa using hs
    have hL : ((p ++ [a]).length : Int) = p.length + 1 := by simp
    refine byte0 (x := a) (by omega) (by omega) (by omega) (rd_at p [] a _ _ (by simp)) ha.1 ha.2 (by omega) (by omega) (by omega) ?_
    refine endSome (by omega) (by omega) ?_
    refine shiftOne (by omega) (by omega) (by omega) (by omega) ?_
    refine shiftOne (by omega) (by omega) (by omega) (by omega) ?_
    refine shiftOne (by omega) (by omega) (by omega) (by omega) ?_
    refine shiftOne (by omega) (by omega) (by omega) (by omega) ?_
    refine shiftEnd (by omega) (by omega) (by simp; omega) (padIn ?_)
    refine padOne (by simp; omega) (by simp; omega) ?_
    refine padOne (by simp; omega) (by simp; omega) ?_
    have h := padEnd (out := out ++ [((sgn (a / 4)).toNat : Int)] ++ [((sgn (a % 4 * 2 * 2 * 2 * 2)).toNat : Int)] ++ [61] ++ [61]) (by simp; omega)
    have e : a % 4 * 2 * 2 * 2 * 2 = a % 4 * 16 := by omega
    rw [e] at h ⊢
    simpa [u8s, List.append_assoc] using h
  | case4 =>
    intro p out hb hl ho hs
    refine endNo (by simp) (padIn ?_)
    have h := padEnd (out := out) ho
    simpa [u8s] using h
theorem enc_f (l : List Int) (h : Bytes l) (hl : l.length ≤ 10000000) : ∃ k, blotterref10_Encode.f k l = some ⟨(encB l).toArray⟩ := by
  obtain ⟨k, hk⟩ := enc_l0 l [] [] h hl (by simp) (by simp; omega)
  refine ⟨k, ?_⟩
  rw [← str_u8s]
  exact hk
end Go.Proofs.YtmmgdngnffoflaaDoor
