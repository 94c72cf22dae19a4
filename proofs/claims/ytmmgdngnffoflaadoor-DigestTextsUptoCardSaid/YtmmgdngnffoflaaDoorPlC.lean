import Derived.Test.YtmmgdngnffoflaaDoorPlB
/-
  The plain law of the document's Decode: it is decF.
-/
namespace Go.Proofs.YtmmgdngnffoflaaDoor
open Go.RowKit Go.Proofs.YtmmgdngnffoflaaDoorW.PrintWords Go.Proofs.YtmmgdngnffoflaaDoorW.PrintMore Go.Proofs.YtmmgdngnffoflaaDoor.PDigestTexts

theorem idx_all : (List.range 256).all (fun n => (List.range 64).all fun j => decide ((sgn (j : Int)).toNat = n) == decide (idxS (UInt8.ofNat n) = (j : Int))) = true := by kernel_rfl
theorem idx_iff (c : UInt8) (j : Int) (h0 : 0 ≤ j) (h1 : j < 64) : ((sgn j).toNat : Int) = (c.toNat : Int) ↔ idxS c = j := by
  have h := List.all_eq_true.1 (List.all_eq_true.1 idx_all c.toNat (List.mem_range.2 c.toNat_lt)) j.toNat (List.mem_range.2 (by omega))
  rw [Int.toNat_of_nonneg h0, UInt8.ofNat_toNat] at h
  have h' := eq_of_beq h
  constructor
  · intro e
    exact of_decide_eq_true (h' ▸ decide_eq_true (by omega))
  · intro e
    have : (sgn j).toNat = c.toNat := of_decide_eq_true (h'.symm ▸ decide_eq_true e)
    omega
def rstep (c : UInt8) (s : Int × Int × List Int) : Int × Int × List Int := (decStep c s).getD s
def refGo : List UInt8 → Int × Int × List Int → Int × Int × List Int
  | [], s => s
  | c :: r, s => refGo r (rstep c s)
def SInv (s : Int × Int × List Int) : Prop := (s.2.1 = 0 ∧ s.1 = 0 ∨ s.2.1 = 2 ∧ 0 ≤ s.1 ∧ s.1 < 4 ∨ s.2.1 = 4 ∧ 0 ≤ s.1 ∧ s.1 < 16 ∨ s.2.1 = 6 ∧ 0 ≤ s.1 ∧ s.1 < 64) ∧ Bytes s.2.2
/-- What a byte does: nothing, or one of four. -/
theorem rstep_cases (c : UInt8) (s : Int × Int × List Int) (h : SInv s) : idxS c < 0 ∧ rstep c s = s ∨
    0 ≤ idxS c ∧ idxS c < 64 ∧ SInv (rstep c s) ∧ (rstep c s).2.2.length ≤ s.2.2.length + 1 ∧ (s.2.1 = 0 ∧ s.1 = 0 ∧ rstep c s = (idxS c, 6, s.2.2) ∨ s.2.1 = 2 ∧ rstep c s = (0, 0, s.2.2 ++ [s.1 * 64 + idxS c]) ∨
      s.2.1 = 4 ∧ rstep c s = ((s.1 * 64 + idxS c) % 4, 2, s.2.2 ++ [(s.1 * 64 + idxS c) / 4]) ∨ s.2.1 = 6 ∧ rstep c s = ((s.1 * 64 + idxS c) % 16, 4, s.2.2 ++ [(s.1 * 64 + idxS c) / 16])) := by
  obtain ⟨U, n, acc⟩ := s
  obtain ⟨hU, hb⟩ := h
  have hi := idxS_le c
  by_cases hd : idxS c < 0
  · refine .inl ⟨hd, ?_⟩
    unfold rstep decStep
    rw [if_pos hd]; rfl
  · refine .inr ⟨by omega, by omega, ?_⟩
    have app : ∀ x : Int, 0 ≤ x → x ≤ 255 → Bytes (acc ++ [x]) := fun x h0 h1 y hy => by
      rcases List.mem_append.1 hy with hy | hy
      · exact hb y hy
      · rw [List.mem_singleton.1 hy]; exact ⟨h0, h1⟩
    simp only at hU
    rcases hU with ⟨rfl, rfl⟩ | ⟨rfl, h0, h1⟩ | ⟨rfl, h0, h1⟩ | ⟨rfl, h0, h1⟩
    · have e : rstep c (0, 0, acc) = (idxS c, 6, acc) := by unfold rstep; rw [step_low rfl hd]; simp
      rw [e]
      exact ⟨⟨.inr (.inr (.inr ⟨rfl, by show 0 ≤ idxS c; omega, by show idxS c < 64; omega⟩)), hb⟩, by simp, .inl ⟨rfl, rfl, rfl⟩⟩
    · have e : rstep c (U, 2, acc) = (0, 0, acc ++ [U * 64 + idxS c]) := by unfold rstep; rw [step_2 rfl hd]; rfl
      rw [e]
      exact ⟨⟨by simp, app _ (by omega) (by omega)⟩, by simp, .inr (.inl ⟨rfl, rfl⟩)⟩
    · have e : rstep c (U, 4, acc) = ((U * 64 + idxS c) % 4, 2, acc ++ [(U * 64 + idxS c) / 4]) := by unfold rstep; rw [step_4 rfl hd]; rfl
      rw [e]
      exact ⟨⟨.inr (.inl ⟨rfl, by show 0 ≤ (U * 64 + idxS c) % 4; omega, by show (U * 64 + idxS c) % 4 < 4; omega⟩), app _ (by omega) (by omega)⟩, by simp, .inr (.inr (.inl ⟨rfl, rfl⟩))⟩
    · have e : rstep c (U, 6, acc) = ((U * 64 + idxS c) % 16, 4, acc ++ [(U * 64 + idxS c) / 16]) := by unfold rstep; rw [step_6 rfl hd]; rfl
      rw [e]
      exact ⟨⟨.inr (.inr (.inl ⟨rfl, by show 0 ≤ (U * 64 + idxS c) % 16; omega, by show (U * 64 + idxS c) % 16 < 16; omega⟩)), app _ (by omega) (by omega)⟩, by simp, .inr (.inr (.inr ⟨rfl, rfl⟩))⟩
theorem refGo_dec (l : List UInt8) : ∀ (s : Int × Int × List Int) (out : List Int), decGo l s = some out → (refGo l s).2.2 = out := by
  induction l with
  | nil => intro s out h; simpa [decGo, refGo] using h
  | cons c r ih =>
    intro s out h
    rw [decGo] at h
    cases hs : decStep c s with
    | none => rw [hs] at h; simp at h
    | some s' =>
      rw [hs, Option.bind_some] at h
      rw [refGo]
      have : rstep c s = s' := by unfold rstep; rw [hs]; rfl
      rw [this]
      exact ih s' out h
theorem refGo_append (l m : List UInt8) : ∀ s, refGo (l ++ m) s = refGo m (refGo l s) := by
  induction l with
  | nil => intro s; rfl
  | cons c r ih => intro s; simp only [List.cons_append, refGo, ih]
theorem refGo_reps (n : Nat) : ∀ s, refGo (List.replicate n 61) s = s := by
  have h61' : idxS 61 = -1 := by kernel_rfl
  have h61 : idxS 61 < 0 := by omega
  induction n with
  | zero => intro s; rfl
  | succ n ih =>
    intro s
    rw [List.replicate_succ, refGo]
    have : rstep 61 s = s := by unfold rstep decStep; rw [if_pos h61]; rfl
    rw [this, ih]
theorem refGo_enc (b : List Int) (h : Bytes b) : (refGo (encB b) (0, 0, [])).2.2 = b := by
  rw [encB_C, refGo_append, refGo_reps]
  exact refGo_dec _ _ _ (go_enc b h [])
theorem decF_ref (s : List UInt8) (o : List Int) (ho : (refGo s (0, 0, [])).2.2 = o) (hb : Bytes o) : decF s = if encB o = s then (o, 0) else ([], 100) := by
  by_cases h : encB o = s
  · rw [if_pos h, ← h]; exact dec_enc o hb
  · rw [if_neg h]
    rcases dec_one s with h1 | ⟨_, h2⟩
    · exact h1
    · have h3 := refGo_enc (decF s).1 (dec_bytes s)
      rw [h2, ho] at h3
      rw [← h3] at h2
      exact absurd h2 h
/-- The inner loop goes by. -/
theorem dskip {x0 : ByteArray} {out : List Int} {h n i : Int} {c : UInt8} {r : List Int × Int} (hi0 : 0 ≤ i) (hi : i < x0.size) (hc : bt x0 i = (c.toNat : Int)) (d : Nat) : ∀ j j2 : Int, j2 = j + d → 0 ≤ j → j2 ≤ 64 → (∀ q, j ≤ q → q < j2 → idxS c ≠ q) →
    (∃ k, blotterref10_Decode.l1 k x0 out h n i j2 = some r) → ∃ k, blotterref10_Decode.l1 k x0 out h n i j = some r := by
  induction d with
  | zero => intro j j2 e _ _ _ H; rw [e] at H; simpa using H
  | succ d ih =>
    intro j j2 e h0 h2 hq H
    obtain ⟨k, hk⟩ := ih (j + 1) j2 (by omega) (by omega) h2 (fun q a b => hq q (by omega) b) H
    refine ⟨k + 1, ?_⟩
    rw [blotterref10_Decode.l1, if_pos (by omega), if_pos h0, if_pos hi0, if_pos hi, bt_sgn j h0 (by omega), hc, if_neg (fun e2 => hq j (by omega) (by omega) ((idx_iff c j h0 (by omega)).1 e2)), w64 (by omega) (by omega)]
    exact hk
theorem dhit {x0 : ByteArray} {out : List Int} {h n i j : Int} {c : UInt8} {r : List Int × Int} (hi0 : 0 ≤ i) (hi : i < x0.size) (hc : bt x0 i = (c.toNat : Int)) (h0 : 0 ≤ j) (h1 : j < 64) (hj : idxS c = j) (hh0 : 0 ≤ h) (hh1 : h < 64) (hn0 : 0 ≤ n) (hn1 : n ≤ 6)
    (H : ∃ k, blotterref10_Decode.l1 k x0 out (h * 64 + j) (n + 6) i (j + 1) = some r) : ∃ k, blotterref10_Decode.l1 k x0 out h n i j = some r := by
  obtain ⟨k, hk⟩ := H
  refine ⟨k + 1, ?_⟩
  rw [blotterref10_Decode.l1, if_pos h1, if_pos h0, if_pos hi0, if_pos hi, bt_sgn j h0 h1, hc, if_pos ((idx_iff c j h0 h1).2 hj), w64 (n := h * 64) (by omega) (by omega), w64 (n := h * 64 + j) (by omega) (by omega), w64 (n := n + 6) (by omega) (by omega), w64 (n := j + 1) (by omega) (by omega)]
  exact hk
theorem dlow {x0 : ByteArray} {out : List Int} {h n i : Int} {r : List Int × Int} (hi0 : 0 ≤ i) (hi : i ≤ 100000000) (hn : n < 8) (H : ∃ k, blotterref10_Decode.l0 k x0 out h n (i + 1) = some r) : ∃ k, blotterref10_Decode.l1 k x0 out h n i 64 = some r := by
  obtain ⟨k, hk⟩ := H
  exact ⟨k + 1, by rw [blotterref10_Decode.l1, if_neg (by omega), if_neg (by omega), w64 (by omega) (by omega)]; exact hk⟩
theorem dhigh {x0 : ByteArray} {out : List Int} {h n i : Int} {r : List Int × Int} (p : Int) (hi0 : 0 ≤ i) (hi : i ≤ 100000000) (hn : n = 8 ∧ p = 1 ∨ n = 10 ∧ p = 4 ∨ n = 12 ∧ p = 16) (hh : 0 ≤ h) (hl : out.length < 140737488355328)
    (H : ∃ k, blotterref10_Decode.l0 k x0 (out ++ [h / p % 256]) (h % p) (n - 8) (i + 1) = some r) : ∃ k, blotterref10_Decode.l1 k x0 out h n i 64 = some r := by
  obtain ⟨k, hk⟩ := H
  refine ⟨k + 1, ?_⟩
  have e0 : wrap64 (n - 8) = n - 8 := by unfold wrap64; omega
  have e1 : shr .i64 h (n - 8) = h / p := by
    unfold shr
    rcases hn with ⟨rfl, rfl⟩ | ⟨rfl, rfl⟩ | ⟨rfl, rfl⟩ <;> rfl
  have e2 : shl .i64 1 (n - 8) = p := by
    rcases hn with ⟨rfl, rfl⟩ | ⟨rfl, rfl⟩ | ⟨rfl, rfl⟩ <;> rfl
  have e3 : h.tmod p = h % p := Int.tmod_eq_emod_of_nonneg hh
  rw [blotterref10_Decode.l1, if_neg (by omega), if_pos (by omega), e0, if_pos (by omega), if_pos hl, e1, e2, if_neg (by omega), e3, w64 (by omega) (by omega)]
  exact hk
theorem din {x0 : ByteArray} {out : List Int} {h n i : Int} {r : List Int × Int} (hi : i < x0.size) (H : ∃ k, blotterref10_Decode.l1 k x0 out h n i 0 = some r) : ∃ k, blotterref10_Decode.l0 k x0 out h n i = some r := by
  obtain ⟨k, hk⟩ := H
  exact ⟨k + 1, by rw [blotterref10_Decode.l0, if_pos hi]; exact hk⟩
theorem dbyte {x0 : ByteArray} {i : Int} {c : UInt8} {s : Int × Int × List Int} {r : List Int × Int} (hi0 : 0 ≤ i) (hi : i < x0.size) (hi9 : i ≤ 100000000) (hc : bt x0 i = (c.toNat : Int)) (hs : SInv s) (hl : s.2.2.length < 140737488355000)
    (H : ∃ k, blotterref10_Decode.l0 k x0 (rstep c s).2.2 (rstep c s).1 (rstep c s).2.1 (i + 1) = some r) : ∃ k, blotterref10_Decode.l0 k x0 s.2.2 s.1 s.2.1 i = some r := by
  refine din hi ?_
  have hn : 0 ≤ s.2.1 ∧ s.2.1 ≤ 6 ∧ 0 ≤ s.1 ∧ s.1 < 64 := by have := hs.1; omega
  rcases rstep_cases c s hs with ⟨h1, h2⟩ | ⟨h1, h2, _, _, h3⟩
  · rw [h2] at H
    exact dskip hi0 hi hc 64 0 64 (by omega) (by omega) (by omega) (fun q a b => by omega) (dlow hi0 hi9 (by omega) H)
  · obtain ⟨m, hm⟩ : ∃ m, m = idxS c := ⟨_, rfl⟩
    rw [← hm] at h1 h2 h3
    refine dskip hi0 hi hc m.toNat 0 m (by omega) (by omega) (by omega) (fun q a b => by omega) ?_
    refine dhit hi0 hi hc h1 h2 hm.symm hn.2.2.1 hn.2.2.2 hn.1 hn.2.1 ?_
    refine dskip hi0 hi hc (64 - (m + 1)).toNat (m + 1) 64 (by omega) (by omega) (by omega) (fun q a b => by omega) ?_
    have hr := hs.1
    rcases h3 with ⟨a, b, e⟩ | ⟨a, e⟩ | ⟨a, e⟩ | ⟨a, e⟩
    · rw [e] at H
      rw [a, b]
      refine dlow hi0 hi9 (by omega) ?_
      simpa using H
    · rw [e] at H
      refine dhigh 1 hi0 hi9 (by omega) (by omega) (by omega) ?_
      have e1 : (s.1 * 64 + m) / 1 % 256 = s.1 * 64 + m := by omega
      have e2 : (s.1 * 64 + m) % 1 = 0 := by omega
      have e3 : s.2.1 + 6 - 8 = 0 := by omega
      rw [e1, e2, e3]
      exact H
    · rw [e] at H
      refine dhigh 4 hi0 hi9 (by omega) (by omega) (by omega) ?_
      have e1 : (s.1 * 64 + m) / 4 % 256 = (s.1 * 64 + m) / 4 := by omega
      have e3 : s.2.1 + 6 - 8 = 2 := by omega
      rw [e1, e3]
      exact H
    · rw [e] at H
      refine dhigh 16 hi0 hi9 (by omega) (by omega) (by omega) ?_
      have e1 : (s.1 * 64 + m) / 16 % 256 = (s.1 * 64 + m) / 16 := by omega
      have e3 : s.2.1 + 6 - 8 = 4 := by omega
      rw [e1, e3]
      exact H
theorem dec_l0 (x0 : ByteArray) (hx : x0.size ≤ 10000000) (rest : List UInt8) : ∀ (p : List UInt8) (s : Int × Int × List Int), x0.data.toList = p ++ rest → SInv s → s.2.2.length ≤ p.length →
    ∃ k, blotterref10_Decode.l0 k x0 s.2.2 s.1 s.2.1 (p.length : Int) = some (if encB (refGo rest s).2.2 = x0.data.toList then ((refGo rest s).2.2, 0) else ([], 100)) := by
  have hsz : x0.data.toList.length = x0.size := data_length x0
  induction rest with
  | nil =>
    intro p s e hs hl
    have hp : p.length = x0.size := by rw [← hsz, e]; simp
    show ∃ k, blotterref10_Decode.l0 k x0 s.2.2 s.1 s.2.1 (p.length : Int) = some (if encB s.2.2 = x0.data.toList then (s.2.2, 0) else ([], 100))
    obtain ⟨k, hk⟩ := enc_f s.2.2 hs.2 (by omega)
    refine ⟨k + 1, ?_⟩
    rw [blotterref10_Decode.l0, if_neg (by omega), hk, Option.bind_some]
    have : ((⟨(encB s.2.2).toArray⟩ : ByteArray).toList = x0.toList) ↔ encB s.2.2 = x0.data.toList := by rw [ByteArray.toList_eq, ByteArray.toList_eq]
    simp only [this]
    by_cases hh : encB s.2.2 = x0.data.toList
    · rw [if_pos hh, if_pos hh]
    · rw [if_neg hh, if_neg hh]
  | cons c r ih =>
    intro p s e hs hl
    have hp : p.length + (r.length + 1) = x0.size := by rw [← hsz, e]; simp
    have hc : bt x0 (p.length : Int) = (c.toNat : Int) := by
      have h1 : (p.length : Int).toNat < x0.size := by omega
      rw [← bt_at x0 _ h1]
      have h2 := byteAt x0 p.length (by omega)
      rw [e, List.getElem?_append_right (Nat.le_refl _), Nat.sub_self] at h2
      simp only [List.getElem?_cons_zero, Option.some.injEq] at h2
      rw [h2]
      simp only [Int.toNat_natCast]
    refine dbyte (by omega) (by omega) (by omega) hc hs (by omega) ?_
    have hs' : SInv (rstep c s) ∧ (rstep c s).2.2.length ≤ p.length + 1 := by
      rcases rstep_cases c s hs with ⟨_, h2⟩ | ⟨_, _, h2, h3, _⟩
      · rw [h2]; exact ⟨hs, by omega⟩
      · exact ⟨h2, by omega⟩
    have h := ih (p ++ [c]) (rstep c s) (by rw [e, List.append_assoc]; rfl) hs'.1 (by simpa using hs'.2)
    rw [List.length_append] at h
    exact h
theorem sinv_go (l : List UInt8) : ∀ s, SInv s → SInv (refGo l s) := by
  induction l with
  | nil => intro s h; exact h
  | cons c r ih =>
    intro s h
    rw [refGo]
    rcases rstep_cases c s h with ⟨_, h2⟩ | ⟨_, _, h2, _, _⟩
    · rw [h2]; exact ih s h
    · exact ih _ h2
theorem dec_f (x0 : ByteArray) (hx : x0.size ≤ 10000000) : ∃ k, blotterref10_Decode.f k x0 = some ((decF x0.data.toList).1, (decF x0.data.toList).2) := by
  have h0 : SInv (0, 0, []) := ⟨.inl ⟨rfl, rfl⟩, fun _ h => by simp at h⟩
  obtain ⟨k, hk⟩ := dec_l0 x0 hx x0.data.toList [] (0, 0, []) rfl h0 (by simp)
  refine ⟨k, ?_⟩
  have h := decF_ref x0.data.toList _ rfl (sinv_go _ _ h0).2
  rw [h]
  exact hk
end Go.Proofs.YtmmgdngnffoflaaDoor
