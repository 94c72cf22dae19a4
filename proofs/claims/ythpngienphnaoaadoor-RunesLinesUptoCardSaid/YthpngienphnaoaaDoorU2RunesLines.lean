import Derived.Test.YthpngienphnaoaaDoorU1RunesLines
/-
  The plain law of the document's read: the runes of bytes (the whole).
-/
namespace Go.Proofs.YthpngienphnaoaaDoor.PRunesLines
open Go.RowKit Go.Proofs.YthpngienphnaoaaDoorW.PrintWords Go.Proofs.YthpngienphnaoaaDoorW.PrintLast Go.Proofs.YthpngienphnaoaaDoorW.PrintMore Go.Proofs.YthpngienphnaoaaDoor

theorem bt_drop (x0 : ByteArray) (i j : Nat) (h : i + j < x0.size) : bt x0 ((i : Int) + j) = (((x0.data.toList.drop i).getD j 0).toNat : Int) := by
  have h1 : ((i : Int) + j).toNat = i + j := by omega
  unfold bt
  rw [dif_pos (by rw [h1]; exact h), List.getD_eq_getElem?_getD, List.getElem?_drop, Array.getElem?_toList]
  have h2 : x0.data[i + j]? = some (x0[i + j]'h) := Array.getElem?_eq_getElem _
  rw [h2]
  simp only [h1]
  rfl
def StepP (x0 : ByteArray) (acc : List Int) (i : Nat) (d : Nat × Nat) : Prop :=
  (d = (65533, 1) → ∃ k, blotterref01_read.l0 k x0 acc i = Bad) ∧ (d ≠ (65533, 1) → ∀ R, (∃ k, blotterref01_read.l0 k x0 (acc ++ [(d.1 : Int)]) (i + d.2) = some R) → ∃ k, blotterref01_read.l0 k x0 acc i = some R)
theorem StepP.bad {x0 : ByteArray} {acc : List Int} {i : Nat} {d : Nat × Nat} (hd : d = (65533, 1)) (h : ∃ k, blotterref01_read.l0 k x0 acc i = Bad) : StepP x0 acc i d := ⟨fun _ => h, fun e => absurd hd e⟩
theorem StepP.ok {x0 : ByteArray} {acc : List Int} {i : Nat} {d : Nat × Nat} {v w : Nat} (hd : d = (v, w)) (hw : w ≠ 1 ∨ v ≠ 65533) (h : ∀ R, (∃ k, blotterref01_read.l0 k x0 (acc ++ [(v : Int)]) (i + w) = some R) → ∃ k, blotterref01_read.l0 k x0 acc i = some R) : StepP x0 acc i d := by
  subst hd
  refine ⟨fun e => ?_, fun _ => h⟩
  injection e with e1 e2
  omega
set_option maxRecDepth 100000 in
theorem rdStep (x0 : ByteArray) (hx : x0.size ≤ 10000000) (i : Nat) (hi : i < x0.size) (acc : List Int) (hl : acc.length ≤ i) : StepP x0 acc i (decL (x0.data.toList.drop i)) := by
  have hlen : (x0.data.toList.drop i).length = x0.size - i := by rw [List.length_drop, Array.length_toList]; rfl
  have hb := bt_drop x0 i
  obtain ⟨L, hL⟩ : ∃ L, L = x0.data.toList.drop i := ⟨_, rfl⟩
  rw [← hL] at hlen hb ⊢
  clear hL
  obtain ⟨b0, e0⟩ : ∃ b, b = (L.getD 0 0).toNat := ⟨_, rfl⟩
  obtain ⟨b1, e1⟩ : ∃ b, b = (L.getD 1 0).toNat := ⟨_, rfl⟩
  obtain ⟨b2, e2⟩ : ∃ b, b = (L.getD 2 0).toNat := ⟨_, rfl⟩
  obtain ⟨b3, e3⟩ : ∃ b, b = (L.getD 3 0).toNat := ⟨_, rfl⟩
  have g0 : b0 < 256 := e0 ▸ UInt8.toNat_lt _
  have g1 : b1 < 256 := e1 ▸ UInt8.toNat_lt _
  have g2 : b2 < 256 := e2 ▸ UInt8.toNat_lt _
  have g3 : b3 < 256 := e3 ▸ UInt8.toNat_lt _
  have t0 : bt x0 (i : Int) = (b0 : Int) := by have := hb 0 (by omega); rw [e0]; simpa using this
  have t1 : 1 < L.length → bt x0 ((i : Int) + 1) = (b1 : Int) := fun h => by rw [e1]; exact hb 1 (by omega)
  have t2 : 2 < L.length → bt x0 ((i : Int) + 2) = (b2 : Int) := fun h => by rw [e2]; exact hb 2 (by omega)
  have t3 : 3 < L.length → bt x0 ((i : Int) + 3) = (b3 : Int) := fun h => by rw [e3]; exact hb 3 (by omega)
  have hd : decL L = Lib.decodeN L.length b0 b1 b2 b3 := by unfold decL; rw [e0, e1, e2, e3]
  rw [hd]
  clear hd e0 e1 e2 e3 hb
  unfold Lib.decodeN
  have hi' : (i : Int) < x0.size := by omega
  have is0 : (0 : Int) ≤ i := by omega
  have is9 : (i : Int) ≤ 100000000 := by omega
  by_cases c0 : b0 < 128
  · rw [if_pos c0]
    refine StepP.ok rfl (by omega) fun R H => ?_
    refine lead0 is0 hi' t0 (by omega) (by omega) (jGo is0 is9 (by omega) (by omega) ?_)
    refine eOk (by omega) is0 is9 (by omega) (by omega) (by omega) (by omega) (by omega) ?_
    simpa using H
  · rw [if_neg c0]
    by_cases c1 : b0 / 32 = 6
    · have lead := fun (R : List Int × Bool) (acc : List Int) => lead1 (acc := acc) (R := R) is0 hi' t0 (by omega)
      by_cases n1 : 1 < L.length
      · by_cases k1 : b1 / 64 = 2
        · rw [if_pos ⟨c1, n1, k1⟩]
          have go := fun (R : List Int × Bool) H => lead R acc (jGo is0 is9 (by omega) (by omega) (cOk (by omega) is0 (by omega) (by omega) (by omega) is9 (t1 n1) (by omega) (by omega) (by omega) (by omega) H))
          by_cases v1 : b0 % 32 * 64 + b1 % 64 ≥ 128
          · rw [if_pos v1]
            refine StepP.ok rfl (by omega) fun R H => go R ?_
            have e : ((b0 : Int) - 192) * 64 + b1 - 128 = ((b0 % 32 * 64 + b1 % 64 : Nat) : Int) := by omega
            rw [e]
            refine eOk (by omega) is0 is9 (by omega) (by omega) (by omega) (by omega) (by omega) ?_
            rw [show (i : Int) + 1 + 1 = (i : Int) + ((2 : Nat) : Int) by omega]
            exact H
          · rw [if_neg v1]
            exact StepP.bad rfl (go _ (eBad (by omega) (by omega)))
        · rw [if_neg (fun h => k1 h.2.2), if_neg (by omega), if_neg (by omega)]
          exact StepP.bad rfl (lead _ acc (jGo is0 is9 (by omega) (by omega) (cBad (by omega) is0 (by omega) (by omega) (by omega) is9 (t1 n1) (by omega) (by omega))))
      · rw [if_neg (fun h => n1 h.2.1), if_neg (by omega), if_neg (by omega)]
        exact StepP.bad rfl (lead _ acc (jBad is0 is9 (by omega) (by omega)))
    · rw [if_neg (fun h => c1 h.1)]
      by_cases c2 : b0 / 16 = 14
      · have lead := fun (R : List Int × Bool) (acc : List Int) => lead2 (acc := acc) (R := R) is0 hi' t0 (by omega)
        by_cases n2 : 2 < L.length
        · by_cases k1 : b1 / 64 = 2
          · have go1 := fun (R : List Int × Bool) H => lead R acc (jGo is0 is9 (by omega) (by omega) (cOk (x7 := 2) (by omega) is0 (by omega) (by omega) (by omega) is9 (t1 (by omega)) (by omega) (by omega) (by omega) (by omega) H))
            by_cases k2 : b2 / 64 = 2
            · rw [if_pos ⟨c2, ⟨by omega, k1⟩, n2, k2⟩]
              have go := fun (R : List Int × Bool) H => go1 R (cOk (x9 := 1 + 1) (by omega) is0 (by omega) (by omega) (by omega) is9 (t2 n2) (by omega) (by omega) (by omega) (by omega) H)
              have e : (((b0 : Int) - 224) * 64 + b1 - 128) * 64 + b2 - 128 = ((b0 % 16 * 4096 + b1 % 64 * 64 + b2 % 64 : Nat) : Int) := by omega
              split
              · refine StepP.ok rfl (by omega) fun R H => go R ?_
                rw [e]
                refine eOk (by omega) is0 is9 (by omega) (by omega) (by omega) (by omega) (by omega) ?_
                rw [show (i : Int) + 2 + 1 = (i : Int) + ((3 : Nat) : Int) by omega]
                exact H
              · exact StepP.bad rfl (go _ (by rw [e]; exact eBad (by omega) (by omega)))
            · rw [if_neg (fun h => k2 h.2.2.2), if_neg (by omega)]
              exact StepP.bad rfl (go1 _ (cBad (x9 := 1 + 1) (by omega) is0 (by omega) (by omega) (by omega) is9 (t2 n2) (by omega) (by omega)))
          · rw [if_neg (fun h => k1 h.2.1.2), if_neg (by omega)]
            exact StepP.bad rfl (lead _ acc (jGo is0 is9 (by omega) (by omega) (cBad (by omega) is0 (by omega) (by omega) (by omega) is9 (t1 (by omega)) (by omega) (by omega))))
        · rw [if_neg (fun h => n2 h.2.2.1), if_neg (by omega)]
          exact StepP.bad rfl (lead _ acc (jBad is0 is9 (by omega) (by omega)))
      · rw [if_neg (fun h => c2 h.1)]
        by_cases c3 : b0 / 8 = 30
        · have lead := fun (R : List Int × Bool) (acc : List Int) => lead3 (acc := acc) (R := R) is0 hi' t0 (by omega)
          by_cases n3 : 3 < L.length
          · by_cases k1 : b1 / 64 = 2
            · have go1 := fun (R : List Int × Bool) H => lead R acc (jGo is0 is9 (by omega) (by omega) (cOk (x7 := 3) (by omega) is0 (by omega) (by omega) (by omega) is9 (t1 (by omega)) (by omega) (by omega) (by omega) (by omega) H))
              by_cases k2 : b2 / 64 = 2
              · have go2 := fun (R : List Int × Bool) H => go1 R (cOk (x9 := 1 + 1) (by omega) is0 (by omega) (by omega) (by omega) is9 (t2 (by omega)) (by omega) (by omega) (by omega) (by omega) H)
                by_cases k3 : b3 / 64 = 2
                · rw [if_pos ⟨c3, ⟨by omega, k1⟩, ⟨by omega, k2⟩, n3, k3⟩]
                  have go := fun (R : List Int × Bool) H => go2 R (cOk (x9 := 1 + 1 + 1) (by omega) is0 (by omega) (by omega) (by omega) is9 (t3 n3) (by omega) (by omega) (by omega) (by omega) H)
                  have e : ((((b0 : Int) - 240) * 64 + b1 - 128) * 64 + b2 - 128) * 64 + b3 - 128 = ((b0 % 8 * 262144 + b1 % 64 * 4096 + b2 % 64 * 64 + b3 % 64 : Nat) : Int) := by omega
                  split
                  · refine StepP.ok rfl (by omega) fun R H => go R ?_
                    rw [e]
                    refine eOk (by omega) is0 is9 (by omega) (by omega) (by omega) (by omega) (by omega) ?_
                    rw [show (i : Int) + 3 + 1 = (i : Int) + ((4 : Nat) : Int) by omega]
                    exact H
                  · exact StepP.bad rfl (go _ (by rw [e]; exact eBad (by omega) (by omega)))
                · rw [if_neg (fun h => k3 h.2.2.2.2)]
                  exact StepP.bad rfl (go2 _ (cBad (x9 := 1 + 1 + 1) (by omega) is0 (by omega) (by omega) (by omega) is9 (t3 n3) (by omega) (by omega)))
              · rw [if_neg (fun h => k2 h.2.2.1.2)]
                exact StepP.bad rfl (go1 _ (cBad (x9 := 1 + 1) (by omega) is0 (by omega) (by omega) (by omega) is9 (t2 (by omega)) (by omega) (by omega)))
            · rw [if_neg (fun h => k1 h.2.1.2)]
              exact StepP.bad rfl (lead _ acc (jGo is0 is9 (by omega) (by omega) (cBad (by omega) is0 (by omega) (by omega) (by omega) is9 (t1 (by omega)) (by omega) (by omega))))
          · rw [if_neg (fun h => n3 h.2.2.2.1)]
            exact StepP.bad rfl (lead _ acc (jBad is0 is9 (by omega) (by omega)))
        · rw [if_neg (fun h => c3 h.1)]
          exact StepP.bad rfl (leadBad is0 hi' t0 (by omega) (by omega))
def ints (l : List Nat) : List Int := l.map fun (r : Nat) => (r : Int)
theorem read_l0 (x0 : ByteArray) (hx : x0.size ≤ 10000000) : ∀ (f i : Nat) (acc : List Int), i ≤ x0.size → x0.size - i ≤ f → acc.length ≤ i →
    ∃ k, blotterref01_read.l0 k x0 acc i = match runesF f (x0.data.toList.drop i) with | some l => some (acc ++ ints l, decide (((acc ++ ints l).length : Int) ≤ 20000)) | none => Bad := by
  have hsz : x0.data.toList.length = x0.size := Array.length_toList
  intro f
  induction f with
  | zero =>
    intro i acc hi hf hl
    have e : x0.data.toList.drop i = [] := List.drop_eq_nil_of_le (by omega)
    rw [e]
    refine ⟨1, ?_⟩
    rw [blotterref01_read.l0, if_neg (by omega)]
    simp [runesF, ints]
  | succ f ih =>
    intro i acc hi hf hl
    by_cases hlt : i < x0.size
    · have hne : x0.data.toList.drop i ≠ [] := fun e => by
        have := congrArg List.length e
        rw [List.length_drop, List.length_nil] at this
        omega
      obtain ⟨s1, s2⟩ := rdStep x0 hx i hlt acc hl
      rw [runesF, if_neg hne]
      by_cases hd : decL (x0.data.toList.drop i) = (65533, 1)
      · rw [if_pos hd]
        exact s1 hd
      · rw [if_neg hd]
        obtain ⟨r, t, hr, ht⟩ := dec_inv _ hne hd
        have hw : (decL (x0.data.toList.drop i)).2 = (encR r).length := by rw [ht, dec_enc_head r hr]
        have hp := encR_pos r
        have hlen : (encR r).length ≤ x0.size - i := by
          have := congrArg List.length ht
          rw [List.length_drop, List.length_append] at this
          omega
        obtain ⟨k, hk⟩ := ih (i + (decL (x0.data.toList.drop i)).2) (acc ++ [((decL (x0.data.toList.drop i)).1 : Int)]) (by omega) (by omega) (by simp; omega)
        rw [List.drop_drop]
        cases hrf : runesF f (x0.data.toList.drop (i + (decL (x0.data.toList.drop i)).2)) with
        | none =>
          rw [hrf] at hk
          exact s2 hd _ ⟨k, by rw [show ((i : Int) + ((decL (x0.data.toList.drop i)).2 : Int)) = ((i + (decL (x0.data.toList.drop i)).2 : Nat) : Int) by omega]; exact hk⟩
        | some l =>
          rw [hrf] at hk
          refine s2 hd _ ⟨k, ?_⟩
          rw [show ((i : Int) + ((decL (x0.data.toList.drop i)).2 : Int)) = ((i + (decL (x0.data.toList.drop i)).2 : Nat) : Int) by omega, hk]
          simp [ints, List.append_assoc]
    · have e : x0.data.toList.drop i = [] := List.drop_eq_nil_of_le (by omega)
      rw [e]
      refine ⟨1, ?_⟩
      rw [blotterref01_read.l0, if_neg (by omega)]
      simp [runesF, ints]
/-- The document's read: the runes, and whether they are not too many. -/
theorem read_f (x0 : ByteArray) (hx : x0.size ≤ 10000000) : ∃ k, blotterref01_read.f k x0 = match runesL x0.data.toList with | some l => some (ints l, decide ((l.length : Int) ≤ 20000)) | none => Bad := by
  obtain ⟨k, hk⟩ := read_l0 x0 hx x0.size 0 [] (by omega) (by omega) (by simp)
  refine ⟨k, ?_⟩
  have e : runesL x0.data.toList = runesF x0.size (x0.data.toList.drop 0) := by unfold runesL; rw [List.drop_zero, Array.length_toList]; rfl
  rw [e]
  show blotterref01_read.l0 k x0 [] ((0 : Nat) : Int) = _
  rw [hk]
  cases runesF x0.size (x0.data.toList.drop 0) <;> simp [ints]
end Go.Proofs.YthpngienphnaoaaDoor.PRunesLines
