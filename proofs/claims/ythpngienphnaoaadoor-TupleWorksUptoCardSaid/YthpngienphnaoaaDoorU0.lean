import Derived.Lib.DecodeN
import Derived.Lib.SpaceU
/-
  UTF-8 in plain words: how a rune is written; what the model's decode reads there.
-/
namespace Go.Proofs.YthpngienphnaoaaDoor

def scalar (r : Nat) : Prop := r < 55296 ∨ 57344 ≤ r ∧ r ≤ 1114111
instance (r : Nat) : Decidable (scalar r) := by unfold scalar; infer_instance
def encR (r : Nat) : List UInt8 :=
  if r < 128 then [UInt8.ofNat r]
  else if r < 2048 then [UInt8.ofNat (192 + r / 64), UInt8.ofNat (128 + r % 64)]
  else if r < 65536 then [UInt8.ofNat (224 + r / 4096), UInt8.ofNat (128 + r / 64 % 64), UInt8.ofNat (128 + r % 64)]
  else [UInt8.ofNat (240 + r / 262144), UInt8.ofNat (128 + r / 4096 % 64), UInt8.ofNat (128 + r / 64 % 64), UInt8.ofNat (128 + r % 64)]
def encS (l : List Nat) : List UInt8 := l.flatMap encR
/-- What the model's decode reads at the head of bytes. -/
def decL (l : List UInt8) : Nat × Nat := Lib.decodeN l.length (l.getD 0 0).toNat (l.getD 1 0).toNat (l.getD 2 0).toNat (l.getD 3 0).toNat
theorem getD_get (s : ByteArray) (pos i : Nat) : (s.get! (pos + i)) = (s.data.toList.drop pos).getD i 0 := by
  rw [List.getD_eq_getElem?_getD, List.getElem?_drop, Array.getElem?_toList]
  show s.data[pos + i]! = _
  rw [Array.getElem!_eq_getD, Array.getD_eq_getD_getElem?]
  rfl
theorem decode_decL (s : ByteArray) (pos : Nat) : Utf8.decode s pos = decL (s.data.toList.drop pos) := by
  unfold decL
  rw [Lib.decode_at, List.length_drop, ← getD_get, ← getD_get, ← getD_get, ← getD_get, Array.length_toList]
  rfl
theorem ofNat_toNat' {n : Nat} (h : n < 256) : (UInt8.ofNat n).toNat = n := by simp; omega
theorem dec_enc_head (r : Nat) (hr : scalar r) (t : List UInt8) : decL (encR r ++ t) = (r, (encR r).length) := by
  unfold scalar at hr
  unfold encR decL Lib.decodeN
  by_cases h1 : r < 128
  · rw [if_pos h1]
    simp only [List.cons_append, List.nil_append, List.getD_cons_zero, ofNat_toNat' (show r < 256 by omega)]
    rw [if_pos h1]; rfl
  · rw [if_neg h1]
    by_cases h2 : r < 2048
    · rw [if_pos h2]
      simp only [List.cons_append, List.nil_append, List.getD_cons_zero, List.getD_cons_succ, List.length_cons, ofNat_toNat' (show 192 + r / 64 < 256 by omega), ofNat_toNat' (show 128 + r % 64 < 256 by omega)]
      rw [if_neg (by omega), if_pos (by omega), if_pos (by omega)]
      exact Prod.ext (by simp only; omega) rfl
    · rw [if_neg h2]
      by_cases h3 : r < 65536
      · rw [if_pos h3]
        simp only [List.cons_append, List.nil_append, List.getD_cons_zero, List.getD_cons_succ, List.length_cons, ofNat_toNat' (show 224 + r / 4096 < 256 by omega), ofNat_toNat' (show 128 + r / 64 % 64 < 256 by omega), ofNat_toNat' (show 128 + r % 64 < 256 by omega)]
        rw [if_neg (by omega), if_neg (by omega), if_pos (by omega), if_pos (by omega)]
        exact Prod.ext (by simp only; omega) rfl
      · rw [if_neg h3]
        simp only [List.cons_append, List.nil_append, List.getD_cons_zero, List.getD_cons_succ, List.length_cons, ofNat_toNat' (show 240 + r / 262144 < 256 by omega), ofNat_toNat' (show 128 + r / 4096 % 64 < 256 by omega), ofNat_toNat' (show 128 + r / 64 % 64 < 256 by omega), ofNat_toNat' (show 128 + r % 64 < 256 by omega)]
        rw [if_neg (by omega), if_neg (by omega), if_neg (by omega), if_pos (by omega), if_pos (by omega)]
        exact Prod.ext (by simp only; omega) rfl
theorem u8_eq {b : UInt8} {n : Nat} (h : b.toNat = n) : UInt8.ofNat n = b := by subst h; simp
set_option maxRecDepth 100000 in
/-- Where decode reads no error, a rune stands written. -/
theorem dec_inv (l : List UInt8) (h0 : l ≠ []) (h : decL l ≠ (65533, 1)) : ∃ r t, scalar r ∧ l = encR r ++ t := by
  unfold decL Lib.decodeN at h
  unfold scalar
  match l, h0 with
  | b0 :: t0, _ =>
    have g0 := b0.toNat_lt
    simp only [List.getD_cons_zero, List.getD_cons_succ] at h
    split at h
    · rename_i c
      refine ⟨b0.toNat, t0, by omega, ?_⟩
      unfold encR
      rw [if_pos c]
      simp
    · split at h
      · rename_i c0 c
        match t0, c with
        | b1 :: t1, c =>
          have g1 := b1.toNat_lt
          simp only [List.getD_cons_zero, List.length_cons] at h c
          split at h
          · rename_i d
            refine ⟨b0.toNat % 32 * 64 + b1.toNat % 64, t1, by omega, ?_⟩
            unfold encR
            rw [if_neg (by omega), if_pos (by omega), u8_eq (b := b0) (by omega), u8_eq (b := b1) (by omega)]; rfl
          · exact absurd rfl h
        | [], c => simp at c
      · split at h
        · rename_i c0 c1 c
          match t0, c with
          | b1 :: b2 :: t1, c =>
            have g1 := b1.toNat_lt
            have g2 := b2.toNat_lt
            simp only [List.getD_cons_zero, List.getD_cons_succ, List.length_cons] at h c
            split at h
            · rename_i d
              refine ⟨b0.toNat % 16 * 4096 + b1.toNat % 64 * 64 + b2.toNat % 64, t1, by omega, ?_⟩
              unfold encR
              rw [if_neg (by omega), if_neg (by omega), if_pos (by omega), u8_eq (b := b0) (by omega), u8_eq (b := b1) (by omega), u8_eq (b := b2) (by omega)]; rfl
            · exact absurd rfl h
          | [_], c => simp at c
          | [], c => simp at c
        · split at h
          · rename_i c0 c1 c2 c
            rcases t0 with _ | ⟨b1, _ | ⟨b2, _ | ⟨b3, t1⟩⟩⟩
            · exact absurd c.2.1.1 (by simp)
            · exact absurd c.2.2.1.1 (by simp)
            · exact absurd c.2.2.2.1 (by simp)
            · have g1 := b1.toNat_lt
              have g2 := b2.toNat_lt
              have g3 := b3.toNat_lt
              simp only [List.getD_cons_zero, List.getD_cons_succ, List.length_cons] at h c
              split at h
              · rename_i d
                refine ⟨b0.toNat % 8 * 262144 + b1.toNat % 64 * 4096 + b2.toNat % 64 * 64 + b3.toNat % 64, t1, by omega, ?_⟩
                unfold encR
                rw [if_neg (by omega), if_neg (by omega), if_neg (by omega), u8_eq (b := b0) (by omega), u8_eq (b := b1) (by omega), u8_eq (b := b2) (by omega), u8_eq (b := b3) (by omega)]; rfl
              · exact absurd rfl h
          · exact absurd rfl h
theorem encR_pos (r : Nat) : 0 < (encR r).length ∧ (encR r).length ≤ 4 := by
  unfold encR
  repeat' split
  all_goals simp
/-- The runes of bytes: none: they are no text. -/
def runesF : Nat → List UInt8 → Option (List Nat)
  | 0, l => if l = [] then some [] else none
  | f + 1, l => if l = [] then some [] else if decL l = (65533, 1) then none else (runesF f (l.drop (decL l).2)).map ((decL l).1 :: ·)
def runesL (l : List UInt8) : Option (List Nat) := runesF l.length l
theorem encS_cons (r : Nat) (l : List Nat) : encS (r :: l) = encR r ++ encS l := rfl
theorem encS_append (a b : List Nat) : encS (a ++ b) = encS a ++ encS b := List.flatMap_append
theorem enc_ne (r : Nat) (hr : scalar r) (t : List UInt8) : encR r ++ t ≠ [] ∧ decL (encR r ++ t) ≠ (65533, 1) := by
  have hp := encR_pos r
  refine ⟨fun h => ?_, fun h => ?_⟩
  · have := congrArg List.length h
    rw [List.length_append, List.length_nil] at this
    omega
  · rw [dec_enc_head r hr] at h
    injection h with h1 h2
    subst h1
    simp [encR] at h2
theorem runesF_enc (l : List Nat) : ∀ f, (encS l).length ≤ f → (∀ r ∈ l, scalar r) → runesF f (encS l) = some l := by
  induction l with
  | nil => intro f _ _; cases f <;> simp [runesF, encS]
  | cons r l ih =>
    intro f hf hs
    have hr := hs r (List.mem_cons_self ..)
    have hp := encR_pos r
    rw [encS_cons, List.length_append] at hf
    obtain ⟨e1, e2⟩ := enc_ne r hr (encS l)
    cases f with
    | zero => omega
    | succ f =>
      rw [encS_cons, runesF, if_neg e1, if_neg e2, dec_enc_head r hr, List.drop_left, ih f (by omega) (fun x hx => hs x (List.mem_cons_of_mem _ hx))]
      rfl
theorem runesF_inv : ∀ (f : Nat) (b : List UInt8) (l : List Nat), runesF f b = some l → b = encS l ∧ ∀ r ∈ l, scalar r := by
  intro f
  induction f with
  | zero =>
    intro b l h
    rw [runesF] at h
    split at h
    · rename_i e
      injection h with h
      subst h
      exact ⟨e, fun r hr => by simp at hr⟩
    · cases h
  | succ f ih =>
    intro b l h
    rw [runesF] at h
    split at h
    · rename_i e
      injection h with h
      subst h
      exact ⟨e, fun r hr => by simp at hr⟩
    · rename_i e0
      split at h
      · cases h
      · rename_i e1
        obtain ⟨r, t, hr, rfl⟩ := dec_inv b e0 e1
        rw [dec_enc_head r hr, List.drop_left] at h
        obtain ⟨l', h1, h2⟩ := Option.map_eq_some_iff.1 h
        obtain ⟨h3, h4⟩ := ih t l' h1
        subst h2
        refine ⟨by rw [encS_cons, ← h3], fun x hx => ?_⟩
        rcases List.mem_cons.1 hx with rfl | hx
        · exact hr
        · exact h4 x hx
theorem runesL_enc (l : List Nat) (h : ∀ r ∈ l, scalar r) : runesL (encS l) = some l := runesF_enc l _ (Nat.le_refl _) h
theorem runesL_inv {b : List UInt8} {l : List Nat} (h : runesL b = some l) : b = encS l ∧ ∀ r ∈ l, scalar r := runesF_inv _ b l h
end Go.Proofs.YthpngienphnaoaaDoor
