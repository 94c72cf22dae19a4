import Derived.Test.YthpngienphnaoaaDoorU0
import Derived.Test.YthpngienphnaoaaDoorVa
import Derived.Below
import Derived.Test.YthpngienphnaoaaDoorWWords
import Derived.WalkKit
import Derived.KernelRfl
/-
  runes.Count: its contract; ValidString and RuneCountInString in plain words.
-/
namespace Go.Proofs.YthpngienphnaoaaDoor
open Go.RowKit Go.Proofs.YthpngienphnaoaaDoorW.PrintWords

theorem decodeL_decL (l : List UInt8) : Lib.decodeL l = decL l := by
  unfold Lib.decodeL
  rw [decode_decL]; rfl
theorem validGo_runes : ∀ (f : Nat) (l : List UInt8), l.length ≤ f → Lib.validGoD f l = (runesF f l).isSome := by
  intro f
  induction f with
  | zero =>
    intro l h
    have : l = [] := List.eq_nil_of_length_eq_zero (by omega)
    subst this
    rfl
  | succ f ih =>
    intro l h
    rw [Lib.validGoD, runesF, decodeL_decL]
    by_cases h0 : l = []
    · rw [if_pos h0, if_pos h0]; rfl
    · rw [if_neg h0, if_neg h0]
      by_cases h1 : decL l = (65533, 1)
      · rw [if_pos h1, if_pos (by rw [h1]; exact ⟨rfl, rfl⟩)]; rfl
      · rw [if_neg h1, if_neg (fun h => h1 (Prod.ext h.1 h.2)), Option.isSome_map]
        obtain ⟨r, t, hr, ht⟩ := dec_inv l h0 h1
        have hp := encR_pos r
        refine ih _ ?_
        rw [ht, dec_enc_head r hr, List.drop_left]
        have := congrArg List.length ht
        rw [List.length_append] at this
        omega
theorem validD_runes (l : List UInt8) : Lib.validD l = (runesL l).isSome := validGo_runes _ l (Nat.le_refl _)
theorem count_runes (s : ByteArray) : ∀ (f pos : Nat) (l : List Nat), (s.data.toList.drop pos) = encS l → (∀ r ∈ l, scalar r) → l.length ≤ f → Lib.runeCountFrom s f pos = l.length := by
  have hsz : s.data.toList.length = s.size := Array.length_toList
  intro f
  induction f with
  | zero =>
    intro pos l _ _ h
    have : l = [] := List.eq_nil_of_length_eq_zero (by omega)
    subst this
    rfl
  | succ f ih =>
    intro pos l he hs hf
    rw [Lib.runeCountFrom]
    cases l with
    | nil =>
      have : s.data.toList.length ≤ pos := by
        have := congrArg List.length he
        rw [List.length_drop] at this
        simp [encS] at this
        omega
      rw [if_neg (by omega)]; rfl
    | cons r l =>
      have hr := hs r (List.mem_cons_self ..)
      have hp := encR_pos r
      have hlen := congrArg List.length he
      rw [List.length_drop, encS_cons, List.length_append] at hlen
      rw [if_pos (by omega), decode_decL, he, encS_cons, dec_enc_head r hr, ih (pos + (encR r).length) l ?_ (fun x hx => hs x (List.mem_cons_of_mem _ hx)) (by simp at hf; omega)]
      · simp; omega
      · rw [← List.drop_drop, he, encS_cons, List.drop_left]
theorem encS_len (l : List Nat) : l.length ≤ (encS l).length := by
  induction l with
  | nil => simp [encS]
  | cons r l ih =>
    have hp := encR_pos r
    rw [encS_cons, List.length_append, List.length_cons]
    omega
theorem runeCount_runes {s : ByteArray} {l : List Nat} (h : runesL s.data.toList = some l) : Lib.runeCount s = l.length := by
  obtain ⟨h1, h2⟩ := runesL_inv h
  have hsz : s.data.toList.length = s.size := Array.length_toList
  refine count_runes s s.size 0 l (by simpa using h1) h2 ?_
  have := encS_len l
  rw [← h1] at this
  omega
theorem tabs_below {w w' : World} (h : Lib.Utf8Tabs 0 1 w) (hb : Below w.heap.size w w') : Lib.Utf8Tabs 0 1 w' := by
  refine ⟨fun c hc => ?_, fun i hi => ⟨?_, ?_⟩⟩
  · exact (hb.cell (World.block_lt_of_cell? w _ (h.1 c hc))).trans (h.1 c hc)
  · exact (hb.cell (World.block_lt_of_cell? w _ (h.2 i hi).1)).trans (h.2 i hi).1
  · exact (hb.cell (World.block_lt_of_cell? w _ (h.2 i hi).2)).trans (h.2 i hi).2
theorem iter_below (w : World) (s : ByteArray) (pos : Nat) : Below w.heap.size w (w.iter s pos) := (Below.refl _ _).alloc (Nat.le_refl _) _
/-- What Count answers: how many runes, and the error's number. -/
def cntS (b : List UInt8) : Int × Int :=
  match runesL b with
  | some l => if l.length ≤ 20000 then (l.length, 0) else (0, 10)
  | none => (0, 10)
/-- The runes of a text. -/
def textS (b : List UInt8) : Option (List Nat) := (runesL b).bind fun l => if l.length ≤ 20000 then some l else none
theorem cntS_text (b : List UInt8) : cntS b = match textS b with | some l => ((l.length : Int), 0) | none => (0, 10) := by
  unfold cntS textS
  cases h : runesL b with
  | none => rfl
  | some l =>
    simp only [Option.bind_some]
    by_cases h2 : l.length ≤ 20000
    · rw [if_pos h2, if_pos h2]
    · rw [if_neg h2, if_neg h2]
set_option maxHeartbeats 4000000 in
set_option maxRecDepth 100000 in
theorem count_any (s : ByteArray) (w : World) (hs : s.size ≤ 10000000) (hT : Lib.Utf8Tabs 0 1 w) :
    Calls Tryd.prog 24 #[.string s] w fun e w' => e = .returned (.tuple #[.int .i64 (cntS s.data.toList).1, .int .i64 (cntS s.data.toList).2]) ∧ Below w.heap.size w w' := by
  go_enter Tryd.func24, Tryd.ntmps24
  go_wp2_with fail
  refine (Tryd.utf8_RuneCountInString s w (by omega)).mono ?_
  rintro e w1 ⟨rfl, pos, hw1⟩
  have hb1 : Below w.heap.size w w1 := by rw [hw1]; exact iter_below w s pos
  clear hw1
  have hT1 := tabs_below hT hb1
  have hrc : ∀ l, runesL s.data.toList = some l → Lib.runeCount s = l.length := fun l h => runeCount_runes h
  have HRC := Lib.hid hrc
  obtain ⟨n, hn⟩ : ∃ n, n = Lib.runeCount s := ⟨_, rfl⟩
  rw [← hn]
  have HN := Lib.hid hn
  clear hrc hn
  go_wp2_with fail
  refine (Tryd.utf8_ValidString s w1 (by omega) hT1).mono ?_
  rintro e w2 ⟨rfl, hb2⟩
  have hb02 := below_then hb1 hb1.size hb2
  clear hb1 hb2 hT hT1
  rw [validD_runes]
  cases hr : runesL s.data.toList with
  | none =>
    have hc : cntS s.data.toList = (0, 10) := by unfold cntS; rw [hr]
    have HC := Lib.hid hc
    clear hc
    rw [Option.isSome_none]
    go_wp2_with fail
    go_ret2
    exact ⟨by rw [HC.out]; rfl, hb02⟩
  | some l =>
    have hnl : n = l.length := by rw [HN.out]; exact HRC.out l hr
    subst hnl
    have hc : cntS s.data.toList = if l.length ≤ 20000 then ((l.length : Int), 0) else (0, 10) := by unfold cntS; rw [hr]
    have HC := Lib.hid hc
    clear hc HRC hr
    rw [Option.isSome_some]
    by_cases h2 : l.length ≤ 20000
    · have h3 : ¬ (20000 : Int) < (l.length : Int) := by omega
      go_wp2_with fail
      go_ret2
      exact ⟨by rw [HC.out, if_pos h2]; rfl, hb02⟩
    · have h3 : (20000 : Int) < (l.length : Int) := by omega
      go_wp2_with fail
      go_ret2
      exact ⟨by rw [HC.out, if_neg h2]; rfl, hb02⟩
end Go.Proofs.YthpngienphnaoaaDoor
