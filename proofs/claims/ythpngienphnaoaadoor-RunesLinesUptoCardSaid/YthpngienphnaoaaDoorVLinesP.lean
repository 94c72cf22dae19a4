import Derived.Test.YthpngienphnaoaaDoorU2RunesLines
import Derived.Test.YthpngienphnaoaaDoorPRunesLinesx3
import Derived.Test.YthpngienphnaoaaDoorV9
/-
  The plain law of the document's Lines.
-/
namespace Go.Proofs.YthpngienphnaoaaDoor.PRunesLines
open Go.RowKit Go.Proofs.YthpngienphnaoaaDoorW.PrintWords Go.Proofs.YthpngienphnaoaaDoorW.PrintLast Go.Proofs.YthpngienphnaoaaDoorW.PrintMore Go.Proofs.YthpngienphnaoaaDoor

theorem read_yes {s : ByteArray} {l : List Nat} (hs : s.size ≤ 10000000) (h : textS s.data.toList = some l) : ∃ k0, ∀ k, k0 ≤ k → blotterref01_read.f k s = some (ints l, true) := by
  obtain ⟨k, hk⟩ := read_f s hs
  suffices h9 : blotterref01_read.f k s = some (ints l, true) from ⟨k, fun _ hk' => at_rounds (g := fun k => blotterref01_read.f k s) (blotterref01_read.mono s) hk' h9⟩
  rw [hk]
  unfold textS at h
  cases hr : runesL s.data.toList with
  | none => rw [hr] at h; cases h
  | some l' =>
    rw [hr, Option.bind_some] at h
    by_cases h2 : l'.length ≤ 20000
    · rw [if_pos h2] at h
      injection h with h
      subst h
      simp only
      rw [decide_eq_true (by omega)]
    · rw [if_neg h2] at h; cases h
theorem read_no {s : ByteArray} (hs : s.size ≤ 10000000) (h : textS s.data.toList = none) : ∃ x, ∃ k0, ∀ k, k0 ≤ k → blotterref01_read.f k s = some (x, false) := by
  obtain ⟨k, hk⟩ := read_f s hs
  unfold textS at h
  cases hr : runesL s.data.toList with
  | none =>
    rw [hr] at hk
    exact ⟨_, k, fun _ hk' => at_rounds (g := fun k => blotterref01_read.f k s) (blotterref01_read.mono s) hk' hk⟩
  | some l' =>
    rw [hr] at hk
    rw [hr, Option.bind_some] at h
    by_cases h2 : l'.length ≤ 20000
    · rw [if_pos h2] at h; cases h
    · simp only at hk
      rw [decide_eq_false (by omega)] at hk
      exact ⟨_, k, fun _ hk' => at_rounds (g := fun k => blotterref01_read.f k s) (blotterref01_read.mono s) hk' hk⟩
/-- Texts as strings. -/
def texts (ls : List (List UInt8)) : List ByteArray := ls.map str
theorem linesL_no (l : List UInt8) (h : (10 : UInt8) ∉ l) : linesL l = [l] := by
  induction l with
  | nil => rfl
  | cons b t ih =>
    have hb : b ≠ 10 := fun e => h (by rw [e]; exact List.mem_cons_self ..)
    rw [linesL, if_neg hb, ih (fun e => h (List.mem_cons_of_mem _ e))]
theorem set_last (done : List ByteArray) (x y : ByteArray) : (done ++ [x]).set done.length y = done ++ [y] := by
  rw [List.set_append_right _ _ (Nat.le_refl _), Nat.sub_self]; rfl
theorem ext_str (s : ByteArray) (a b : Nat) : s.extract a b = str ((s.data.toList.drop a).take (b - a)) := by
  apply ByteArray.ext
  apply Array.ext'
  rw [ext_list, List.drop_take]
  simp [str]
theorem lines_l0 (s : ByteArray) (hs : s.size ≤ 10000000) : ∀ (d i f : Nat) (done : List ByteArray), s.size - i = d → i ≤ s.size → f ≤ i → done.length ≤ i → (10 : UInt8) ∉ (s.data.toList.drop f).take (i - f) →
    ∃ k, blotterref01_Lines.l0 k s (done ++ [⟨#[]⟩]) (f : Int) (i : Int) = some (done ++ texts (linesL (s.data.toList.drop f)), 0) := by
  have hsz : s.data.toList.length = s.size := Array.length_toList
  intro d
  induction d with
  | zero =>
    intro i f done hd hi hf hdl hno
    have e : i = s.size := by omega
    subst e
    refine ⟨1, ?_⟩
    have hall : (s.data.toList.drop f).take (s.size - f) = s.data.toList.drop f := List.take_of_length_le (by rw [List.length_drop]; omega)
    rw [hall] at hno
    have hlen : ((done ++ [(⟨#[]⟩ : ByteArray)]).length : Int) = (done.length : Int) + 1 := by rw [List.length_append, List.length_singleton]; omega
    rw [blotterref01_Lines.l0, if_neg (by omega), if_pos (by omega), if_pos (by omega), hlen, w64 (n := (done.length : Int) + 1 - 1) (by omega) (by omega), if_pos (by omega), if_pos (by omega), show ((done.length : Int) + 1 - 1).toNat = done.length by omega, set_last, linesL_no _ hno, Int.toNat_natCast, ext_str, hall]
    rfl
  | succ d ih =>
    intro i f done hd hi hf hdl hno
    have hlt : i < s.size := by omega
    have hlen : ((done ++ [(⟨#[]⟩ : ByteArray)]).length : Int) = (done.length : Int) + 1 := by rw [List.length_append, List.length_singleton]; omega
    have hil : i < s.data.toList.length := by omega
    have hbt : bt s (i : Int) = ((s.data.toList[i]).toNat : Int) := by
      have h := bt_drop s i 0 (by omega)
      rw [show (i : Int) + ((0 : Nat) : Int) = (i : Int) by omega] at h
      rw [h, List.getD_eq_getElem?_getD, List.getElem?_drop, Nat.add_zero, List.getElem?_eq_getElem hil]; rfl
    have hcut : (s.data.toList.drop f).take (i + 1 - f) = (s.data.toList.drop f).take (i - f) ++ [s.data.toList[i]] := by
      rw [show i + 1 - f = (i - f) + 1 by omega, List.take_succ_eq_append_getElem (by rw [List.length_drop]; omega)]
      congr 2
      rw [List.getElem_drop]
      congr 1
      omega
    by_cases h10 : s.data.toList[i] = 10
    · obtain ⟨k, hk⟩ := ih (i + 1) (i + 1) (done ++ [s.extract f i]) (by omega) (by omega) (Nat.le_refl _) (by rw [List.length_append, List.length_singleton]; omega) (by rw [Nat.sub_self, List.take_zero]; exact List.not_mem_nil)
      refine ⟨k + 1, ?_⟩
      have hb10 : bt s (i : Int) = 10 := by rw [hbt, h10]; rfl
      have hsplit : s.data.toList.drop f = (s.data.toList.drop f).take (i - f) ++ 10 :: s.data.toList.drop (i + 1) := by
        conv => lhs; rw [← List.take_append_drop (i - f) (s.data.toList.drop f)]
        rw [List.drop_drop, show f + (i - f) = i by omega, List.drop_eq_getElem_cons hil, h10]
      rw [blotterref01_Lines.l0, if_pos (by omega), if_pos (by omega), if_pos hb10, if_pos (by omega), if_pos (by omega), if_pos (by omega), hlen, w64 (n := (done.length : Int) + 1 - 1) (by omega) (by omega), if_pos (by omega), if_pos (by omega), show ((done.length : Int) + 1 - 1).toNat = done.length by omega, set_last, Option.bind_some, if_pos (by rw [List.length_append, List.length_singleton]; omega), w64 (n := (i : Int) + 1) (by omega) (by omega), Int.toNat_natCast, Int.toNat_natCast]
      rw [show ((i : Int) + 1) = ((i + 1 : Nat) : Int) by omega, hk]
      conv => rhs; rw [hsplit, linesL_app, linesL_no _ hno]
      rw [ext_str]
      simp [texts]
    · obtain ⟨k, hk⟩ := ih (i + 1) f done (by omega) (by omega) (by omega) (by omega) (by
        rw [hcut]
        intro h
        rcases List.mem_append.1 h with h | h
        · exact hno h
        · exact h10 (List.mem_singleton.1 h).symm)
      refine ⟨k + 1, ?_⟩
      have hb10 : ¬ bt s (i : Int) = 10 := by
        rw [hbt]
        intro h
        apply h10
        apply UInt8.toNat_inj.1
        show _ = 10
        omega
      rw [blotterref01_Lines.l0, if_pos (by omega), if_pos (by omega), if_neg hb10, w64 (n := (i : Int) + 1) (by omega) (by omega), show ((i : Int) + 1) = ((i + 1 : Nat) : Int) by omega, hk]
/-- The lines of a text; none of what is no text. -/
def linS (b : List UInt8) : List (List UInt8) × Int := match textS b with | some _ => (linesL b, 0) | none => ([], 10)
theorem Lines_f (s : ByteArray) (hs : s.size ≤ 10000000) : ∃ k, blotterref01_Lines.f k s = some (texts (linS s.data.toList).1, (linS s.data.toList).2) := by
  cases hl : textS s.data.toList with
  | none =>
    obtain ⟨x, k, hk⟩ := read_no hs hl
    refine ⟨k, ?_⟩
    unfold blotterref01_Lines.f blotterref01_Right.f linS
    rw [hk k (Nat.le_refl _), Option.bind_some, Option.bind_some, if_neg (show ¬ false = true from Bool.false_ne_true), hl]; rfl
  | some l =>
    obtain ⟨k1, hk1⟩ := read_yes hs hl
    obtain ⟨k2, hk2⟩ := lines_l0 s hs _ 0 0 [] rfl (by omega) (Nat.le_refl _) (Nat.le_refl _) (by simp)
    replace hk2 : blotterref01_Lines.l0 k2 s [⟨#[]⟩] 0 0 = some (texts (linesL s.data.toList), 0) := hk2
    refine ⟨max k1 k2, ?_⟩
    unfold blotterref01_Lines.f blotterref01_Right.f linS
    rw [hk1 _ (by omega), Option.bind_some, Option.bind_some, if_pos rfl, hl]
    exact at_rounds (g := fun k => blotterref01_Lines.l0 k s [⟨#[]⟩] 0 0) (fun k => blotterref01_Lines.mono_l k s [⟨#[]⟩] 0 0) (show k2 ≤ max k1 k2 by omega) hk2
end Go.Proofs.YthpngienphnaoaaDoor.PRunesLines
