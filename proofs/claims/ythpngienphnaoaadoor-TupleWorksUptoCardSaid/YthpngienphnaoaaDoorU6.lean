import Derived.Test.YthpngienphnaoaaDoorU5
/-
  strings.Clone, runes.Place, runes.Cut: their contracts.
-/
namespace Go.Proofs.YthpngienphnaoaaDoor
open Go.RowKit Go.Proofs.YthpngienphnaoaaDoorW.PrintWords

theorem clone_any (s : ByteArray) (w : World) (hs : s.size ≤ 10000000) : Calls Tryd.prog 53 #[.string s] w fun e w' => e = .returned (.string s) ∧ Below w.heap.size w w' := by
  go_enter Tryd.func53, Tryd.ntmps53
  go_wp2_with fail
  refine (Tryd.stringslite_Clone s w (by omega)).mono ?_
  rintro e w1 ⟨rfl, hb1⟩
  go_wp2_with fail
  go_ret
  exact ⟨rfl, hb1⟩
/-- What Place answers. -/
def plcS (b : List UInt8) (at_ : Int) : Int × Int :=
  match textS b with
  | some l => if at_ < 0 ∨ (l.length : Int) < at_ then (0, 1) else (((offS l at_.toNat : Nat) : Int), 0)
  | none => (0, 10)
set_option maxHeartbeats 4000000 in
set_option maxRecDepth 100000 in
theorem place_any (s : ByteArray) (a : Int) (w : World) (hs : s.size ≤ 10000000) (hT : Lib.Utf8Tabs 0 1 w) :
    Calls Tryd.prog 36 #[.string s, .int .i64 a] w fun e w' => e = .returned (.tuple #[.int .i64 (plcS s.data.toList a).1, .int .i64 (plcS s.data.toList a).2]) ∧ Below w.heap.size w w' := by
  go_enter Tryd.func36, Tryd.ntmps36
  go_wp2_with fail
  refine (count_any s w hs hT).mono ?_
  rintro e w1 ⟨rfl, hb1⟩
  clear hT
  cases hl : textS s.data.toList with
  | none =>
    rw [count_no hl]
    have hc : plcS s.data.toList a = (0, 10) := by unfold plcS; rw [hl]
    have HC := Lib.hid hc
    clear hc hl
    go_wp2_with fail
    go_ret2
    exact ⟨by rw [HC.out]; rfl, hb1⟩
  | some l =>
    rw [count_yes hl]
    obtain ⟨e1, e2, e3⟩ := textS_inv hl
    have HL := Lib.hid hl
    have HE := Lib.hid e1
    have HS := Lib.hid e2
    clear hl e1 e2
    by_cases c1 : a < 0
    · have hc : plcS s.data.toList a = (0, 1) := by unfold plcS; rw [HL.out]; simp only; rw [if_pos (by omega)]
      have HC := Lib.hid hc
      clear hc
      go_wp2_with fail
      go_ret2
      exact ⟨by rw [HC.out]; rfl, hb1⟩
    · by_cases c2 : (l.length : Int) < a
      · have hc : plcS s.data.toList a = (0, 1) := by unfold plcS; rw [HL.out]; simp only; rw [if_pos (by omega)]
        have HC := Lib.hid hc
        clear hc
        go_wp2_with fail
        go_ret2
        exact ⟨by rw [HC.out]; rfl, hb1⟩
      · have hc : plcS s.data.toList a = (((offS l a.toNat : Nat) : Int), 0) := by unfold plcS; rw [HL.out]; simp only; rw [if_neg (by omega)]
        have HC := Lib.hid hc
        clear hc
        obtain ⟨A, rfl⟩ := Int.eq_ofNat_of_zero_le (show 0 ≤ a by omega)
        go_wp2_with fail
        refine (offset_any s l A w1 HE.out HS.out hs (by omega)).mono ?_
        rintro e w2 ⟨rfl, hb2⟩
        have hb02 := below_then hb1 hb1.size hb2
        go_wp2_with fail
        go_ret2
        exact ⟨by rw [HC.out]; rfl, hb02⟩
end Go.Proofs.YthpngienphnaoaaDoor
