import Derived.Test.YthpngienphnaoaaDoorV3
import Derived.Test.YthpngienphnaoaaDoorV4
/-
  blotterlaw01.awake: it returns true.
-/
namespace Go.Proofs.YthpngienphnaoaaDoor
open Go.RowKit Go.Proofs.YthpngienphnaoaaDoorW.PrintWords

/-- What the library's variables hold: the two tables of unicode/utf8; some number for bytealg. -/
def Env (w : World) : Prop := Lib.Utf8Tabs 0 1 w ∧ ∃ m, w.cell? ⟨2, 0, none⟩ = some (.int .i64 m)
theorem env_below {w w' : World} (h : Env w) (hb : Below w.heap.size w w') : Env w' := by
  obtain ⟨h1, m, h2⟩ := h
  exact ⟨tabs_below h1 hb, m, (hb.cell (World.block_lt_of_cell? w _ h2)).trans h2⟩
theorem own_slice' {w : World} {base n : Nat} {e : TypeId} {v : Value} {xs : List Value} (h : w.ownsRow base e 1 v n xs) : ∃ A c, v = .slice A n c := by
  rcases h.2 with ⟨h1, h2⟩ | ⟨g, cap, cur, h1, h2, _⟩
  · subst h1; subst h2; exact ⟨none, 0, rfl⟩
  · exact ⟨_, _, h1⟩
theorem aw1 : cntS (ByteArray.mk #[104, 195, 169, 108, 108, 111]).data.toList = (5, 0) := by kernel_rfl
theorem aw2 : splS (ByteArray.mk #[97, 98, 99]).data.toList (ByteArray.mk #[120, 121]).data.toList 1 1 = ([97, 120, 121, 99], 0) := by kernel_rfl
theorem aw3 : behindS (ByteArray.mk #[97, 98, 99, 97, 98]).data.toList (ByteArray.mk #[97, 98, 97, 98]).data.toList = (2, 0) := by kernel_rfl
theorem aw4 : textS (ByteArray.mk #[97, 10, 10, 98]).data.toList = some [97, 10, 10, 98] := by kernel_rfl
theorem aw5 : (linesL (ByteArray.mk #[97, 10, 10, 98]).data.toList).length = 3 := by kernel_rfl
theorem aw6 : cntS (ByteArray.mk #[255]).data.toList = (0, 10) := by kernel_rfl
set_option maxHeartbeats 4000000 in
set_option maxRecDepth 100000 in
theorem awake_any (w : World) (hE : Env w) : Calls Tryd.prog 15 #[] w fun e w' => e = .returned (.bool true) ∧ Below w.heap.size w w' := by
  have HE := Lib.hid hE
  clear hE
  have C1 : Hid (∀ W, Env W → Calls Tryd.prog 24 #[.string ⟨#[104, 195, 169, 108, 108, 111]⟩] W fun e w' => e = .returned (.tuple #[.int .i64 5, .int .i64 0]) ∧ Below W.heap.size W w') := by
    intro W h
    have h := count_any ⟨#[104, 195, 169, 108, 108, 111]⟩ W (by decide) h.1
    rw [aw1] at h
    exact h
  have C2 : Hid (∀ W, Env W → Calls Tryd.prog 16 #[.string ⟨#[97, 98, 99]⟩, .int .i64 1, .int .i64 1, .string ⟨#[120, 121]⟩] W fun e w' => e = .returned (.tuple #[.string ⟨#[97, 120, 121, 99]⟩, .int .i64 0]) ∧ Below W.heap.size W w') := by
    intro W h
    have h := splice_any ⟨#[97, 98, 99]⟩ ⟨#[120, 121]⟩ 1 1 W (by decide) (by decide) h.1 (by omega) (by omega)
    rw [aw2] at h
    exact h
  have C3 : Hid (∀ W, Env W → Calls Tryd.prog 19 #[.string ⟨#[97, 98, 99, 97, 98]⟩, .string ⟨#[97, 98, 97, 98]⟩] W fun e w' => e = .returned (.tuple #[.int .i64 2, .int .i64 0]) ∧ Below W.heap.size W w') := by
    intro W h
    have h := behind_any ⟨#[97, 98, 99, 97, 98]⟩ ⟨#[97, 98, 97, 98]⟩ W (by decide) (by decide) h.1
    rw [aw3] at h
    exact h
  have C4 : Hid (∀ W, Env W → Calls Tryd.prog 22 #[.string ⟨#[97, 10, 10, 98]⟩] W fun e w' => ∃ A c, e = .returned (.tuple #[.slice A 3 c, .int .i64 0]) ∧ Below W.heap.size W w') := by
    intro W h
    obtain ⟨h1, m, h2⟩ := h
    refine (lines_yes ⟨#[97, 10, 10, 98]⟩ _ m W (by decide) h1 h2 aw4).mono ?_
    rintro e w' ⟨v, rfl, ho, hb⟩
    rw [aw5] at ho
    obtain ⟨A, c, rfl⟩ := own_slice' ho
    exact ⟨A, c, rfl, hb⟩
  have C5 : Hid (∀ W, Env W → Calls Tryd.prog 24 #[.string ⟨#[255]⟩] W fun e w' => e = .returned (.tuple #[.int .i64 0, .int .i64 10]) ∧ Below W.heap.size W w') := by
    intro W h
    have h := count_any ⟨#[255]⟩ W (by decide) h.1
    rw [aw6] at h
    exact h
  go_enter Tryd.func15, Tryd.ntmps15
  go_wp2_with fail
  refine (C1.out w HE.out).mono ?_
  rintro e w1 ⟨rfl, hb1⟩
  have E1 := Lib.hid (env_below HE.out hb1)
  go_wp2_with fail
  refine (C2.out w1 E1.out).mono ?_
  rintro e w2 ⟨rfl, hb2⟩
  have E2 := Lib.hid (env_below E1.out hb2)
  have hb02 := below_then hb1 hb1.size hb2
  clear hb1 hb2
  go_wp2_with fail
  refine (C3.out w2 E2.out).mono ?_
  rintro e w3 ⟨rfl, hb3⟩
  have E3 := Lib.hid (env_below E2.out hb3)
  have hb03 := below_then hb02 hb02.size hb3
  clear hb02 hb3
  go_wp2_with fail
  refine (C4.out w3 E3.out).mono ?_
  rintro e w4 ⟨A, c, rfl, hb4⟩
  have E4 := Lib.hid (env_below E3.out hb4)
  have hb04 := below_then hb03 hb03.size hb4
  clear hb03 hb4
  go_wp2_with fail
  refine (C5.out w4 E4.out).mono ?_
  rintro e w5 ⟨rfl, hb5⟩
  have hb05 := below_then hb04 hb04.size hb5
  clear hb04 hb5
  go_wp2_with fail
  go_ret
  exact ⟨rfl, hb05⟩
end Go.Proofs.YthpngienphnaoaaDoor
