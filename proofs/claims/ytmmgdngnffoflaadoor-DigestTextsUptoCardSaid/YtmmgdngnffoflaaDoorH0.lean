import Derived.Test.YtmmgdngnffoflaaDoorProg
import Derived.Test.YtmmgdngnffoflaaDoorShelf
import Derived.Test.YtmmgdngnffoflaaDoorShelfB
import Derived.Test.YtmmgdngnffoflaaDoorWWords
import Derived.Test.YtmmgdngnffoflaaDoorWMore
import Derived.Below
import Derived.Deep.Draws
import Derived.OwnWalk
import Derived.Laws.BytesArg
import Derived.Laws.MakeOwn
import Derived.Laws.OwnMore
import Derived.Tactics
import Derived.WalkKit
import Derived.KernelRfl
import Derived.Deep.LoopGhost
import Derived.Deep.QuietTactic
import Derived.BigQuiet
import Derived.Deep.DeepCutAuto
import Derived.Deep.DeepFit
import Derived.Deep.RegionHeld3
import Derived.Laws.Rows
import Derived.Laws.BitsLemmas
import Derived.WalkSpells
import Derived.Lib.Hide
import Derived.Outline
import Derived.StillTailTactics
import Derived.Deep.RegionWith
/-
  Common words of this seat's texts: what a slice of bytes gives a walk.
-/
namespace Go.Proofs.YtmmgdngnffoflaaDoor
open Go.RowKit Go.Proofs.YtmmgdngnffoflaaDoorW.PrintWords

/-- All numbers of a list are bytes. -/
def Bytes (l : List Int) : Prop := ∀ x ∈ l, 0 ≤ x ∧ x ≤ 255
instance (l : List Int) : Decidable (Bytes l) := by unfold Bytes; exact inferInstance

theorem Bytes.get {l : List Int} (h : Bytes l) (k : Nat) : 0 ≤ l.getD k 0 ∧ l.getD k 0 ≤ 255 := by
  rw [List.getD_eq_getElem?_getD]
  rcases Nat.lt_or_ge k l.length with hk | hk
  · rw [List.getElem?_eq_getElem hk]
    exact h _ (List.getElem_mem hk)
  · rw [List.getElem?_eq_none hk]
    simp

/-- A slice of bytes that is read: at each place its cell. -/
theorem bytes_at {w : World} {A : Option Addr} {n : Nat} {l : List Int} (h : Kd.C (Kd.int .u8) w A n l) {k : Nat} (hk : k < n) :
    ∃ ad, A = some ad ∧ w.cell? (ad.add k) = some (.int .u8 (l.getD k 0)) ∧ ad.block < w.heap.size := by
  have h1 : ReadsOf (Value.int .u8) (0 : Int) w A n l := Kd.reads_of_C h
  obtain ⟨ad, e, hc⟩ := h1.2.2 (by omega)
  refine ⟨ad, e, ?_, ?_⟩
  · exact hc k hk
  · have := World.block_lt_of_cell? w (ad.add 0) (hc 0 (by omega))
    rwa [show (ad.add 0).block = ad.block by unfold Addr.add; split <;> rfl] at this

theorem add_block (ad : Addr) (k : Nat) : (ad.add k).block = ad.block := by unfold Addr.add; split <;> rfl

end Go.Proofs.YtmmgdngnffoflaaDoor
