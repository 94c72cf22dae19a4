import Derived.Test.YthpngienphnaoaaDoorCards
import Derived.Test.YthpngienphnaoaaDoorTie
import Derived.Test.YthpngienphnaoaaDoorV5
import Derived.Lib.LaidU8
import Derived.Shelf.Vars
import Derived.OpenShut
import Derived.ShutString
import Derived.ChangeOld
import Derived.ChangeSame
import Derived.Carry
import Derived.ChangeMaps5
import Derived.Deep.DeepHandedRow
/-
  What the rows share: arguments opened under the second form's bound; a world for the witness.
-/
namespace Go.Proofs.YthpngienphnaoaaDoor
open Go.ChangeShapes Go.WideShapes Go.ChangeAt Go.RowKit Go.Proofs.YthpngienphnaoaaDoorW.PrintWords

theorem ownA : ownKnob Tryd.prog.godebug = none := by kernel_rfl
theorem laidOutA : laidOutB Tryd.prog = true := by kernel_rfl
theorem bulk_one {H : Type} (d : DataW H) : 1 ≤ Rows.uptoBulk d := by
  cases d with
  | lit l => cases l <;> simp [Rows.uptoBulk]
  | nil => simp [Rows.uptoBulk]
  | ptr d => simp [Rows.uptoBulk]
  | slice elems spare => simp [Rows.uptoBulk]
  | agg parts => simp [Rows.uptoBulk]
  | iface t d => simp [Rows.uptoBulk]
  | map entries => simp [Rows.uptoBulk]
  | held h => simp [Rows.uptoBulk]
theorem bulk_length {H : Type} (l : List (DataW H)) : l.length ≤ Rows.uptoBulkAll l := by
  induction l with
  | nil => simp [Rows.uptoBulkAll]
  | cons x r ih => have := bulk_one x; simp only [Rows.uptoBulkAll, List.length_cons]; omega
theorem bulk_part {H : Type} {d : DataW H} {l : List (DataW H)} (h : d ∈ l) : Rows.uptoBulk d ≤ Rows.uptoBulkAll l := by
  induction l with
  | nil => cases h
  | cons x r ih =>
    simp only [Rows.uptoBulkAll]
    cases List.mem_cons.1 h with
    | inl e => subst e; omega
    | inr e => have := ih e; omega
theorem bulk_of {H : Type} {l : List (DataW H)} (hk : Rows.uptoSmall H l = true) {d : DataW H} (h : d ∈ l) : Rows.uptoBulk d ≤ 1048576 := by
  have h1 := bulk_part h
  have h2 : Rows.uptoBulkAll l ≤ 1048576 := by simpa [Rows.uptoSmall] using hk
  omega
set_option maxRecDepth 100000 in
/-- A string that came in. -/
theorem open_stringU {H : Type} {enc : TypeId × Value → H} {W : World} {base : Nat} {v : Value} {d : DataW H} {p : List MemPlace} (hv : Value.okWide Tryd.prog W .any base 9 v)
    (h : DataW.Trod enc Tryd.prog W 0 (fun _ => true) true 9 v d p) (hb : Rows.uptoBulk d ≤ 1048576) :
    ∃ s : ByteArray, v = .string s ∧ s.size ≤ 1048576 := by
  obtain ⟨s, rfl, rfl, rfl, _⟩ := Go.ChangeMaps.open_string Tryd.underlying9 hv h
  refine ⟨s, rfl, ?_⟩
  simp only [Rows.uptoBulk] at hb
  have : s.data.toList.length = s.size := Array.length_toList
  omega
set_option maxRecDepth 100000 in
/-- A number that came in. -/
theorem open_intU {H : Type} {enc : TypeId × Value → H} {W : World} {base : Nat} {v : Value} {d : DataW H} {p : List MemPlace} (hv : Value.okWide Tryd.prog W .any base 3 v)
    (h : DataW.Trod enc Tryd.prog W 0 (fun _ => true) true 3 v d p) : ∃ n : Int, v = .int .i64 n ∧ -9223372036854775808 ≤ n ∧ n ≤ 9223372036854775807 := by
  obtain ⟨n, rfl, rfl, rfl, hw⟩ := Go.ChangeShapes.open_int Tryd.underlying3 hv h
  refine ⟨n, rfl, ?_⟩
  simp [Lit.wf, IntKind.min, IntKind.max, IntKind.signed, IntKind.bits] at hw
  omega
set_option maxRecDepth 100000 in
theorem first_eq : Rows.laid_unicode_utf8_first = Lib.firstData := by kernel_rfl
set_option maxRecDepth 100000 in
theorem accept_eq : (Rows.laid_unicode_utf8_acceptRanges : DataW Unit) = Lib.acceptData := by kernel_rfl
set_option maxRecDepth 100000 in
theorem u8extra : U8Extra Tryd.prog Tryd.lays260_ren := ⟨by kernel_rfl, by kernel_rfl, by kernel_rfl, by kernel_rfl, by kernel_rfl, by kernel_rfl, by kernel_rfl⟩
/-- What a row's world gives: the tables, and some number in bytealg's variable. -/
theorem env_of {W : World} (hL : laidMet Tryd.prog [("unicode/utf8.acceptRanges", Rows.laid_unicode_utf8_acceptRanges), ("unicode/utf8.first", Rows.laid_unicode_utf8_first)] W) (hS : W.ShapedOpen Tryd.prog) : Env W := by
  refine ⟨utf8Tabs_of_reads Tryd.lays260 u8extra ?_ ?_, ?_⟩
  · rw [← first_eq]
    exact Lib.laidMet.reads hL (.tail _ (.head _))
  · rw [← accept_eq]
    exact Lib.laidMet.reads hL (.head _)
  · exact cell_of_shapedOpen_int (t := 3) (zero := #[.int .i64 0]) hS (of_decide_eq_true (by kernel_rfl)) (by kernel_rfl) (by kernel_rfl) (by kernel_rfl) (by kernel_rfl) Tryd.underlying3
theorem trod_below {H : Type} {enc : TypeId × Value → H} {W W' : World} {t : TypeId} {v : Value} {d : DataW H} {ps : List MemPlace} (h : DataW.Trod enc Tryd.prog W 0 (fun _ => true) true t v d ps) (hr : Tryd.prog.readableRec t = true) (hs : t < Tryd.prog.types.size)
    (hb : Below W.heap.size W W') : DataW.Trod enc Tryd.prog W' 0 (fun b => decide (b < W.heap.size)) true t v d ps :=
  Below.trod laidOutA hr hs h hb (by obtain ⟨m, hm⟩ := h; exact DataW.trod_lt m _ _ _ hm)

def firstCells : Array Value := (Go.Pinned.utf8FirstZ.map fun (n : Nat) => Value.int .u8 n).toArray
def acceptCells : Array Value := #[.int .u8 128, .int .u8 191, .int .u8 160, .int .u8 191, .int .u8 128, .int .u8 159, .int .u8 144, .int .u8 191, .int .u8 128, .int .u8 143] ++ (List.replicate 22 (Value.int .u8 0)).toArray
def withCells (c : Array Value) : Obj → Obj
  | .cells _ t frozen => .cells c t frozen
  | o => o
/-- A world for the witness: the settled one, the two tables holding what their initialisers lay. -/
noncomputable def laidWorld (os : Os) : World :=
  { World.holding Tryd.prog os ⟨#[], #[], []⟩ with heap := ((World.holding Tryd.prog os ⟨#[], #[], []⟩).heap.modify 0 (withCells firstCells)).modify 1 (withCells acceptCells) }
end Go.Proofs.YthpngienphnaoaaDoor
