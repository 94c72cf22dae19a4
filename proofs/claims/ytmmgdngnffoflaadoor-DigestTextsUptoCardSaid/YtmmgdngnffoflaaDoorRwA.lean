import Derived.Test.YtmmgdngnffoflaaDoorCards
import Derived.Test.YtmmgdngnffoflaaDoorTie
import Derived.Test.YtmmgdngnffoflaaDoorH0
import Derived.OpenShut
import Derived.ShutString
import Derived.ChangeOld
import Derived.ChangeSame
import Derived.Carry
import Derived.ChangeMaps5
import Derived.Deep.DeepHandedRow
/-
  What the rows share: arguments opened under the second form's bound; a world for the witness.
-/
namespace Go.Proofs.YtmmgdngnffoflaaDoor
open Go.ChangeShapes Go.WideShapes Go.ChangeAt Go.RowKit Go.Proofs.YtmmgdngnffoflaaDoorW.PrintWords

theorem ownA : ownKnob Tryd.prog.godebug = none := by kernel_rfl
theorem laidOutA : laidOutB Tryd.prog = true := by kernel_rfl
theorem bulk_one {H : Type} (d : DataW H) : 1 ≤ Rows.uptoBulk d := by
  cases d with
  | lit l => cases l <;> simp [Rows.uptoBulk]
  | nil => simp [Rows.uptoBulk]
  | ptr d => simp [Rows.uptoBulk]
  | slice elems spare => simp [Rows.uptoBulk]
  | agg parts => simp [Rows.uptoBulk]
  | iface t d => simp [Rows.uptoBulk]
  | map entries => simp [Rows.uptoBulk]
  | held h => simp [Rows.uptoBulk]
theorem bulk_length {H : Type} (l : List (DataW H)) : l.length ≤ Rows.uptoBulkAll l := by
  induction l with
  | nil => simp [Rows.uptoBulkAll]
  | cons x r ih => have := bulk_one x; simp only [Rows.uptoBulkAll, List.length_cons]; omega
theorem bulk_part {H : Type} {d : DataW H} {l : List (DataW H)} (h : d ∈ l) : Rows.uptoBulk d ≤ Rows.uptoBulkAll l := by
  induction l with
  | nil => cases h
  | cons x r ih =>
    simp only [Rows.uptoBulkAll]
    cases List.mem_cons.1 h with
    | inl e => subst e; omega
    | inr e => have := ih e; omega
theorem bulk_of {H : Type} {l : List (DataW H)} (hk : Rows.uptoSmall H l = true) {d : DataW H} (h : d ∈ l) : Rows.uptoBulk d ≤ 1048576 := by
  have h1 := bulk_part h
  have h2 : Rows.uptoBulkAll l ≤ 1048576 := by simpa [Rows.uptoSmall] using hk
  omega
set_option maxRecDepth 100000 in
/-- A slice of bytes that came in. -/
theorem open_bytesU {H : Type} {enc : TypeId × Value → H} {W : World} {base : Nat} {v : Value} {d : DataW H} {p : List MemPlace} (hv : Value.okWide Tryd.prog W .any base 22 v)
    (h : DataW.Trod enc Tryd.prog W 0 (fun _ => true) true 22 v d p) (hb : Rows.uptoBulk d ≤ 1048576) :
    ∃ (a : Option Addr) (l : List Int) (c : Nat), v = .slice a l.length c ∧ l.length ≤ c ∧ Kd.C (Kd.int .u8) W a l.length l ∧ Bytes l ∧ l.length ≤ 1048576 := by
  obtain ⟨a, len, cap, rfl⟩ := okWide_slice Tryd.underlying22 hv
  obtain ⟨fuel, hf⟩ := h
  rcases open_ints Tryd.underlying22 Tryd.underlying5 (by kernel_rfl) hf with ⟨hcs, _⟩ | ⟨x, l, c, zs, hcs, _, hl, hm, hz, hd, hcell, hwz⟩
  · simp [Value.cells] at hcs
    obtain ⟨rfl, rfl, rfl⟩ := hcs
    exact ⟨none, [], 0, rfl, Nat.le_refl _, Kd.C_of_reads (readsInt_of.1 (ReadsInt.nil W .u8)), fun _ h => by simp at h, by simp⟩
  · simp [Value.cells] at hcs
    obtain ⟨rfl, rfl, rfl⟩ := hcs
    injection hd with hd _
    subst hd
    have hz' : zs.length = cap := by simpa using hz
    obtain ⟨l, e, h1, h2, h3, h4⟩ := ReadsInt.ofRowC (k := .u8) (w := W) (.inr ⟨_, rfl, hl, hm, hz', hcell, hwz⟩)
    have hlen : len ≤ 1048576 := by
      have := bulk_length (lits (H := H) .u8 (zs.take len))
      simp only [Rows.uptoBulk] at hb
      have e2 : (lits (H := H) .u8 (zs.take len)).length = len := by simp [lits]; omega
      omega
    refine ⟨_, l, cap, by rw [e], h4, Kd.C_of_reads (readsInt_of.1 h1), fun x hx => ?_, by omega⟩
    have := h3 x hx
    simp [Lit.wf, IntKind.min, IntKind.max, IntKind.signed, IntKind.bits] at this
    omega
set_option maxRecDepth 100000 in
/-- A string that came in. -/
theorem open_stringU {H : Type} {enc : TypeId × Value → H} {W : World} {base : Nat} {v : Value} {d : DataW H} {p : List MemPlace} (hv : Value.okWide Tryd.prog W .any base 9 v)
    (h : DataW.Trod enc Tryd.prog W 0 (fun _ => true) true 9 v d p) (hb : Rows.uptoBulk d ≤ 1048576) :
    ∃ s : ByteArray, v = .string s ∧ s.size ≤ 1048576 := by
  obtain ⟨s, rfl, rfl, rfl, _⟩ := Go.ChangeMaps.open_string Tryd.underlying9 hv h
  refine ⟨s, rfl, ?_⟩
  simp only [Rows.uptoBulk] at hb
  have : s.data.toList.length = s.size := Array.length_toList
  omega
theorem trod_below {H : Type} {enc : TypeId × Value → H} {W W' : World} {t : TypeId} {v : Value} {d : DataW H} {ps : List MemPlace} (h : DataW.Trod enc Tryd.prog W 0 (fun _ => true) true t v d ps) (hr : Tryd.prog.readableRec t = true) (hs : t < Tryd.prog.types.size)
    (hb : Below W.heap.size W W') : DataW.Trod enc Tryd.prog W' 0 (fun b => decide (b < W.heap.size)) true t v d ps :=
  Below.trod laidOutA hr hs h hb (by obtain ⟨m, hm⟩ := h; exact DataW.trod_lt m _ _ _ hm)

def firstCells : Array Value := (Go.Pinned.utf8FirstZ.map fun (n : Nat) => Value.int .u8 n).toArray
def acceptCells : Array Value := #[.int .u8 128, .int .u8 191, .int .u8 160, .int .u8 191, .int .u8 128, .int .u8 159, .int .u8 144, .int .u8 191, .int .u8 128, .int .u8 143] ++ (List.replicate 22 (Value.int .u8 0)).toArray
def withCells (c : Array Value) : Obj → Obj
  | .cells _ t frozen => .cells c t frozen
  | o => o
/-- A world for the witness: the settled one, the two tables holding what their initialisers lay. -/
noncomputable def laidWorld (os : Os) : World :=
  { World.holding Tryd.prog os ⟨#[], #[], []⟩ with heap := ((World.holding Tryd.prog os ⟨#[], #[], []⟩).heap.modify 0 (withCells firstCells)).modify 1 (withCells acceptCells) }
end Go.Proofs.YtmmgdngnffoflaaDoor
