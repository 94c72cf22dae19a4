import Derived.Test.YthpngienphnaoaaDoorTA
import Derived.Test.YthpngienphnaoaaDoorRwB
import Derived.Deep.Slices
/-
  What the rows over tuples share: a slice of parts that came in.
-/
namespace Go.Proofs.YthpngienphnaoaaDoor
open Go.ChangeShapes Go.WideShapes Go.ChangeAt Go.RowKit Go.Deep Go.Proofs.YthpngienphnaoaaDoorW.PrintWords Go.Proofs.YthpngienphnaoaaDoor.PTupleWorks

theorem size39 : Tryd.prog.cellsOf 39 = 3 := by kernel_rfl
theorem size3 : Tryd.prog.cellsOf 3 = 1 := by kernel_rfl
theorem size9 : Tryd.prog.cellsOf 9 = 1 := by kernel_rfl
set_option maxRecDepth 100000 in
/-- One part, read. -/
theorem part_of {H : Type} {enc : TypeId × Value → H} {W : World} {base : Nat} {sp : Nat → Bool} {held : Bool} {n : Nat} {cs : List Value} {x : DataW H × List MemPlace} (h : DataW.trod enc Tryd.prog W base sp held n 39 cs = some x) :
    ∃ p : S39, cs = cellP p ∧ x.1 = .agg [.lit (.int .i64 p.f0), .lit (.int .i64 p.f1), .lit (.string p.f2.data.toList)] ∧ -9223372036854775808 ≤ p.f1 ∧ p.f1 ≤ 9223372036854775807 := by
  obtain ⟨xs, n', rfl, hx, hlen, hxl, hf⟩ := DataW.trod_struct Tryd.underlying39 h
  rw [size39] at hlen
  match cs, hlen with
  | [a, b, c], _ =>
    match xs, hxl with
    | [y0, y1, y2], _ =>
      have g0 := hf 0 _ rfl
      have g1 := hf 1 _ rfl
      have g2 := hf 2 _ rfl
      change DataW.trod enc Tryd.prog W base sp held n' 3 (([a, b, c].drop 0).take (Tryd.prog.cellsOf 3)) = some y0 at g0
      change DataW.trod enc Tryd.prog W base sp held n' 3 (([a, b, c].drop 1).take (Tryd.prog.cellsOf 3)) = some y1 at g1
      change DataW.trod enc Tryd.prog W base sp held n' 9 (([a, b, c].drop 2).take (Tryd.prog.cellsOf 9)) = some y2 at g2
      rw [size3] at g0 g1
      rw [size9] at g2
      obtain ⟨x0, e0, r0, _⟩ := DataW.trod_int Tryd.underlying3 g0
      obtain ⟨x1, e1, r1, w1⟩ := DataW.trod_int Tryd.underlying3 g1
      obtain ⟨x2, e2, r2, _⟩ := DataW.trod_string Tryd.underlying9 g2
      have e0' : a = .int .i64 x0 := by simpa using e0
      have e1' : b = .int .i64 x1 := by simpa using e1
      have e2' : c = .string x2 := by simpa using e2
      subst e0'; subst e1'; subst e2'; subst r0; subst r1; subst r2
      refine ⟨⟨x0, x1, x2⟩, rfl, by rw [hx]; rfl, ?_⟩
      simp [Lit.wf, IntKind.min, IntKind.max, IntKind.signed, IntKind.bits] at w1
      exact ⟨by show _ ≤ x1; omega, by show x1 ≤ _; omega⟩
set_option maxRecDepth 100000 in
/-- A slice of parts that came in. -/
theorem open_partsU {H : Type} {enc : TypeId × Value → H} {W : World} {base : Nat} {v : Value} {d : DataW H} {p : List MemPlace} (hv : Value.okWide Tryd.prog W .any base 37 v)
    (h : DataW.Trod enc Tryd.prog W 0 (fun _ => true) true 37 v d p) (hb : Rows.uptoBulk d ≤ 1048576) :
    ∃ (a : Option Addr) (l : List S39) (c : Nat), v = .slice a l.length c ∧ l.length ≤ c ∧ Kd.C k39 W a l.length l ∧ PartsOk l ∧ l.length ≤ 1048576 ∧ c ≤ maxLen := by
  obtain ⟨a, len, cap, rfl⟩ := okWide_slice Tryd.underlying37 hv
  obtain ⟨fuel, hf⟩ := h
  rcases open_slice Tryd.underlying37 hf with ⟨hcs, _⟩ | ⟨a', len', cap', m, n, D, Pl, hcs, _, hl, hm, hmm, hx, hi⟩
  · simp [Value.cells] at hcs
    obtain ⟨rfl, rfl, rfl⟩ := hcs
    exact ⟨none, [], 0, rfl, Nat.le_refl _, ⟨rfl, by simp, fun h => absurd h (by simp)⟩, fun p hp => (by cases hp), by simp, by unfold maxLen; omega⟩
  · simp [Value.cells] at hcs
    obtain ⟨rfl, rfl, rfl⟩ := hcs
    rw [size39] at hi
    have hml : len ≤ m := by rw [hmm]; split <;> omega
    have hx1 : d = .slice ((List.range len).map D) ((List.range (m - len)).map fun j => D (len + j)) := congrArg Prod.fst hx
    subst hx1
    have hall : ∀ i, i < len → ∃ p : S39, (∀ j u, (cellP p)[j]? = some u → W.cell? (a'.add (i * 3 + j)) = some u) ∧ p.f2.size ≤ 10000000 ∧ -9223372036854775808 ≤ p.f1 ∧ p.f1 ≤ 9223372036854775807 := by
      intro i hil
      obtain ⟨cs', hc, ht⟩ := hi i (by omega)
      obtain ⟨_, hcl, hat⟩ := World.cells?_some hc
      obtain ⟨p, rfl, hD, hlo, hhi⟩ := part_of ht
      have hsz : p.f2.data.toList.length = p.f2.size := Array.length_toList
      have hmem : D i ∈ (List.range len).map D := List.mem_map.2 ⟨i, List.mem_range.2 hil, rfl⟩
      have h1 := bulk_part hmem
      rw [show D i = .agg [.lit (.int .i64 p.f0), .lit (.int .i64 p.f1), .lit (.string p.f2.data.toList)] from hD] at h1
      simp only [Rows.uptoBulk, Rows.uptoBulkAll] at h1 hb
      refine ⟨p, fun j u hu => ?_, by omega, hlo, hhi⟩
      have hj : j < 3 := (List.getElem?_eq_some_iff.1 hu).1
      rw [← Go.Deep.add_add, hat j hj, hu]
    have hlen : len ≤ 1048576 := by
      have := bulk_length ((List.range len).map D)
      simp only [Rows.uptoBulk] at hb
      rw [List.length_map, List.length_range] at this
      omega
    obtain ⟨f, hff⟩ := Classical.axiomOfChoice (r := fun (i : Nat) (p : S39) => i < len → (∀ j u, (cellP p)[j]? = some u → W.cell? (a'.add (i * 3 + j)) = some u) ∧ p.f2.size ≤ 10000000 ∧ -9223372036854775808 ≤ p.f1 ∧ p.f1 ≤ 9223372036854775807) (fun i => by
      by_cases hil : i < len
      · obtain ⟨p, hp⟩ := hall i hil
        exact ⟨p, fun _ => hp⟩
      · exact ⟨z39, fun h => absurd h hil⟩)
    have hl2 : ((List.range len).map f).length = len := by rw [List.length_map, List.length_range]
    refine ⟨some a', (List.range len).map f, cap, by rw [hl2], by rw [hl2]; exact hl, ?_, ?_, by rw [hl2]; exact hlen, hm⟩
    · refine ⟨rfl, by rw [hl2]; omega, fun _ => ⟨a', rfl, fun j p hj => ?_⟩⟩
      have hjl : j < len := by have := (List.getElem?_eq_some_iff.1 hj).1; omega
      rw [List.getElem?_map, List.getElem?_range hjl] at hj
      obtain rfl : f j = p := by simpa using hj
      exact ⟨cellP (f j), rfl, k39_mk W (f j), (hff j hjl).1⟩
    · intro p hp
      obtain ⟨i, hi, rfl⟩ := List.mem_map.1 hp
      exact (hff i (List.mem_range.1 hi)).2
end Go.Proofs.YthpngienphnaoaaDoor
