import Derived.Test.YthpngienphnaoaaDoorV2
import Derived.Laws.MakeOwn
import Derived.Laws.OwnMore
/-
  runes.Lines: its contract.
-/
namespace Go.Proofs.YthpngienphnaoaaDoor
open Go.RowKit Go.Proofs.YthpngienphnaoaaDoorW.PrintWords

/-- Texts as values. -/
def strs (ls : List (List UInt8)) : List Value := ls.map fun l => .string (str l)
theorem strs_length (ls : List (List UInt8)) : (strs ls).length = ls.length := List.length_map _
theorem split_strs (s : ByteArray) : (Lib.splitB ⟨#[10]⟩ 0 (Lib.countB s ⟨#[10]⟩) s).map Value.string = strs (linesL s.data.toList) := by
  rw [← splitB_lines s _ rfl]
  unfold strs
  rw [List.map_map]
  refine List.map_congr_left fun x _ => ?_
  show Value.string x = .string (str x.data.toList)
  rw [str_of]
theorem split_count (s : ByteArray) : Lib.countB s ⟨#[10]⟩ + 1 = (linesL s.data.toList).length := by
  have h := Lib.splitB_all ⟨#[10]⟩ (by decide) 0 _ s rfl
  rw [← h, ← splitB_lines s _ rfl, List.length_map]
theorem strs_one (ls : List (List UInt8)) : ∀ u ∈ strs ls, u.oneCell' = true := by
  intro u hu
  obtain ⟨l, _, rfl⟩ := List.mem_map.1 hu
  rfl
theorem dinfo9 : (Tryd.prog.info? 9).map (fun i => (i.zero, i.size, i.bytes)) = some (some (.string ByteArray.empty), 1, 16) := by kernel_rfl
theorem row_new (w : World) (c : Array Value) (t : TypeId) (j : Nat) : (w.alloc (.cells c t)).cell? ⟨w.heap.size, j, none⟩ = c[j]? := by
  have h : (w.alloc (.cells c t)).heap[w.heap.size]? = some (.cells c t (0, 0)) := by
    show (w.heap.push (Obj.cells c t (0, 0)))[w.heap.size]? = _
    simp
  unfold World.cell?
  simp only [h]
  rfl
theorem own_base {w : World} {base n k : Nat} {e : TypeId} {v : Value} {xs : List Value} (h : w.ownsRow base e 1 v n xs) (hk : v.ownBlock = some k) : base ≤ k := by
  rcases h.2 with ⟨h1, _⟩ | ⟨g, cap, cur, h1, h2, _⟩
  · subst h1; simp [Value.ownBlock] at hk
  · subst h1; simp [Value.ownBlock] at hk; omega
set_option maxHeartbeats 4000000 in
set_option maxRecDepth 100000 in
theorem lines_no (s : ByteArray) (w : World) (hs : s.size ≤ 10000000) (hT : Lib.Utf8Tabs 0 1 w) (hl : textS s.data.toList = none) :
    Calls Tryd.prog 22 #[.string s] w fun e w' => e = .returned (.tuple #[.slice none 0 0, .int .i64 10]) ∧ Below w.heap.size w w' := by
  have h0 := count_any s w hs hT
  rw [count_no hl] at h0
  have H0 := Lib.hid h0
  clear h0 hl hT
  go_enter Tryd.func22, Tryd.ntmps22
  go_wp2_with fail
  refine H0.out.mono ?_
  rintro e w1 ⟨rfl, hb1⟩
  go_wp2_with fail
  go_ret2
  exact ⟨rfl, hb1⟩
set_option maxHeartbeats 4000000 in
set_option maxRecDepth 100000 in
theorem lines_yes (s : ByteArray) (l : List Nat) (m : Int) (w : World) (hs : s.size ≤ 10000000) (hT : Lib.Utf8Tabs 0 1 w) (hM : w.cell? ⟨2, 0, none⟩ = some (.int .i64 m)) (hl : textS s.data.toList = some l) :
    Calls Tryd.prog 22 #[.string s] w fun e w' => ∃ v, e = .returned (.tuple #[v, .int .i64 0]) ∧ w'.ownsRow w.heap.size 9 1 v (linesL s.data.toList).length (strs (linesL s.data.toList)) ∧ Below w.heap.size w w' := by
  have h0 := count_any s w hs hT
  rw [count_yes hl] at h0
  have H0 := Lib.hid h0
  have H2 := World.block_lt_of_cell? w _ hM
  have HM := Lib.hid hM
  have hlen := linesL_length s.data.toList
  have hcl := List.count_le_length (a := (10 : UInt8)) (l := s.data.toList)
  have hsl : s.data.toList.length = s.size := Array.length_toList
  have hLL : (linesL s.data.toList).length ≤ 10000001 := by omega
  have hL0 : 0 < (linesL s.data.toList).length := by omega
  have HSP : Hid (∀ W : World, W.cell? ⟨2, 0, none⟩ = some (.int .i64 m) → Calls Tryd.prog 49 #[.string s, .string ⟨#[10]⟩] W fun e w' => e = .returned (.slice (some ⟨W.heap.size, 0, none⟩) (linesL s.data.toList).length (linesL s.data.toList).length) ∧ w' = W.alloc (.cells (strs (linesL s.data.toList)).toArray 9)) := by
    intro W hW
    have h := Tryd.strings_Split s ⟨#[10]⟩ m W (by omega) hW (by decide)
    rw [split_count, split_strs] at h
    exact h
  obtain ⟨LL, hLe⟩ : ∃ LL, LL = linesL s.data.toList := ⟨_, rfl⟩
  rw [← hLe] at hLL hL0 HSP ⊢
  clear h0 hl hT hM hlen hcl hsl hLe
  go_enter Tryd.func22, Tryd.ntmps22
  go_wp2_with fail
  refine H0.out.mono ?_
  rintro e w1 ⟨rfl, hb1⟩
  have HM1 : Hid (w1.cell? ⟨2, 0, none⟩ = some (.int .i64 m)) := (hb1.cell H2).trans HM.out
  go_wp2_with fail
  refine (HSP.out w1 HM1.out).mono ?_
  rintro e w2 ⟨rfl, rfl⟩
  have hb2 := hb1.alloc hb1.size (.cells (strs LL).toArray 9)
  have HR : Hid (∀ j u, (strs LL)[j]? = some u → (w1.alloc (.cells (strs LL).toArray 9)).cell? ⟨w1.heap.size, j, none⟩ = some u) := by
    intro j u hu
    rw [row_new, List.getElem?_toArray]
    exact hu
  obtain ⟨W2, hW2⟩ : ∃ W2, W2 = w1.alloc (.cells (strs LL).toArray 9) := ⟨_, rfl⟩
  rw [← hW2] at hb2 HR ⊢
  clear hW2
  obtain ⟨i0, hi, hz0, hz1, hz2⟩ := info_parts dinfo9
  go_wp2_with (at_make; refine wpList_make_own _ rfl _ _ 30 rfl w.heap.size 9 i0 (.string ByteArray.empty) 1 Tryd.underlying30 hi hz0 hz1 _ _ _ LL.length rfl rfl (by omega) ?b2 ?b3 ?b4 ?_)
  case b2 => rw [hz2]; omega
  case b3 => unfold maxLen; omega
  case b4 => exact hb2.size
  intro w3 hown3 hg3
  have hb3 := hb2.grown hg3 hb2.size (by simp)
  have hb23 := (Below.refl W2.heap.size W2).grown hg3 (Nat.le_refl _) (by simp)
  have HA : Hid (∀ j u, (strs LL)[j]? = some u → w3.cell? (Addr.add ⟨w1.heap.size, 0, none⟩ j) = some u) := by
    intro j u hu
    have h := HR.out j u hu
    rw [add_plain]
    exact (hb23.cell (World.block_lt_of_cell? W2 _ h)).trans h
  go_wp2_with (at_builtin; refine wpList_append_own _ rfl (.tmp 19) (.tmp 20) 30 rfl w.heap.size 9 i0 (.string ByteArray.empty) 1 16 Tryd.underlying30 hi hz0 hz1 hz2 rfl (by decide) _ 0 [] rfl hown3 ⟨w1.heap.size, 0, none⟩ LL.length LL.length (strs LL) rfl ?a1 HA.out (strs_one LL) ?a3 ?a4 hb3.size ?_)
  case a1 => rw [strs_length, Nat.mul_one]
  case a3 => unfold maxLen; omega
  case a4 => omega
  intro v4 w4 hown4 hg4 _
  have hb4 := hb3.grown hg4 hb3.size (fun k hk => own_base hown3 hk)
  have H4 := Lib.hid hown4
  clear hown3 hown4 hg4 hg3 hb23 HA
  go_wp2_with fail
  go_ret2
  exact ⟨v4, rfl, H4.out, hb4⟩
end Go.Proofs.YthpngienphnaoaaDoor
