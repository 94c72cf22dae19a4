import Derived.Test.YthpngienphnaoaaDoorU3
import Derived.Laws.RangeString
import Derived.Laws.RangeAny
import Derived.LoopTactic
/-
  runes.offset: its contract.
-/
namespace Go.Proofs.YthpngienphnaoaaDoor
open Go.RowKit Go.Proofs.YthpngienphnaoaaDoorW.PrintWords

theorem encS_take_drop (l : List Nat) (j : Nat) : encS (l.take j) ++ encS (l.drop j) = encS l := by rw [← encS_append, List.take_append_drop]
theorem encS_take_succ (l : List Nat) (j : Nat) (h : j < l.length) : encS (l.take (j + 1)) = encS (l.take j) ++ encR l[j] := by
  rw [List.take_succ_eq_append_getElem h, encS_append]; simp [encS]
/-- Where the rune at a place begins. -/
def offS (l : List Nat) (j : Nat) : Nat := (encS (l.take j)).length
theorem off_next {s : ByteArray} {l : List Nat} (h : s.data.toList = encS l) (hs : ∀ r ∈ l, scalar r) (j : Nat) (hj : j < l.length) : offS l j < s.size ∧ offS l j + (Utf8.decode s (offS l j)).2 = offS l (j + 1) := by
  have hsz : s.data.toList.length = s.size := Array.length_toList
  have e : s.data.toList.drop (offS l j) = encR l[j] ++ encS (l.drop (j + 1)) := by
    rw [h, ← encS_take_drop l j]
    unfold offS
    rw [List.drop_left, List.drop_eq_getElem_cons hj, encS_cons]
  have hr := hs _ (List.getElem_mem hj)
  have hp := encR_pos l[j]
  refine ⟨?_, ?_⟩
  · have := congrArg List.length e
    rw [List.length_drop, List.length_append, hsz] at this
    omega
  · rw [decode_decL, e, dec_enc_head _ hr]
    unfold offS
    rw [encS_take_succ l j hj, List.length_append]
theorem off_end {s : ByteArray} {l : List Nat} (h : s.data.toList = encS l) (j : Nat) (hj : l.length ≤ j) : offS l j = s.size := by
  have hsz : s.data.toList.length = s.size := Array.length_toList
  unfold offS
  rw [List.take_of_length_le hj, ← h, hsz]
set_option maxHeartbeats 4000000 in
set_option maxRecDepth 100000 in
theorem offset_any (s : ByteArray) (l : List Nat) (a : Nat) (w : World) (h : s.data.toList = encS l) (hs : ∀ r ∈ l, scalar r) (hz : s.size ≤ 10000000) (ha : a ≤ 100000000) :
    Calls Tryd.prog 40 #[.string s, .int .i64 a] w fun e w' => e = .returned (.int .i64 (offS l a)) ∧ Below w.heap.size w w' := by
  have H := Lib.hid h
  have HS := Lib.hid hs
  clear h hs
  go_enter Tryd.func40, Tryd.ntmps40
  go_wp2
  go_loopw [1] (fun v w' => ∃ j : Nat, w' = w.iter s (offS l j) ∧ v = .int .i64 ((a : Int) - j) ∧ j ≤ a ∧ j ≤ l.length) (fun v _ => (intOf v).toNat)
  case atStart => exact ⟨0, by simp [offS, encS], by simp, by omega, by omega⟩
  case round =>
    obtain ⟨j, rfl, rfl, hja, hjl⟩ := hrel
    by_cases hlt : j < l.length
    · obtain ⟨hp, hnext⟩ := off_next H.out HS.out j hlt
      have hnx : ∀ ty, (Instr.next (.pointer (some ⟨w.heap.size, 0, none⟩)) true ty).run Tryd.prog (w.iter s (offS l j)) = _ := fun ty => run_next_any w s (offS l j) ty hp
      rw [hnext] at hnx
      have hw63 : offS l j < 10000000 := by omega
      by_cases he : a = j
      · subst he
        have e0 : (a : Int) - a = 0 := by omega
        rw [e0]
        go_wp2
        go_ret
        exact ⟨rfl, iter_below w s _⟩
      · have e0 : ((a : Int) - j == 0) = false := by rw [beq_eq_false_iff_ne]; omega
        obtain ⟨d, hd⟩ : ∃ d : Int, d = (a : Int) - j := ⟨_, rfl⟩
        rw [← hd] at e0 ⊢
        have d0 : 0 < d := by omega
        have d1 : d ≤ 100000000 := by omega
        have HD := Lib.hid hd
        clear hd
        go_wp2
        go_roundw
        case rel => exact ⟨j + 1, rfl, by rw [HD.out]; go_num, by omega, by omega⟩
        case measure => simp [intOf]; omega
    · obtain rfl : j = l.length := by omega
      have hp : ¬ offS l l.length < s.size := by rw [off_end H.out l.length (Nat.le_refl _)]; omega
      have hnx : ∀ ty, (Instr.next (.pointer (some ⟨w.heap.size, 0, none⟩)) true ty).run Tryd.prog (w.iter s (offS l l.length)) = _ := fun ty => run_next_end w s (offS l l.length) ty hp
      go_wp2
      go_ret
      exact ⟨by rw [off_end H.out a hja]; rfl, iter_below w s _⟩
end Go.Proofs.YthpngienphnaoaaDoor
