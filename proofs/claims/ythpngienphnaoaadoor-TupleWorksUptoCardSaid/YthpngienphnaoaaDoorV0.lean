import Derived.Test.YthpngienphnaoaaDoorU8
import Derived.Test.YthpngienphnaoaaDoorV2
import Derived.Lib.OthersKept
import Derived.OneCell
import Derived.Deep.LoopGhost
/-
  runes.Ahead: its contract, and its closure's.
-/
namespace Go.Proofs.YthpngienphnaoaaDoor
open Go.RowKit Go.Proofs.YthpngienphnaoaaDoorW.PrintWords

theorem decodeGo_enc {t : ByteArray} {r : Nat} {m : List Nat} (h : t.data.toList = encS (r :: m)) (hr : scalar r) : Lib.decodeGo t = (r, (encR r).length) := by
  have hsz : t.data.toList.length = t.size := Array.length_toList
  have hp := encR_pos r
  have hl := congrArg List.length h
  rw [encS_cons, List.length_append] at hl
  unfold Lib.decodeGo
  rw [if_neg (by omega), decode_decL, List.drop_zero, h, encS_cons, dec_enc_head r hr]
theorem decodeGo_nil {t : ByteArray} (h : t.data.toList = encS []) : Lib.decodeGo t = (65533, 0) := by
  have hsz : t.data.toList.length = t.size := Array.length_toList
  unfold Lib.decodeGo
  rw [if_pos (by rw [← hsz, h]; rfl)]
theorem tail_enc {t : ByteArray} {r : Nat} {m : List Nat} (h : t.data.toList = encS (r :: m)) : (t.extract (encR r).length t.size).data.toList = encS m := by
  have hsz : t.data.toList.length = t.size := Array.length_toList
  rw [ext_list, List.take_of_length_le (by omega), h, encS_cons, List.drop_left]
theorem scalar_lt {r : Nat} (h : scalar r) : r ≤ 1114111 := by unfold scalar at h; omega
theorem block_below {w w' : World} {b : Nat} {o : Obj} (hb : Below w.heap.size w w') (h : w.heap[b]? = some o) : w'.heap[b]? = some o := (hb.block b (lt_of_block h)).trans h
/-- What the closure leaves where it answers yes. -/
def EachYes (base B N : Nat) (m : List Nat) (n : Nat) (w : World) (e : Ending) (w' : World) : Prop :=
  e = .returned (.bool true) ∧ (∃ t : ByteArray, w'.heap[B]? = some (.cells #[.string t] 9 (0, 0)) ∧ t.data.toList = encS m ∧ t.size ≤ 10000000) ∧ w'.heap[N]? = some (.cells #[.int .i64 ((n + 1 : Nat) : Int)] 3 (0, 0)) ∧ (∀ i, i < w.heap.size → i ≠ B → i ≠ N → w'.heap[i]? = w.heap[i]?) ∧ w.heap.size ≤ w'.heap.size ∧ Below base w w'
set_option maxHeartbeats 4000000 in
set_option maxRecDepth 100000 in
theorem each_yes (t : ByteArray) (r : Nat) (m : List Nat) (n base B N : Nat) (w : World) (hT : Lib.Utf8Tabs 0 1 w) (hB : w.heap[B]? = some (.cells #[.string t] 9 (0, 0))) (hN : w.heap[N]? = some (.cells #[.int .i64 n] 3 (0, 0))) (hBN : B ≠ N) (h1 : base ≤ B) (h2 : base ≤ N)
    (ht : t.data.toList = encS (r :: m)) (hr : scalar r) (hn : n ≤ 100000000) (ht9 : t.size ≤ 10000000) :
    Calls Tryd.prog 44 #[.int .i32 r, .pointer (some ⟨B, 0, none⟩), .pointer (some ⟨N, 0, none⟩)] w (EachYes base B N m n w) := by
  have hd := decodeGo_enc ht hr
  have hte := tail_enc ht
  have hsz : t.data.toList.length = t.size := Array.length_toList
  have hp := encR_pos r
  have hlen : (encR r).length ≤ t.size := by
    have := congrArg List.length ht
    rw [encS_cons, List.length_append] at this
    omega
  obtain ⟨k, hk⟩ : ∃ k, k = (encR r).length := ⟨_, rfl⟩
  rw [← hk] at hd hte hp hlen
  have HTE := Lib.hid hte
  have HBB := Lib.hid hB
  have HNN := Lib.hid hN
  have hr9 := scalar_lt hr
  have hcd := Tryd.utf8_DecodeRuneInString t w hT
  rw [hd] at hcd
  have HC := Lib.hid hcd
  have cB := cell_of_one hB
  have hnk : ((k : Int) == 0) = false := by rw [beq_eq_false_iff_ne]; omega
  clear hd hte hsz hk hT hB hN ht hr hcd
  go_enter Tryd.func44, Tryd.ntmps44
  go_wp2_with fail
  refine HC.out.mono ?_
  rintro e w1 ⟨rfl, hb1⟩
  have hB1 := block_below hb1 HBB.out
  have hN1 := block_below hb1 HNN.out
  have cB1 := cell_of_one hB1
  have fB1 := free_of_one hB1
  have hN2 : (w1.setCell ⟨B, 0, none⟩ (.string (t.extract k t.size))).heap[N]? = some (.cells #[.int .i64 n] 3 (0, 0)) := by rw [Below.heap_setCell _ _ _ _ (Ne.symm hBN)]; exact hN1
  have cN1 := cell_of_one hN2
  have fN1 := free_of_one hN2
  have HB1 := Lib.hid hb1
  have HBX := Lib.hid (one_setCell (u := .string (t.extract k t.size)) hB1)
  have HNX := Lib.hid (one_setCell (u := .int .i64 ((n + 1 : Nat) : Int)) hN2)
  clear cB hb1 hB1 hN1 hN2
  go_wp2_with fail
  go_ret
  refine ⟨rfl, ⟨_, ?_, HTE.out, ?_⟩, HNX.out, ?_, ?_, ?_⟩
  · rw [Below.heap_setCell _ _ _ _ hBN]
    exact HBX.out
  · rw [ByteArray.size_extract]; omega
  · intro i hi h3 h4
    rw [Below.heap_setCell _ _ _ _ h4, Below.heap_setCell _ _ _ _ h3]
    exact HB1.out.block i hi
  · show w.heap.size ≤ (World.setCell _ _ _).heap.size
    simp only [World.setCell, Array.size_modify]
    exact HB1.out.size
  · have hlB := lt_of_block HBB.out
    exact ((HB1.out.mono (by omega)).setCell h1 _).setCell h2 _
set_option maxHeartbeats 4000000 in
set_option maxRecDepth 100000 in
theorem each_no (t : ByteArray) (r : Nat) (m : List Nat) (B N : Nat) (w : World) (hT : Lib.Utf8Tabs 0 1 w) (hB : w.heap[B]? = some (.cells #[.string t] 9 (0, 0)))
    (ht : t.data.toList = encS m) (hm : ∀ r ∈ m, scalar r) (hne : m.head? ≠ some r) :
    Calls Tryd.prog 44 #[.int .i32 r, .pointer (some ⟨B, 0, none⟩), .pointer (some ⟨N, 0, none⟩)] w fun e w' => e = .returned (.bool false) ∧ Below w.heap.size w w' := by
  have cB := cell_of_one hB
  have hcd := Tryd.utf8_DecodeRuneInString t w hT
  cases m with
  | nil =>
    rw [decodeGo_nil ht] at hcd
    have HC := Lib.hid hcd
    clear hT hB ht hm hne hcd
    go_enter Tryd.func44, Tryd.ntmps44
    go_wp2_with fail
    refine HC.out.mono ?_
    rintro e w1 ⟨rfl, hb1⟩
    go_wp2_with fail
    go_ret
    exact ⟨rfl, hb1⟩
  | cons q m =>
    rw [decodeGo_enc ht (hm q (List.mem_cons_self ..))] at hcd
    have hp := encR_pos q
    have hq := scalar_lt (hm q (List.mem_cons_self ..))
    have hne' : q ≠ r := fun e => hne (by rw [e]; rfl)
    obtain ⟨k, hk⟩ : ∃ k, k = (encR q).length := ⟨_, rfl⟩
    rw [← hk] at hcd hp
    have HC := Lib.hid hcd
    have hnk : ((k : Int) == 0) = false := by rw [beq_eq_false_iff_ne]; omega
    have hqr : ((r : Int) == (q : Int)) = false := by rw [beq_eq_false_iff_ne]; omega
    have hqr' : ((r : Int) != (q : Int)) = true := by rw [bne_iff_ne]; omega
    clear hT hB ht hm hne hcd hk
    go_enter Tryd.func44, Tryd.ntmps44
    go_wp2_with fail
    refine HC.out.mono ?_
    rintro e w1 ⟨rfl, hb1⟩
    go_wp2_with fail
    go_ret
    exact ⟨rfl, hb1⟩
end Go.Proofs.YthpngienphnaoaaDoor
