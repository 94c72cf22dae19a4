import Derived.Test.YthpngienphnaoaaDoorV0
/-
  runes.Ahead: its contract.
-/
namespace Go.Proofs.YthpngienphnaoaaDoor
open Go.RowKit Go.Proofs.YthpngienphnaoaaDoorW.PrintWords

/-- What holds at the head of Ahead's loop. -/
def AheadAt (B N I : Nat) (w0 : World) (s : ByteArray) (l m : List Nat) (j : Nat) (wr : World) : Prop :=
  j ≤ aheadN l m ∧ (∃ t : ByteArray, wr.heap[B]? = some (.cells #[.string t] 9 (0, 0)) ∧ t.data.toList = encS (m.drop j) ∧ t.size ≤ 10000000) ∧ wr.heap[N]? = some (.cells #[.int .i64 j] 3 (0, 0)) ∧ wr.heap[I]? = some (.stringIter s (offS l j)) ∧ Below w0.heap.size w0 wr
theorem iter_new (w : World) (s : ByteArray) : (w.iter s 0).heap[w.heap.size]? = some (.stringIter s 0) := World.iter_heap w s 0
theorem alloc_new (w : World) (o : Obj) : (w.alloc o).heap[w.heap.size]? = some o := by
  show (w.heap.push o)[w.heap.size]? = _
  simp
theorem alloc_old {w : World} {b : Nat} {o x : Obj} (h : w.heap[b]? = some x) : (w.alloc o).heap[b]? = some x := by
  rw [Below.heap_alloc _ _ _ (lt_of_block h)]
  exact h
theorem iter_old {w : World} {b : Nat} {x : Obj} {s : ByteArray} {p : Nat} (h : w.heap[b]? = some x) : (w.iter s p).heap[b]? = some x := alloc_old h
theorem alloc_size (w : World) (o : Obj) : (w.alloc o).heap.size = w.heap.size + 1 := by
  show (w.heap.push o).size = _
  simp
theorem off_rune {s : ByteArray} {l : List Nat} (h : s.data.toList = encS l) (hs : ∀ r ∈ l, scalar r) (j : Nat) (hj : j < l.length) : Utf8.decode s (offS l j) = (l[j], (encR l[j]).length) := by
  have e : s.data.toList.drop (offS l j) = encR l[j] ++ encS (l.drop (j + 1)) := by
    rw [h, ← encS_take_drop l j]
    unfold offS
    rw [List.drop_left, List.drop_eq_getElem_cons hj, encS_cons]
  rw [decode_decL, e, dec_enc_head _ (hs _ (List.getElem_mem hj))]
theorem iterPos_of {w : World} {k p : Nat} {s : ByteArray} (h : w.heap[k]? = some (.stringIter s p)) : w.iterPos k = p := by
  unfold World.iterPos
  rw [h]
set_option maxHeartbeats 4000000 in
set_option maxRecDepth 100000 in
theorem ahead_any (s p : ByteArray) (w : World) (hs : s.size ≤ 10000000) (hp : p.size ≤ 10000000) (hT : Lib.Utf8Tabs 0 1 w) :
    Calls Tryd.prog 18 #[.string s, .string p] w fun e w' => e = .returned (.tuple #[.int .i64 (aheadS s.data.toList p.data.toList).1, .int .i64 (aheadS s.data.toList p.data.toList).2]) ∧ Below w.heap.size w w' := by
  have hbA : Below w.heap.size w (w.alloc (.cells #[.string p] 9)) := (Below.refl _ _).alloc (Nat.le_refl _) _
  have hTa := tabs_below hT hbA
  have H0 := Lib.hid (both_any s p _ hs hp hTa)
  have HBA := Lib.hid hbA
  have HT := Lib.hid hT
  have HPB := Lib.hid (alloc_new w (.cells #[.string p] 9))
  have HSZ := Lib.hid (alloc_size w (.cells #[.string p] 9))
  obtain ⟨wa, hwa⟩ : ∃ wa, wa = w.alloc (.cells #[.string p] 9) := ⟨_, rfl⟩
  cases hl : textS s.data.toList with
  | none =>
    have hc : aheadS s.data.toList p.data.toList = (0, 10) := by unfold aheadS; rw [hl]
    rw [hl, Option.isSome_none, Bool.false_and] at H0
    have HC := Lib.hid hc
    clear hl hc hT hbA hTa hwa
    go_enter Tryd.func18, Tryd.ntmps18
    go_wp2_with fail
    refine H0.out.mono ?_
    rintro e w1 ⟨rfl, hb1⟩
    have hb01 := below_then HBA.out HBA.out.size hb1
    clear hb1
    go_wp2_with fail
    go_ret2
    exact ⟨by rw [HC.out]; rfl, hb01⟩
  | some l =>
    cases hm : textS p.data.toList with
    | none =>
      have hc : aheadS s.data.toList p.data.toList = (0, 10) := by unfold aheadS; rw [hl, hm]
      rw [hl, hm, Option.isSome_none, Bool.and_false] at H0
      have HC := Lib.hid hc
      clear hl hm hc hT hbA hTa hwa
      go_enter Tryd.func18, Tryd.ntmps18
      go_wp2_with fail
      refine H0.out.mono ?_
      rintro e w1 ⟨rfl, hb1⟩
      have hb01 := below_then HBA.out HBA.out.size hb1
      clear hb1
      go_wp2_with fail
      go_ret2
      exact ⟨by rw [HC.out]; rfl, hb01⟩
    | some m =>
      have hc : aheadS s.data.toList p.data.toList = ((aheadN l m : Int), 0) := by unfold aheadS; rw [hl, hm]
      rw [hl, hm, Option.isSome_some, Option.isSome_some, Bool.and_true] at H0
      obtain ⟨e1, e2, e3⟩ := textS_inv hl
      obtain ⟨e4, e5, e6⟩ := textS_inv hm
      have HC := Lib.hid hc
      have HE := Lib.hid e1
      have HS := Lib.hid e2
      have HEp := Lib.hid e4
      have HSp := Lib.hid e5
      clear hl hm hc hT hbA hTa hwa e1 e2 e4 e5
      go_enter Tryd.func18, Tryd.ntmps18
      go_wp2_with fail
      refine H0.out.mono ?_
      rintro e w1 ⟨rfl, hb1⟩
      have HB1 := Lib.hid hb1
      have HP1 := Lib.hid (block_below hb1 HPB.out)
      have hb01 := below_then HBA.out HBA.out.size hb1
      have HB01 := Lib.hid hb01
      have HZ1 : Hid (w.heap.size + 1 ≤ w1.heap.size) := by have := hb1.size; rw [HSZ.out] at this; exact this
      clear hb1 hb01
      have hAt : AheadAt w.heap.size w1.heap.size (w1.heap.size + 1) w s l m 0 ((w1.alloc (.cells #[.int .i64 0] 3)).iter s 0) := by
        refine ⟨Nat.zero_le _, ⟨p, iter_old (alloc_old HP1.out), HEp.out, hp⟩, iter_old (alloc_new w1 _), ?_, (HB01.out.alloc HB01.out.size _).alloc (Nat.le_trans HB01.out.size (by rw [alloc_size]; omega)) _⟩
        have h := iter_new (w1.alloc (.cells #[.int .i64 0] 3)) s
        rw [alloc_size] at h
        exact h
      have HAT := Lib.hid hAt
      clear hAt
      go_wp2_with fail
      go_loopw [9] (fun _ wr => ∃ j : Nat, j ≤ l.length ∧ Hid (AheadAt w.heap.size w1.heap.size (w1.heap.size + 1) w s l m j wr)) (fun _ wr => s.size - wr.iterPos (w1.heap.size + 1))
      case atStart => exact ⟨0, Nat.zero_le _, HAT⟩
      case round =>
        obtain ⟨j, hjl, HJ⟩ := hrel
        obtain ⟨hj, ⟨t, ht1, ht2, ht3⟩, hn, hi, hbw⟩ := HJ.out
        have hTr := tabs_below HT.out hbw
        by_cases hlt : j < l.length
        · obtain ⟨hpos, hnext⟩ := off_next HE.out HS.out j hlt
          have hru := off_rune HE.out HS.out j hlt
          have hwd := encR_pos l[j]
          have hrs := HS.out _ (List.getElem_mem hlt)
          have hend : offS l (j + 1) ≤ s.size := by rw [← off_end HE.out l.length (Nat.le_refl _)]; exact off_mono l (by omega)
          have hnx : ∀ ty, (Instr.next (.pointer (some ⟨w1.heap.size + 1, 0, none⟩)) true ty).run Tryd.prog wr = _ := fun ty => Lib.run_next_any_at wr (w1.heap.size + 1) s (offS l j) ty hi hpos
          rw [hnext, hru] at hnx
          rw [hru] at hnext
          obtain ⟨q, hq⟩ : ∃ q, q = offS l (j + 1) := ⟨_, rfl⟩
          obtain ⟨o, ho⟩ : ∃ o, o = offS l j := ⟨_, rfl⟩
          rw [← hq, ← ho] at hnext hnx
          rw [← hq] at hend
          have hi2 := Lib.iterAt_heap wr (w1.heap.size + 1) s _ q hi
          have hlB := lt_of_block ht1
          have hlN := lt_of_block hn
          have hZ := HZ1.out
          have hB2 : (wr.iterAt (w1.heap.size + 1) s q).heap[w.heap.size]? = some (.cells #[.string t] 9 (0, 0)) := by rw [Lib.iterAt_other _ _ _ _ _ (by omega)]; exact ht1
          have hN2 : (wr.iterAt (w1.heap.size + 1) s q).heap[w1.heap.size]? = some (.cells #[.int .i64 j] 3 (0, 0)) := by rw [Lib.iterAt_other _ _ _ _ _ (by omega)]; exact hn
          have hb2 : Below w.heap.size w (wr.iterAt (w1.heap.size + 1) s q) := Lib.below_iterAt hbw (by omega) s q
          have hT2 := tabs_below HT.out hb2
          have hzI : (wr.iterAt (w1.heap.size + 1) s q).heap.size = wr.heap.size := Lib.iterAt_size _ _ _ _
          have hlI := lt_of_block hi
          have HI2 := Lib.hid hi2
          have HN2 := Lib.hid hN2
          have HB2 := Lib.hid hb2
          have HZI := Lib.hid hzI
          have HNX := Lib.hid hnext
          have HI := Lib.hid hi
          have HO := Lib.hid ho
          have HQ := Lib.hid hq
          by_cases hyes : ∃ h : j < m.length, m[j] = l[j]
          · obtain ⟨hjm, he⟩ := hyes
            have hdr : m.drop j = l[j] :: m.drop (j + 1) := by rw [List.drop_eq_getElem_cons hjm, he]
            rw [hdr] at ht2
            have hcall := each_yes t l[j] (m.drop (j + 1)) j w.heap.size w.heap.size w1.heap.size _ hT2 hB2 hN2 (by omega) (Nat.le_refl _) (by omega) ht2 hrs (by omega) ht3
            have HCALL := Lib.hid hcall
            have HMORE := Lib.hid (aheadN_more hj hlt hjm he.symm)
            clear hcall hdr ht2 hB2 hN2 hT2 hb2 hi2 hzI hnext hi ho hq hru hrs he hTr hbw ht1 hn hj
            go_wp2_with fail
            refine HCALL.out.mono ?_
            rintro e w3 ⟨rfl, ⟨t', g1, g2, g3⟩, g4, g5, g6, g7⟩
            have hI3 : w3.heap[w1.heap.size + 1]? = some (.stringIter s q) := by rw [g5 _ (by rw [HZI.out]; exact hlI) (by omega) (by omega)]; exact HI2.out
            have HI3 := Lib.hid hI3
            have HG : Hid (AheadAt w.heap.size w1.heap.size (w1.heap.size + 1) w s l m (j + 1) w3) := ⟨HMORE.out, ⟨t', g1, g2, g3⟩, g4, by rw [← HQ.out]; exact hI3, HB2.out.trans g7⟩
            clear hI3 g1 g2 g3 g4 g5 g6 g7
            go_wp2_with fail
            go_roundw
            case rel => exact ⟨j + 1, by omega, HG⟩
            case measure => rw [iterPos_of HI3.out, iterPos_of HI.out, ← HO.out]; have := HNX.out; omega
          · have hne : (m.drop j).head? ≠ some l[j] := by
              intro h
              rw [List.head?_drop] at h
              obtain ⟨h1, h2⟩ := List.getElem?_eq_some_iff.1 h
              exact hyes ⟨h1, h2⟩
            have hcall := each_no t l[j] (m.drop j) w.heap.size w1.heap.size _ hT2 hB2 ht2 (mem_drop HSp.out j) hne
            have HCALL := Lib.hid hcall
            have HST : Hid (aheadN l m = j) := by
              by_cases hjm : j < m.length
              · exact aheadN_stop hj hlt hjm (fun e => hyes ⟨hjm, e.symm⟩)
              · exact aheadN_end2 hj (by omega)
            clear hcall ht2 hB2 hN2 hT2 hb2 hi2 hzI hnext hi ho hq hru hrs hTr hbw ht1 hn hj hyes hne
            go_wp2_with fail
            refine HCALL.out.mono ?_
            rintro e w3 ⟨rfl, hb3⟩
            have cN := cell_of_one (block_below hb3 HN2.out)
            have hb03 := HB2.out.trans (hb3.mono (by rw [HZI.out]; omega))
            clear hb3
            go_wp2_with fail
            go_ret2
            exact ⟨by rw [HC.out, HST.out]; rfl, hb03⟩
        · have hpos : ¬ offS l j < s.size := by rw [off_end HE.out j (by omega)]; omega
          have hnx : ∀ ty, (Instr.next (.pointer (some ⟨w1.heap.size + 1, 0, none⟩)) true ty).run Tryd.prog wr = _ := fun ty => Lib.run_next_end_at wr (w1.heap.size + 1) s (offS l j) ty hi hpos
          have HST : Hid (aheadN l m = j) := aheadN_end1 hj (by omega)
          have cN := cell_of_one hn
          clear ht1 ht2 hn hi hTr hpos hj
          go_wp2_with fail
          go_ret2
          exact ⟨by rw [HC.out, HST.out]; rfl, hbw⟩
end Go.Proofs.YthpngienphnaoaaDoor
