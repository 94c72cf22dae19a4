import Derived.Test.YthpngienphnaoaaDoorV8
/-
  blotterlaw01.RunesJoined: it returns true.
-/
namespace Go.Proofs.YthpngienphnaoaaDoor
open Go.RowKit Go.Proofs.YthpngienphnaoaaDoorW.PrintWords

/-- A row of texts in memory. -/
def RowS (w : World) (g : Nat) (ls : List (List UInt8)) : Prop := ∀ p, p < ls.length → w.cell? ⟨g, p, none⟩ = some (.string (str (ls.getD p [])))
theorem rowS_below {w w' : World} {g : Nat} {ls : List (List UInt8)} (h : RowS w g ls) (hb : Below w.heap.size w w') : RowS w' g ls := fun p hp => (hb.cell (World.block_lt_of_cell? w _ (h p hp))).trans (h p hp)
theorem lines_row (s : ByteArray) (l : List Nat) (w : World) (hs : s.size ≤ 10000000) (hE : Env w) (hl : textS s.data.toList = some l) :
    Calls Tryd.prog 22 #[.string s] w fun e w' => ∃ g c, e = .returned (.tuple #[.slice (some ⟨g, 0, none⟩) (linesL s.data.toList).length c, .int .i64 0]) ∧ (linesL s.data.toList).length ≤ c ∧ RowS w' g (linesL s.data.toList) ∧ w.heap.size ≤ g ∧ Below w.heap.size w w' := by
  obtain ⟨hT, m, hM⟩ := hE
  refine (lines_yes s l m w hs hT hM hl).mono ?_
  rintro e w' ⟨v, rfl, ho, hb⟩
  have hn := linesL_length s.data.toList
  rcases ho.2 with ⟨_, h2⟩ | ⟨g, cap, cur, h1, h2, h3, h4, h5, h6, h7⟩
  · omega
  · subst h1
    refine ⟨g, cap, rfl, h4, fun p hp => ?_, h2, hb⟩
    have h8 : cur.toList.take (linesL s.data.toList).length = strs (linesL s.data.toList) := by simpa using h7
    have h9 : (cur.toList.take (linesL s.data.toList).length)[p]? = (strs (linesL s.data.toList))[p]? := congrArg (fun (x : List Value) => x[p]?) h8
    rw [List.getElem?_take_of_lt hp, Array.getElem?_toList] at h9
    unfold World.cell?
    rw [h3]
    refine Eq.trans (b := cur[p]?) rfl ?_
    rw [h9]
    unfold strs
    rw [List.getElem?_map, List.getElem?_eq_getElem hp, List.getD_eq_getElem?_getD, List.getElem?_eq_getElem hp]; rfl
set_option maxHeartbeats 8000000 in
set_option maxRecDepth 100000 in
theorem runesJoined_any (s p : ByteArray) (w : World) (hs : s.size ≤ 2000000) (hp : p.size ≤ 2000000) (hE : Env w) :
    Calls Tryd.prog 7 #[.string s, .string p] w fun e w' => e = .returned (.bool true) ∧ Below w.heap.size w w' := by
  have CA := Lib.hid (fun W (h : Env W) => awake_any W h)
  have CC := Lib.hid (fun W (h : Env W) => count_any s W (by omega) h.1)
  have CD := Lib.hid (fun W (h : Env W) => count_any p W (by omega) h.1)
  have HE := Lib.hid hE
  clear hE
  cases hl : textS s.data.toList with
  | none =>
    rw [count_no hl] at CC
    obtain ⟨q, hq⟩ : ∃ q, q = cntS p.data.toList := ⟨_, rfl⟩
    rw [← hq] at CD
    obtain ⟨q1, q2⟩ := q
    clear hl hq
    go_enter Tryd.func7, Tryd.ntmps7
    go_wp2_with fail
    refine (CA.out w HE.out).mono ?_
    rintro e w1 ⟨rfl, hb1⟩
    have E1 := Lib.hid (env_below HE.out hb1)
    have hc1 := hb1
    clear hb1
    go_wp2_with fail
    refine (CC.out w1 E1.out).mono ?_
    rintro e w2 ⟨rfl, hb2⟩
    have E2 := Lib.hid (env_below E1.out hb2)
    have hc2 := below_then hc1 hc1.size hb2
    clear hb2 hc1
    go_wp2_with fail
    refine (CD.out w2 E2.out).mono ?_
    rintro e w3 ⟨rfl, hb3⟩
    have E3 := Lib.hid (env_below E2.out hb3)
    have hc3 := below_then hc2 hc2.size hb3
    clear hb3 hc2
    go_wp2_with fail
    go_ret
    exact ⟨rfl, hc3⟩
  | some l =>
    cases hm : textS p.data.toList with
    | none =>
      rw [count_yes hl] at CC
      rw [count_no hm] at CD
      clear hl hm
      go_enter Tryd.func7, Tryd.ntmps7
      go_wp2_with fail
      refine (CA.out w HE.out).mono ?_
      rintro e w1 ⟨rfl, hb1⟩
      have E1 := Lib.hid (env_below HE.out hb1)
      have hc1 := hb1
      clear hb1
      go_wp2_with fail
      refine (CC.out w1 E1.out).mono ?_
      rintro e w2 ⟨rfl, hb2⟩
      have E2 := Lib.hid (env_below E1.out hb2)
      have hc2 := below_then hc1 hc1.size hb2
      clear hb2 hc1
      go_wp2_with fail
      refine (CD.out w2 E2.out).mono ?_
      rintro e w3 ⟨rfl, hb3⟩
      have E3 := Lib.hid (env_below E2.out hb3)
      have hc3 := below_then hc2 hc2.size hb3
      clear hb3 hc2
      go_wp2_with fail
      go_ret
      exact ⟨rfl, hc3⟩
    | some r =>
      obtain ⟨e1, e2, e3⟩ := textS_inv hl
      obtain ⟨e4, e5, e6⟩ := textS_inv hm
      rw [count_yes hl] at CC
      rw [count_yes hm] at CD
      have i5 : (l.length : Int) ≤ 20000 := by omega
      have i6 : (r.length : Int) ≤ 20000 := by omega
      by_cases hbig : 20000 ≤ (l.length : Int) + (r.length : Int)
      · clear hl hm e1 e2 e4 e5
        go_enter Tryd.func7, Tryd.ntmps7
        go_wp2_with fail
        refine (CA.out w HE.out).mono ?_
        rintro e w1 ⟨rfl, hb1⟩
        have E1 := Lib.hid (env_below HE.out hb1)
        have hc1 := hb1
        clear hb1
        go_wp2_with fail
        refine (CC.out w1 E1.out).mono ?_
        rintro e w2 ⟨rfl, hb2⟩
        have E2 := Lib.hid (env_below E1.out hb2)
        have hc2 := below_then hc1 hc1.size hb2
        clear hb2 hc1
        go_wp2_with fail
        refine (CD.out w2 E2.out).mono ?_
        rintro e w3 ⟨rfl, hb3⟩
        have E3 := Lib.hid (env_below E2.out hb3)
        have hc3 := below_then hc2 hc2.size hb3
        clear hb3 hc2
        go_wp2_with fail
        go_ret
        exact ⟨rfl, hc3⟩
      · have hsp : (s ++ p).data.toList = encS (l ++ r) := by rw [ByteArray.data_append, Array.toList_append, e1, e4, encS_append]
        have hsnp : (s ++ ByteArray.mk #[10] ++ p).data.toList = encS (l ++ 10 :: r) := by
          rw [ByteArray.data_append, ByteArray.data_append, Array.toList_append, Array.toList_append, e1, e4]
          exact nl_enc l r
        have hlin : linesL (s ++ ByteArray.mk #[10] ++ p).data.toList = linesL s.data.toList ++ linesL p.data.toList := by
          rw [ByteArray.data_append, ByteArray.data_append, Array.toList_append, Array.toList_append, List.append_assoc]
          exact linesL_app _ _
        have ht1 : textS (s ++ p).data.toList = some (l ++ r) := by rw [hsp]; exact textS_enc _ (mem_app e2 e5) (by rw [List.length_append]; omega)
        have ht2 : textS (s ++ ByteArray.mk #[10] ++ p).data.toList = some (l ++ 10 :: r) := by
          rw [hsnp]
          exact textS_enc _ (mem_app e2 (fun x hx => (List.mem_cons.1 hx).elim (fun h => by rw [h]; exact scalar_small _ (by omega)) (e5 x))) (by rw [List.length_append, List.length_cons]; omega)
        have hz1 : (s ++ p).size ≤ 4000000 := by rw [ByteArray.size_append]; omega
        have hz2 : (s ++ ByteArray.mk #[10] ++ p).size ≤ 4000001 := by
          rw [ByteArray.size_append, ByteArray.size_append]
          show s.size + 1 + p.size ≤ _
          omega
        have hz3 : (s ++ ByteArray.mk #[10]).size ≤ 4000001 := by
          rw [ByteArray.size_append]
          show s.size + 1 ≤ _
          omega
        have CK : Hid (∀ W, Env W → Calls Tryd.prog 24 #[.string (s ++ p)] W fun e w' => e = .returned (.tuple #[.int .i64 ((l.length : Int) + (r.length : Int)), .int .i64 0]) ∧ Below W.heap.size W w') := by
          intro W h
          have h := count_any (s ++ p) W (by omega) h.1
          rw [count_yes ht1, List.length_append] at h
          simp only at h
          rw [Int.natCast_add] at h
          exact h
        have hn1 := linesL_length s.data.toList
        have hn2 := linesL_length p.data.toList
        have hk1 := List.count_le_length (a := (10 : UInt8)) (l := s.data.toList)
        have hk2 := List.count_le_length (a := (10 : UInt8)) (l := p.data.toList)
        have hq1 : s.data.toList.length = s.size := Array.length_toList
        have hq2 : p.data.toList.length = p.size := Array.length_toList
        have CX := Lib.hid (fun W (h : Env W) => lines_row (s ++ ByteArray.mk #[10] ++ p) _ W (by omega) h ht2)
        have CY := Lib.hid (fun W (h : Env W) => lines_row s _ W (by omega) h hl)
        have CZ := Lib.hid (fun W (h : Env W) => lines_row p _ W (by omega) h hm)
        rw [hlin] at CX
        obtain ⟨Y, hY⟩ : ∃ Y, Y = linesL s.data.toList := ⟨_, rfl⟩
        obtain ⟨Z, hZ⟩ : ∃ Z, Z = linesL p.data.toList := ⟨_, rfl⟩
        rw [← hY] at CX CY hn1
        rw [← hZ] at CX CZ hn2
        have hny : Y.length ≤ 2000001 := by omega
        have hnz : Z.length ≤ 2000001 := by omega
        obtain ⟨nx, hnx⟩ : ∃ nx, nx = (Y ++ Z).length := ⟨_, rfl⟩
        obtain ⟨ny, hny'⟩ : ∃ ny, ny = Y.length := ⟨_, rfl⟩
        obtain ⟨nz, hnz'⟩ : ∃ nz, nz = Z.length := ⟨_, rfl⟩
        have hxyz : nx = ny + nz := by rw [hnx, List.length_append]; omega
        have hpos1 : 0 < ny := by omega
        have hpos2 : 0 < nx := by omega
        rw [← hnx] at CX
        rw [← hny'] at CY hny
        rw [← hnz'] at CZ hnz
        have HNX := Lib.hid hnx
        have HNY := Lib.hid hny'
        have HNZ := Lib.hid hnz'
        have HXYZ := Lib.hid hxyz
        have b1 : ((nx : Int) != (ny : Int) + (nz : Int)) = false := by rw [bne_eq_false_iff_eq]; omega
        have b2 : (nx : Int) ≤ 5000000 := by omega
        clear hl hm e1 e2 e3 e4 e5 e6 hsp hsnp hlin ht1 ht2 hn1 hn2 hk1 hk2 hq1 hq2 hY hZ hnx hny' hnz' hxyz
        go_enter Tryd.func7, Tryd.ntmps7
        go_wp2_with fail
        refine (CA.out w HE.out).mono ?_
        rintro e w1 ⟨rfl, hb1⟩
        have E1 := Lib.hid (env_below HE.out hb1)
        have hc1 := hb1
        clear hb1
        go_wp2_with fail
        refine (CC.out w1 E1.out).mono ?_
        rintro e w2 ⟨rfl, hb2⟩
        have E2 := Lib.hid (env_below E1.out hb2)
        have hc2 := below_then hc1 hc1.size hb2
        clear hb2 hc1
        go_wp2_with fail
        refine (CD.out w2 E2.out).mono ?_
        rintro e w3 ⟨rfl, hb3⟩
        have E3 := Lib.hid (env_below E2.out hb3)
        have hc3 := below_then hc2 hc2.size hb3
        clear hb3 hc2
        go_wp2_with fail
        refine (CK.out w3 E3.out).mono ?_
        rintro e w4 ⟨rfl, hb4⟩
        have E4 := Lib.hid (env_below E3.out hb4)
        have hc4 := below_then hc3 hc3.size hb4
        clear hb4 hc3
        go_wp2_with fail
        refine (CX.out w4 E4.out).mono ?_
        rintro e w5 ⟨gx, cx, rfl, hcx, hrx, hgx, hb5⟩
        have E5 := Lib.hid (env_below E4.out hb5)
        have hc5 := below_then hc4 hc4.size hb5
        clear hb5 hc4
        go_wp2_with fail
        refine (CY.out w5 E5.out).mono ?_
        rintro e w6 ⟨gy, cy, rfl, hcy, hry, hgy, hb6⟩
        have E6 := Lib.hid (env_below E5.out hb6)
        have hc6 := below_then hc5 hc5.size hb6
        have HRX6 := Lib.hid (rowS_below hrx hb6)
        clear hb6 hc5 hrx
        go_wp2_with fail
        refine (CZ.out w6 E6.out).mono ?_
        rintro e w7 ⟨gz, cz, rfl, hcz, hrz, hgz, hb7⟩
        have hc7 := below_then hc6 hc6.size hb7
        have HRX := Lib.hid (rowS_below HRX6.out hb7)
        have HRY := Lib.hid (rowS_below hry hb7)
        have HRZ := Lib.hid hrz
        have HB7 := Lib.hid hc7
        clear hb7 hc6 hrz hry HRX6 hc7
        go_wp2_with fail
        go_loopw [18] (fun i wr => ∃ k : Nat, k ≤ nx ∧ i = .int .i64 k ∧ Hid (Below w7.heap.size w7 wr)) (fun i _ => nx - (intOf i).toNat)
        case atStart => exact ⟨0, by omega, rfl, Below.refl _ _⟩
        case round =>
          obtain ⟨k, hk, rfl, HW⟩ := hrel
          by_cases hlt : k < nx
          · have hcX := rowS_below HRX.out HW.out k (by rw [← HNX.out]; exact hlt)
            by_cases hy : k < ny
            · have hcY := rowS_below HRY.out HW.out k (by rw [← HNY.out]; exact hy)
              rw [show (Y ++ Z).getD k [] = Y.getD k [] by rw [List.getD_eq_getElem?_getD, List.getD_eq_getElem?_getD, List.getElem?_append_left (by rw [← HNY.out]; exact hy)]] at hcX
              obtain ⟨q, hq⟩ : ∃ q, q = str (Y.getD k []) := ⟨_, rfl⟩
              rw [← hq] at hcX hcY
              clear hq
              have d1 : decide (k < ny) = true := decide_eq_true hy
              have d2 : decide ((k : Int) < (ny : Int)) = true := decide_eq_true (by omega)
              have d3 : decide (ny ≤ k) = false := decide_eq_false (by omega)
              have d4 : decide ((ny : Int) ≤ (k : Int)) = false := decide_eq_false (by omega)
              have f1 : (0 : Int) ≤ (k : Int) := by omega
              have f2 : (k : Int) < (nx : Int) := by omega
              have f3 : (k : Int) < (ny : Int) := by omega
              go_wp2_with fail
              go_quiet (fail)
              clear d1 d2 d3 d4
              go_wp2_with fail
              go_roundw
              case rel => exact ⟨k + 1, by omega, by go_num, below_drewN HW.out _⟩
              case measure => simp [intOf]; omega
            · have hcZ := rowS_below HRZ.out HW.out (k - ny) (by have := HNZ.out; have := HXYZ.out; omega)
              rw [show (Y ++ Z).getD k [] = Z.getD (k - ny) [] by rw [List.getD_eq_getElem?_getD, List.getD_eq_getElem?_getD, List.getElem?_append_right (by rw [← HNY.out]; omega), ← HNY.out]] at hcX
              obtain ⟨q, hq⟩ : ∃ q, q = str (Z.getD (k - ny) []) := ⟨_, rfl⟩
              rw [← hq] at hcX hcZ
              clear hq
              have d1 : decide (k < ny) = false := decide_eq_false hy
              have d2 : decide ((k : Int) < (ny : Int)) = false := decide_eq_false (by omega)
              have d3 : decide (ny ≤ k) = true := decide_eq_true (by omega)
              have d4 : decide ((ny : Int) ≤ (k : Int)) = true := decide_eq_true (by omega)
              have f1 : (0 : Int) ≤ (k : Int) := by omega
              have f2 : (k : Int) < (nx : Int) := by omega
              have f4 : IntKind.i64.wrap ((k : Int) - (ny : Int)) = ((k - ny : Nat) : Int) := by rw [IntWalk.i64_in _ (by omega)]; omega
              have f5 : k - ny < nz := by have := HXYZ.out; omega
              have f6 : ((k - ny : Nat) : Int) < (nz : Int) := by omega
              go_wp2_with fail
              go_quiet (fail)
              clear d1 d2 d3 d4
              go_wp2_with fail
              go_roundw
              case rel => exact ⟨k + 1, by omega, by go_num, below_drewN HW.out _⟩
              case measure => simp [intOf]; omega
          · go_wp2_with fail
            go_ret
            exact ⟨rfl, HB7.out.trans (HW.out.mono HB7.out.size)⟩
end Go.Proofs.YthpngienphnaoaaDoor
