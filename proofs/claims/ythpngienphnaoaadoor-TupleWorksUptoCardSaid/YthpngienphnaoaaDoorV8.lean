import Derived.Test.YthpngienphnaoaaDoorV5
import Derived.WalkLawsBesides
/-
  blotterlaw01.RunesBack: it returns true.
-/
namespace Go.Proofs.YthpngienphnaoaaDoor
open Go.RowKit Go.Proofs.YthpngienphnaoaaDoorW.PrintWords

theorem str_app (a b : List UInt8) : str a ++ str b = str (a ++ b) := by
  apply ByteArray.ext
  rw [ByteArray.data_append]
  simp [str]
theorem str_size (l : List UInt8) : (str l).size = l.length := by
  show (l.toArray).size = _
  simp
theorem encS_le4 (l : List Nat) : (encS l).length ≤ 4 * l.length := by
  induction l with
  | nil => simp [encS]
  | cons r l ih =>
    have hp := encR_pos r
    rw [encS_cons, List.length_append, List.length_cons]
    omega
set_option maxHeartbeats 8000000 in
set_option maxRecDepth 100000 in
theorem runesBack_any (s p : ByteArray) (a : Int) (w : World) (hs : s.size ≤ 2000000) (hp : p.size ≤ 2000000) (hE : Env w) :
    Calls Tryd.prog 8 #[.string s, .string p, .int .i64 a] w fun e w' => e = .returned (.bool true) ∧ Below w.heap.size w w' := by
  have CA := Lib.hid (fun W (h : Env W) => awake_any W h)
  have CC := Lib.hid (fun W (h : Env W) => count_any s W (by omega) h.1)
  have CD := Lib.hid (fun W (h : Env W) => count_any p W (by omega) h.1)
  have HE := Lib.hid hE
  clear hE
  cases hl : textS s.data.toList with
  | none =>
    rw [count_no hl] at CC
    obtain ⟨q, hq⟩ : ∃ q, q = cntS p.data.toList := ⟨_, rfl⟩
    rw [← hq] at CD
    obtain ⟨q1, q2⟩ := q
    clear hl hq
    go_enter Tryd.func8, Tryd.ntmps8
    go_wp2_with fail
    refine (CA.out w HE.out).mono ?_
    rintro e w1 ⟨rfl, hb1⟩
    have E1 := Lib.hid (env_below HE.out hb1)
    have hc1 := hb1
    clear hb1
    go_wp2_with fail
    refine (CC.out w1 E1.out).mono ?_
    rintro e w2 ⟨rfl, hb2⟩
    have E2 := Lib.hid (env_below E1.out hb2)
    have hc2 := below_then hc1 hc1.size hb2
    clear hb2 hc1
    go_wp2_with fail
    refine (CD.out w2 E2.out).mono ?_
    rintro e w3 ⟨rfl, hb3⟩
    have E3 := Lib.hid (env_below E2.out hb3)
    have hc3 := below_then hc2 hc2.size hb3
    clear hb3 hc2
    go_wp2_with fail
    go_ret
    exact ⟨rfl, hc3⟩
  | some l =>
    cases hm : textS p.data.toList with
    | none =>
      rw [count_yes hl] at CC
      rw [count_no hm] at CD
      clear hl hm
      go_enter Tryd.func8, Tryd.ntmps8
      go_wp2_with fail
      refine (CA.out w HE.out).mono ?_
      rintro e w1 ⟨rfl, hb1⟩
      have E1 := Lib.hid (env_below HE.out hb1)
      have hc1 := hb1
      clear hb1
      go_wp2_with fail
      refine (CC.out w1 E1.out).mono ?_
      rintro e w2 ⟨rfl, hb2⟩
      have E2 := Lib.hid (env_below E1.out hb2)
      have hc2 := below_then hc1 hc1.size hb2
      clear hb2 hc1
      go_wp2_with fail
      refine (CD.out w2 E2.out).mono ?_
      rintro e w3 ⟨rfl, hb3⟩
      have E3 := Lib.hid (env_below E2.out hb3)
      have hc3 := below_then hc2 hc2.size hb3
      clear hb3 hc2
      go_wp2_with fail
      go_ret
      exact ⟨rfl, hc3⟩
    | some r =>
      obtain ⟨e1, e2, e3⟩ := textS_inv hl
      obtain ⟨e4, e5, e6⟩ := textS_inv hm
      rw [count_yes hl] at CC
      rw [count_yes hm] at CD
      have CF := Lib.hid (fun W (h : Env W) => ahead_any s p W (by omega) (by omega) h.1)
      have CG := Lib.hid (fun W (h : Env W) => behind_any s p W (by omega) (by omega) h.1)
      rw [show aheadS s.data.toList p.data.toList = ((aheadN l r : Int), 0) by unfold aheadS; rw [hl, hm]] at CF
      rw [show behindS s.data.toList p.data.toList = ((behindN l r : Int), 0) by unfold behindS; rw [hl, hm]] at CG
      have hle := behindN_le l r
      have hbk := alike_back l r
      obtain ⟨A, hA⟩ : ∃ A, A = aheadN l r := ⟨_, rfl⟩
      obtain ⟨B, hB⟩ : ∃ B, B = behindN l r := ⟨_, rfl⟩
      rw [← hA] at CF hle hbk
      rw [← hB] at CG hle hbk
      have hput : textS (encS ((r.drop A).take (r.length - B - A))) = some ((r.drop A).take (r.length - B - A)) := textS_enc _ (mem_take (mem_drop e5 _) _) (by rw [List.length_take, List.length_drop]; omega)
      have hplen : ((r.drop A).take (r.length - B - A)).length = r.length - B - A := by rw [List.length_take, List.length_drop]; omega
      have h4 := encS_le4 ((r.drop A).take (r.length - B - A))
      have CP : Hid (∀ W, Env W → Calls Tryd.prog 25 #[.string p, .int .i64 A, .int .i64 ((r.length : Int) - B)] W fun e w' => e = .returned (.tuple #[.string (str (encS ((r.drop A).take (r.length - B - A)))), .int .i64 0]) ∧ Below W.heap.size W w') := by
        intro W h
        have h := cut_any p A ((r.length : Int) - B) W (by omega) h.1
        rw [show cutS p.data.toList A ((r.length : Int) - B) = (encS ((r.drop A).take (r.length - B - A)), 0) by unfold cutS; rw [hm]; simp only; rw [if_neg (by omega), show ((A : Int)).toNat = A by omega, show ((r.length : Int) - B - A).toNat = r.length - B - A by omega]] at h
        exact h
      have CS : Hid (∀ W, Env W → Calls Tryd.prog 16 #[.string s, .int .i64 A, .int .i64 ((l.length : Int) - B - A), .string (str (encS ((r.drop A).take (r.length - B - A))))] W fun e w' => e = .returned (.tuple #[.string p, .int .i64 0]) ∧ Below W.heap.size W w') := by
        intro W h
        have h := splice_any s (str (encS ((r.drop A).take (r.length - B - A)))) A ((l.length : Int) - B - A) W (by omega) (by rw [str_size]; omega) h.1 (by omega) (by omega)
        rw [show splS s.data.toList (str (encS ((r.drop A).take (r.length - B - A)))).data.toList A ((l.length : Int) - B - A) = (p.data.toList, 0) by
          unfold splS
          rw [hl, str_list, hput]
          simp only
          rw [if_neg (by omega), if_neg (by rw [hplen]; omega), show ((A : Int)).toNat = A by omega, show ((l.length : Int) - B - A).toNat = l.length - B - A by omega, show A + (l.length - B - A) = l.length - B by omega, ← encS_append, ← encS_append, hbk, e4]] at h
        rw [show ((p.data.toList, (0 : Int))).1 = p.data.toList from rfl, str_of] at h
        exact h
      obtain ⟨P, hP⟩ : ∃ P, P = str (encS ((r.drop A).take (r.length - B - A))) := ⟨_, rfl⟩
      rw [← hP] at CP CS
      obtain ⟨n, hn⟩ : ∃ n, n = l.length := ⟨_, rfl⟩
      obtain ⟨m, hmm⟩ : ∃ m, m = r.length := ⟨_, rfl⟩
      have i1 : (A : Int) + B ≤ (l.length : Int) := by omega
      have i2 : (A : Int) + B ≤ (r.length : Int) := by omega
      have i5 : (l.length : Int) ≤ 20000 := by omega
      have i6 : (r.length : Int) ≤ 20000 := by omega
      by_cases hin : 0 ≤ a ∧ a ≤ (l.length : Int)
      · obtain ⟨g1, g2⟩ := hin
        have CX : Hid (∀ W, Env W → Calls Tryd.prog 25 #[.string s, .int .i64 0, .int .i64 a] W fun e w' => e = .returned (.tuple #[.string (str (encS (l.take a.toNat))), .int .i64 0]) ∧ Below W.heap.size W w') := by
          intro W h
          have h := cut_any s 0 a W (by omega) h.1
          rw [show cutS s.data.toList 0 a = (encS (l.take a.toNat), 0) by unfold cutS; rw [hl]; simp only; rw [if_neg (by omega), show ((0 : Int)).toNat = 0 from rfl, List.drop_zero, show a - 0 = a by omega]] at h
          exact h
        have CY : Hid (∀ W, Env W → Calls Tryd.prog 25 #[.string s, .int .i64 a, .int .i64 (l.length : Int)] W fun e w' => e = .returned (.tuple #[.string (str (encS (l.drop a.toNat))), .int .i64 0]) ∧ Below W.heap.size W w') := by
          intro W h
          have h := cut_any s a (l.length : Int) W (by omega) h.1
          rw [show cutS s.data.toList a (l.length : Int) = (encS (l.drop a.toNat), 0) by unfold cutS; rw [hl]; simp only; rw [if_neg (by omega), List.take_of_length_le (by rw [List.length_drop]; omega)]] at h
          exact h
        have h5 := encS_le4 (l.take a.toNat)
        have h6 : (l.take a.toNat).length = a.toNat := by rw [List.length_take]; omega
        have CZ : Hid (∀ W, Env W → Calls Tryd.prog 24 #[.string (str (encS (l.take a.toNat)))] W fun e w' => e = .returned (.tuple #[.int .i64 a, .int .i64 0]) ∧ Below W.heap.size W w') := by
          intro W h
          have h := count_any (str (encS (l.take a.toNat))) W (by rw [str_size]; omega) h.1
          rw [str_list, cntS_text, textS_enc _ (mem_take e2 _) (by omega)] at h
          simp only at h
          rw [h6, show ((a.toNat : Nat) : Int) = a by omega] at h
          exact h
        have hxy : str (encS (l.take a.toNat)) ++ str (encS (l.drop a.toNat)) = s := by rw [str_app, encS_take_drop, ← e1, str_of]
        obtain ⟨X, hX⟩ : ∃ X, X = str (encS (l.take a.toNat)) := ⟨_, rfl⟩
        obtain ⟨Y, hY⟩ : ∃ Y, Y = str (encS (l.drop a.toNat)) := ⟨_, rfl⟩
        have h7 := encS_le4 (l.drop a.toNat)
        have h8 : (l.drop a.toNat).length ≤ 20000 := by rw [List.length_drop]; omega
        have hXs : X.size ≤ 100000 := by rw [hX, str_size]; omega
        have hYs : Y.size ≤ 100000 := by rw [hY, str_size]; omega
        rw [← hX] at CX CZ hxy
        rw [← hY] at CY hxy
        clear hl hm e1 e2 e3 e4 e5 e6 hbk hA hB hput hplen h4 hP hn hmm h5 h6 h7 h8 hX hY
        go_enter Tryd.func8, Tryd.ntmps8
        go_wp2_with fail
        refine (CA.out w HE.out).mono ?_
        rintro e w1 ⟨rfl, hb1⟩
        have E1 := Lib.hid (env_below HE.out hb1)
        have hc1 := hb1
        clear hb1
        go_wp2_with fail
        refine (CC.out w1 E1.out).mono ?_
        rintro e w2 ⟨rfl, hb2⟩
        have E2 := Lib.hid (env_below E1.out hb2)
        have hc2 := below_then hc1 hc1.size hb2
        clear hb2 hc1
        go_wp2_with fail
        refine (CD.out w2 E2.out).mono ?_
        rintro e w3 ⟨rfl, hb3⟩
        have E3 := Lib.hid (env_below E2.out hb3)
        have hc3 := below_then hc2 hc2.size hb3
        clear hb3 hc2
        go_wp2_with fail
        refine (CX.out w3 E3.out).mono ?_
        rintro e w4 ⟨rfl, hb4⟩
        have E4 := Lib.hid (env_below E3.out hb4)
        have hc4 := below_then hc3 hc3.size hb4
        clear hb4 hc3
        go_wp2_with fail
        refine (CY.out w4 E4.out).mono ?_
        rintro e w5 ⟨rfl, hb5⟩
        have E5 := Lib.hid (env_below E4.out hb5)
        have hc5 := below_then hc4 hc4.size hb5
        clear hb5 hc4
        go_wp2_with fail
        refine (CZ.out w5 E5.out).mono ?_
        rintro e w6 ⟨rfl, hb6⟩
        have E6 := Lib.hid (env_below E5.out hb6)
        have hc6 := below_then hc5 hc5.size hb6
        clear hb6 hc5
        go_wp2_with fail
        refine (CF.out w6 E6.out).mono ?_
        rintro e u1 ⟨rfl, kb1⟩
        have F1 := Lib.hid (env_below E6.out kb1)
        have kc1 := below_then hc6 hc6.size kb1
        clear kb1 hc6
        go_wp2_with fail
        refine (CG.out u1 F1.out).mono ?_
        rintro e u2 ⟨rfl, kb2⟩
        have F2 := Lib.hid (env_below F1.out kb2)
        have kc2 := below_then kc1 kc1.size kb2
        clear kb2 kc1
        go_wp2_with fail
        refine (CP.out u2 F2.out).mono ?_
        rintro e u3 ⟨rfl, kb3⟩
        have F3 := Lib.hid (env_below F2.out kb3)
        have kc3 := below_then kc2 kc2.size kb3
        clear kb3 kc2
        go_wp2_with fail
        refine (CS.out u3 F3.out).mono ?_
        rintro e u4 ⟨rfl, kb4⟩
        have kc4 := below_then kc3 kc3.size kb4
        clear kb4 kc3
        go_wp2_with fail
        go_ret
        exact ⟨rfl, kc4⟩
      · have hin' : a < 0 ∨ 0 ≤ a ∧ (l.length : Int) < a := by omega
        clear hl hm e1 e2 e3 e4 e5 e6 hbk hA hB hput hplen h4 hP hn hmm hin
        rcases hin' with g1 | ⟨g1, g2⟩
        · go_enter Tryd.func8, Tryd.ntmps8
          go_wp2_with fail
          refine (CA.out w HE.out).mono ?_
          rintro e w1 ⟨rfl, hb1⟩
          have E1 := Lib.hid (env_below HE.out hb1)
          have hc1 := hb1
          clear hb1
          go_wp2_with fail
          refine (CC.out w1 E1.out).mono ?_
          rintro e w2 ⟨rfl, hb2⟩
          have E2 := Lib.hid (env_below E1.out hb2)
          have hc2 := below_then hc1 hc1.size hb2
          clear hb2 hc1
          go_wp2_with fail
          refine (CD.out w2 E2.out).mono ?_
          rintro e w3 ⟨rfl, hb3⟩
          have E3 := Lib.hid (env_below E2.out hb3)
          have hc3 := below_then hc2 hc2.size hb3
          clear hb3 hc2
          go_wp2_with fail
          refine (CF.out w3 E3.out).mono ?_
          rintro e u1 ⟨rfl, kb1⟩
          have F1 := Lib.hid (env_below E3.out kb1)
          have kc1 := below_then hc3 hc3.size kb1
          clear kb1 hc3
          go_wp2_with fail
          refine (CG.out u1 F1.out).mono ?_
          rintro e u2 ⟨rfl, kb2⟩
          have F2 := Lib.hid (env_below F1.out kb2)
          have kc2 := below_then kc1 kc1.size kb2
          clear kb2 kc1
          go_wp2_with fail
          refine (CP.out u2 F2.out).mono ?_
          rintro e u3 ⟨rfl, kb3⟩
          have F3 := Lib.hid (env_below F2.out kb3)
          have kc3 := below_then kc2 kc2.size kb3
          clear kb3 kc2
          go_wp2_with fail
          refine (CS.out u3 F3.out).mono ?_
          rintro e u4 ⟨rfl, kb4⟩
          have kc4 := below_then kc3 kc3.size kb4
          clear kb4 kc3
          go_wp2_with fail
          go_ret
          exact ⟨rfl, kc4⟩
        · go_enter Tryd.func8, Tryd.ntmps8
          go_wp2_with fail
          refine (CA.out w HE.out).mono ?_
          rintro e w1 ⟨rfl, hb1⟩
          have E1 := Lib.hid (env_below HE.out hb1)
          have hc1 := hb1
          clear hb1
          go_wp2_with fail
          refine (CC.out w1 E1.out).mono ?_
          rintro e w2 ⟨rfl, hb2⟩
          have E2 := Lib.hid (env_below E1.out hb2)
          have hc2 := below_then hc1 hc1.size hb2
          clear hb2 hc1
          go_wp2_with fail
          refine (CD.out w2 E2.out).mono ?_
          rintro e w3 ⟨rfl, hb3⟩
          have E3 := Lib.hid (env_below E2.out hb3)
          have hc3 := below_then hc2 hc2.size hb3
          clear hb3 hc2
          go_wp2_with fail
          refine (CF.out w3 E3.out).mono ?_
          rintro e u1 ⟨rfl, kb1⟩
          have F1 := Lib.hid (env_below E3.out kb1)
          have kc1 := below_then hc3 hc3.size kb1
          clear kb1 hc3
          go_wp2_with fail
          refine (CG.out u1 F1.out).mono ?_
          rintro e u2 ⟨rfl, kb2⟩
          have F2 := Lib.hid (env_below F1.out kb2)
          have kc2 := below_then kc1 kc1.size kb2
          clear kb2 kc1
          go_wp2_with fail
          refine (CP.out u2 F2.out).mono ?_
          rintro e u3 ⟨rfl, kb3⟩
          have F3 := Lib.hid (env_below F2.out kb3)
          have kc3 := below_then kc2 kc2.size kb3
          clear kb3 kc2
          go_wp2_with fail
          refine (CS.out u3 F3.out).mono ?_
          rintro e u4 ⟨rfl, kb4⟩
          have kc4 := below_then kc3 kc3.size kb4
          clear kb4 kc3
          go_wp2_with fail
          go_ret
          exact ⟨rfl, kc4⟩
end Go.Proofs.YthpngienphnaoaaDoor
