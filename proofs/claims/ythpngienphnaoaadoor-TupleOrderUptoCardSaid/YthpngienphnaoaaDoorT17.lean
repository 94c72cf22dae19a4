import Derived.Test.YthpngienphnaoaaDoorT16
/-
  blotterlaw11.TupleOrder: it returns true.
-/
namespace Go.Proofs.YthpngienphnaoaaDoor
open Go.RowKit Go.Proofs.YthpngienphnaoaaDoorW.PrintWords Go.Proofs.YthpngienphnaoaaDoor.PTupleWorks

theorem C_take {w : World} {A : Option Addr} {k : Nat} {m : List S39} (h : Kd.C k39 w A k m) (n : Nat) (hn : n ≤ k) : Kd.C k39 w A n (m.take n) := by
  have h1 := h.1
  refine ⟨by rw [List.length_take]; omega, Nat.le_trans hn h.2.1, fun h0 => ?_⟩
  obtain ⟨ad, e, hc⟩ := h.2.2 (by omega)
  refine ⟨ad, e, fun j p hj => hc j p ?_⟩
  rw [List.getElem?_take] at hj
  split at hj
  · exact hj
  · cases hj
theorem order_row (l m : List S39) (hl : l.length ≤ 1048576) (hm : m.length ≤ 1048576) : ∀ (n k : Nat) (A B : Option Addr) (c d : Nat) (W : World), n = l.length → k = m.length → Kd.C k39 W A n l → Kd.C k39 W B k m → Calls Tryd.prog 28 #[.slice A n c, .slice B k d] W fun e w' => e = .returned (.int .i64 (ordL l m)) ∧ Below W.heap.size W w' := by
  rintro n k A B c d W rfl rfl h1 h2
  exact order_any A c l B d m W h1 h2 (by omega) (by omega)
theorem toList_eq (x : ByteArray) : x.toList = x.data.toList := Lib.toList_data x
set_option maxHeartbeats 32000000 in
set_option maxRecDepth 100000 in
theorem tupleOrder_any (A : Option Addr) (c : Nat) (l : List S39) (B : Option Addr) (d : Nat) (m : List S39) (w : World) (hr : Kd.C k39 w A l.length l) (hc : l.length ≤ c) (hok : PartsOk l)
    (hr2 : Kd.C k39 w B m.length m) (hc2 : m.length ≤ d) (hok2 : PartsOk m) (hl : l.length ≤ 1048576) (hm : m.length ≤ 1048576) (hE : Env w) :
    Calls Tryd.prog 10 #[.slice A l.length c, .slice B m.length d] w fun e w' => e = .returned (.bool true) ∧ Below w.heap.size w w' := by
  have CA := Lib.hid (fun W (h : Env W) => awakeT_any W h)
  have kl1 := (keyS_len (l := l)).1
  have kl2 := (keyS_len (l := m)).1
  have ks1 := keyL_some (l := l)
  have ks2 := keyL_some (l := m)
  obtain ⟨X, hX⟩ : ∃ X, X = str (keyS l).1 := ⟨_, rfl⟩
  obtain ⟨E1, hE1⟩ : ∃ E, E = (keyS l).2 := ⟨_, rfl⟩
  obtain ⟨Y, hY⟩ : ∃ X, X = str (keyS m).1 := ⟨_, rfl⟩
  obtain ⟨E2, hE2⟩ : ∃ E, E = (keyS m).2 := ⟨_, rfl⟩
  have CX := Lib.hid (key_row l hok hX hE1)
  have CY := Lib.hid (key_row m hok2 hY hE2)
  have CO1 := Lib.hid (order_row l m hl hm)
  have CO2 := Lib.hid (order_row m l hm hl)
  have hXs : X.size ≤ 100 := by rw [hX, str_size]; exact kl1
  have hYs : Y.size ≤ 100 := by rw [hY, str_size]; exact kl2
  rw [← hE1, show (keyS l).1 = X.data.toList by rw [hX, str_list]] at ks1
  rw [← hE2, show (keyS m).1 = Y.data.toList by rw [hY, str_list]] at ks2
  have KS1 := Lib.hid ks1
  have KS2 := Lib.hid ks2
  have B1 : Hid (Bnd l) := fun p hp => (hok p hp).2
  have B2 : Hid (Bnd m) := fun p hp => (hok2 p hp).2
  have FL := Lib.hid (ordL_flip l m)
  clear kl1 kl2 ks1 ks2 hX hE1 hY hE2 hok hok2
  have HE := Lib.hid hE
  have HR0 := Lib.hid hr
  have HR20 := Lib.hid hr2
  obtain ⟨n, hn⟩ : ∃ n, n = l.length := ⟨_, rfl⟩
  obtain ⟨k, hk⟩ : ∃ k, k = m.length := ⟨_, rfl⟩
  have HLL := Lib.hid hl
  have HMM := Lib.hid hm
  rw [← hn] at hr hc hl ⊢
  rw [← hk] at hr2 hc2 hm ⊢
  have HN := Lib.hid hn
  have HK := Lib.hid hk
  have HR := Lib.hid hr
  have HR2 := Lib.hid hr2
  clear hE hn hk hr hr2 HR0 HR20
  go_enter Tryd.func10, Tryd.ntmps10
  go_wp2_with fail
  refine (CA.out w HE.out).mono ?_
  rintro e w1 ⟨rfl, hb1⟩
  have HC1 := Lib.hid (CX.out n A c w1 HN.out (env_below HE.out hb1) (Kd.C_below HR.out hb1) hc)
  go_wp2_with fail
  refine HC1.out.mono ?_
  rintro e w2 ⟨rfl, hb2⟩
  have hb02 := below_then hb1 hb1.size hb2
  clear hb1 hb2 HC1
  have HC2 := Lib.hid (CY.out k B d w2 HK.out (env_below HE.out hb02) (Kd.C_below HR2.out hb02) hc2)
  go_wp2_with fail
  refine HC2.out.mono ?_
  rintro e w3 ⟨rfl, hb3⟩
  have HB3 := Lib.hid (below_then hb02 hb02.size hb3)
  clear hb02 hb3 HC2
  have HC3 := Lib.hid (CO1.out n k A B c d w3 HN.out HK.out (Kd.C_below HR.out HB3.out) (Kd.C_below HR2.out HB3.out))
  have hfl := FL.out
  obtain ⟨o, ho⟩ : ∃ o, o = ordL l m := ⟨_, rfl⟩
  rw [← ho] at HC3 hfl
  have hoc : o = -1 ∨ o = 0 ∨ o = 1 := by
    rw [ho]
    rcases ordL_cases l m with h | h | h
    · exact .inl h
    · exact .inr (.inl h.1)
    · exact .inr (.inr h)
  have HO := Lib.hid ho
  have HOC := Lib.hid hoc
  have HFL := Lib.hid hfl
  clear ho hoc hfl
  go_wp2_with fail
  refine HC3.out.mono ?_
  rintro e w4 ⟨rfl, hb4⟩
  have HB4 := Lib.hid (below_then HB3.out HB3.out.size hb4)
  clear hb4 HC3
  have HC4 := Lib.hid (CO2.out k n B A d c w4 HK.out HN.out (Kd.C_below HR2.out HB4.out) (Kd.C_below HR.out HB4.out))
  obtain ⟨r, hr⟩ : ∃ r, r = ordL m l := ⟨_, rfl⟩
  have hfl := HFL.out
  rw [← hr] at HC4 hfl
  obtain rfl : r = -o := by omega
  clear hr hfl
  have hoc := HOC.out
  go_wp2_with fail
  refine HC4.out.mono ?_
  rintro e w5 ⟨rfl, hb5⟩
  have HB5 := Lib.hid (below_then HB4.out HB4.out.size hb5)
  clear hb5 HC4
  clear CO1
  by_cases h1 : E1 = 0
  · subst h1
    by_cases h2 : E2 = 0
    · subst h2
      obtain ⟨kx, kx2⟩ := KS1.out rfl
      obtain ⟨ky, _⟩ := KS2.out rfl
      have hok := order_keys B1.out B2.out kx ky
      have hbk := begins_keys B1.out B2.out kx ky
      have haf := after_keys kx2 Y.data.toList
      rw [← HO.out] at hok
      obtain ⟨EN, hEN⟩ : ∃ EN, EN = str (aftL X.data.toList) := ⟨_, rfl⟩
      have CAF : Hid (∀ W, Calls Tryd.prog 31 #[.string X] W fun e w' => e = .returned (.string EN) ∧ Below W.heap.size W w') := by
        intro W
        rw [hEN]
        exact after_any X W (by omega)
      have hEN2 : EN.toList = aftL X.data.toList := by rw [toList_eq, hEN, str_list]
      rw [← hEN2, ← toList_eq X, ← toList_eq Y] at haf
      have hxe : Op.bytesLess X.toList EN.toList = true := haf.1
      have CO3 : Hid (∀ (j : Nat) (W : World), Below w.heap.size w W → j ≤ k → j = n → Calls Tryd.prog 28 #[.slice B j d, .slice A n c] W fun e w' => e = .returned (.int .i64 (ordL (m.take j) l)) ∧ Below W.heap.size W w') := by
        intro j W hbW hj hjn
        have hjl : (m.take j).length = j := by rw [List.length_take]; have := HK.out; omega
        exact order_row (m.take j) l (by rw [hjl]; have := HN.out; have := HLL.out; omega) HLL.out j n B A d c W hjl.symm HN.out (C_take (Kd.C_below HR2.out hbW) j hj) (Kd.C_below HR.out hbW)
      have hlen1 : X.data.toList.length = X.size := Array.length_toList
      have hlen2 : Y.data.toList.length = Y.size := Array.length_toList
      have hextr : (Y.extract 0 X.size).toList = Y.data.toList.take X.size := by rw [toList_eq, ext_list, List.drop_zero]
      have HFR : Hid ((∃ z, Y.data.toList = X.data.toList ++ z) → n ≤ k ∧ X.size ≤ Y.size ∧ ordL (m.take n) l = 0 ∧ (Y.extract 0 X.size).toList = X.toList ∧ Op.bytesLess Y.toList X.toList = false ∧ Op.bytesLess Y.toList EN.toList = true) := by
        intro h
        obtain ⟨t, ht⟩ := hbk.1 h
        obtain ⟨z, hz⟩ := h
        have := HN.out
        have := HK.out
        have e1 : n ≤ k := by rw [HN.out, HK.out, ht, List.length_append]; omega
        have e2 : X.size ≤ Y.size := by rw [← hlen1, ← hlen2, hz, List.length_append]; omega
        have e3 : m.take n = l := by rw [ht, HN.out, List.take_left]
        refine ⟨e1, e2, by rw [e3]; exact ordL_self l, ?_, haf.2.1 (by rw [toList_eq, toList_eq]; exact ⟨z, hz⟩)⟩
        rw [hextr, hz, toList_eq, ← hlen1, List.take_left]
      have HNF : Hid ((¬ ∃ z, Y.data.toList = X.data.toList ++ z) → (n ≤ k → ordL (m.take n) l ≠ 0) ∧ (X.size ≤ Y.size → (Y.extract 0 X.size).toList ≠ X.toList) ∧ (Op.bytesLess Y.toList X.toList = false → Op.bytesLess Y.toList EN.toList = false)) := by
        intro h
        refine ⟨fun h1 h2 => h (hbk.2 ⟨m.drop n, ?_⟩), fun h1 h2 => h ⟨Y.data.toList.drop X.size, ?_⟩, fun h1 => ?_⟩
        · rcases ordL_cases (m.take n) l with e | ⟨_, e⟩ | e
          · omega
          · have := List.take_append_drop n m
            rw [e] at this
            exact this.symm
          · omega
        · rw [hextr, toList_eq] at h2
          have := List.take_append_drop X.size Y.data.toList
          rw [h2] at this
          exact this.symm
        · cases h2 : Op.bytesLess Y.toList EN.toList with
          | false => rfl
          | true =>
            have h3 := haf.2.2 h1 h2
            rw [toList_eq, toList_eq] at h3
            exact absurd h3 h
      have HXY : Hid ((X.data.toList = Y.data.toList) ↔ X.toList = Y.toList) := by rw [toList_eq, toList_eq]; exact Iff.rfl
      rw [← toList_eq X, ← toList_eq Y] at hok
      clear kx kx2 ky hbk haf hEN hEN2 hlen1 hlen2 hextr hoc HXY
      clear KS1 KS2 HO FL HFL HOC HLL HMM B1 B2 HN HK HR HR2
      rcases hok with ⟨rfl, o1, o2⟩ | ⟨rfl, o1, o2⟩ | ⟨rfl, o1, o2⟩
      · have o3 : (X.toList == Y.toList) = false := by rw [beq_eq_false_iff_ne]; exact o2
        by_cases hfr : ∃ z, Y.data.toList = X.data.toList ++ z
        · obtain ⟨t1, t2, t3, t4, t5, t6⟩ := HFR.out hfr
          have g1 : (n : Int) ≤ (k : Int) := by omega
          have g3 : (X.size : Int) ≤ (Y.size : Int) := by omega
          have g2 : n ≤ k := t1
          have g4 : X.size ≤ Y.size := t2
          clear t1 t2 hfr
          go_wp2_with fail
          refine (CO3.out n w5 HB5.out g2 rfl).mono ?_
          rintro e w6 ⟨rfl, hb6⟩
          have HB6 := Lib.hid (below_then HB5.out HB5.out.size hb6)
          clear hb6
          have t0 : ordL (m.take n) l = 0 := t3
          rw [t0]
          clear t0 t3
          go_wp2_with fail
          refine (CAF.out _).mono ?_
          rintro e w8 ⟨rfl, hb8⟩
          have HB8 := Lib.hid (below_then HB6.out HB6.out.size hb8)
          clear hb8
          go_wp2_with fail
          go_ret
          exact ⟨rfl, HB8.out⟩
        · obtain ⟨t1, t2, t3⟩ := HNF.out hfr
          clear hfr
          by_cases g2 : n ≤ k
          · have g1 : (n : Int) ≤ (k : Int) := by omega
            have t0 : ordL (m.take n) l ≠ 0 := t1 g2
            obtain ⟨q, hq⟩ : ∃ q, q = ordL (m.take n) l := ⟨_, rfl⟩
            have CO9 := Lib.hid (CO3.out n w5 HB5.out g2 rfl)
            rw [← hq] at t0 CO9
            have t0' : (q == 0) = false := by rw [beq_eq_false_iff_ne]; exact t0
            clear hq t1
            go_wp2_with fail
            refine CO9.out.mono ?_
            rintro e w6 ⟨rfl, hb6⟩
            have HB6 := Lib.hid (below_then HB5.out HB5.out.size hb6)
            clear hb6 CO9
            by_cases g4 : X.size ≤ Y.size
            · have g3 : (X.size : Int) ≤ (Y.size : Int) := by omega
              have t4 := t2 g4
              have t5 : (Y.extract 0 X.size).toList ≠ X.toList := t4
              have t5' : ((Y.extract 0 X.size).toList == X.toList) = false := by rw [beq_eq_false_iff_ne]; exact t4
              clear t2
              cases hyx : Op.bytesLess Y.toList X.toList with
              | true =>
                go_wp2_with fail
                refine (CAF.out _).mono ?_
                rintro e w8 ⟨rfl, hb8⟩
                have HB8 := Lib.hid (below_then HB6.out HB6.out.size hb8)
                clear hb8
                go_wp2_with fail
                go_ret
                exact ⟨rfl, HB8.out⟩
              | false =>
                have hye := t3 hyx
                go_wp2_with fail
                refine (CAF.out _).mono ?_
                rintro e w8 ⟨rfl, hb8⟩
                have HB8 := Lib.hid (below_then HB6.out HB6.out.size hb8)
                clear hb8
                go_wp2_with fail
                go_ret
                exact ⟨rfl, HB8.out⟩
            · have g3 : ¬ (X.size : Int) ≤ (Y.size : Int) := by omega
              clear t2
              cases hyx : Op.bytesLess Y.toList X.toList with
              | true =>
                go_wp2_with fail
                refine (CAF.out _).mono ?_
                rintro e w8 ⟨rfl, hb8⟩
                have HB8 := Lib.hid (below_then HB6.out HB6.out.size hb8)
                clear hb8
                go_wp2_with fail
                go_ret
                exact ⟨rfl, HB8.out⟩
              | false =>
                have hye := t3 hyx
                go_wp2_with fail
                refine (CAF.out _).mono ?_
                rintro e w8 ⟨rfl, hb8⟩
                have HB8 := Lib.hid (below_then HB6.out HB6.out.size hb8)
                clear hb8
                go_wp2_with fail
                go_ret
                exact ⟨rfl, HB8.out⟩
          · have g1 : ¬ (n : Int) ≤ (k : Int) := by omega
            clear t1
            by_cases g4 : X.size ≤ Y.size
            · have g3 : (X.size : Int) ≤ (Y.size : Int) := by omega
              have t4 := t2 g4
              have t5 : (Y.extract 0 X.size).toList ≠ X.toList := t4
              have t5' : ((Y.extract 0 X.size).toList == X.toList) = false := by rw [beq_eq_false_iff_ne]; exact t4
              clear t2
              cases hyx : Op.bytesLess Y.toList X.toList with
              | true =>
                go_wp2_with fail
                refine (CAF.out _).mono ?_
                rintro e w8 ⟨rfl, hb8⟩
                have HB8 := Lib.hid (below_then HB5.out HB5.out.size hb8)
                clear hb8
                go_wp2_with fail
                go_ret
                exact ⟨rfl, HB8.out⟩
              | false =>
                have hye := t3 hyx
                go_wp2_with fail
                refine (CAF.out _).mono ?_
                rintro e w8 ⟨rfl, hb8⟩
                have HB8 := Lib.hid (below_then HB5.out HB5.out.size hb8)
                clear hb8
                go_wp2_with fail
                go_ret
                exact ⟨rfl, HB8.out⟩
            · have g3 : ¬ (X.size : Int) ≤ (Y.size : Int) := by omega
              clear t2
              cases hyx : Op.bytesLess Y.toList X.toList with
              | true =>
                go_wp2_with fail
                refine (CAF.out _).mono ?_
                rintro e w8 ⟨rfl, hb8⟩
                have HB8 := Lib.hid (below_then HB5.out HB5.out.size hb8)
                clear hb8
                go_wp2_with fail
                go_ret
                exact ⟨rfl, HB8.out⟩
              | false =>
                have hye := t3 hyx
                go_wp2_with fail
                refine (CAF.out _).mono ?_
                rintro e w8 ⟨rfl, hb8⟩
                have HB8 := Lib.hid (below_then HB5.out HB5.out.size hb8)
                clear hb8
                go_wp2_with fail
                go_ret
                exact ⟨rfl, HB8.out⟩
      · have hyx : Y = X := by apply ByteArray.ext; apply Array.ext'; rw [← toList_eq, ← toList_eq]; exact o2.symm
        subst hyx
        clear o2
        obtain ⟨t1, t2, t3, t4, t5, t6⟩ := HFR.out ⟨[], by rw [List.append_nil]⟩
        have g1 : (n : Int) ≤ (k : Int) := by omega
        have g3 : (Y.size : Int) ≤ (Y.size : Int) := by omega
        have g2 : n ≤ k := t1
        have g4 : Y.size ≤ Y.size := t2
        clear t1 t2
        go_wp2_with fail
        refine (CO3.out n w5 HB5.out g2 rfl).mono ?_
        rintro e w6 ⟨rfl, hb6⟩
        have HB6 := Lib.hid (below_then HB5.out HB5.out.size hb6)
        clear hb6
        have t0 : ordL (m.take n) l = 0 := t3
        rw [t0]
        clear t0 t3
        go_wp2_with fail
        refine (CAF.out _).mono ?_
        rintro e w8 ⟨rfl, hb8⟩
        have HB8 := Lib.hid (below_then HB6.out HB6.out.size hb8)
        clear hb8
        go_wp2_with fail
        go_ret
        exact ⟨rfl, HB8.out⟩
      · have o3 : (X.toList == Y.toList) = false := by rw [beq_eq_false_iff_ne]; exact o2
        by_cases hfr : ∃ z, Y.data.toList = X.data.toList ++ z
        · obtain ⟨t1, t2, t3, t4, t5, t6⟩ := HFR.out hfr
          have g1 : (n : Int) ≤ (k : Int) := by omega
          have g3 : (X.size : Int) ≤ (Y.size : Int) := by omega
          have g2 : n ≤ k := t1
          have g4 : X.size ≤ Y.size := t2
          clear t1 t2 hfr
          go_wp2_with fail
          refine (CO3.out n w5 HB5.out g2 rfl).mono ?_
          rintro e w6 ⟨rfl, hb6⟩
          have HB6 := Lib.hid (below_then HB5.out HB5.out.size hb6)
          clear hb6
          have t0 : ordL (m.take n) l = 0 := t3
          rw [t0]
          clear t0 t3
          go_wp2_with fail
          refine (CAF.out _).mono ?_
          rintro e w8 ⟨rfl, hb8⟩
          have HB8 := Lib.hid (below_then HB6.out HB6.out.size hb8)
          clear hb8
          go_wp2_with fail
          go_ret
          exact ⟨rfl, HB8.out⟩
        · obtain ⟨t1, t2, t3⟩ := HNF.out hfr
          clear hfr
          by_cases g2 : n ≤ k
          · have g1 : (n : Int) ≤ (k : Int) := by omega
            have t0 : ordL (m.take n) l ≠ 0 := t1 g2
            obtain ⟨q, hq⟩ : ∃ q, q = ordL (m.take n) l := ⟨_, rfl⟩
            have CO9 := Lib.hid (CO3.out n w5 HB5.out g2 rfl)
            rw [← hq] at t0 CO9
            have t0' : (q == 0) = false := by rw [beq_eq_false_iff_ne]; exact t0
            clear hq t1
            go_wp2_with fail
            refine CO9.out.mono ?_
            rintro e w6 ⟨rfl, hb6⟩
            have HB6 := Lib.hid (below_then HB5.out HB5.out.size hb6)
            clear hb6 CO9
            by_cases g4 : X.size ≤ Y.size
            · have g3 : (X.size : Int) ≤ (Y.size : Int) := by omega
              have t4 := t2 g4
              have t5 : (Y.extract 0 X.size).toList ≠ X.toList := t4
              have t5' : ((Y.extract 0 X.size).toList == X.toList) = false := by rw [beq_eq_false_iff_ne]; exact t4
              clear t2
              cases hyx : Op.bytesLess Y.toList X.toList with
              | true =>
                go_wp2_with fail
                refine (CAF.out _).mono ?_
                rintro e w8 ⟨rfl, hb8⟩
                have HB8 := Lib.hid (below_then HB6.out HB6.out.size hb8)
                clear hb8
                go_wp2_with fail
                go_ret
                exact ⟨rfl, HB8.out⟩
              | false =>
                have hye := t3 hyx
                go_wp2_with fail
                refine (CAF.out _).mono ?_
                rintro e w8 ⟨rfl, hb8⟩
                have HB8 := Lib.hid (below_then HB6.out HB6.out.size hb8)
                clear hb8
                go_wp2_with fail
                go_ret
                exact ⟨rfl, HB8.out⟩
            · have g3 : ¬ (X.size : Int) ≤ (Y.size : Int) := by omega
              clear t2
              cases hyx : Op.bytesLess Y.toList X.toList with
              | true =>
                go_wp2_with fail
                refine (CAF.out _).mono ?_
                rintro e w8 ⟨rfl, hb8⟩
                have HB8 := Lib.hid (below_then HB6.out HB6.out.size hb8)
                clear hb8
                go_wp2_with fail
                go_ret
                exact ⟨rfl, HB8.out⟩
              | false =>
                have hye := t3 hyx
                go_wp2_with fail
                refine (CAF.out _).mono ?_
                rintro e w8 ⟨rfl, hb8⟩
                have HB8 := Lib.hid (below_then HB6.out HB6.out.size hb8)
                clear hb8
                go_wp2_with fail
                go_ret
                exact ⟨rfl, HB8.out⟩
          · have g1 : ¬ (n : Int) ≤ (k : Int) := by omega
            clear t1
            by_cases g4 : X.size ≤ Y.size
            · have g3 : (X.size : Int) ≤ (Y.size : Int) := by omega
              have t4 := t2 g4
              have t5 : (Y.extract 0 X.size).toList ≠ X.toList := t4
              have t5' : ((Y.extract 0 X.size).toList == X.toList) = false := by rw [beq_eq_false_iff_ne]; exact t4
              clear t2
              cases hyx : Op.bytesLess Y.toList X.toList with
              | true =>
                go_wp2_with fail
                refine (CAF.out _).mono ?_
                rintro e w8 ⟨rfl, hb8⟩
                have HB8 := Lib.hid (below_then HB5.out HB5.out.size hb8)
                clear hb8
                go_wp2_with fail
                go_ret
                exact ⟨rfl, HB8.out⟩
              | false =>
                have hye := t3 hyx
                go_wp2_with fail
                refine (CAF.out _).mono ?_
                rintro e w8 ⟨rfl, hb8⟩
                have HB8 := Lib.hid (below_then HB5.out HB5.out.size hb8)
                clear hb8
                go_wp2_with fail
                go_ret
                exact ⟨rfl, HB8.out⟩
            · have g3 : ¬ (X.size : Int) ≤ (Y.size : Int) := by omega
              clear t2
              cases hyx : Op.bytesLess Y.toList X.toList with
              | true =>
                go_wp2_with fail
                refine (CAF.out _).mono ?_
                rintro e w8 ⟨rfl, hb8⟩
                have HB8 := Lib.hid (below_then HB5.out HB5.out.size hb8)
                clear hb8
                go_wp2_with fail
                go_ret
                exact ⟨rfl, HB8.out⟩
              | false =>
                have hye := t3 hyx
                go_wp2_with fail
                refine (CAF.out _).mono ?_
                rintro e w8 ⟨rfl, hb8⟩
                have HB8 := Lib.hid (below_then HB5.out HB5.out.size hb8)
                clear hb8
                go_wp2_with fail
                go_ret
                exact ⟨rfl, HB8.out⟩
    · have h2' : (E2 == 0) = false := by rw [beq_eq_false_iff_ne]; exact h2
      clear HO FL HFL HOC KS1 KS2
      rcases hoc with rfl | rfl | rfl <;> (go_wp2_with fail; go_ret; exact ⟨rfl, HB5.out⟩)
  · have h1' : (E1 == 0) = false := by rw [beq_eq_false_iff_ne]; exact h1
    clear HO FL HFL HOC KS1 KS2
    rcases hoc with rfl | rfl | rfl <;> (go_wp2_with fail; go_ret; exact ⟨rfl, HB5.out⟩)
end Go.Proofs.YthpngienphnaoaaDoor
