import Derived.Test.YtmmgdngnffoflaaDoorOwA
import Derived.Test.YtmmgdngnffoflaaDoorPlC
import Derived.Test.YtmmgdngnffoflaaDoorAwA
/-
  blotterlaw10.DigestTexts: it returns true.
-/
namespace Go.Proofs.YtmmgdngnffoflaaDoor
open Go.RowKit Go.Proofs.YtmmgdngnffoflaaDoorW.PrintWords Go.Proofs.YtmmgdngnffoflaaDoor.PDigestTexts

theorem own_later {w w' : World} {base n : Nat} {e : TypeId} {v : Value} {xs : List Value} (h : w.ownsRow base e 1 v n xs) (hb : Below w.heap.size w w') : w'.ownsRow base e 1 v n xs := by
  obtain ⟨h1, h2⟩ := h
  refine ⟨h1, h2.imp id ?_⟩
  rintro ⟨g, cap, cur, a, b, c, d⟩
  exact ⟨g, cap, cur, a, b, (hb.block _ (blk_lt c)).trans c, d⟩
theorem rowOk_own {w : World} {base c : Nat} {A : Option Addr} {xs : List Int} (h : w.ownsRow base 5 1 (.slice A xs.length c) xs.length (nums .u8 xs)) : RowOk w (A, c, xs) ∧ ∀ g, A = some ⟨g, 0, none⟩ → base ≤ g ∧ g < w.heap.size := by
  rcases h.2 with ⟨h1, h0⟩ | ⟨g, cap, cur, h1, h2, h3, h4, h5, h6, h7⟩
  · injection h1 with h1 _ h1'
    subst h1
    subst h1'
    exact ⟨.inl ⟨rfl, rfl, List.eq_nil_of_length_eq_zero h0⟩, fun g e => by cases e⟩
  · injection h1 with h1 _ h1'
    subst h1
    subst h1'
    refine ⟨.inr ⟨g, 5, cur, rfl, h3, by simpa using h6, h4, by simpa using h7⟩, fun g' e => ?_⟩
    cases e
    exact ⟨h2, blk_lt h3⟩
theorem rowOk_le {w : World} {A : Option Addr} {c : Nat} {xs : List Int} (h : RowOk w (A, c, xs)) : xs.length ≤ c := by
  rcases h with ⟨_, h2, h3⟩ | ⟨_, _, _, _, _, _, h, _⟩
  · obtain rfl : xs = [] := h3
    exact Nat.zero_le _
  · exact h
set_option maxHeartbeats 4000000 in
set_option maxRecDepth 100000 in
theorem texts_any (A : Option Addr) (c : Nat) (l : List Int) (s : ByteArray) (w : World) (hr : Kd.C (Kd.int .u8) w A l.length l) (hcap : l.length ≤ c) (hl : l.length ≤ 10000000) (hb : Bytes l) (hs : s.size ≤ 10000000) :
    Calls Tryd.prog 3 #[.slice A l.length c, .string s] w fun e w' => e = .returned (.bool true) ∧ Below w.heap.size w w' := by
  have HR := Lib.hid hr
  have HB := Lib.hid hb
  clear hr hb
  go_enter Tryd.func3, Tryd.ntmps3
  go_wp2_with fail
  refine (awake_any _).mono ?_
  rintro e w1 ⟨rfl, hb1⟩
  have hr1 := Kd.C_below HR.out hb1
  go_wp2_with fail
  refine (lent_any A c l w1 hr1 hcap (by omega)).mono ?_
  rintro e w2 ⟨g, cap, rfl, hown, hb2⟩
  have hb02 := below_then hb1 hb1.size hb2
  obtain ⟨cur, hg, hcur, hcc, hc9, hgw⟩ : ∃ cur : Array Value, w2.heap[g]? = some (.cells cur 5 (0, 0)) ∧ cur.toList.take (l.length + 2) = nums .u8 (l ++ [171, 172]) ∧ cur.size = cap ∧ l.length + 2 ≤ cap ∧ w1.heap.size ≤ g := by
    rcases hown.2 with ⟨h, h0⟩ | ⟨g', cap', cur, h, h2, h3, h4, h5, h6, h7⟩
    · omega
    · injection h with h _ h'
      injection h with h
      injection h with h _ _
      subst h
      subst h'
      exact ⟨cur, h3, by simpa using h7, by omega, h4, h2⟩
  have hlow : w.heap.size ≤ g := Nat.le_trans hb1.size hgw
  have hC2 : Kd.C (Kd.int .u8) w2 (some ⟨g, 0, none⟩) l.length l := by
    have h : RowOk w2 (some ⟨g, 0, none⟩, cap, l) := by
      refine .inr ⟨g, 5, cur, rfl, hg, hcc, by show l.length ≤ cap; omega, ?_⟩
      have h := congrArg (List.take l.length) hcur
      rw [List.take_take, Nat.min_eq_left (by omega)] at h
      show cur.toList.take l.length = nums .u8 l
      rw [h, nums_append, List.take_append_of_le_length (by rw [nums_length]; omega), List.take_of_length_le (by rw [nums_length]; omega)]
    exact h.C (by omega)
  have HOWN := Lib.hid hown
  have HC2 := Lib.hid hC2
  have HB02 := Lib.hid hb02
  have HB1 := Lib.hid hb1
  have HGB := Lib.hid (blk_lt hg)
  clear hown hC2 hb02 hb1 hb2 hr1 hg hcur hcc
  go_wp2_with fail
  refine (enc_any (some ⟨g, 0, none⟩) cap l w2 HC2.out (by omega) (by omega) HB.out).mono ?_
  rintro e w3 ⟨rfl, hb3⟩
  have HB3 := Lib.hid hb3
  clear hb3
  go_wp2_with fail
  refine (hex_any (some ⟨g, 0, none⟩) cap l w3 (Kd.C_below HC2.out HB3.out) (by omega) HB.out).mono ?_
  rintro e w4 ⟨rfl, hb4⟩
  have HB4 : Hid (Below w2.heap.size w2 w4) := below_then HB3.out HB3.out.size hb4
  clear hb4 HB3
  go_wp2_with fail
  have hb04 := below_then HB02.out HB02.out.size HB4.out
  refine (kept_any g cap w1.heap.size l A c w4 (own_later HOWN.out HB4.out) (Kd.C_below HR.out hb04) hcap (by omega) (Nat.le_trans (by have := HGB.out; omega) HB4.out.size)).mono ?_
  rintro e w5 ⟨rfl, _, hb5⟩
  have HB05 : Hid (Below w.heap.size w w5) := hb04.trans (hb5.mono HB1.out.size)
  clear hb04 hb5 HB4 HOWN HC2 HB02 HB1 HGB hgw hlow hc9
  obtain ⟨D, hD⟩ : ∃ D, D = decF s.data.toList := ⟨_, rfl⟩
  have hdl := dec_len s.data.toList
  have hsl : s.data.toList.length = s.size := data_length s
  have hdb := dec_bytes s.data.toList
  rw [← hD] at hdl hdb
  have hD9 : D.1.length ≤ 10000000 := by omega
  have HDB := Lib.hid hdb
  obtain ⟨kd, hkd⟩ := dec_f s hs
  rw [← hD] at hkd
  have HKD := Lib.hid hkd
  have HDA : Hid (∀ W : World, Calls Tryd.prog 18 #[.string s] W fun e w' => ∃ v, e = .returned (.tuple #[v, .int .i64 D.2]) ∧ Kd.R (Kd.int .u8) 5 w' W.heap.size (fun _ => True) v D.1 ∧ Below W.heap.size W w') := by
    intro W
    rw [hD]
    exact dec_any s W (by omega)
  clear hD hdl hsl hdb hkd
  go_wp2_with fail
  refine (HDA.out w5).mono ?_
  rintro e w6 ⟨v1, rfl, hR1, hb6⟩
  have HR1 := Lib.hid hR1
  have HB6 := Lib.hid hb6
  clear hR1 hb6
  go_wp2_with fail
  refine (HDA.out w6).mono ?_
  rintro e w7 ⟨v2, rfl, hR2, hb7⟩
  have HR2 := Lib.hid hR2
  have HB7 := Lib.hid hb7
  clear hR2 hb7
  go_wp2_with fail
  refine (blotterref10_Decode.calls kd s D.1 D.2 w7 HKD.out).mono ?_
  rintro e w8 ⟨v3, rfl, hR3, hb8⟩
  have hown1 := own_later (Kd.own_of_R HR1.out) (below_then HB7.out HB7.out.size hb8)
  have hown2 := own_later (Kd.own_of_R HR2.out) hb8
  have hown3 := Kd.own_of_R hR3
  obtain ⟨A1, c1, rfl⟩ := own_slice hown1
  obtain ⟨A2, c2, rfl⟩ := own_slice hown2
  obtain ⟨A3, c3, rfl⟩ := own_slice hown3
  obtain ⟨ok1, _⟩ := rowOk_own hown1
  have lo1 := (rowOk_own (Kd.own_of_R HR1.out)).2
  obtain ⟨ok2, lo2⟩ := rowOk_own hown2
  obtain ⟨ok3, _⟩ := rowOk_own hown3
  have HO1 := Lib.hid ok1
  have HO2 := Lib.hid ok2
  have HO3 := Lib.hid ok3
  have HL1 := Lib.hid lo1
  have HL2 := Lib.hid lo2
  have HB08 : Hid (Below w.heap.size w w8) := below_then HB05.out HB05.out.size (below_then (below_then HB6.out HB6.out.size HB7.out) (below_then HB6.out HB6.out.size HB7.out).size hb8)
  have HS8 : Hid (w7.heap.size ≤ w8.heap.size) := hb8.size
  clear hown1 hown2 hown3 ok1 ok2 ok3 lo1 lo2 hR3 hb8 HR1 HR2
  go_wp2_with fail
  refine (same_any A1 c1 D.1 A3 c3 w8 (HO1.out.C (by omega)) (rowOk_le HO1.out) (HO3.out.C (by omega)) (rowOk_le HO3.out)).mono ?_
  rintro e w9 ⟨rfl, hd9⟩
  have HD9 := Lib.hid hd9.below
  clear hd9
  go_wp2_with fail
  refine (same_any A2 c2 D.1 A3 c3 w9 ((HO2.out.below HD9.out).C (by omega)) (rowOk_le HO2.out) ((HO3.out.below HD9.out).C (by omega)) (rowOk_le HO3.out)).mono ?_
  rintro e w10 ⟨rfl, hd10⟩
  have HD10 : Hid (Below w8.heap.size w8 w10) := below_then HD9.out HD9.out.size hd10.below
  clear hd10
  go_wp2_with fail
  have hbA : Below w8.heap.size w8 (w10.alloc (.cells #[.slice A1 D.1.length c1, .slice A2 D.1.length c2] 22)) := HD10.out.alloc HD10.out.size _
  have hb0A := below_then HB08.out HB08.out.size hbA
  have hs67 := HB6.out.size
  have hs78 := HB7.out.size
  have hs05 := HB05.out.size
  have hs810 := HD10.out.size
  have hs88 := HS8.out
  refine (owned_any w10.heap.size [(A1, c1, D.1), (A2, c2, D.1)] (w10.alloc (.cells #[.slice A1 D.1.length c1, .slice A2 D.1.length c2] 22)) (heap_alloc_new w10 _) (by show 2 ≤ 100; omega) ?ok ?len (by show 0 < 2; omega) w.heap.size hb0A.size ?gs ?dis).mono ?_
  case ok =>
    intro r hr
    simp only [List.mem_cons, List.not_mem_nil, or_false] at hr
    rcases hr with rfl | rfl
    · exact HO1.out.below hbA
    · exact HO2.out.below hbA
  case len =>
    intro r hr
    simp only [List.mem_cons, List.not_mem_nil, or_false] at hr
    rcases hr with rfl | rfl
    · show D.1.length ≤ _; omega
    · show D.1.length ≤ _; omega
  case gs =>
    intro r hr g hg
    simp only [List.mem_cons, List.not_mem_nil, or_false] at hr
    rcases hr with rfl | rfl
    · have := HL1.out g hg; omega
    · have := HL2.out g hg; omega
  case dis =>
    intro i j r q g hij hi hj hr hq
    have hj2 := (List.getElem?_eq_some_iff.1 hj).1
    have hj3 : j < 2 := hj2
    obtain rfl : j = 1 := by omega
    obtain rfl : i = 0 := by omega
    simp only [List.getElem?_cons_zero, List.getElem?_cons_succ, Option.some.injEq] at hi hj
    subst hi
    subst hj
    have h1 := HL1.out g hr
    have h2 := HL2.out g hq
    omega
  rintro e w11 ⟨rfl, hb11⟩
  have HB011 : Hid (Below w.heap.size w w11) := hb0A.trans hb11
  clear hbA hb0A hs67 hs78 hs05 hs810 hs88 hb11
  go_wp2_with fail
  obtain ⟨ke, hke⟩ := enc_f l HB.out hl
  refine (blotterref10_Encode.calls ke A c l _ w11 (Kd.C_below HR.out HB011.out) hcap hke).mono ?_
  rintro e w12 ⟨rfl, hb12⟩
  have HB012 : Hid (Below w.heap.size w w12) := below_then HB011.out HB011.out.size hb12
  clear hke hb12
  go_wp2_with fail
  refine (blotterref10_Hex.calls _ A c l _ w12 (Kd.C_below HR.out HB012.out) hcap (hex_f l HB.out hl)).mono ?_
  rintro e w13 ⟨rfl, hb13⟩
  have hb013 := below_then HB012.out HB012.out.size hb13
  clear hb13
  go_wp2_with fail
  go_ret
  exact ⟨rfl, hb013⟩
end Go.Proofs.YtmmgdngnffoflaaDoor
