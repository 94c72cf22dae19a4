import Derived.Test.YthpngienphnaoaaDoorVLinesP
import Derived.Laws.Rows
/-
  blotterlaw01.RunesLines: it returns true.
-/
namespace Go.Proofs.YthpngienphnaoaaDoor
open Go.RowKit Go.Proofs.YthpngienphnaoaaDoorW.PrintWords

open PRunesLines
/-- A row of texts of the call's own. -/
def OwnS (w : World) (base g c : Nat) (ls : List (List UInt8)) : Prop := ∃ cur : Array Value, w.heap[g]? = some (.cells cur 9 (0, 0)) ∧ base ≤ g ∧ ls.length ≤ c ∧ c ≤ maxLen ∧ cur.size = c ∧ cur.toList.take ls.length = strs ls
theorem ownS_of {w : World} {base : Nat} {v : Value} {ls : List (List UInt8)} (h : w.ownsRow base 9 1 v ls.length (strs ls)) (hn : 0 < ls.length) : ∃ g c, v = .slice (some ⟨g, 0, none⟩) ls.length c ∧ OwnS w base g c ls := by
  rcases h.2 with ⟨_, h2⟩ | ⟨g, cap, cur, h1, h2, h3, h4, h5, h6, h7⟩
  · omega
  · exact ⟨g, cap, h1, cur, h3, h2, h4, h5, by simpa using h6, by simpa using h7⟩
theorem OwnS.row {w : World} {base g c : Nat} {ls : List (List UInt8)} (h : OwnS w base g c ls) : RowS w g ls := by
  obtain ⟨cur, h1, _, _, _, _, h6⟩ := h
  intro p hp
  have h9 : (cur.toList.take ls.length)[p]? = (strs ls)[p]? := congrArg (fun (x : List Value) => x[p]?) h6
  rw [List.getElem?_take_of_lt hp, Array.getElem?_toList] at h9
  rw [cell_of_row _ _ _ _ _ _ h1, h9]
  unfold strs
  rw [List.getElem?_map, List.getElem?_eq_getElem hp, List.getD_eq_getElem?_getD, List.getElem?_eq_getElem hp]; rfl
theorem OwnS.below {w w' : World} {base g c : Nat} {ls : List (List UInt8)} (h : OwnS w base g c ls) (hb : Below w.heap.size w w') : OwnS w' base g c ls := by
  obtain ⟨cur, h1, h2⟩ := h
  exact ⟨cur, (hb.block _ (blk_lt h1)).trans h1, h2⟩
theorem OwnS.lt {w : World} {base g c : Nat} {ls : List (List UInt8)} (h : OwnS w base g c ls) : base ≤ g ∧ g < w.heap.size ∧ ls.length ≤ c ∧ c ≤ maxLen := by
  obtain ⟨cur, h1, h2, h3, h4, _⟩ := h
  exact ⟨h2, blk_lt h1, h3, h4⟩
/-- A row of texts that is written over. -/
def Spoilt (w wr : World) (base g c n : Nat) : Prop := KeepBut w wr g none ∧ Below base w wr ∧ ∃ cur : Array Value, wr.heap[g]? = some (.cells cur 9 (0, 0)) ∧ cur.size = c ∧ ∀ j, j < n → ∃ x, cur[j]? = some (.string x)
theorem Spoilt.start {w : World} {base g c : Nat} {ls : List (List UInt8)} (h : OwnS w base g c ls) : Spoilt w w base g c ls.length := by
  have hr := h.row
  obtain ⟨cur, h1, h2, h3, h4, h5, h6⟩ := h
  refine ⟨KeepBut.refl _ _ _, Below.refl _ _, cur, h1, h5, fun j hj => ?_⟩
  have h := hr j hj
  rw [cell_of_row _ _ _ _ _ _ h1] at h
  exact ⟨_, h⟩
theorem Spoilt.step {w wr : World} {base g c n k : Nat} (h : Spoilt w wr base g c n) (hb : base ≤ g) (x : ByteArray) : Spoilt w (wr.setCell ⟨g, k, none⟩ (.string x)) base g c n := by
  obtain ⟨a, aB, cur, b, bs, cc⟩ := h
  refine ⟨a.set_ k _, aB.setCell hb _, _, heap_setCell_same wr g k cur 9 _ b, by simpa using bs, fun j hj => ?_⟩
  by_cases e : k = j
  · subst e
    obtain ⟨y, hy⟩ := cc k hj
    exact ⟨x, by simp [(Array.getElem?_eq_some_iff.1 hy).1]⟩
  · obtain ⟨y, hy⟩ := cc j hj
    exact ⟨y, by rw [Array.getElem?_setIfInBounds, if_neg e]; exact hy⟩
theorem Spoilt.at_ {w wr : World} {base g c n k : Nat} (h : Spoilt w wr base g c n) (hk : k < n) : ∃ x, wr.cell? ⟨g, k, none⟩ = some (.string x) ∧ wr.frozen? ⟨g, k, none⟩ = false := by
  obtain ⟨_, _, cur, b, bs, cc⟩ := h
  obtain ⟨x, hx⟩ := cc k hk
  exact ⟨x, by rw [cell_of_row _ _ _ _ _ _ b]; exact hx, blk_frozen b k⟩
theorem Spoilt.own {w wr : World} {base g c n : Nat} (h : Spoilt w wr base g c n) (hb : base ≤ g) (hn : n ≤ c) (hc : c ≤ maxLen) : ∃ ys, wr.ownsRow base 9 1 (.slice (some ⟨g, 0, none⟩) n c) n ys := by
  obtain ⟨_, _, cur, b, bs, cc⟩ := h
  refine ⟨cur.toList.take n, ?_, .inr ⟨g, c, cur, rfl, hb, b, hn, hc, by omega, by rw [Nat.mul_one]⟩⟩
  rw [List.length_take, Array.length_toList]
  omega
theorem joinL_snoc (ls : List (List UInt8)) (k : Nat) (h0 : 0 < k) (hk : k < ls.length) : joinL (ls.take (k + 1)) = joinL (ls.take k) ++ [10] ++ ls.getD k [] := by
  cases ls with
  | nil => simp at hk
  | cons x r =>
    obtain ⟨j, rfl⟩ : ∃ j, k = j + 1 := ⟨k - 1, by omega⟩
    have hj : j < r.length := by simpa using hk
    rw [List.take_succ_cons, List.take_succ_cons]
    show x ++ (r.take (j + 1)).flatMap _ = x ++ (r.take j).flatMap _ ++ [10] ++ _
    rw [List.take_succ_eq_append_getElem hj, List.flatMap_append, List.getD_eq_getElem?_getD, List.getElem?_cons_succ, List.getElem?_eq_getElem hj]
    simp
theorem joinL_one (ls : List (List UInt8)) (h : 0 < ls.length) : joinL (ls.take 1) = ls.getD 0 [] := by
  cases ls with
  | nil => simp at h
  | cons x r => simp [joinL]
theorem joinL_le (ls : List (List UInt8)) (k : Nat) : (joinL (ls.take k)).length ≤ (joinL ls).length := by
  cases ls with
  | nil => simp
  | cons x r =>
    cases k with
    | zero => simp [joinL]
    | succ k =>
      rw [List.take_succ_cons]
      show (x ++ (r.take k).flatMap _).length ≤ (x ++ r.flatMap _).length
      have e : r.flatMap (fun y => (10 : UInt8) :: y) = (r.take k).flatMap (fun y => 10 :: y) ++ (r.drop k).flatMap (fun y => 10 :: y) := by rw [← List.flatMap_append, List.take_append_drop]
      rw [e]
      simp only [List.length_append]
      omega
theorem line_le (ls : List (List UInt8)) (k : Nat) (hk : k < ls.length) : (ls.getD k []).length ≤ (joinL ls).length := by
  have h := joinL_le ls (k + 1)
  rcases Nat.eq_zero_or_pos k with rfl | h0
  · rw [joinL_one ls hk] at h
    exact h
  · rw [joinL_snoc ls k h0 hk] at h
    simp only [List.length_append] at h
    omega
theorem empty_app (q : ByteArray) : ByteArray.mk #[] ++ q = q := by
  apply ByteArray.ext
  rw [ByteArray.data_append]
  simp
theorem str_cat3 (a b : List UInt8) : str a ++ ByteArray.mk #[10] ++ str b = str (a ++ [10] ++ b) := by
  rw [← str_app, ← str_app]; rfl
set_option maxHeartbeats 8000000 in
set_option maxRecDepth 100000 in
theorem linesNone_any (s : ByteArray) (w : World) (hs : s.size ≤ 2000000) (hE : Env w) (hl : textS s.data.toList = none) :
    Calls Tryd.prog 5 #[.string s] w fun e w' => e = .returned (.bool true) ∧ Below w.heap.size w w' := by
  have CA := Lib.hid (fun W (h : Env W) => awake_any W h)
  have CL := Lib.hid (fun W (h : Env W) => lines_no s W (by omega) h.1 hl)
  have CR : Hid (∀ W, Env W → Calls Tryd.prog 23 #[.string s] W fun e w' => ∃ A c, e = .returned (.tuple #[.slice A 0 c, .int .i64 10]) ∧ Below W.heap.size W w') := by
    intro W _
    obtain ⟨k, hk⟩ := Lines_f s (by omega)
    have hq : linS s.data.toList = ([], 10) := by unfold linS; rw [hl]
    rw [hq] at hk
    refine (blotterref01_Lines.calls k s _ _ W hk).mono ?_
    rintro e w' ⟨v, rfl, hR, hb⟩
    obtain ⟨A, c, rfl⟩ := own_slice (Kd.own_of_R hR)
    exact ⟨A, c, rfl, hb⟩
  have HE := Lib.hid hE
  clear hE hl
  go_enter Tryd.func5, Tryd.ntmps5
  go_wp2_with fail
  refine (CA.out w HE.out).mono ?_
  rintro e w1 ⟨rfl, hb1⟩
  have E1 := Lib.hid (env_below HE.out hb1)
  have hc1 := hb1
  clear hb1
  go_wp2_with fail
  refine (CL.out w1 E1.out).mono ?_
  rintro e w2 ⟨rfl, hb2⟩
  have E2 := Lib.hid (env_below E1.out hb2)
  have hc2 := below_then hc1 hc1.size hb2
  clear hb2 hc1
  go_wp2_with fail
  refine (CL.out w2 E2.out).mono ?_
  rintro e w3 ⟨rfl, hb3⟩
  have E3 := Lib.hid (env_below E2.out hb3)
  have hc3 := below_then hc2 hc2.size hb3
  clear hb3 hc2
  go_wp2_with fail
  refine (CR.out w3 E3.out).mono ?_
  rintro e w4 ⟨A3, c3, rfl, hb4⟩
  have hc4 := below_then hc3 hc3.size hb4
  clear hb4 hc3
  go_wp2_with fail
  go_loopw [10, 11] (fun a i wr => a = .string ⟨#[]⟩ ∧ i = .int .i64 0 ∧ wr = w4) (fun _ _ _ => 0)
  case atStart => exact ⟨rfl, rfl, rfl⟩
  case round =>
    obtain ⟨rfl, rfl, rfl⟩ := hrel
    go_wp2_with fail
    go_loopw [12] (fun i wr' => i = .int .i64 0 ∧ wr' = wr) (fun _ _ => 0)
    case atStart => exact ⟨rfl, rfl⟩
    case round =>
      obtain ⟨rfl, rfl⟩ := hrel
      have hown : (wr.alloc (.cells #[.string ⟨#[109, 111, 114, 101]⟩] 9)).ownsRow wr.heap.size 9 1 (.slice none 0 0) 0 [] := ⟨rfl, .inl ⟨rfl, rfl⟩⟩
      obtain ⟨i0, hi, hz0, hz1, hz2⟩ := info_parts dinfo9
      go_wp2_with (at_builtin; refine wpList_append_own _ rfl (.tmp 90) (.tmp 91) 30 rfl wr.heap.size 9 i0 (.string ByteArray.empty) 1 16 Tryd.underlying30 hi hz0 hz1 hz2 rfl (by decide) _ 0 [] rfl hown ⟨wr.heap.size, 0, none⟩ 1 1 [.string ⟨#[109, 111, 114, 101]⟩] rfl rfl ?c1 ?c2 ?c3 ?c4 ?c5 ?_)
      case c1 => exact cell_one_new _ _ _
      case c2 => intro u hu; simp only [List.mem_singleton] at hu; subst hu; rfl
      case c3 => unfold maxLen; omega
      case c4 => omega
      case c5 => rw [alloc_size]; omega
      intro v9 w9 hown9 hg9 _
      clear hi hz0 hz1 hz2
      obtain ⟨A9, c9, rfl⟩ := own_slice hown9
      have hc9 : Below w.heap.size w w9 := hc4.trans (((Below.refl wr.heap.size wr).alloc (Nat.le_refl _) _).grown hg9 (by rw [alloc_size]; omega) (fun k hk => by simp [Value.ownBlock] at hk) |>.mono hc4.size)
      clear hown9 hg9 hown
      go_wp2_with fail
      go_loopw [13] (fun i wr' => i = .int .i64 0 ∧ wr' = w9) (fun _ _ => 0)
      case atStart => exact ⟨rfl, rfl⟩
      case round =>
        obtain ⟨rfl, rfl⟩ := hrel
        go_wp2_with fail
        go_ret
        exact ⟨rfl, hc9⟩
set_option maxHeartbeats 16000000 in
set_option maxRecDepth 100000 in
theorem linesSome_any (s : ByteArray) (l : List Nat) (w : World) (hs : s.size ≤ 2000000) (hE : Env w) (hl : textS s.data.toList = some l) :
    Calls Tryd.prog 5 #[.string s] w fun e w' => e = .returned (.bool true) ∧ Below w.heap.size w w' := by
  have hlen := linesL_length s.data.toList
  have hcl := List.count_le_length (a := (10 : UInt8)) (l := s.data.toList)
  have hsl : s.data.toList.length = s.size := Array.length_toList
  have hjl := join_lines s.data.toList
  have CA := Lib.hid (fun W (h : Env W) => awake_any W h)
  have CL : Hid (∀ W, Env W → Calls Tryd.prog 22 #[.string s] W fun e w' => ∃ g c, e = .returned (.tuple #[.slice (some ⟨g, 0, none⟩) (linesL s.data.toList).length c, .int .i64 0]) ∧ OwnS w' W.heap.size g c (linesL s.data.toList) ∧ Below W.heap.size W w') := by
    intro W h
    obtain ⟨h1, m, h2⟩ := h
    refine (lines_yes s l m W (by omega) h1 h2 hl).mono ?_
    rintro e w' ⟨v, rfl, ho, hb⟩
    obtain ⟨g, c, rfl, hO⟩ := ownS_of ho (by omega)
    exact ⟨g, c, rfl, hO, hb⟩
  have CR : Hid (∀ W, Env W → Calls Tryd.prog 23 #[.string s] W fun e w' => ∃ g c, e = .returned (.tuple #[.slice (some ⟨g, 0, none⟩) (linesL s.data.toList).length c, .int .i64 0]) ∧ OwnS w' W.heap.size g c (linesL s.data.toList) ∧ Below W.heap.size W w') := by
    intro W _
    obtain ⟨k, hk⟩ := Lines_f s (by omega)
    have hq : linS s.data.toList = (linesL s.data.toList, 0) := by unfold linS; rw [hl]
    rw [hq] at hk
    refine (blotterref01_Lines.calls k s _ _ W hk).mono ?_
    rintro e w' ⟨v, rfl, hR, hb⟩
    have ho := Kd.own_of_R hR
    have e1 : (texts (linesL s.data.toList)).length = (linesL s.data.toList).length := List.length_map _
    have e2 : encs Value.string (texts (linesL s.data.toList)) = strs (linesL s.data.toList) := by unfold encs texts strs; rw [List.map_map]; rfl
    simp only at ho
    rw [e1, e2] at ho
    obtain ⟨g, c, rfl, hO⟩ := ownS_of ho (by omega)
    exact ⟨g, c, rfl, hO, hb⟩
  obtain ⟨LL, hLL⟩ : ∃ LL, LL = linesL s.data.toList := ⟨_, rfl⟩
  rw [← hLL] at hlen hjl CL CR
  obtain ⟨n, hn⟩ : ∃ n, n = LL.length := ⟨_, rfl⟩
  rw [← hn] at hlen CL CR
  have hn0 : 0 < n := by omega
  have hn9 : n ≤ 2000001 := by omega
  have hjs : (joinL LL).length = s.size := by rw [hjl, hsl]
  have HJS := Lib.hid hjs
  have HJL : Hid (str (joinL LL) = s) := by rw [hjl]; exact str_of s
  have HN := Lib.hid hn
  have HE := Lib.hid hE
  clear hE hl hlen hcl hsl hjl hLL hn hjs
  go_enter Tryd.func5, Tryd.ntmps5
  go_wp2_with fail
  refine (CA.out w HE.out).mono ?_
  rintro e w1 ⟨rfl, hb1⟩
  have E1 := Lib.hid (env_below HE.out hb1)
  have hc1 := hb1
  clear hb1
  go_wp2_with fail
  refine (CL.out w1 E1.out).mono ?_
  rintro e w2 ⟨g1, k1, rfl, O1, hb2⟩
  have E2 := Lib.hid (env_below E1.out hb2)
  have hc2 := below_then hc1 hc1.size hb2
  have L1 := O1.lt
  have hs12 := hc1.size
  clear hb2 hc1
  go_wp2_with fail
  refine (CL.out w2 E2.out).mono ?_
  rintro e w3 ⟨g2, k2, rfl, O2, hb3⟩
  have E3 := Lib.hid (env_below E2.out hb3)
  have hc3 := below_then hc2 hc2.size hb3
  have O1' := O1.below hb3
  have L2 := O2.lt
  have hs23 := hb3.size
  clear hb3 hc2 O1
  go_wp2_with fail
  refine (CR.out w3 E3.out).mono ?_
  rintro e w4 ⟨g3, k3, rfl, O3, hb4⟩
  have hc4 := below_then hc3 hc3.size hb4
  have P1 := Lib.hid (O1'.below hb4)
  have P2 := Lib.hid (O2.below hb4)
  have P3 := Lib.hid O3
  have L3 := O3.lt
  have hs34 := hb4.size
  have HB4 := Lib.hid hc4
  have hg12 : g1 < g2 := by omega
  have hg13 : g1 < g3 := by omega
  have hcap : n ≤ k1 := by rw [HN.out]; exact L1.2.2.1
  have hcmx : k1 ≤ maxLen := L1.2.2.2
  have hbase : w.heap.size ≤ g1 := by omega
  clear hb4 hc3 hc4 O1' O2 O3 L1 L2 L3 hs12 hs23 hs34
  go_wp2_with fail
  go_loopw [10, 11] (fun a i wr => ∃ k : Nat, k ≤ n ∧ a = .string (str (joinL (LL.take k))) ∧ i = .int .i64 k ∧ Hid (Below w4.heap.size w4 wr)) (fun _ i _ => n - (intOf i).toNat)
  case atStart => exact ⟨0, by omega, rfl, rfl, Below.refl _ _⟩
  case round =>
    obtain ⟨k, hk, rfl, rfl, HW⟩ := hrel
    by_cases hlt : k < n
    · have hkL : k < LL.length := by rw [← HN.out]; exact hlt
      have hc1 := rowS_below P1.out.row HW.out k hkL
      have hc3 := rowS_below P3.out.row HW.out k hkL
      have hsz1 : (str (joinL (LL.take k))).size ≤ 2000000 := by rw [str_size]; have := joinL_le LL k; have := HJS.out; omega
      have hsz2 : (str (LL.getD k [])).size ≤ 2000000 := by rw [str_size]; have := line_le LL k hkL; have := HJS.out; omega
      have HREL : Hid ((k = 0 → str (LL.getD k []) = str (joinL (LL.take (k + 1)))) ∧ (0 < k → str (joinL (LL.take k)) ++ ByteArray.mk #[10] ++ str (LL.getD k []) = str (joinL (LL.take (k + 1))))) := by
        refine ⟨fun h => ?_, fun h => ?_⟩
        · subst h; rw [joinL_one LL hkL]
        · rw [str_cat3, joinL_snoc LL k h hkL]
      have HA0 : Hid (k = 0 → str (joinL (LL.take k)) = ⟨#[]⟩) := fun h => by subst h; rfl
      obtain ⟨q, hq⟩ : ∃ q, q = str (LL.getD k []) := ⟨_, rfl⟩
      obtain ⟨a, ha⟩ : ∃ a, a = str (joinL (LL.take k)) := ⟨_, rfl⟩
      rw [← hq] at hc1 hc3 hsz2 HREL
      rw [← ha] at hsz1 HREL HA0 ⊢
      clear hq ha
      have f1 : (0 : Int) ≤ (k : Int) := by omega
      have f2 : (k : Int) < (n : Int) := by omega
      rcases Nat.eq_zero_or_pos k with h0 | h0
      · obtain rfl := HA0.out h0
        have HQ := Lib.hid (HREL.out.1 h0)
        subst h0
        go_wp2_with fail
        go_quiet (fail)
        go_wp2_with fail
        refine ⟨⟨1, by omega, ?_, rfl, below_drewN HW.out _⟩, ?_⟩
        · rw [empty_app, HQ.out]
        · simp [intOf]; omega
      · have HQ := Lib.hid (HREL.out.2 h0)
        have f3 : (0 : Int) < (k : Int) := by omega
        go_wp2_with fail
        go_quiet (fail)
        go_wp2_with fail
        refine ⟨⟨k + 1, by omega, ?_, by go_num, below_drewN HW.out _⟩, ?_⟩
        · rw [HQ.out]
        · simp [intOf]; omega
    · obtain rfl : k = n := by omega
      rw [show str (joinL (LL.take k)) = s by rw [HN.out, List.take_length, HJL.out]]
      obtain ⟨wo, rfl⟩ : ∃ wo : World, wo = wr := ⟨_, rfl⟩
      have HB5 : Hid (Below w.heap.size w wo) := HB4.out.trans (HW.out.mono HB4.out.size)
      have Q1 := Lib.hid (P1.out.below HW.out)
      have Q2 := Lib.hid (P2.out.below HW.out)
      have Q3 := Lib.hid (P3.out.below HW.out)
      clear P1 P2 P3 HB4 HW hlt
      have HS0 : Hid (Spoilt wo wo w.heap.size g1 k1 k) := by
        have h := Spoilt.start Q1.out
        rw [← HN.out] at h
        exact ⟨h.1, Below.refl _ _, h.2.2⟩
      go_wp2_with fail
      go_loopw [12] (fun i wx => ∃ j : Nat, j ≤ k ∧ i = .int .i64 j ∧ Hid (Spoilt wo wx w.heap.size g1 k1 k)) (fun i _ => k - (intOf i).toNat)
      case atStart => exact ⟨0, by omega, rfl, HS0⟩
      case round =>
        obtain ⟨j, hj, rfl, HS⟩ := hrel
        clear HS0
        by_cases hjl : j < k
        · obtain ⟨x, hx, hf⟩ := HS.out.at_ hjl
          have f1 : (0 : Int) ≤ (j : Int) := by omega
          have f2 : (j : Int) < (k : Int) := by omega
          go_wp2_with fail
          go_roundw
          case rel => exact ⟨j + 1, by omega, by go_num, HS.out.step hbase _⟩
          case measure => simp [intOf]; omega
        · obtain rfl : j = k := by omega
          obtain ⟨wp, rfl⟩ : ∃ wp : World, wp = wr := ⟨_, rfl⟩
          obtain ⟨ys, hown0⟩ := HS.out.own hbase hcap hcmx
          have hk1 : KeepBut wo wp g1 none := HS.out.1
          have hBx : Below w.heap.size w wp := HB5.out.trans HS.out.2.1
          have hown := own_alloc hown0 (.cells #[.string ⟨#[109, 111, 114, 101]⟩] 9)
          obtain ⟨i0, hi, hz0, hz1, hz2⟩ := info_parts dinfo9
          go_wp2_with (at_builtin; refine wpList_append_own _ rfl (.tmp 90) (.tmp 91) 30 rfl w.heap.size 9 i0 (.string ByteArray.empty) 1 16 Tryd.underlying30 hi hz0 hz1 hz2 rfl (by decide) _ j ys rfl hown ⟨wp.heap.size, 0, none⟩ 1 1 [.string ⟨#[109, 111, 114, 101]⟩] rfl rfl ?c1 ?c2 ?c3 ?c4 ?c5 ?_)
          case c1 => exact cell_one_new _ _ _
          case c2 => intro u hu; simp only [List.mem_singleton] at hu; subst hu; rfl
          case c3 => unfold maxLen; omega
          case c4 => omega
          case c5 => rw [alloc_size]; have := hBx.size; omega
          intro v9 w9 hown9 hg9 _
          clear hi hz0 hz1 hz2
          obtain ⟨A9, c9, rfl⟩ := own_slice hown9
          have hbK : Below wp.heap.size wp (wp.alloc (.cells #[.string ⟨#[109, 111, 114, 101]⟩] 9)) := (Below.refl _ _).alloc (Nat.le_refl _) _
          have hrow : ∀ g c base, g ≠ g1 → OwnS wo base g c LL → OwnS w9 base g c LL := by
            intro g c base hg ho
            obtain ⟨cur, h1, h2⟩ := ho
            have h3 := hk1.2 g (blk_lt h1) hg (by simp)
            rw [h1] at h3
            have h4 := (hbK.block g (blk_lt h3)).trans h3
            have h5 := hg9.block g (blk_lt h4) (by simp [Value.ownBlock]; exact hg)
            exact ⟨cur, h5.trans h4, h2⟩
          have R2 := Lib.hid (hrow g2 _ _ (by omega) Q2.out)
          have R3 := Lib.hid (hrow g3 _ _ (by omega) Q3.out)
          have HB9 : Hid (Below w.heap.size w w9) := (hBx.alloc hBx.size _).grown hg9 (by rw [alloc_size]; have := hBx.size; omega) (fun b hb => by simp [Value.ownBlock] at hb; omega)
          clear hown9 hg9 hown hown0 hk1 hBx hbK hrow Q1 Q2 Q3 HS HB5
          go_wp2_with fail
          go_loopw [13] (fun i wx => ∃ q : Nat, q ≤ j ∧ i = .int .i64 q ∧ Hid (Below w9.heap.size w9 wx)) (fun i _ => j - (intOf i).toNat)
          case atStart => exact ⟨0, by omega, rfl, Below.refl _ _⟩
          case round =>
            obtain ⟨q, hq, rfl, HX⟩ := hrel
            by_cases hql : q < j
            · have hqL : q < LL.length := by rw [← HN.out]; exact hql
              have hc2 := rowS_below R2.out.row HX.out q hqL
              have hc3 := rowS_below R3.out.row HX.out q hqL
              obtain ⟨y, hy⟩ : ∃ y, y = str (LL.getD q []) := ⟨_, rfl⟩
              rw [← hy] at hc2 hc3
              clear hy
              have f1 : (0 : Int) ≤ (q : Int) := by omega
              have f2 : (q : Int) < (j : Int) := by omega
              go_wp2_with fail
              go_quiet (fail)
              go_wp2_with fail
              first | exact ⟨⟨q + 1, by omega, by go_num, below_drewN HX.out _⟩, by simp [intOf]; omega⟩ | (go_roundw; case rel => exact ⟨q + 1, by omega, by go_num, below_drewN HX.out _⟩; case measure => simp [intOf]; omega)
            · go_wp2_with fail
              go_ret
              exact ⟨rfl, HB9.out.trans (HX.out.mono HB9.out.size)⟩
theorem runesLines_any (s : ByteArray) (w : World) (hs : s.size ≤ 2000000) (hE : Env w) :
    Calls Tryd.prog 5 #[.string s] w fun e w' => e = .returned (.bool true) ∧ Below w.heap.size w w' := by
  cases hl : textS s.data.toList with
  | none => exact linesNone_any s w hs hE hl
  | some l => exact linesSome_any s l w hs hE hl
end Go.Proofs.YthpngienphnaoaaDoor
