import Derived.Test.YthpngienphnaoaaDoorV0b
import Derived.Deep.QuietTactic
import Derived.BigQuiet
import Derived.IntWalk
import Derived.Deep.RegionWith
/-
  runes.Behind: its contract.
-/
namespace Go.Proofs.YthpngienphnaoaaDoor
open Go.RowKit Go.Proofs.YthpngienphnaoaaDoorW.PrintWords

/-- Where the rune at a place begins, of bytes. -/
def offT (b : List UInt8) (k : Nat) : Nat := match textS b with | some l => offS l k | none => 0
theorem offT_text {s : ByteArray} {l : List Nat} (h : textS s.data.toList = some l) (k : Nat) : offT s.data.toList k = offS l k := by unfold offT; rw [h]
theorem off_text {s : ByteArray} {l : List Nat} (h : textS s.data.toList = some l) (k : Nat) (hk : k ≤ l.length) : offS l k ≤ s.size ∧ (s.extract (offS l k) s.size).data.toList = encS (l.drop k) := by
  obtain ⟨e1, e2, e3⟩ := textS_inv h
  refine ⟨?_, ?_⟩
  · rw [← off_end e1 l.length (Nat.le_refl _)]; exact off_mono l hk
  · rw [ext_list, e1]; exact drop_off l k _ (by rw [← e1]; exact Nat.le_of_eq Array.length_toList)
theorem aheadN_pre (r a b : List Nat) : aheadN (r ++ a) (r ++ b) = r.length + aheadN a b := by
  induction r with
  | nil => simp
  | cons x r ih => rw [List.cons_append, List.cons_append, aheadN_cons, if_pos rfl, ih, List.length_cons]; omega
theorem aheadN_rev {a b r : List Nat} (h : aheadN a.reverse b.reverse = 0) : aheadN (a ++ r).reverse (b ++ r).reverse = r.length := by
  rw [List.reverse_append, List.reverse_append, aheadN_pre, h, List.length_reverse]; rfl
theorem front_enc {t : ByteArray} {r : Nat} {m : List Nat} (h : t.data.toList = encS (m ++ [r])) : (t.extract 0 (t.size - (encR r).length)).data.toList = encS m := by
  have hsz : t.data.toList.length = t.size := Array.length_toList
  have e : encS (m ++ [r]) = encS m ++ encR r := by rw [encS_append]; simp [encS]
  rw [e] at h
  have hl := congrArg List.length h
  rw [List.length_append] at hl
  rw [ext_list, List.drop_zero, h, show t.size - (encR r).length = (encS m).length by omega, List.take_left]
theorem last_enc {t : ByteArray} {r : Nat} {m : List Nat} (h : t.data.toList = encS (m ++ [r])) (hr : scalar r) : Lib.decodeLastL t.data.toList = (r, (encR r).length) ∧ (encR r).length ≤ t.size ∧ 0 < (encR r).length := by
  have hsz : t.data.toList.length = t.size := Array.length_toList
  have e : encS (m ++ [r]) = encS m ++ encR r := by rw [encS_append]; simp [encS]
  refine ⟨by rw [h]; exact decLast m r hr, ?_, (encR_pos r).1⟩
  rw [e] at h
  have hl := congrArg List.length h
  rw [List.length_append] at hl
  omega
theorem empty_of {t : ByteArray} (h : t.data.toList = encS []) : t = ⟨#[]⟩ := by
  apply ByteArray.ext
  apply Array.ext'
  rw [h]; rfl
theorem toList_of (t : ByteArray) (h : 0 < t.size) : t.toList.isEmpty = false := by
  have e : t.toList = t.data.toList := by obtain ⟨⟨l⟩⟩ := t; simp
  rw [e]
  have hsz : t.data.toList.length = t.size := Array.length_toList
  cases hl : t.data.toList with
  | nil => rw [hl] at hsz; simp at hsz; omega
  | cons a l => rfl
theorem aheadN_nil1 (m : List Nat) : aheadN [] m = 0 := by cases m <;> rfl
theorem aheadN_nil2 (m : List Nat) : aheadN m [] = 0 := by cases m <;> rfl
theorem aheadN_rev1 (b r : List Nat) : aheadN ([] ++ r).reverse (b ++ r).reverse = r.length := aheadN_rev (a := []) (b := b) (aheadN_nil1 _)
theorem aheadN_rev2 (a r : List Nat) : aheadN (a ++ r).reverse ([] ++ r).reverse = r.length := aheadN_rev (a := a) (b := []) (aheadN_nil2 _)
theorem nil_or_snoc (l : List Nat) : l = [] ∨ ∃ l' a, l = l' ++ [a] := by
  rcases List.eq_nil_or_concat l with h | ⟨l', a, h⟩
  · exact .inl h
  · exact .inr ⟨l', a, by rw [h, List.concat_eq_append]⟩
theorem aheadN_revcons (l m : List Nat) {a b : Nat} (h : a ≠ b) : aheadN (l ++ [a]).reverse (m ++ [b]).reverse = 0 := by
  rw [List.reverse_append, List.reverse_append]
  show aheadN (a :: l.reverse) (b :: m.reverse) = 0
  rw [aheadN_cons, if_neg h]
theorem below_drewN {B : Nat} {a w : World} (h : Below B a w) (n : Nat) : Below B a (w.drewN n) := ⟨h.os, h.tape, h.output, h.size, h.block⟩
def strLen : Value → Nat | .string s => s.size | _ => 0
/-- What holds at the head of Behind's loop. -/
def BehAt (B : Nat) (w : World) (L M : List Nat) (x y : ByteArray) (n : Nat) (wr : World) : Prop :=
  ∃ La Lb R : List Nat, L = La ++ R ∧ M = Lb ++ R ∧ n = R.length ∧ x.data.toList = encS La ∧ y.data.toList = encS Lb ∧ Below B w wr
set_option maxHeartbeats 4000000 in
set_option maxRecDepth 100000 in
theorem behind_any (s p : ByteArray) (w : World) (hs : s.size ≤ 10000000) (hp : p.size ≤ 10000000) (hT : Lib.Utf8Tabs 0 1 w) :
    Calls Tryd.prog 19 #[.string s, .string p] w fun e w' => e = .returned (.tuple #[.int .i64 (behindS s.data.toList p.data.toList).1, .int .i64 (behindS s.data.toList p.data.toList).2]) ∧ Below w.heap.size w w' := by
  have h0 := ahead_any s p w hs hp hT
  have HT := Lib.hid hT
  clear hT
  cases hl : textS s.data.toList with
  | none =>
    have hc : behindS s.data.toList p.data.toList = (0, 10) := by unfold behindS; rw [hl]
    have ha : aheadS s.data.toList p.data.toList = (0, 10) := by unfold aheadS; rw [hl]
    rw [ha] at h0
    have H0 := Lib.hid h0
    have HC := Lib.hid hc
    clear hl hc ha h0
    go_enter Tryd.func19, Tryd.ntmps19
    go_wp2_with fail
    refine H0.out.mono ?_
    rintro e w1 ⟨rfl, hb1⟩
    go_wp2_with fail
    go_ret2
    exact ⟨by rw [HC.out]; rfl, hb1⟩
  | some l =>
    cases hm : textS p.data.toList with
    | none =>
      have hc : behindS s.data.toList p.data.toList = (0, 10) := by unfold behindS; rw [hl, hm]
      have ha : aheadS s.data.toList p.data.toList = (0, 10) := by unfold aheadS; rw [hl, hm]
      rw [ha] at h0
      have H0 := Lib.hid h0
      have HC := Lib.hid hc
      clear hl hm hc ha h0
      go_enter Tryd.func19, Tryd.ntmps19
      go_wp2_with fail
      refine H0.out.mono ?_
      rintro e w1 ⟨rfl, hb1⟩
      go_wp2_with fail
      go_ret2
      exact ⟨by rw [HC.out]; rfl, hb1⟩
    | some m =>
      have hc : behindS s.data.toList p.data.toList = ((behindN l m : Int), 0) := by unfold behindS; rw [hl, hm]
      have ha : aheadS s.data.toList p.data.toList = ((aheadN l m : Int), 0) := by unfold aheadS; rw [hl, hm]
      rw [ha] at h0
      unfold behindN at hc
      have hle := aheadN_le l m
      obtain ⟨k, hk⟩ : ∃ k, k = aheadN l m := ⟨_, rfl⟩
      rw [← hk] at h0 hc hle
      clear hk
      obtain ⟨e1, e2, e3⟩ := textS_inv hl
      obtain ⟨e4, e5, e6⟩ := textS_inv hm
      obtain ⟨o1, o2⟩ := off_text hl k hle.1
      obtain ⟨o3, o4⟩ := off_text hm k hle.2
      have hSL : ∀ r ∈ l.drop k, scalar r := mem_drop e2 k
      have hSM : ∀ r ∈ m.drop k, scalar r := mem_drop e5 k
      have HO1 : Hid (∀ W : World, Calls Tryd.prog 40 #[.string s, .int .i64 k] W fun e w' => e = .returned (.int .i64 (offS l k)) ∧ Below W.heap.size W w') := fun W => offset_any s l k W e1 e2 hs (by omega)
      have HO2 : Hid (∀ W : World, Calls Tryd.prog 40 #[.string p, .int .i64 k] W fun e w' => e = .returned (.int .i64 (offS m k)) ∧ Below W.heap.size W w') := fun W => offset_any p m k W e4 e5 hp (by omega)
      obtain ⟨f, hf⟩ : ∃ f, f = offS l k := ⟨_, rfl⟩
      obtain ⟨g, hg⟩ : ∃ g, g = offS m k := ⟨_, rfl⟩
      rw [← hf] at o1 o2 HO1
      rw [← hg] at o3 o4 HO2
      have H0 := Lib.hid h0
      have HC := Lib.hid hc
      have HX := Lib.hid o2
      have HY := Lib.hid o4
      have HSL := Lib.hid hSL
      have HSM := Lib.hid hSM
      have hi1 : (f : Int) ≤ (s.size : Int) := by omega
      have hi2 : (g : Int) ≤ (p.size : Int) := by omega
      clear hl hm hc ha h0 e1 e2 e4 e5 hSL hSM o2 o4 hf hg
      go_enter Tryd.func19, Tryd.ntmps19
      go_wp2_with fail
      refine H0.out.mono ?_
      rintro e w1 ⟨rfl, hR⟩
      go_wp2_with fail
      go_region_with (go_at_call 40; first | ((with_reducible refine (HO1.out _).mono ?_); rintro e w4 ⟨rfl, hb4⟩; replace hR := below_then hR hR.size (undrew' hb4); clear hb4) | ((with_reducible refine (HO2.out _).mono ?_); rintro e w4 ⟨rfl, hb4⟩; replace hR := below_then hR hR.size (undrew' hb4); clear hb4) | ((with_reducible refine (HO1.out _).mono ?_); rintro e w4 ⟨rfl, hb4⟩; replace hR := below_then hR hR.size hb4; clear hb4) | ((with_reducible refine (HO2.out _).mono ?_); rintro e w4 ⟨rfl, hb4⟩; replace hR := below_then hR hR.size hb4; clear hb4))
      all_goals
        go_simp
        go_wp2_with fail
        have HB4 : Hid (BehAt w.heap.size w (l.drop k) (m.drop k) (s.extract f s.size) (p.extract g p.size) 0 w4) := ⟨l.drop k, m.drop k, [], by simp, by simp, rfl, HX.out, HY.out, hR⟩
        have hz1 : (s.extract f s.size).size ≤ 10000000 := by rw [ByteArray.size_extract]; omega
        have hz2 : (p.extract g p.size).size ≤ 10000000 := by rw [ByteArray.size_extract]; omega
        obtain ⟨L, hL⟩ : ∃ L, L = l.drop k := ⟨_, rfl⟩
        obtain ⟨M, hM⟩ : ∃ M, M = m.drop k := ⟨_, rfl⟩
        rw [← hL] at HC HSL HB4
        rw [← hM] at HC HSM HB4
        have hLl : L.length ≤ 20000 := by rw [hL, List.length_drop]; omega
        clear hL hM HX HY HO1 HO2 H0 hR
        go_loopw [0, 1, 8] (fun vx vy vn wr => ∃ (x y : ByteArray) (n : Nat), vx = .string x ∧ vy = .string y ∧ vn = .int .i64 n ∧ x.size ≤ 10000000 ∧ y.size ≤ 10000000 ∧ n ≤ 20000 ∧ Hid (BehAt w.heap.size w L M x y n wr)) (fun vx _ _ _ => strLen vx)
        case atStart => exact ⟨_, _, 0, rfl, rfl, rfl, hz1, hz2, by omega, HB4⟩
        case round =>
          obtain ⟨x, y, n, rfl, rfl, rfl, hx9, hy9, hn9, HJ⟩ := hrel
          obtain ⟨La, Lb, R, e1, e2, e3, e4, e5, e6⟩ := HJ.out
          clear HB4 hz1 hz2
          have HE1 := Lib.hid e1
          have HE2 := Lib.hid e2
          have HE3 := Lib.hid e3
          have hTr := tabs_below HT.out e6
          have HTR := Lib.hid hTr
          have HB := Lib.hid e6
          clear e1 e2 e3 e6 hTr
          rcases nil_or_snoc La with rfl | ⟨La', a, rfl⟩
          · obtain rfl := empty_of e4
            clear e4 e5
            go_wp2_with fail
            go_ret2
            exact ⟨by rw [HC.out, HE1.out, HE2.out, aheadN_rev1, ← HE3.out]; rfl, HB.out⟩
          · have hp := encR_pos a
            have hx0 : 0 < x.size := by
              have h := congrArg List.length e4
              rw [encS_append, List.length_append, encS_cons, List.length_append, show x.data.toList.length = x.size from Array.length_toList] at h
              omega
            have hx1 := toList_of x hx0
            have hx2 : ¬ x.toList = [] := fun h => by rw [h] at hx1; cases hx1
            have hx3 : (!x.toList.isEmpty) = true := by rw [hx1]; rfl
            rcases nil_or_snoc Lb with rfl | ⟨Lb', b, rfl⟩
            · obtain rfl := empty_of e5
              clear e4 e5 hx1 hp
              go_wp2_with fail
              go_ret2
              exact ⟨by rw [HC.out, HE1.out, HE2.out, aheadN_rev2, ← HE3.out]; rfl, HB.out⟩
            · have hpb := encR_pos b
              have hy0 : 0 < y.size := by
                have h := congrArg List.length e5
                rw [encS_append, List.length_append, encS_cons, List.length_append, show y.data.toList.length = y.size from Array.length_toList] at h
                omega
              have hy1 := toList_of y hy0
              have hy2 : ¬ y.toList = [] := fun h => by rw [h] at hy1; cases hy1
              have hy3 : (!y.toList.isEmpty) = true := by rw [hy1]; rfl
              have hsa : scalar a := HSL.out a (by rw [HE1.out]; simp)
              have hsb : scalar b := HSM.out b (by rw [HE2.out]; simp)
              obtain ⟨d1, d2, d3⟩ := last_enc e4 hsa
              obtain ⟨d4, d5, d6⟩ := last_enc e5 hsb
              have f1 := front_enc e4
              have f2 := front_enc e5
              have hca := fun W (h : Lib.Utf8Tabs 0 1 W) => Tryd.utf8_DecodeLastRuneInString x W (by omega) h
              have hcb := fun W (h : Lib.Utf8Tabs 0 1 W) => Tryd.utf8_DecodeLastRuneInString y W (by omega) h
              rw [d1] at hca
              rw [d4] at hcb
              obtain ⟨ka, hka⟩ : ∃ ka, ka = (encR a).length := ⟨_, rfl⟩
              obtain ⟨kb, hkb⟩ : ∃ kb, kb = (encR b).length := ⟨_, rfl⟩
              rw [← hka] at hca d2 d3 f1
              rw [← hkb] at hcb d5 d6 f2
              have ha9 := scalar_lt hsa
              have hb9 := scalar_lt hsb
              have HCA := Lib.hid hca
              have HCB := Lib.hid hcb
              have HF1 := Lib.hid f1
              have HF2 := Lib.hid f2
              clear e4 e5 hx1 hy1 hp hpb d1 d4 f1 f2 hca hcb hka hkb hsa hsb
              by_cases hab : a = b
              · subst hab
                go_wp2_with fail
                refine (HCA.out _ HTR.out).mono ?_
                rintro e w5 ⟨rfl, hb5⟩
                have hb05 := HB.out.trans (hb5.mono HB.out.size)
                have hT5 := tabs_below HTR.out hb5
                clear hb5
                go_wp2_with fail
                refine (HCB.out _ hT5).mono ?_
                rintro e w6 ⟨rfl, hb6⟩
                have hb06 := hb05.trans (hb6.mono hb05.size)
                clear hb6 hb05 hT5
                go_wp2_with fail
                have z1 : IntKind.i64.wrap ((x.size : Int) - (ka : Int)) = ((x.size - ka : Nat) : Int) := by rw [IntWalk.i64_in _ (by omega)]; omega
                have z2 : IntKind.i64.wrap ((y.size : Int) - (kb : Int)) = ((y.size - kb : Nat) : Int) := by rw [IntWalk.i64_in _ (by omega)]; omega
                have z3 : ((x.size - ka : Nat) : Int) ≤ (x.size : Int) := by omega
                have z4 : ((y.size - kb : Nat) : Int) ≤ (y.size : Int) := by omega
                go_quiet (fail)
                clear z1 z2
                go_wp2_with fail
                go_roundw
                case rel =>
                  refine ⟨_, _, n + 1, rfl, rfl, by go_num, ?_, ?_, ?_, ?_⟩
                  · rw [ByteArray.size_extract]; omega
                  · rw [ByteArray.size_extract]; omega
                  · have h1 := congrArg List.length HE1.out
                    rw [List.length_append, List.length_append, ← HE3.out] at h1
                    simp at h1
                    omega
                  · exact ⟨La', Lb', a :: R, by rw [HE1.out]; simp, by rw [HE2.out]; simp, by rw [HE3.out]; rfl, HF1.out, HF2.out, below_drewN hb06 _⟩
                case measure => simp only [strLen]; rw [ByteArray.size_extract]; omega
              · have hne1 : ((a : Int) != (b : Int)) = true := by rw [bne_iff_ne]; omega
                have hne2 : ((a : Int) == (b : Int)) = false := by rw [beq_eq_false_iff_ne]; omega
                have HAB := Lib.hid hab
                clear hab
                go_wp2_with fail
                refine (HCA.out _ HTR.out).mono ?_
                rintro e w5 ⟨rfl, hb5⟩
                have hb05 := HB.out.trans (hb5.mono HB.out.size)
                have hT5 := tabs_below HTR.out hb5
                clear hb5
                go_wp2_with fail
                refine (HCB.out _ hT5).mono ?_
                rintro e w6 ⟨rfl, hb6⟩
                have hb06 := hb05.trans (hb6.mono hb05.size)
                clear hb6 hb05 hT5
                go_wp2_with fail
                go_ret2
                exact ⟨by rw [HC.out, HE1.out, HE2.out, aheadN_rev (aheadN_revcons _ _ HAB.out), ← HE3.out]; rfl, hb06⟩
end Go.Proofs.YthpngienphnaoaaDoor
