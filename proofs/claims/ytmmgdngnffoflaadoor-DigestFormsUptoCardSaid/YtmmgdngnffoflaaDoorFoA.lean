import Derived.Test.YtmmgdngnffoflaaDoorAwA
import Derived.Test.YtmmgdngnffoflaaDoorDpA
import Derived.Test.YtmmgdngnffoflaaDoorThA
/-
  blotterlaw10.DigestForms: it returns true.
-/
namespace Go.Proofs.YtmmgdngnffoflaaDoor
open Go.RowKit Go.Proofs.YtmmgdngnffoflaaDoorW.PrintWords

def sgnOk (b : UInt8) : Prop := 65 ≤ b.toNat ∧ b.toNat ≤ 90 ∨ 97 ≤ b.toNat ∧ b.toNat ≤ 122 ∨ 48 ≤ b.toNat ∧ b.toNat ≤ 57 ∨ b.toNat = 43 ∨ b.toNat = 47
theorem sgn_ok_all : (List.range 64).all (fun n => decide (65 ≤ (sgn (n : Int)).toNat ∧ (sgn (n : Int)).toNat ≤ 90 ∨ 97 ≤ (sgn (n : Int)).toNat ∧ (sgn (n : Int)).toNat ≤ 122 ∨ 48 ≤ (sgn (n : Int)).toNat ∧ (sgn (n : Int)).toNat ≤ 57 ∨ (sgn (n : Int)).toNat = 43 ∨ (sgn (n : Int)).toNat = 47)) = true := by kernel_rfl
theorem sgn_ok (n : Int) (h0 : 0 ≤ n) (h1 : n < 64) : sgnOk (sgn n) := by
  have h := of_decide_eq_true (List.all_eq_true.1 sgn_ok_all n.toNat (List.mem_range.2 (by omega)))
  rwa [Int.toNat_of_nonneg h0] at h
theorem encC_ok (l : List Int) (h : Bytes l) : ∀ x ∈ encC l, sgnOk x := by
  fun_induction encC l with
  | case1 a b c r ih =>
    obtain ⟨ha, h⟩ := bytes_tail h
    obtain ⟨hb, h⟩ := bytes_tail h
    obtain ⟨hc, h⟩ := bytes_tail h
    intro x hx
    simp only [List.mem_cons] at hx
    rcases hx with rfl | rfl | rfl | rfl | hx
    · exact sgn_ok _ (by omega) (by omega)
    · exact sgn_ok _ (by omega) (by omega)
    · exact sgn_ok _ (by omega) (by omega)
    · exact sgn_ok _ (by omega) (by omega)
    · exact ih h x hx
  | case2 a b =>
    obtain ⟨ha, h⟩ := bytes_tail h
    obtain ⟨hb, h⟩ := bytes_tail h
    intro x hx
    simp only [List.mem_cons, List.not_mem_nil, or_false] at hx
    rcases hx with rfl | rfl | rfl
    · exact sgn_ok _ (by omega) (by omega)
    · exact sgn_ok _ (by omega) (by omega)
    · exact sgn_ok _ (by omega) (by omega)
  | case3 a =>
    obtain ⟨ha, h⟩ := bytes_tail h
    intro x hx
    simp only [List.mem_cons, List.not_mem_nil, or_false] at hx
    rcases hx with rfl | rfl
    · exact sgn_ok _ (by omega) (by omega)
    · exact sgn_ok _ (by omega) (by omega)
  | case4 => simp
/-- Where signs stand in what is written, and where '='. -/
theorem encB_at (l : List Int) (h : Bytes l) (k : Nat) (b : UInt8) (hk : (encB l)[k]? = some b) : k + encN l.length < (encB l).length ∧ sgnOk b ∨ (encB l).length ≤ k + encN l.length ∧ b.toNat = 61 := by
  have e := encB_C l
  have hl : (encB l).length = (encC l).length + encN l.length := by rw [e]; simp
  rw [e] at hk
  rcases Nat.lt_or_ge k (encC l).length with hc | hc
  · rw [List.getElem?_append_left hc] at hk
    exact .inl ⟨by omega, encC_ok l h b (List.mem_of_getElem? hk)⟩
  · rw [List.getElem?_append_right hc] at hk
    exact .inr ⟨by omega, by rw [List.eq_of_mem_replicate (List.mem_of_getElem? hk)]; rfl⟩
def hexOk (b : UInt8) : Prop := 48 ≤ b.toNat ∧ b.toNat ≤ 57 ∨ 97 ≤ b.toNat ∧ b.toNat ≤ 102
theorem hexd_all : (List.range 16).all (fun n => decide (48 ≤ (hexd (n : Int)).toNat ∧ (hexd (n : Int)).toNat ≤ 57 ∨ 97 ≤ (hexd (n : Int)).toNat ∧ (hexd (n : Int)).toNat ≤ 102)) = true := by kernel_rfl
theorem hexd_ok (n : Int) (h0 : 0 ≤ n) (h1 : n < 16) : hexOk (hexd n) := by
  have h := of_decide_eq_true (List.all_eq_true.1 hexd_all n.toNat (List.mem_range.2 (by omega)))
  rwa [Int.toNat_of_nonneg h0] at h
theorem hexB_ok (l : List Int) (h : Bytes l) : ∀ x ∈ hexB l, hexOk x := by
  induction l with
  | nil => intro x hx; simp [hexB] at hx
  | cons a l ih =>
    obtain ⟨ha, h⟩ := bytes_tail h
    intro x hx
    simp only [hexB, List.mem_cons] at hx
    rcases hx with rfl | rfl | hx
    · exact hexd_ok _ (by omega) (by omega)
    · exact hexd_ok _ (by omega) (by omega)
    · exact ih h x hx
set_option maxHeartbeats 4000000 in
set_option maxRecDepth 100000 in
theorem forms_any (A : Option Addr) (c : Nat) (l : List Int) (A2 : Option Addr) (c2 : Nat) (l2 : List Int) (w : World) (hr : Kd.C (Kd.int .u8) w A l.length l) (hcap : l.length ≤ c) (hl : l.length ≤ 10000000) (hb : Bytes l)
    (hr2 : Kd.C (Kd.int .u8) w A2 l2.length l2) (hcap2 : l2.length ≤ c2) (hl2 : l2.length ≤ 10000000) (hb2 : Bytes l2) :
    Calls Tryd.prog 5 #[.slice A l.length c, .slice A2 l2.length c2] w fun e w' => e = .returned (.bool true) ∧ Below w.heap.size w w' := by
  go_enter Tryd.func5, Tryd.ntmps5
  go_wp2_with fail
  refine (awake_any _).mono ?_
  rintro e w1 ⟨rfl, hb1⟩
  have hr1 := Kd.C_below hr2 hb1
  go_wp2_with fail
  refine (enc_any A2 c2 l2 w1 hr1 hcap2 (by omega) hb2).mono ?_
  rintro e w2 ⟨rfl, hB2⟩
  have hb02 := below_then hb1 hb1.size hB2
  have hr3 := Kd.C_below hr2 hb02
  clear hb1 hB2 hr1
  go_wp2_with fail
  refine (hex_any A2 c2 l2 w2 hr3 (by omega) hb2).mono ?_
  rintro e w3 ⟨rfl, hB3⟩
  have hb03 := below_then hb02 hb02.size hB3
  clear hb02 hB3 hr3
  have HR := Lib.hid hr
  have HR2 := Lib.hid hr2
  have HB := Lib.hid hb
  have HB2 := Lib.hid hb2
  have HBE := Lib.hid hb03
  clear hr hr2 hb hb2 hb03
  obtain ⟨p, hp⟩ : ∃ p : ByteArray, p = ⟨(encB l2).toArray⟩ := ⟨_, rfl⟩
  obtain ⟨q, hq⟩ : ∃ q : ByteArray, q = ⟨(hexB l2).toArray⟩ := ⟨_, rfl⟩
  rw [← hp, ← hq]
  have hps : p.size = (l2.length + 2) / 3 * 4 := by rw [hp]; show (encB l2).toArray.size = _; rw [List.size_toArray, encB_length]
  have hqs : q.size = 2 * l2.length := by rw [hq]; show (hexB l2).toArray.size = _; rw [List.size_toArray, hexB_length]
  obtain ⟨N, hN⟩ : ∃ N, N = encN l2.length := ⟨_, rfl⟩
  have hN3 : N ≤ p.size := by rw [hps, hN]; unfold encN; omega
  have HP : Hid (∀ (k : Nat) (hk : k < p.size), k + N < p.size ∧ sgnOk (p[k]'hk) ∨ p.size ≤ k + N ∧ (p[k]'hk).toNat = 61) := by
    intro k hk
    have h1 := byteAt p k hk
    have h2 := encB_at l2 HB2.out k (p[k]'hk) (by rw [← h1, hp])
    rw [hN]
    rw [hps, ← encB_length]
    exact h2
  have HQ : Hid (∀ (k : Nat) (hk : k < q.size), hexOk (q[k]'hk)) := by
    intro k hk
    have h1 := byteAt q k hk
    exact hexB_ok l2 HB2.out _ (List.mem_of_getElem? (i := k) (by rw [← h1, hq]))
  have HNN := Lib.hid hN
  have HPS := Lib.hid hps
  have HQS := Lib.hid hqs
  have hp9 : p.size ≤ 100000000 := by omega
  have hq9 : q.size ≤ 100000000 := by omega
  clear hp hq hN hps hqs
  go_wp2_with fail
  go_loopw [8, 9, 10, 11] (fun n i _ _ wr => ∃ k : Nat, k ≤ p.size ∧ i = .int .i64 k ∧ n = .int .i64 ((k + N - p.size : Nat) : Int) ∧ wr = w3) (fun _ i _ _ _ => p.size - (intOf i).toNat)
  case atStart => exact ⟨0, by omega, rfl, by rw [show 0 + N - p.size = 0 by omega]; rfl, rfl⟩
  case round =>
    obtain ⟨k, hk, rfl, rfl, rfl⟩ := hrel
    by_cases hlt : k < p.size
    · rcases HP.out k hlt with ⟨h1, hs⟩ | ⟨h1, h61⟩
      · have e0 : k + N - p.size = 0 := by omega
        rw [e0]
        rcases hs with ⟨g1, g2⟩ | ⟨g1, g2⟩ | ⟨g1, g2⟩ | g1 | g1
        all_goals
          go_wp2_with fail
          go_roundw
          case rel => exact ⟨k + 1, by omega, by go_num, by first | (rw [show k + 1 + N - p.size = 0 by omega]; rfl) | rw [show k + 1 + N - p.size = 0 by omega], trivial⟩
          case measure => simp [intOf]; omega
      · have e0 : ((k + N - p.size : Nat) : Int) = (k : Int) + N - p.size := by omega
        rw [e0]
        have b1 : (k : Int) + N - p.size ≤ 200000000 := by omega
        have b0 : (0 : Int) ≤ (k : Int) + N - p.size := by omega
        obtain ⟨x, hx⟩ : ∃ x : Int, x = (k : Int) + N - p.size := ⟨_, rfl⟩
        rw [← hx] at b1 b0 ⊢
        have HX := Lib.hid hx
        clear hx e0
        have h61i : ((p[k]'hlt).toNat : Int) = 61 := by rw [h61]; rfl
        go_wp2_with fail
        go_roundw
        case rel => exact ⟨k + 1, by omega, by go_num, by rw [HX.out]; go_num, trivial⟩
        case measure => simp [intOf]; omega
    · obtain rfl : k = p.size := by omega
      rw [show p.size + N - p.size = N by omega]
      clear HP
      go_wp2_with fail
      go_loopw [12] (fun i wr' => ∃ k : Nat, k ≤ q.size ∧ i = .int .i64 k ∧ wr' = wr) (fun i _ => q.size - (intOf i).toNat)
      case atStart => exact ⟨0, by omega, rfl, rfl⟩
      case round =>
        obtain ⟨k, hk, rfl, rfl⟩ := hrel
        by_cases hlt : k < q.size
        · rcases HQ.out k hlt with ⟨g1, g2⟩ | ⟨g1, g2⟩
          · go_wp2_with fail
            go_roundw
            case rel => exact ⟨k + 1, by omega, by go_num, trivial⟩
            case measure => simp [intOf]; omega
          · have g1i : (97 : Int) ≤ ((q[k]'hlt).toNat : Int) := by omega
            have g2i : ((q[k]'hlt).toNat : Int) ≤ 102 := by omega
            have g3i : ¬ ((q[k]'hlt).toNat : Int) ≤ 57 := by omega
            have g4i : (48 : Int) ≤ ((q[k]'hlt).toNat : Int) := by omega
            go_wp2_with fail
            go_roundw
            case rel => exact ⟨k + 1, by omega, by go_num, trivial⟩
            case measure => simp [intOf]; omega
        · obtain rfl : k = q.size := by omega
          clear HQ
          go_wp2_with fail
          have hr4 := Kd.C_below HR2.out HBE.out
          refine (sha_any A2 c2 l2 wr hr4 hcap2 (by omega) HB2.out).mono ?_
          rintro e w4 ⟨g, rfl, _, _, hb4⟩
          have hb04 := below_then HBE.out HBE.out.size hb4
          have hr5 := Kd.C_below HR.out hb04
          have hr6 := Kd.C_below HR2.out hb04
          clear hr4 hb4
          go_wp2_with fail
          refine (Tag_any A c l A2 c2 l2 w4 hr5 hcap (by omega) HB.out hr6 hcap2 (by omega) HB2.out).mono ?_
          rintro e w5 ⟨g2, rfl, _, _, hb5⟩
          have hb05 := below_then hb04 hb04.size hb5
          have t1 := HPS.out
          have t2 := HQS.out
          have t3 := HNN.out
          unfold encN at t3
          have d1 : ((q.size : Int) == 2 * (l2.length : Int)) = true := by rw [beq_iff_eq]; omega
          have d2 : ((p.size : Int) % 4 == 0) = true := by rw [beq_iff_eq]; omega
          have d3 : ((N : Int) == -((l2.length : Int) % 3) % 3) = true := by rw [beq_iff_eq]; omega
          clear hr5 hr6 hb5 t1 t2 t3
          go_wp2_with fail
          go_ret
          exact ⟨rfl, hb05⟩
end Go.Proofs.YtmmgdngnffoflaaDoor
