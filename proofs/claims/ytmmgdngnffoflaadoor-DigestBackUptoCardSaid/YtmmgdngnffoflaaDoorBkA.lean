import Derived.Test.YtmmgdngnffoflaaDoorAwA
import Derived.Test.YtmmgdngnffoflaaDoorDpA
/-
  blotterlaw10.DigestBack: it returns true.
-/
namespace Go.Proofs.YtmmgdngnffoflaaDoor
open Go.RowKit Go.Proofs.YtmmgdngnffoflaaDoorW.PrintWords

theorem mk_data (s : ByteArray) (l : List UInt8) (h : l = s.data.toList) : ByteArray.mk l.toArray = s := by subst h; rfl
set_option maxHeartbeats 4000000 in
set_option maxRecDepth 100000 in
theorem back_any (A : Option Addr) (c : Nat) (l : List Int) (s : ByteArray) (w : World) (hr : Kd.C (Kd.int .u8) w A l.length l) (hcap : l.length ≤ c) (hl : l.length ≤ 10000000) (hb : Bytes l) (hs : s.size ≤ 10000000) :
    Calls Tryd.prog 4 #[.slice A l.length c, .string s] w fun e w' => e = .returned (.bool true) ∧ Below w.heap.size w w' := by
  go_enter Tryd.func4, Tryd.ntmps4
  go_wp2_with fail
  refine (awake_any _).mono ?_
  rintro e w1 ⟨rfl, hb1⟩
  have hr1 := Kd.C_below hr hb1
  go_wp2_with fail
  refine (enc_any A c l w1 hr1 hcap (by omega) hb).mono ?_
  rintro e w2 ⟨rfl, hb2⟩
  have hb02 := below_then hb1 hb1.size hb2
  clear hb1 hb2 hr1
  go_wp2_with fail
  refine (dec_any ⟨(encB l).toArray⟩ w2 (by show (encB l).toArray.size ≤ _; rw [List.size_toArray]; have := encB_le l; omega)).mono ?_
  rintro e w3 ⟨v, rfl, hR, hb3⟩
  rw [show (ByteArray.mk (encB l).toArray).data.toList = encB l from rfl, dec_enc l hb] at hR ⊢
  obtain ⟨A5, c5, rfl, hc5, hC5⟩ := Kd.R_reads hR
  have hcv : (convert 22 9 (.slice A5 l.length c5)).run Tryd.prog w3 = .ok (.string (strOfNums l)) w3 := Kd.C_string Tryd.underlying22 rfl Tryd.underlying9 hC5
  have hb03 := below_then hb02 hb02.size hb3
  have hr3 := Kd.C_below hr hb03
  have hcv2 : (convert 22 9 (.slice A l.length c)).run Tryd.prog w3 = .ok (.string (strOfNums l)) w3 := Kd.C_string Tryd.underlying22 rfl Tryd.underlying9 hr3
  have hle : (encB l).length = (l.length + 2) / 3 * 4 := encB_length l
  go_wp2_with fail
  refine (dec_any s w3 (by omega)).mono ?_
  rintro e w4 ⟨v, rfl, hR4, hb4⟩
  have hb04 := below_then hb03 hb03.size hb4
  have hdl := dec_len s.data.toList
  have hdb := dec_bytes s.data.toList
  have hs' : s.data.toList.length = s.size := data_length s
  clear hR hC5 hcv hr3 hcv2 hb02 hb3
  rcases dec_one s.data.toList with h1 | ⟨h2, h3⟩
  · rw [h1] at hR4 ⊢
    obtain ⟨A6, c6, rfl, hc6, _⟩ := Kd.R_reads hR4
    go_wp2_with fail
    go_ret
    exact ⟨rfl, hb04⟩
  · rw [h2]
    obtain ⟨y, hy⟩ : ∃ y, y = (decF s.data.toList).1 := ⟨_, rfl⟩
    rw [← hy] at hR4 h3 hdl hdb
    clear hy
    obtain ⟨A6, c6, rfl, hc6, hC6⟩ := Kd.R_reads hR4
    go_wp2_with fail
    refine (enc_any A6 c6 y w4 hC6 hc6 (by omega) hdb).mono ?_
    rintro e w5 ⟨rfl, hb5⟩
    have hb05 := below_then hb04 hb04.size hb5
    have hqs : ByteArray.mk (encB y).toArray = s := mk_data s _ h3
    rw [hqs]
    go_wp2_with fail
    go_ret
    exact ⟨rfl, hb05⟩
end Go.Proofs.YtmmgdngnffoflaaDoor
