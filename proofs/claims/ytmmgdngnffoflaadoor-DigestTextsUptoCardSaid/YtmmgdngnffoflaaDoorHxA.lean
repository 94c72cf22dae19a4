import Derived.Test.YtmmgdngnffoflaaDoorH0
/-
  digest.Hex: its contract.
-/
namespace Go.Proofs.YtmmgdngnffoflaaDoor
open Go.RowKit Go.Proofs.YtmmgdngnffoflaaDoorW.PrintWords

def hexd (n : Int) : UInt8 := if n < 10 then UInt8.ofNat (48 + n.toNat) else UInt8.ofNat (87 + n.toNat)
def hexB : List Int → List UInt8
  | [] => []
  | x :: r => hexd (x / 16) :: hexd (x % 16) :: hexB r
theorem hexB_length (l : List Int) : (hexB l).length = 2 * l.length := by
  induction l with
  | nil => rfl
  | cons x r ih => simp only [hexB, List.length_cons, ih]; omega
theorem hexB_append (l r : List Int) : hexB (l ++ r) = hexB l ++ hexB r := by
  induction l with
  | nil => rfl
  | cons x l ih => simp only [List.cons_append, hexB, ih]
theorem hexB_take (l : List Int) (k : Nat) (h : k < l.length) : hexB (l.take (k + 1)) = hexB (l.take k) ++ [hexd (l.getD k 0 / 16), hexd (l.getD k 0 % 16)] := by
  rw [List.take_succ_eq_append_getElem h, hexB_append]
  simp [hexB, List.getD_eq_getElem?_getD, List.getElem?_eq_getElem h]

theorem byteCells_append (l r : List UInt8) : Lib.byteCells (l ++ r) = Lib.byteCells l ++ Lib.byteCells r := by simp [Lib.byteCells]
theorem byteCells_length (l : List UInt8) : (Lib.byteCells l).length = l.length := by simp [Lib.byteCells]

theorem hexd_at (y : Int) (h0 : 0 ≤ y) (h1 : y < 16) (hp : y.toNat < (⟨#[48, 49, 50, 51, 52, 53, 54, 55, 56, 57, 97, 98, 99, 100, 101, 102]⟩ : ByteArray).size) :
    (⟨#[48, 49, 50, 51, 52, 53, 54, 55, 56, 57, 97, 98, 99, 100, 101, 102]⟩ : ByteArray)[y.toNat] = hexd y := by
  obtain ⟨n, rfl⟩ := Int.eq_ofNat_of_zero_le h0
  have hn : n < 16 := by omega
  revert hp
  simp only [Int.toNat_natCast]
  match n, hn with
  | 0, _ | 1, _ | 2, _ | 3, _ | 4, _ | 5, _ | 6, _ | 7, _ | 8, _ | 9, _ | 10, _ | 11, _ | 12, _ | 13, _ | 14, _ | 15, _ => intro _; rfl

set_option maxHeartbeats 1000000 in
theorem hex_any (A : Option Addr) (c : Nat) (l : List Int) (w : World) (hr : Kd.C (Kd.int .u8) w A l.length l) (hl : l.length ≤ 1000000000) (hb : Bytes l) :
    Calls Tryd.prog 16 #[.slice A l.length c] w fun e w' => e = .returned (.string ⟨(hexB l).toArray⟩) ∧ Below w.heap.size w w' := by
  have h63 : l.length ≤ 9223372036854775807 := by omega
  go_enter Tryd.func16, Tryd.ntmps16
  go_wp2_with fail
  go_loopw [5, 8] (fun v i wr => ∃ k : Nat, k ≤ l.length ∧ i = .int .i64 k ∧ Lib.IsBuilder 76 5 w.heap.size w.heap.size (Lib.byteCells (hexB (l.take k))) wr ∧ Below w.heap.size w wr) (fun _ i _ => l.length - (intOf i).toNat)
  case atStart => exact ⟨0, Nat.zero_le _, rfl, Lib.fresh_isBuilder 76 5 w, (Below.refl _ _).alloc (Nat.le_refl _) _⟩
  case round =>
    obtain ⟨k, hk, rfl, hB, hbel⟩ := hrel
    by_cases hlt : k < l.length
    · obtain ⟨ad, rfl, hc, hblk⟩ := bytes_at hr hlt
      obtain ⟨hx0, hx1⟩ := hb.get k
      have hc' : wr.cell? (ad.add k) = some (.int .u8 (l.getD k 0)) := (hbel.cell (by rw [add_block]; exact hblk)).trans hc
      have hlen : (Lib.byteCells (hexB (l.take k))).length = 2 * k := by rw [byteCells_length, hexB_length, List.length_take, Nat.min_eq_left hk]
      have HT := Lib.hid (hexB_take l k hlt)
      obtain ⟨x, hx⟩ : ∃ x, x = l.getD k 0 := ⟨_, rfl⟩
      rw [← hx] at hx0 hx1 hc' HT
      have HL := Lib.hid hlen
      clear hx hc hr hlen
      go_wp2_with fail
      refine (Tryd.Builder_WriteByte w.heap.size w.heap.size _ _ wr hB (by rw [HL.out]; omega) hbel.size).mono ?_
      rintro e w1 ⟨rfl, hB1, hb1⟩
      have hbel1 := hbel.trans hb1
      clear hc'
      go_wp2_with fail
      refine (Tryd.Builder_WriteByte w.heap.size w.heap.size _ _ w1 (.inr hB1) (by rw [List.length_append, HL.out]; simp only [List.length_cons, List.length_nil]; omega) hbel1.size).mono ?_
      rintro e w2 ⟨rfl, hB2, hb2⟩
      have hbel2 := hbel1.trans hb2
      go_wp2_with fail
      go_roundw
      case rel =>
        refine ⟨k + 1, by omega, by go_num, ?_, hbel2⟩
        rw [HT.out, byteCells_append]
        rw [hexd_at _ (by omega) (by omega), hexd_at _ (by omega) (by omega)] at hB2
        rw [List.append_assoc] at hB2
        exact .inr hB2
      case measure => simp [intOf]; omega
    · obtain rfl : k = l.length := by omega
      go_wp2_with fail
      refine (Tryd.Builder_String_any w.heap.size w.heap.size _ wr hB hbel.size).mono ?_
      rintro e w1 ⟨rfl, hb1⟩
      go_wp2_with fail
      go_ret
      exact ⟨rfl, hbel.trans hb1⟩
end Go.Proofs.YtmmgdngnffoflaaDoor
