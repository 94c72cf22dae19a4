import Derived.Test.YtmmgdngnffoflaaDoorEnA
/-
  digest.Decode: its contract.
-/
namespace Go.Proofs.YtmmgdngnffoflaaDoor
open Go.RowKit Go.Proofs.YtmmgdngnffoflaaDoorW.PrintWords

def idxS (c : UInt8) : Int := Lib.indexByte signsL c
def decStep (c : UInt8) (s : Int × Int × List Int) : Option (Int × Int × List Int) :=
  if idxS c < 0 then none else
  if s.2.1 < 2 then some (s.1 * 64 + idxS c, s.2.1 + 6, s.2.2)
  else some ((s.1 * 64 + idxS c) % 2 ^ (s.2.1 - 2).toNat, s.2.1 - 2, s.2.2 ++ [(s.1 * 64 + idxS c) / 2 ^ (s.2.1 - 2).toNat])
def decGo : List UInt8 → Int × Int × List Int → Option (List Int)
  | [], s => some s.2.2
  | c :: r, s => (decStep c s).bind (decGo r)
def decF (s : List UInt8) : List Int × Int :=
  if s.length % 4 = 0 then
    match decGo (Lib.trimRightB s 61) (0, 0, []) with
    | some out => if encB out = s then (out, 0) else ([], 100)
    | none => ([], 100)
  else ([], 100)
theorem idxFrom_le (l : List UInt8) (c : UInt8) : -1 ≤ Lib.indexByte l c ∧ Lib.indexByte l c < l.length := by
  induction l with
  | nil => simp [Lib.indexByte]
  | cons b l ih =>
    simp only [Lib.indexByte, List.length_cons]
    split
    · omega
    · split <;> omega
theorem idxS_le (c : UInt8) : -1 ≤ idxS c ∧ idxS c ≤ 63 := by
  have := idxFrom_le signsL c
  have h : signsL.length = 64 := rfl
  unfold idxS
  omega
theorem or6 (a b : Int) (a0 : 0 ≤ a) (a1 : a < 64) (b0 : 0 ≤ b) (b1 : b < 64) : bits .or .i64 (a * 64) b = a * 64 + b :=
  bits_join .i64 62 (by decide) wraps_i64 6 (a * 64) b (by omega) (by omega) (by omega) (by omega) (by omega) (by omega)
theorem and3 (x : Int) (h0 : 0 ≤ x) (h1 : x < 1073741824) : bits .and .i64 x 3 = x % 4 := bits_mask .i64 62 (by decide) wraps_i64 2 (by decide) x h0 (by omega)
theorem and15 (x : Int) (h0 : 0 ≤ x) (h1 : x < 1073741824) : bits .and .i64 x 15 = x % 16 := bits_mask .i64 62 (by decide) wraps_i64 4 (by decide) x h0 (by omega)
theorem and0 (x : Int) : bits .and .i64 x 0 = 0 := by simp [bits, IntKind.wrap_i64]
theorem decGo_at (l : List UInt8) (k : Nat) (c : UInt8) (s : Int × Int × List Int) (h : l[k]? = some c) : decGo (l.drop k) s = (decStep c s).bind (decGo (l.drop (k + 1))) := by
  obtain ⟨hk, rfl⟩ := List.getElem?_eq_some_iff.1 h
  rw [List.drop_eq_getElem_cons hk]
  rfl
theorem dec_go {l : List UInt8} {k : Nat} {c : UInt8} {s t : Int × Int × List Int} {R : Option (List Int)} (h : l[k]? = some c) (H : R = decGo (l.drop k) s) (hs : decStep c s = some t) : R = decGo (l.drop (k + 1)) t := by
  rw [H, decGo_at l k c s h, hs]; rfl
theorem dec_no {l : List UInt8} {k : Nat} {c : UInt8} {s : Int × Int × List Int} {R : Option (List Int)} (h : l[k]? = some c) (H : R = decGo (l.drop k) s) (hs : idxS c < 0) : R = none := by
  rw [H, decGo_at l k c s h]; unfold decStep; rw [if_pos hs]; rfl
theorem step_low {c : UInt8} {d U : Int} {acc : List Int} (hd : idxS c = d) (h0 : ¬ d < 0) : decStep c (U, 0, acc) = some (U * 64 + d, 6, acc) := by
  unfold decStep; rw [hd, if_neg h0]; rfl
theorem step_2 {c : UInt8} {d U : Int} {acc : List Int} (hd : idxS c = d) (h0 : ¬ d < 0) : decStep c (U, 2, acc) = some (0, 0, acc ++ [U * 64 + d]) := by
  unfold decStep; rw [hd, if_neg h0, if_neg (show ¬ ((2 : Int) < 2) by decide)]; simp [Int.emod_one]
theorem step_4 {c : UInt8} {d U : Int} {acc : List Int} (hd : idxS c = d) (h0 : ¬ d < 0) : decStep c (U, 4, acc) = some ((U * 64 + d) % 4, 2, acc ++ [(U * 64 + d) / 4]) := by
  unfold decStep; rw [hd, if_neg h0, if_neg (show ¬ ((4 : Int) < 2) by decide)]; rfl
theorem step_6 {c : UInt8} {d U : Int} {acc : List Int} (hd : idxS c = d) (h0 : ¬ d < 0) : decStep c (U, 6, acc) = some ((U * 64 + d) % 16, 4, acc ++ [(U * 64 + d) / 16]) := by
  unfold decStep; rw [hd, if_neg h0, if_neg (show ¬ ((6 : Int) < 2) by decide)]; rfl
theorem bytes_snoc {l : List Int} {x : Int} (h : Bytes l) (h0 : 0 ≤ x) (h1 : x ≤ 255) : Bytes (l ++ [x]) := by
  intro y hy
  rcases List.mem_append.1 hy with hy | hy
  · exact h y hy
  · obtain rfl := List.mem_singleton.1 hy; exact ⟨h0, h1⟩
theorem own_len {w : World} {B : Nat} {e : TypeId} {v : Value} {n m : Nat} {xs : List Value} (h : n = m) (ho : w.ownsRow B e 1 v n xs) : w.ownsRow B e 1 v m xs := h ▸ ho
theorem toU (x : UInt8) : ((x.toNat : Int)).toNat.toUInt8 = x := by simp
theorem byteAt (p : ByteArray) (k : Nat) (h : k < p.size) : p.data.toList[k]? = some (p[k]'h) := by
  rw [Array.getElem?_toList, Array.getElem?_eq_getElem h]; rfl

theorem dinfo5 : (Tryd.prog.info? 5).map (fun i => (i.zero, i.size, i.bytes)) = some (some (.int .u8 0), 1, 1) := by kernel_rfl

set_option maxHeartbeats 4000000 in
set_option maxRecDepth 100000 in
theorem dec_any (s : ByteArray) (w : World) (hs : s.size ≤ 1000000000) :
    Calls Tryd.prog 18 #[.string s] w fun e w' => ∃ v, e = .returned (.tuple #[v, .int .i64 (decF s.data.toList).2]) ∧ Kd.R (Kd.int .u8) 5 w' w.heap.size (fun _ => True) v (decF s.data.toList).1 ∧ Below w.heap.size w w' := by
  have hlen : s.data.toList.length = s.size := data_length s
  by_cases hm : s.size % 4 = 0
  · have hd : s.data.toList.length % 4 = 0 := by rw [hlen]; exact hm
    have hD : decF s.data.toList = match decGo (Lib.trimRightB s.data.toList 61) (0, 0, []) with
      | some out => if encB out = s.data.toList then (out, 0) else ([], 100)
      | none => ([], 100) := by unfold decF; rw [if_pos hd]
    have hpl : (Lib.trimRightB s.data.toList 61).length ≤ s.size := by
      rw [← hlen]; unfold Lib.trimRightB
      rw [List.length_reverse]
      have := (List.dropWhile_sublist (l := s.data.toList.reverse) (p := (· == (61 : UInt8)))).length_le
      simpa using this
    have HD := Lib.hid hD
    clear hD hd hlen
    have hm' : ((s.size : Int) % 4 != 0) = false := by simp; omega
    clear hm
    go_enter Tryd.func18, Tryd.ntmps18
    go_wp2_with fail
    refine (Tryd.strings_TrimRight_one s 61 (by decide) w (by omega)).mono ?_
    rintro e w1 ⟨rfl, hw1⟩
    have hw2 := hw1.symm
    subst hw2
    obtain ⟨p, hp⟩ : ∃ p : ByteArray, p = ⟨(Lib.trimRightB s.data.toList 61).toArray⟩ := ⟨_, rfl⟩
    rw [← hp]
    have hp2 : Lib.trimRightB s.data.toList 61 = p.data.toList := by rw [hp]
    have hp3 : p.size ≤ s.size := by rw [hp]; exact hpl
    rw [hp2] at HD
    clear hp hp2 hpl
    obtain ⟨i0, hi, hz0, hz1, hz2⟩ := info_parts dinfo5
    go_wp2_with (at_make; refine wpList_make_own _ rfl _ _ 22 rfl w.heap.size 5 i0 (.int .u8 0) 1 Tryd.underlying22 hi hz0 hz1 _ _ _ (p.size * 3 / 4) rfl rfl (by omega) ?b2 ?b3 ?b4 ?_)
    case b2 => rw [hz2]; omega
    case b3 => unfold maxLen; omega
    case b4 => exact Nat.le_refl _
    intro w1 hown1 hg1
    have hb1 := (Below.refl w.heap.size w).grown hg1 (Nat.le_refl _) (by simp)
    clear hg1 hi hz0 hz1 hz2
    go_wp2_with fail
    go_loopw [5, 6, 7, 23] (fun v u n i wr => ∃ (k : Nat) (U M : Int) (acc : List Int), k ≤ p.size ∧ i = .int .i64 k ∧ u = .int .i64 U ∧ n = .int .i64 M ∧ 0 ≤ U ∧ U < 64 ∧ (M = 0 ∧ U < 1 ∨ M = 2 ∧ U < 4 ∨ M = 4 ∧ U < 16 ∨ M = 6) ∧ acc.length ≤ k ∧ Bytes acc ∧
        Hid (decGo p.data.toList (0, 0, []) = decGo (p.data.toList.drop k) (U, M, acc)) ∧ wr.ownsRow w.heap.size 5 1 v acc.length (nums .u8 acc) ∧ Below w.heap.size w wr) (fun _ _ _ i _ => p.size - (intOf i).toNat)
    case atStart => exact ⟨0, 0, 0, [], Nat.zero_le _, rfl, rfl, rfl, by omega, by omega, .inl ⟨rfl, by omega⟩, Nat.le_refl _, by simp [Bytes], rfl, hown1, hb1⟩
    case round =>
      obtain ⟨k, U, M, acc, hk, rfl, rfl, rfl, hU0, hU1, hM, hal, hby, HG, hown, hbel⟩ := hrel
      clear hown1 hb1
      by_cases hlt : k < p.size
      · have HB := Lib.hid (byteAt p k hlt)
        go_wp2_with fail
        refine (Tryd.strings_IndexByte _ _ wr).mono ?_
        rintro e w1 ⟨rfl, hw1⟩
        have hw2 := hw1.symm
        subst hw2
        rw [toU]
        obtain ⟨d, hd⟩ : ∃ d, d = Lib.indexByte signsL (p[k]'hlt) := ⟨_, rfl⟩
        rw [show (⟨#[65, 66, 67, 68, 69, 70, 71, 72, 73, 74, 75, 76, 77, 78, 79, 80, 81, 82, 83, 84, 85, 86, 87, 88, 89, 90, 97, 98, 99, 100, 101, 102, 103, 104, 105, 106, 107, 108, 109, 110, 111, 112, 113, 114, 115, 116, 117, 118, 119, 120, 121, 122, 48, 49, 50, 51, 52, 53, 54, 55, 56, 57, 43, 47]⟩ : ByteArray).data.toList = signsL from rfl, ← hd]
        have hdl := idxS_le (p[k]'hlt)
        rw [show idxS (p[k]'hlt) = d from hd.symm] at hdl
        obtain ⟨hd0, hd1⟩ := hdl
        have HDD : Hid (idxS (p[k]'hlt) = d) := hd.symm
        clear hd
        by_cases hneg : d < 0
        · go_wp2_with fail
          go_ret2
          have hno := dec_no HB.out HG.out (by rw [HDD.out]; exact hneg)
          have hf : decF s.data.toList = ([], 100) := by rw [HD.out, hno]
          rw [hf]
          exact ⟨_, rfl, Kd.R_nil _ _ _ _ _, hbel⟩
        · have o1 := or6 U d hU0 (by omega) (by omega) (by omega)
          rcases hM with ⟨rfl, hM⟩ | ⟨rfl, hM⟩ | ⟨rfl, hM⟩ | rfl
          · go_wp2_with fail
            go_roundw
            case rel => exact ⟨k + 1, U * 64 + d, 6, acc, by omega, by go_num, rfl, rfl, by omega, by omega, .inr (.inr (.inr rfl)), by omega, hby, dec_go HB.out HG.out (step_low HDD.out (by omega)), hown, hbel⟩
            case measure => simp [intOf]; omega
          · have a1 := and0 (U * 64 + d)
            go_wp2_with (at_builtin; refine print_append_num (w0 := w) w.heap.size rfl (.tmp 42) (.tmp 47) 22 5 .u8 1 rfl Tryd.underlying22 dinfo5 (by decide) _ acc _ rfl rfl hown hbel hbel.size (by omega) ?_)
            intro v1 w1 hown1 hb1 _ _
            go_wp2_with fail
            go_roundw
            case rel => exact ⟨k + 1, 0, 0, acc ++ [U * 64 + d], by omega, by go_num, rfl, rfl, by omega, by omega, .inl ⟨rfl, by omega⟩, by simp; omega, bytes_snoc hby (by omega) (by omega), dec_go HB.out HG.out (step_2 HDD.out (by omega)), own_len (by simp) hown1, hb1⟩
            case measure => simp [intOf]; omega
          · have a1 := and3 (U * 64 + d) (by omega) (by omega)
            go_wp2_with (at_builtin; refine print_append_num (w0 := w) w.heap.size rfl (.tmp 42) (.tmp 47) 22 5 .u8 1 rfl Tryd.underlying22 dinfo5 (by decide) _ acc _ rfl rfl hown hbel hbel.size (by omega) ?_)
            intro v1 w1 hown1 hb1 _ _
            go_wp2_with fail
            go_roundw
            case rel => exact ⟨k + 1, (U * 64 + d) % 4, 2, acc ++ [(U * 64 + d) / 4], by omega, by go_num, rfl, rfl, by omega, by omega, .inr (.inl ⟨rfl, by omega⟩), by simp; omega, bytes_snoc hby (by omega) (by omega), dec_go HB.out HG.out (step_4 HDD.out (by omega)), own_len (by simp) hown1, hb1⟩
            case measure => simp [intOf]; omega
          · have a1 := and15 (U * 64 + d) (by omega) (by omega)
            go_wp2_with (at_builtin; refine print_append_num (w0 := w) w.heap.size rfl (.tmp 42) (.tmp 47) 22 5 .u8 1 rfl Tryd.underlying22 dinfo5 (by decide) _ acc _ rfl rfl hown hbel hbel.size (by omega) ?_)
            intro v1 w1 hown1 hb1 _ _
            go_wp2_with fail
            go_roundw
            case rel => exact ⟨k + 1, (U * 64 + d) % 16, 4, acc ++ [(U * 64 + d) / 16], by omega, by go_num, rfl, rfl, by omega, by omega, .inr (.inr (.inl ⟨rfl, by omega⟩)), by simp; omega, bytes_snoc hby (by omega) (by omega), dec_go HB.out HG.out (step_6 HDD.out (by omega)), own_len (by simp) hown1, hb1⟩
            case measure => simp [intOf]; omega
      · obtain rfl : k = p.size := by omega
        have hR := Kd.R_of_own (enc := Value.int .u8) (h1 := fun _ => rfl) (ok := fun _ => True) hown (fun _ _ => trivial)
        obtain ⟨A, cp, rfl, hcp, hC⟩ := Kd.R_reads hR
        have hgo : decGo p.data.toList (0, 0, []) = some acc := by
          rw [HG.out, List.drop_of_length_le (by rw [data_length]; omega)]; rfl
        have HGO := Lib.hid hgo
        clear hgo hM hlt hown HG
        have HR := Lib.hid hR
        have HC := Lib.hid hC
        clear hR hC
        go_wp2_with fail
        refine (enc_any A cp acc wr HC.out hcp (by omega) hby).mono ?_
        rintro e w1 ⟨rfl, hb1⟩
        by_cases heq : encB acc = s.data.toList
        · have hq : (encB acc == s.toList) = true := by rw [ByteArray.toList_eq]; simpa using heq
          have hf : decF s.data.toList = (acc, 0) := by rw [HD.out, HGO.out]; exact if_pos heq
          have HF := Lib.hid hf
          have HW := Lib.hid (Kd.R_below HR.out hb1)
          clear hf heq
          go_wp2_with fail
          go_ret2
          rw [HF.out]
          exact ⟨_, rfl, HW.out, below_then hbel hbel.size hb1⟩
        · have hq : (encB acc == s.toList) = false := by rw [ByteArray.toList_eq]; simpa using heq
          have hf : decF s.data.toList = ([], 100) := by rw [HD.out, HGO.out]; exact if_neg heq
          have HF := Lib.hid hf
          clear hf heq
          go_wp2_with fail
          go_ret2
          rw [HF.out]
          exact ⟨_, rfl, Kd.R_nil _ _ _ _ _, below_then hbel hbel.size hb1⟩
  · have hd : ¬ s.data.toList.length % 4 = 0 := by rw [hlen]; exact hm
    have hf : decF s.data.toList = ([], 100) := by unfold decF; rw [if_neg hd]
    have HF := Lib.hid hf
    have hm' : ((s.size : Int) % 4 != 0) = true := by simp; omega
    clear hf hd hlen hm
    go_enter Tryd.func18, Tryd.ntmps18
    go_wp2_with fail
    go_ret2
    rw [HF.out]
    exact ⟨_, rfl, Kd.R_nil _ _ _ _ _, Below.refl _ _⟩
end Go.Proofs.YtmmgdngnffoflaaDoor
