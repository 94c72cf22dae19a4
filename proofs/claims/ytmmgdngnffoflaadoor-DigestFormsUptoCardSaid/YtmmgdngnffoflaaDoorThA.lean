import Derived.Test.YtmmgdngnffoflaaDoorTgA
/-
  digest.Tag: its contract.
-/
namespace Go.Proofs.YtmmgdngnffoflaaDoor
open Go.RowKit Go.Proofs.YtmmgdngnffoflaaDoorW.PrintWords

theorem tagL_length (l l2 : List Int) : (tagL l l2).length = 20 := rfl
theorem bytes_tagL (l l2 : List Int) : Bytes (tagL l l2) := bytes_digL _
set_option maxHeartbeats 4000000 in
set_option maxRecDepth 100000 in
theorem Tag_any (A : Option Addr) (c : Nat) (l : List Int) (A2 : Option Addr) (c2 : Nat) (l2 : List Int) (w : World) (hr : Kd.C (Kd.int .u8) w A l.length l) (hcap : l.length ≤ c) (hl : l.length ≤ 100000000) (hb : Bytes l)
    (hr2 : Kd.C (Kd.int .u8) w A2 l2.length l2) (hcap2 : l2.length ≤ c2) (hl2 : l2.length ≤ 100000000) (hb2 : Bytes l2) :
    Calls Tryd.prog 25 #[.slice A l.length c, .slice A2 l2.length c2] w fun e w' => ∃ g, e = .returned (.slice (some ⟨g, 0, none⟩) 20 20) ∧ w.heap.size ≤ g ∧ w'.heap[g]? = some (.cells (nums .u8 (tagL l l2)).toArray 86 (0, 0)) ∧ Below w.heap.size w w' := by
  go_enter Tryd.func25, Tryd.ntmps25
  go_wp2_with fail
  refine (tag_any A c l A2 c2 l2 _ hr hcap hl hb hr2 hcap2 hl2 hb2).mono ?_
  rintro e w1 ⟨rfl, hb1⟩
  have HB := Lib.hid hb1
  clear hb1 hr hb hr2 hb2
  obtain ⟨D, hD⟩ : ∃ D, D = (nums .u8 (tagL l l2)).toArray := ⟨_, rfl⟩
  rw [← hD]
  have hs20 : (Tryd.prog.info? 86).map (·.size) = some D.size := by rw [hD, List.size_toArray, nums_length, tagL_length]; kernel_rfl
  have hone : D.all (·.oneCell') = true := by rw [hD]; simp [nums, Value.oneCell']
  have HD := Lib.hid hD
  clear hD
  have hzr : (w1.alloc (.cells #[.int .u8 0, .int .u8 0, .int .u8 0, .int .u8 0, .int .u8 0, .int .u8 0, .int .u8 0, .int .u8 0, .int .u8 0, .int .u8 0, .int .u8 0, .int .u8 0, .int .u8 0, .int .u8 0, .int .u8 0, .int .u8 0, .int .u8 0, .int .u8 0, .int .u8 0, .int .u8 0] 86)).heap[w1.heap.size]? = some (.cells #[.int .u8 0, .int .u8 0, .int .u8 0, .int .u8 0, .int .u8 0, .int .u8 0, .int .u8 0, .int .u8 0, .int .u8 0, .int .u8 0, .int .u8 0, .int .u8 0, .int .u8 0, .int .u8 0, .int .u8 0, .int .u8 0, .int .u8 0, .int .u8 0, .int .u8 0, .int .u8 0] 86 (0, 0)) := heap_alloc_new w1 _
  have hsz : (#[.int .u8 0, .int .u8 0, .int .u8 0, .int .u8 0, .int .u8 0, .int .u8 0, .int .u8 0, .int .u8 0, .int .u8 0, .int .u8 0, .int .u8 0, .int .u8 0, .int .u8 0, .int .u8 0, .int .u8 0, .int .u8 0, .int .u8 0, .int .u8 0, .int .u8 0, .int .u8 0] : Array Value).size = D.size := by rw [HD.out]; rfl
  have hst := setRow_heap _ _ _ D _ _ hzr
  have hbe : Below w.heap.size w ((w1.alloc (.cells #[.int .u8 0, .int .u8 0, .int .u8 0, .int .u8 0, .int .u8 0, .int .u8 0, .int .u8 0, .int .u8 0, .int .u8 0, .int .u8 0, .int .u8 0, .int .u8 0, .int .u8 0, .int .u8 0, .int .u8 0, .int .u8 0, .int .u8 0, .int .u8 0, .int .u8 0, .int .u8 0] 86)).setRow w1.heap.size D) := below_setRow (HB.out.alloc HB.out.size _) HB.out.size _
  go_wp2_with (refine wpList_store_row rfl 86 _ _ rfl w1.heap.size _ (by rfl) (by rfl) 86 _ hzr hs20 hsz hone ?_)
  go_ret
  exact ⟨w1.heap.size, rfl, HB.out.size, by rw [hst, HD.out], hbe⟩
end Go.Proofs.YtmmgdngnffoflaaDoor
