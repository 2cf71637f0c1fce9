/- The document's examples hold. -/
import Derived.Test.YtcpaimgenfbidaaKeeper2
namespace Go.Proofs.Ytcpaimgenfbidaa
open Go.RowKit

/-- A claim in a variable of its own. -/
def C3 (w : World) (b : Nat) (c : Cl) : Prop := b < w.heap.size ∧ w.cell? ⟨b, 0, none⟩ = some (.int .i64 c.e) ∧ w.cell? ⟨b, 1, none⟩ = some (.int .i64 c.h) ∧ w.cell? ⟨b, 2, none⟩ = some (.int .i64 c.u)
theorem C3.new (w : World) (c : Cl) : C3 (w.alloc (.cells #[.int .i64 c.e, .int .i64 c.h, .int .i64 c.u] 23)) w.heap.size c := by
  have h := heap_alloc_new w (.cells #[.int .i64 c.e, .int .i64 c.h, .int .i64 c.u] 23)
  exact ⟨by simp, (cell_of_row _ _ 0 _ _ _ h).trans rfl, (cell_of_row _ _ 1 _ _ _ h).trans rfl, (cell_of_row _ _ 2 _ _ _ h).trans rfl⟩
theorem C3.chg {S : Nat → Prop} {w w' : World} {b : Nat} {c : Cl} (h : C3 w b c) (hc : Chg S w w') (hs : ¬ S b) : C3 w' b c :=
  ⟨Nat.lt_of_lt_of_le h.1 hc.size, hc.cell h.2.1 hs, hc.cell h.2.2.1 hs, hc.cell h.2.2.2 hs⟩

set_option maxHeartbeats 4000000 in
theorem awake_any (w : World) : Calls Try.prog 8 #[] w fun e w' => e = .returned (.bool true) ∧ Below w.heap.size w w' := by
  obtain ⟨N, hN⟩ : ∃ N, N = w.heap.size := ⟨_, rfl⟩
  go_enter Try.func8, Try.ntmps8
  go_wp2_with fail
  have hnew := new_any 9 w
  rw [← hN] at hnew
  refine hnew.mono ?_
  clear hnew
  rintro e w1 ⟨rfl, hd1, hb1⟩
  have HB1 := Lib.hid hb1
  have ht := take_any N ⟨0, 0, 0⟩ 1 0 w1 hd1 (by decide) (by decide)
  rw [show takeC ⟨0, 0, 0⟩ 1 0 = ⟨1, 1, 40⟩ from by decide, show takeE ⟨0, 0, 0⟩ 1 0 = 0 from by decide, show takeD ⟨0, 0, 0⟩ 1 0 = ⟨1, 1, 40⟩ from by decide] at ht
  have HT := Lib.hid ht
  clear ht hd1 hb1
  have HN := Lib.hid hN; clear hN
  go_wp2_with fail
  refine HT.out.mono ?_
  clear HT
  rintro e w2 ⟨rfl, hd2, hch2⟩
  have hsz2 : N < w2.heap.size := hd2.lt
  have HB2 : Hid (Below N w w2) := Lib.hid (HB1.out.trans (hch2.below (by have := hch2.size; have := HB1.out.size; have := HN.out; omega) (fun k hk e => by omega)))
  have hA : Chg NoBlk w2 (w2.alloc (.cells #[.int .i64 1, .int .i64 1, .int .i64 40] 23)) := (Chg.refl _ _).alloc _
  have HC2 := Lib.hid (C3.new w2 ⟨1, 1, 40⟩)
  have HBA := Lib.hid (HB2.out.alloc (by omega) (.cells #[.int .i64 1, .int .i64 1, .int .i64 40] 23))
  have ht := take_any N ⟨1, 1, 40⟩ 2 41 _ (hd2.chg hA (fun h => h)) (by decide) (by decide)
  rw [show takeC ⟨1, 1, 40⟩ 2 41 = ⟨0, 0, 0⟩ from by decide, show takeE ⟨1, 1, 40⟩ 2 41 = 170 from by decide, show takeD ⟨1, 1, 40⟩ 2 41 = ⟨1, 1, 40⟩ from by decide] at ht
  have HT := Lib.hid ht
  clear ht hd2 hch2 hA
  go_wp2_with fail
  refine HT.out.mono ?_
  clear HT
  rintro e w3 ⟨rfl, hd3, hch3⟩
  have hsz3 : N < w3.heap.size := hd3.lt
  have HB3 : Hid (Below N w w3) := Lib.hid (HBA.out.trans (hch3.below (by simp; omega) (fun k hk e => by omega)))
  have HC3 := Lib.hid (HC2.out.chg hch3 (by omega))
  have hA : Chg NoBlk w3 (w3.alloc (.cells #[.int .i64 0, .int .i64 0, .int .i64 0] 23)) := (Chg.refl _ _).alloc _
  have HC4 := Lib.hid (HC3.out.chg hA (fun h => h))
  have HBB := Lib.hid (HB3.out.alloc (by omega) (.cells #[.int .i64 0, .int .i64 0, .int .i64 0] 23))
  have ht := take_any N ⟨1, 1, 40⟩ 2 42 _ (hd3.chg hA (fun h => h)) (by decide) (by decide)
  rw [show takeC ⟨1, 1, 40⟩ 2 42 = ⟨2, 2, 82⟩ from by decide, show takeE ⟨1, 1, 40⟩ 2 42 = 0 from by decide, show takeD ⟨1, 1, 40⟩ 2 42 = ⟨2, 2, 82⟩ from by decide] at ht
  have HT := Lib.hid ht
  clear ht hd3 hch3 hA
  go_wp2_with fail
  refine HT.out.mono ?_
  clear HT
  rintro e w4 ⟨rfl, hd4, hch4⟩
  have hsz4 : N < w4.heap.size := hd4.lt
  have HB4 : Hid (Below N w w4) := Lib.hid (HBB.out.trans (hch4.below (by simp; omega) (fun k hk e => by omega)))
  have HC5 := Lib.hid (HC4.out.chg hch4 (by have := HC2.out.1; omega))
  have HD5 := Lib.hid (C3.new w4 ⟨2, 2, 82⟩)
  have hA : Chg NoBlk w4 (w4.alloc (.cells #[.int .i64 2, .int .i64 2, .int .i64 82] 23)) := (Chg.refl _ _).alloc _
  have HC6 := Lib.hid (HC5.out.chg hA (fun h => h))
  have HBC := Lib.hid (HB4.out.alloc (by omega) (.cells #[.int .i64 2, .int .i64 2, .int .i64 82] 23))
  have hk := keeper_ok 2 5 (w4.alloc (.cells #[.int .i64 2, .int .i64 2, .int .i64 82] 23)) (by omega) (by decide)
  have HK := Lib.hid hk
  clear hk hd4 hch4 hA
  go_wp2_with fail
  refine HK.out.mono ?_
  clear HK
  rintro e w5 ⟨rfl, hk5, hb5⟩
  have HB5 : Hid (Below N w w5) := Lib.hid (HBC.out.trans (hb5.mono (by simp; omega)))
  have HC7 := Lib.hid (HC6.out.chg (Chg.of_below (S := NoBlk) hb5) (fun h => h))
  have HD7 := Lib.hid (HD5.out.chg (Chg.of_below (S := NoBlk) hb5) (fun h => h))
  have e0 : (w4.alloc (.cells #[.int .i64 2, .int .i64 2, .int .i64 82] 23)).heap.size = w4.heap.size + 1 := by simp
  rw [e0] at hk5
  have HK5 := Lib.hid hk5
  have hsz5 : N < w5.heap.size := by have := hk5.lt; omega
  have l1 := lost_any (w4.heap.size + 1) 2 _ 0 28 w5 hk5
  rw [show (hasS 2 0 && decide ((firsts 2 (5 + 24)).getD (0 : Int).toNat 0 ≤ 28)) = false from by decide] at l1
  have l2 := lost_any (w4.heap.size + 1) 2 _ 0 29 w5 hk5
  rw [show (hasS 2 0 && decide ((firsts 2 (5 + 24)).getD (0 : Int).toNat 0 ≤ 29)) = true from by decide] at l2
  have l3 := grant_ok (w4.heap.size + 1) 2 0 _ 10 w5 hk5 (by omega) (by decide)
  have L1 := Lib.hid l1
  have L2 := Lib.hid l2
  have L3 := Lib.hid l3
  clear l1 l2 l3 hk5 hb5 e0
  go_wp2_with fail
  refine L1.out.mono ?_
  rintro e w' ⟨rfl, rfl⟩
  go_wp2_with fail
  refine L2.out.mono ?_
  rintro e w' ⟨rfl, rfl⟩
  go_wp2_with fail
  refine L3.out.mono ?_
  rintro e w6 ⟨rfl, hk6, hch6⟩
  have l4 := lost_any (w4.heap.size + 1) 2 _ 0 33 w6 hk6
  rw [show (hasS 2 0 && decide (((firsts 2 (5 + 24)).set 0 (max ((firsts 2 (5 + 24)).getD 0 0) (10 + 24))).getD (0 : Int).toNat 0 ≤ 33)) = false from by decide] at l4
  have L4 := Lib.hid l4
  have HB6 : Hid (Below N w w6) := Lib.hid (HB5.out.trans (hch6.below (by omega) (fun k hk e => by omega)))
  obtain ⟨_, p0, p1, p2⟩ := HC7.out.chg hch6 (by have := HC5.out.1; omega)
  obtain ⟨_, q0, q1, q2⟩ := HD7.out.chg hch6 (by omega)
  clear l4 hk6 hch6 L1 L2 L3
  go_wp2_with fail
  refine L4.out.mono ?_
  rintro e w' ⟨rfl, rfl⟩
  go_wp2_with fail
  go_ret
  exact ⟨rfl, by rw [← HN.out]; exact HB6.out⟩
end Go.Proofs.Ytcpaimgenfbidaa
