/- The document's bytes of a message. -/
import Derived.Test.YtkenaoejijpgpaaDoorRInts
import Derived.Test.YtkenaoejijpgpaaDoorPack
import Derived.Test.YtkenaoejijpgpaaDoorChT
import Derived.Test.YtkenaoejijpgpaaDoorHeldW
namespace Go.Proofs.YtkenaoejijpgpaaDoor
open Go.RowKit

/-- What Body answers. -/
def BodyTo (v : Nat → Int) (t : List UInt8) (w : World) (e : Ending) (w' : World) : Prop :=
  ∃ A2 c2 m, e = .returned (.slice A2 m c2) ∧ m = (bodyV v t).length ∧ w'.ownsRow w.heap.size 5 1 (.slice A2 m c2) m (cells8 (bodyV v t)) ∧ Below w.heap.size w w'
theorem cellsIn_new {w w1 : World} {cs : Array Value} {e : TypeId} (m : Nat) (hw : w1 = w.alloc (.cells cs e)) (h : cs.size = m * 1) : CellsIn w1 w1.heap.size 1 (some ⟨w.heap.size, 0, none⟩) m cs.toList := by
  have h1 := cellsIn_alloc w cs e (0, 0) 1 m h
  rw [← hw] at h1
  have h2 : w1.heap.size = w.heap.size + 1 := by rw [hw]; simp
  rw [h2]
  exact h1

set_option maxRecDepth 100000 in
set_option maxHeartbeats 2000000 in
theorem rbody_1 (v : Nat → Int) (A : Option Addr) (n c : Nat) (t : List UInt8) (w : World) (hb : BytesIn w w.heap.size A c t) (hn : n = t.length) (hok : OkM v n) (hk : v 0 = 1) :
    Calls Tryd.prog 40 #[.agg #[.int .i64 (v 0), .int .i64 (v 1), .int .i64 (v 2), .int .i64 (v 3), .int .i64 (v 4), .int .i64 (v 5), .int .i64 (v 6), .int .i64 (v 7), .int .i64 (v 8), .int .i64 (v 9), .int .i64 (v 10), .int .i64 (v 11), .int .i64 (v 12), .int .i64 (v 13), .int .i64 (v 14), .int .i64 (v 15), .int .i64 (v 16), .slice A n c, .int .i64 (v 18), .int .i64 (v 19), .int .i64 (v 20)]] w fun e w' => BodyTo v t w e w' := by
  have hin := okM_nums hok
  have hlen : (numsK v) = [1, v 2, v 3] := by unfold numsK; rw [hk, flK_1]; rfl
  have hbv : bodyV v t = vrow [1, v 2, v 3] := by unfold bodyV; rw [hlen, hk]; simp
  rw [hlen] at hin
  obtain ⟨S, hS⟩ : ∃ S, S = w.heap.size := ⟨_, rfl⟩
  obtain ⟨w0, hw0⟩ : ∃ y, y = w.alloc (.cells #[.int .i64 (v 0), .int .i64 (v 1), .int .i64 (v 2), .int .i64 (v 3), .int .i64 (v 4), .int .i64 (v 5), .int .i64 (v 6), .int .i64 (v 7), .int .i64 (v 8), .int .i64 (v 9), .int .i64 (v 10), .int .i64 (v 11), .int .i64 (v 12), .int .i64 (v 13), .int .i64 (v 14), .int .i64 (v 15), .int .i64 (v 16), .slice A n c, .int .i64 (v 18), .int .i64 (v 19), .int .i64 (v 20)] 29) := ⟨_, rfl⟩
  have hal : Below w.heap.size w w0 := by rw [hw0]; exact (Below.refl w.heap.size w).alloc (Nat.le_refl _) _
  have hm : MAt w0 S v A n c := by rw [hw0, hS]; exact heap_alloc_new w _
  have HM := Lib.hid hm
  unfold BodyTo
  rw [hbv]
  rw [← hS] at hal hb ⊢
  have HB0 := Lib.hid hal
  have HT := Lib.hid (hb.below hal (Nat.le_refl _))
  have HW0 := Lib.hid hw0
  have HSW := Lib.hid hS
  have hs0 : S < w0.heap.size := ltb hm
  have HIN := Lib.hid hin
  have HN := Lib.hid hn
  have hmx := okM_len hok
  have c0 : w0.cell? ⟨S, 0, none⟩ = some (.int .i64 1) := by rw [← hk]; exact cellb (i := 0) hm rfl
  clear hw0 hal hm hb hn hS hin hlen hbv hok hk
  go_enter Tryd.func40, Tryd.ntmps40
  go_upto_region 1 with fail
  rw [← HSW.out, ← HW0.out]
  clear HW0 HSW
  have c2 := cellb (i := 2) HM.out rfl
  have c3 := cellb (i := 3) HM.out rfl
  go_wp2_with fail
  clear c0 c2 c3
  obtain ⟨w1, hw1⟩ : ∃ y, y = w0.alloc (.cells #[.int .i64 1, .int .i64 (v 2), .int .i64 (v 3)] 3) := ⟨_, rfl⟩
  rw [← hw1]
  have hal : Below w0.heap.size w0 w1 := by rw [hw1]; exact (Below.refl _ _).alloc (Nat.le_refl _) _
  have hci : CellsIn w1 w1.heap.size 1 (some ⟨w0.heap.size, 0, none⟩) 3 (intsV [1, v 2, v 3]) := cellsIn_new (cs := #[.int .i64 1, .int .i64 (v 2), .int .i64 (v 3)]) 3 hw1 rfl
  have HC := Lib.hid hci
  have HB1 := Lib.hid (HB0.out.trans (hal.mono (Nat.le_of_lt hs0)))
  have hs1 : S ≤ w1.heap.size := Nat.le_trans (Nat.le_of_lt hs0) hal.size
  clear hw1 hal hci
  refine (ints_any _ 3 3 w1.heap.size _ w1 HC.out (Nat.le_refl _) rfl HIN.out (by omega)).mono ?_
  rintro e w2 ⟨A2, c2, m, rfl, hm, ho, hb⟩
  have HO2 := Lib.hid (own_low ho hs1)
  have HB2 := Lib.hid (HB1.out.trans (hb.mono hs1))
  have HM2 := Lib.hid hm
  clear ho hb hm HC
  go_wp2_with fail
  go_ret
  exact ⟨A2, c2, m, rfl, HM2.out, HO2.out, HB2.out⟩
set_option maxRecDepth 100000 in
set_option maxHeartbeats 2000000 in
theorem rbody_2 (v : Nat → Int) (A : Option Addr) (n c : Nat) (t : List UInt8) (w : World) (hb : BytesIn w w.heap.size A c t) (hn : n = t.length) (hok : OkM v n) (hk : v 0 = 2) :
    Calls Tryd.prog 40 #[.agg #[.int .i64 (v 0), .int .i64 (v 1), .int .i64 (v 2), .int .i64 (v 3), .int .i64 (v 4), .int .i64 (v 5), .int .i64 (v 6), .int .i64 (v 7), .int .i64 (v 8), .int .i64 (v 9), .int .i64 (v 10), .int .i64 (v 11), .int .i64 (v 12), .int .i64 (v 13), .int .i64 (v 14), .int .i64 (v 15), .int .i64 (v 16), .slice A n c, .int .i64 (v 18), .int .i64 (v 19), .int .i64 (v 20)]] w fun e w' => BodyTo v t w e w' := by
  have hin := okM_nums hok
  have hlen : (numsK v) = [2, v 1, v 2, v 4, v 5] := by unfold numsK; rw [hk, flK_2]; rfl
  have hbv : bodyV v t = vrow [2, v 1, v 2, v 4, v 5] := by unfold bodyV; rw [hlen, hk]; simp
  rw [hlen] at hin
  obtain ⟨S, hS⟩ : ∃ S, S = w.heap.size := ⟨_, rfl⟩
  obtain ⟨w0, hw0⟩ : ∃ y, y = w.alloc (.cells #[.int .i64 (v 0), .int .i64 (v 1), .int .i64 (v 2), .int .i64 (v 3), .int .i64 (v 4), .int .i64 (v 5), .int .i64 (v 6), .int .i64 (v 7), .int .i64 (v 8), .int .i64 (v 9), .int .i64 (v 10), .int .i64 (v 11), .int .i64 (v 12), .int .i64 (v 13), .int .i64 (v 14), .int .i64 (v 15), .int .i64 (v 16), .slice A n c, .int .i64 (v 18), .int .i64 (v 19), .int .i64 (v 20)] 29) := ⟨_, rfl⟩
  have hal : Below w.heap.size w w0 := by rw [hw0]; exact (Below.refl w.heap.size w).alloc (Nat.le_refl _) _
  have hm : MAt w0 S v A n c := by rw [hw0, hS]; exact heap_alloc_new w _
  have HM := Lib.hid hm
  unfold BodyTo
  rw [hbv]
  rw [← hS] at hal hb ⊢
  have HB0 := Lib.hid hal
  have HT := Lib.hid (hb.below hal (Nat.le_refl _))
  have HW0 := Lib.hid hw0
  have HSW := Lib.hid hS
  have hs0 : S < w0.heap.size := ltb hm
  have HIN := Lib.hid hin
  have HN := Lib.hid hn
  have hmx := okM_len hok
  have c0 : w0.cell? ⟨S, 0, none⟩ = some (.int .i64 2) := by rw [← hk]; exact cellb (i := 0) hm rfl
  clear hw0 hal hm hb hn hS hin hlen hbv hok hk
  go_enter Tryd.func40, Tryd.ntmps40
  go_upto_region 1 with fail
  rw [← HSW.out, ← HW0.out]
  clear HW0 HSW
  have c1 := cellb (i := 1) HM.out rfl
  have c2 := cellb (i := 2) HM.out rfl
  have c4 := cellb (i := 4) HM.out rfl
  have c5 := cellb (i := 5) HM.out rfl
  go_wp2_with fail
  clear c0 c1 c2 c4 c5
  obtain ⟨w1, hw1⟩ : ∃ y, y = w0.alloc (.cells #[.int .i64 2, .int .i64 (v 1), .int .i64 (v 2), .int .i64 (v 4), .int .i64 (v 5)] 3) := ⟨_, rfl⟩
  rw [← hw1]
  have hal : Below w0.heap.size w0 w1 := by rw [hw1]; exact (Below.refl _ _).alloc (Nat.le_refl _) _
  have hci : CellsIn w1 w1.heap.size 1 (some ⟨w0.heap.size, 0, none⟩) 5 (intsV [2, v 1, v 2, v 4, v 5]) := cellsIn_new (cs := #[.int .i64 2, .int .i64 (v 1), .int .i64 (v 2), .int .i64 (v 4), .int .i64 (v 5)]) 5 hw1 rfl
  have HC := Lib.hid hci
  have HB1 := Lib.hid (HB0.out.trans (hal.mono (Nat.le_of_lt hs0)))
  have hs1 : S ≤ w1.heap.size := Nat.le_trans (Nat.le_of_lt hs0) hal.size
  clear hw1 hal hci
  refine (ints_any _ 5 5 w1.heap.size _ w1 HC.out (Nat.le_refl _) rfl HIN.out (by omega)).mono ?_
  rintro e w2 ⟨A2, c2, m, rfl, hm, ho, hb⟩
  have HO2 := Lib.hid (own_low ho hs1)
  have HB2 := Lib.hid (HB1.out.trans (hb.mono hs1))
  have HM2 := Lib.hid hm
  clear ho hb hm HC
  go_wp2_with fail
  go_ret
  exact ⟨A2, c2, m, rfl, HM2.out, HO2.out, HB2.out⟩
set_option maxRecDepth 100000 in
set_option maxHeartbeats 2000000 in
theorem rbody_3 (v : Nat → Int) (A : Option Addr) (n c : Nat) (t : List UInt8) (w : World) (hb : BytesIn w w.heap.size A c t) (hn : n = t.length) (hok : OkM v n) (hk : v 0 = 3) :
    Calls Tryd.prog 40 #[.agg #[.int .i64 (v 0), .int .i64 (v 1), .int .i64 (v 2), .int .i64 (v 3), .int .i64 (v 4), .int .i64 (v 5), .int .i64 (v 6), .int .i64 (v 7), .int .i64 (v 8), .int .i64 (v 9), .int .i64 (v 10), .int .i64 (v 11), .int .i64 (v 12), .int .i64 (v 13), .int .i64 (v 14), .int .i64 (v 15), .int .i64 (v 16), .slice A n c, .int .i64 (v 18), .int .i64 (v 19), .int .i64 (v 20)]] w fun e w' => BodyTo v t w e w' := by
  have hin := okM_nums hok
  have hlen : (numsK v) = [3, v 1, v 2, v 6, v 7, v 8, v 9, v 11, v 12, v 13, v 14] := by unfold numsK; rw [hk, flK_3]; rfl
  have hbv : bodyV v t = vrow [3, v 1, v 2, v 6, v 7, v 8, v 9, v 11, v 12, v 13, v 14] := by unfold bodyV; rw [hlen, hk]; simp
  rw [hlen] at hin
  obtain ⟨S, hS⟩ : ∃ S, S = w.heap.size := ⟨_, rfl⟩
  obtain ⟨w0, hw0⟩ : ∃ y, y = w.alloc (.cells #[.int .i64 (v 0), .int .i64 (v 1), .int .i64 (v 2), .int .i64 (v 3), .int .i64 (v 4), .int .i64 (v 5), .int .i64 (v 6), .int .i64 (v 7), .int .i64 (v 8), .int .i64 (v 9), .int .i64 (v 10), .int .i64 (v 11), .int .i64 (v 12), .int .i64 (v 13), .int .i64 (v 14), .int .i64 (v 15), .int .i64 (v 16), .slice A n c, .int .i64 (v 18), .int .i64 (v 19), .int .i64 (v 20)] 29) := ⟨_, rfl⟩
  have hal : Below w.heap.size w w0 := by rw [hw0]; exact (Below.refl w.heap.size w).alloc (Nat.le_refl _) _
  have hm : MAt w0 S v A n c := by rw [hw0, hS]; exact heap_alloc_new w _
  have HM := Lib.hid hm
  unfold BodyTo
  rw [hbv]
  rw [← hS] at hal hb ⊢
  have HB0 := Lib.hid hal
  have HT := Lib.hid (hb.below hal (Nat.le_refl _))
  have HW0 := Lib.hid hw0
  have HSW := Lib.hid hS
  have hs0 : S < w0.heap.size := ltb hm
  have HIN := Lib.hid hin
  have HN := Lib.hid hn
  have hmx := okM_len hok
  have c0 : w0.cell? ⟨S, 0, none⟩ = some (.int .i64 3) := by rw [← hk]; exact cellb (i := 0) hm rfl
  clear hw0 hal hm hb hn hS hin hlen hbv hok hk
  go_enter Tryd.func40, Tryd.ntmps40
  go_upto_region 1 with fail
  rw [← HSW.out, ← HW0.out]
  clear HW0 HSW
  have c1 := cellb (i := 1) HM.out rfl
  have c2 := cellb (i := 2) HM.out rfl
  have c6 := cellb (i := 6) HM.out rfl
  have c7 := cellb (i := 7) HM.out rfl
  have c8 := cellb (i := 8) HM.out rfl
  have c9 := cellb (i := 9) HM.out rfl
  have c11 := cellb (i := 11) HM.out rfl
  have c12 := cellb (i := 12) HM.out rfl
  have c13 := cellb (i := 13) HM.out rfl
  have c14 := cellb (i := 14) HM.out rfl
  go_wp2_with fail
  clear c0 c1 c2 c6 c7 c8 c9 c11 c12 c13 c14
  obtain ⟨w1, hw1⟩ : ∃ y, y = w0.alloc (.cells #[.int .i64 3, .int .i64 (v 1), .int .i64 (v 2), .int .i64 (v 6), .int .i64 (v 7), .int .i64 (v 8), .int .i64 (v 9), .int .i64 (v 11), .int .i64 (v 12), .int .i64 (v 13), .int .i64 (v 14)] 3) := ⟨_, rfl⟩
  rw [← hw1]
  have hal : Below w0.heap.size w0 w1 := by rw [hw1]; exact (Below.refl _ _).alloc (Nat.le_refl _) _
  have hci : CellsIn w1 w1.heap.size 1 (some ⟨w0.heap.size, 0, none⟩) 11 (intsV [3, v 1, v 2, v 6, v 7, v 8, v 9, v 11, v 12, v 13, v 14]) := cellsIn_new (cs := #[.int .i64 3, .int .i64 (v 1), .int .i64 (v 2), .int .i64 (v 6), .int .i64 (v 7), .int .i64 (v 8), .int .i64 (v 9), .int .i64 (v 11), .int .i64 (v 12), .int .i64 (v 13), .int .i64 (v 14)]) 11 hw1 rfl
  have HC := Lib.hid hci
  have HB1 := Lib.hid (HB0.out.trans (hal.mono (Nat.le_of_lt hs0)))
  have hs1 : S ≤ w1.heap.size := Nat.le_trans (Nat.le_of_lt hs0) hal.size
  clear hw1 hal hci
  refine (ints_any _ 11 11 w1.heap.size _ w1 HC.out (Nat.le_refl _) rfl HIN.out (by omega)).mono ?_
  rintro e w2 ⟨A2, c2, m, rfl, hm, ho, hb⟩
  have HO2 := Lib.hid (own_low ho hs1)
  have HB2 := Lib.hid (HB1.out.trans (hb.mono hs1))
  have HM2 := Lib.hid hm
  clear ho hb hm HC
  go_wp2_with fail
  go_ret
  exact ⟨A2, c2, m, rfl, HM2.out, HO2.out, HB2.out⟩
set_option maxRecDepth 100000 in
set_option maxHeartbeats 2000000 in
theorem rbody_4 (v : Nat → Int) (A : Option Addr) (n c : Nat) (t : List UInt8) (w : World) (hb : BytesIn w w.heap.size A c t) (hn : n = t.length) (hok : OkM v n) (hk : v 0 = 4) :
    Calls Tryd.prog 40 #[.agg #[.int .i64 (v 0), .int .i64 (v 1), .int .i64 (v 2), .int .i64 (v 3), .int .i64 (v 4), .int .i64 (v 5), .int .i64 (v 6), .int .i64 (v 7), .int .i64 (v 8), .int .i64 (v 9), .int .i64 (v 10), .int .i64 (v 11), .int .i64 (v 12), .int .i64 (v 13), .int .i64 (v 14), .int .i64 (v 15), .int .i64 (v 16), .slice A n c, .int .i64 (v 18), .int .i64 (v 19), .int .i64 (v 20)]] w fun e w' => BodyTo v t w e w' := by
  have hin := okM_nums hok
  have hlen : (numsK v) = [4, v 1, v 2, v 6, v 7] := by unfold numsK; rw [hk, flK_4]; rfl
  have hbv : bodyV v t = vrow [4, v 1, v 2, v 6, v 7] := by unfold bodyV; rw [hlen, hk]; simp
  rw [hlen] at hin
  obtain ⟨S, hS⟩ : ∃ S, S = w.heap.size := ⟨_, rfl⟩
  obtain ⟨w0, hw0⟩ : ∃ y, y = w.alloc (.cells #[.int .i64 (v 0), .int .i64 (v 1), .int .i64 (v 2), .int .i64 (v 3), .int .i64 (v 4), .int .i64 (v 5), .int .i64 (v 6), .int .i64 (v 7), .int .i64 (v 8), .int .i64 (v 9), .int .i64 (v 10), .int .i64 (v 11), .int .i64 (v 12), .int .i64 (v 13), .int .i64 (v 14), .int .i64 (v 15), .int .i64 (v 16), .slice A n c, .int .i64 (v 18), .int .i64 (v 19), .int .i64 (v 20)] 29) := ⟨_, rfl⟩
  have hal : Below w.heap.size w w0 := by rw [hw0]; exact (Below.refl w.heap.size w).alloc (Nat.le_refl _) _
  have hm : MAt w0 S v A n c := by rw [hw0, hS]; exact heap_alloc_new w _
  have HM := Lib.hid hm
  unfold BodyTo
  rw [hbv]
  rw [← hS] at hal hb ⊢
  have HB0 := Lib.hid hal
  have HT := Lib.hid (hb.below hal (Nat.le_refl _))
  have HW0 := Lib.hid hw0
  have HSW := Lib.hid hS
  have hs0 : S < w0.heap.size := ltb hm
  have HIN := Lib.hid hin
  have HN := Lib.hid hn
  have hmx := okM_len hok
  have c0 : w0.cell? ⟨S, 0, none⟩ = some (.int .i64 4) := by rw [← hk]; exact cellb (i := 0) hm rfl
  clear hw0 hal hm hb hn hS hin hlen hbv hok hk
  go_enter Tryd.func40, Tryd.ntmps40
  go_upto_region 1 with fail
  rw [← HSW.out, ← HW0.out]
  clear HW0 HSW
  have c1 := cellb (i := 1) HM.out rfl
  have c2 := cellb (i := 2) HM.out rfl
  have c6 := cellb (i := 6) HM.out rfl
  have c7 := cellb (i := 7) HM.out rfl
  go_wp2_with fail
  clear c0 c1 c2 c6 c7
  obtain ⟨w1, hw1⟩ : ∃ y, y = w0.alloc (.cells #[.int .i64 4, .int .i64 (v 1), .int .i64 (v 2), .int .i64 (v 6), .int .i64 (v 7)] 3) := ⟨_, rfl⟩
  rw [← hw1]
  have hal : Below w0.heap.size w0 w1 := by rw [hw1]; exact (Below.refl _ _).alloc (Nat.le_refl _) _
  have hci : CellsIn w1 w1.heap.size 1 (some ⟨w0.heap.size, 0, none⟩) 5 (intsV [4, v 1, v 2, v 6, v 7]) := cellsIn_new (cs := #[.int .i64 4, .int .i64 (v 1), .int .i64 (v 2), .int .i64 (v 6), .int .i64 (v 7)]) 5 hw1 rfl
  have HC := Lib.hid hci
  have HB1 := Lib.hid (HB0.out.trans (hal.mono (Nat.le_of_lt hs0)))
  have hs1 : S ≤ w1.heap.size := Nat.le_trans (Nat.le_of_lt hs0) hal.size
  clear hw1 hal hci
  refine (ints_any _ 5 5 w1.heap.size _ w1 HC.out (Nat.le_refl _) rfl HIN.out (by omega)).mono ?_
  rintro e w2 ⟨A2, c2, m, rfl, hm, ho, hb⟩
  have HO2 := Lib.hid (own_low ho hs1)
  have HB2 := Lib.hid (HB1.out.trans (hb.mono hs1))
  have HM2 := Lib.hid hm
  clear ho hb hm HC
  go_wp2_with fail
  go_ret
  exact ⟨A2, c2, m, rfl, HM2.out, HO2.out, HB2.out⟩
set_option maxRecDepth 100000 in
set_option maxHeartbeats 2000000 in
theorem rbody_5 (v : Nat → Int) (A : Option Addr) (n c : Nat) (t : List UInt8) (w : World) (hb : BytesIn w w.heap.size A c t) (hn : n = t.length) (hok : OkM v n) (hk : v 0 = 5) :
    Calls Tryd.prog 40 #[.agg #[.int .i64 (v 0), .int .i64 (v 1), .int .i64 (v 2), .int .i64 (v 3), .int .i64 (v 4), .int .i64 (v 5), .int .i64 (v 6), .int .i64 (v 7), .int .i64 (v 8), .int .i64 (v 9), .int .i64 (v 10), .int .i64 (v 11), .int .i64 (v 12), .int .i64 (v 13), .int .i64 (v 14), .int .i64 (v 15), .int .i64 (v 16), .slice A n c, .int .i64 (v 18), .int .i64 (v 19), .int .i64 (v 20)]] w fun e w' => BodyTo v t w e w' := by
  have hin := okM_nums hok
  have hlen : (numsK v) = [5, v 2, v 6, v 7, v 10] := by unfold numsK; rw [hk, flK_5]; rfl
  have hbv : bodyV v t = vrow [5, v 2, v 6, v 7, v 10] := by unfold bodyV; rw [hlen, hk]; simp
  rw [hlen] at hin
  obtain ⟨S, hS⟩ : ∃ S, S = w.heap.size := ⟨_, rfl⟩
  obtain ⟨w0, hw0⟩ : ∃ y, y = w.alloc (.cells #[.int .i64 (v 0), .int .i64 (v 1), .int .i64 (v 2), .int .i64 (v 3), .int .i64 (v 4), .int .i64 (v 5), .int .i64 (v 6), .int .i64 (v 7), .int .i64 (v 8), .int .i64 (v 9), .int .i64 (v 10), .int .i64 (v 11), .int .i64 (v 12), .int .i64 (v 13), .int .i64 (v 14), .int .i64 (v 15), .int .i64 (v 16), .slice A n c, .int .i64 (v 18), .int .i64 (v 19), .int .i64 (v 20)] 29) := ⟨_, rfl⟩
  have hal : Below w.heap.size w w0 := by rw [hw0]; exact (Below.refl w.heap.size w).alloc (Nat.le_refl _) _
  have hm : MAt w0 S v A n c := by rw [hw0, hS]; exact heap_alloc_new w _
  have HM := Lib.hid hm
  unfold BodyTo
  rw [hbv]
  rw [← hS] at hal hb ⊢
  have HB0 := Lib.hid hal
  have HT := Lib.hid (hb.below hal (Nat.le_refl _))
  have HW0 := Lib.hid hw0
  have HSW := Lib.hid hS
  have hs0 : S < w0.heap.size := ltb hm
  have HIN := Lib.hid hin
  have HN := Lib.hid hn
  have hmx := okM_len hok
  have c0 : w0.cell? ⟨S, 0, none⟩ = some (.int .i64 5) := by rw [← hk]; exact cellb (i := 0) hm rfl
  clear hw0 hal hm hb hn hS hin hlen hbv hok hk
  go_enter Tryd.func40, Tryd.ntmps40
  go_upto_region 1 with fail
  rw [← HSW.out, ← HW0.out]
  clear HW0 HSW
  have c2 := cellb (i := 2) HM.out rfl
  have c6 := cellb (i := 6) HM.out rfl
  have c7 := cellb (i := 7) HM.out rfl
  have c10 := cellb (i := 10) HM.out rfl
  go_wp2_with fail
  clear c0 c2 c6 c7 c10
  obtain ⟨w1, hw1⟩ : ∃ y, y = w0.alloc (.cells #[.int .i64 5, .int .i64 (v 2), .int .i64 (v 6), .int .i64 (v 7), .int .i64 (v 10)] 3) := ⟨_, rfl⟩
  rw [← hw1]
  have hal : Below w0.heap.size w0 w1 := by rw [hw1]; exact (Below.refl _ _).alloc (Nat.le_refl _) _
  have hci : CellsIn w1 w1.heap.size 1 (some ⟨w0.heap.size, 0, none⟩) 5 (intsV [5, v 2, v 6, v 7, v 10]) := cellsIn_new (cs := #[.int .i64 5, .int .i64 (v 2), .int .i64 (v 6), .int .i64 (v 7), .int .i64 (v 10)]) 5 hw1 rfl
  have HC := Lib.hid hci
  have HB1 := Lib.hid (HB0.out.trans (hal.mono (Nat.le_of_lt hs0)))
  have hs1 : S ≤ w1.heap.size := Nat.le_trans (Nat.le_of_lt hs0) hal.size
  clear hw1 hal hci
  refine (ints_any _ 5 5 w1.heap.size _ w1 HC.out (Nat.le_refl _) rfl HIN.out (by omega)).mono ?_
  rintro e w2 ⟨A2, c2, m, rfl, hm, ho, hb⟩
  have HO2 := Lib.hid (own_low ho hs1)
  have HB2 := Lib.hid (HB1.out.trans (hb.mono hs1))
  have HM2 := Lib.hid hm
  clear ho hb hm HC
  go_wp2_with fail
  go_ret
  exact ⟨A2, c2, m, rfl, HM2.out, HO2.out, HB2.out⟩
set_option maxRecDepth 100000 in
set_option maxHeartbeats 2000000 in
theorem rbody_6 (v : Nat → Int) (A : Option Addr) (n c : Nat) (t : List UInt8) (w : World) (hb : BytesIn w w.heap.size A c t) (hn : n = t.length) (hok : OkM v n) (hk : v 0 = 6) :
    Calls Tryd.prog 40 #[.agg #[.int .i64 (v 0), .int .i64 (v 1), .int .i64 (v 2), .int .i64 (v 3), .int .i64 (v 4), .int .i64 (v 5), .int .i64 (v 6), .int .i64 (v 7), .int .i64 (v 8), .int .i64 (v 9), .int .i64 (v 10), .int .i64 (v 11), .int .i64 (v 12), .int .i64 (v 13), .int .i64 (v 14), .int .i64 (v 15), .int .i64 (v 16), .slice A n c, .int .i64 (v 18), .int .i64 (v 19), .int .i64 (v 20)]] w fun e w' => BodyTo v t w e w' := by
  have hin := okM_nums hok
  have hlen : (numsK v) = [6, v 1, v 2, v 6, v 7] := by unfold numsK; rw [hk, flK_6]; rfl
  have hbv : bodyV v t = vrow [6, v 1, v 2, v 6, v 7] := by unfold bodyV; rw [hlen, hk]; simp
  rw [hlen] at hin
  obtain ⟨S, hS⟩ : ∃ S, S = w.heap.size := ⟨_, rfl⟩
  obtain ⟨w0, hw0⟩ : ∃ y, y = w.alloc (.cells #[.int .i64 (v 0), .int .i64 (v 1), .int .i64 (v 2), .int .i64 (v 3), .int .i64 (v 4), .int .i64 (v 5), .int .i64 (v 6), .int .i64 (v 7), .int .i64 (v 8), .int .i64 (v 9), .int .i64 (v 10), .int .i64 (v 11), .int .i64 (v 12), .int .i64 (v 13), .int .i64 (v 14), .int .i64 (v 15), .int .i64 (v 16), .slice A n c, .int .i64 (v 18), .int .i64 (v 19), .int .i64 (v 20)] 29) := ⟨_, rfl⟩
  have hal : Below w.heap.size w w0 := by rw [hw0]; exact (Below.refl w.heap.size w).alloc (Nat.le_refl _) _
  have hm : MAt w0 S v A n c := by rw [hw0, hS]; exact heap_alloc_new w _
  have HM := Lib.hid hm
  unfold BodyTo
  rw [hbv]
  rw [← hS] at hal hb ⊢
  have HB0 := Lib.hid hal
  have HT := Lib.hid (hb.below hal (Nat.le_refl _))
  have HW0 := Lib.hid hw0
  have HSW := Lib.hid hS
  have hs0 : S < w0.heap.size := ltb hm
  have HIN := Lib.hid hin
  have HN := Lib.hid hn
  have hmx := okM_len hok
  have c0 : w0.cell? ⟨S, 0, none⟩ = some (.int .i64 6) := by rw [← hk]; exact cellb (i := 0) hm rfl
  clear hw0 hal hm hb hn hS hin hlen hbv hok hk
  go_enter Tryd.func40, Tryd.ntmps40
  go_upto_region 1 with fail
  rw [← HSW.out, ← HW0.out]
  clear HW0 HSW
  have c1 := cellb (i := 1) HM.out rfl
  have c2 := cellb (i := 2) HM.out rfl
  have c6 := cellb (i := 6) HM.out rfl
  have c7 := cellb (i := 7) HM.out rfl
  go_wp2_with fail
  clear c0 c1 c2 c6 c7
  obtain ⟨w1, hw1⟩ : ∃ y, y = w0.alloc (.cells #[.int .i64 6, .int .i64 (v 1), .int .i64 (v 2), .int .i64 (v 6), .int .i64 (v 7)] 3) := ⟨_, rfl⟩
  rw [← hw1]
  have hal : Below w0.heap.size w0 w1 := by rw [hw1]; exact (Below.refl _ _).alloc (Nat.le_refl _) _
  have hci : CellsIn w1 w1.heap.size 1 (some ⟨w0.heap.size, 0, none⟩) 5 (intsV [6, v 1, v 2, v 6, v 7]) := cellsIn_new (cs := #[.int .i64 6, .int .i64 (v 1), .int .i64 (v 2), .int .i64 (v 6), .int .i64 (v 7)]) 5 hw1 rfl
  have HC := Lib.hid hci
  have HB1 := Lib.hid (HB0.out.trans (hal.mono (Nat.le_of_lt hs0)))
  have hs1 : S ≤ w1.heap.size := Nat.le_trans (Nat.le_of_lt hs0) hal.size
  clear hw1 hal hci
  refine (ints_any _ 5 5 w1.heap.size _ w1 HC.out (Nat.le_refl _) rfl HIN.out (by omega)).mono ?_
  rintro e w2 ⟨A2, c2, m, rfl, hm, ho, hb⟩
  have HO2 := Lib.hid (own_low ho hs1)
  have HB2 := Lib.hid (HB1.out.trans (hb.mono hs1))
  have HM2 := Lib.hid hm
  clear ho hb hm HC
  go_wp2_with fail
  go_ret
  exact ⟨A2, c2, m, rfl, HM2.out, HO2.out, HB2.out⟩
set_option maxRecDepth 100000 in
set_option maxHeartbeats 2000000 in
theorem rbody_7 (v : Nat → Int) (A : Option Addr) (n c : Nat) (t : List UInt8) (w : World) (hb : BytesIn w w.heap.size A c t) (hn : n = t.length) (hok : OkM v n) (hk : v 0 = 7) :
    Calls Tryd.prog 40 #[.agg #[.int .i64 (v 0), .int .i64 (v 1), .int .i64 (v 2), .int .i64 (v 3), .int .i64 (v 4), .int .i64 (v 5), .int .i64 (v 6), .int .i64 (v 7), .int .i64 (v 8), .int .i64 (v 9), .int .i64 (v 10), .int .i64 (v 11), .int .i64 (v 12), .int .i64 (v 13), .int .i64 (v 14), .int .i64 (v 15), .int .i64 (v 16), .slice A n c, .int .i64 (v 18), .int .i64 (v 19), .int .i64 (v 20)]] w fun e w' => BodyTo v t w e w' := by
  have hin := okM_nums hok
  have hlen : (numsK v) = [7, v 1, v 15, v 16] := by unfold numsK; rw [hk, flK_7]; rfl
  have hbv : bodyV v t = vrow [7, v 1, v 15, v 16] ++ vtext t := by unfold bodyV; rw [hlen, hk]; simp
  rw [hlen] at hin
  obtain ⟨S, hS⟩ : ∃ S, S = w.heap.size := ⟨_, rfl⟩
  obtain ⟨w0, hw0⟩ : ∃ y, y = w.alloc (.cells #[.int .i64 (v 0), .int .i64 (v 1), .int .i64 (v 2), .int .i64 (v 3), .int .i64 (v 4), .int .i64 (v 5), .int .i64 (v 6), .int .i64 (v 7), .int .i64 (v 8), .int .i64 (v 9), .int .i64 (v 10), .int .i64 (v 11), .int .i64 (v 12), .int .i64 (v 13), .int .i64 (v 14), .int .i64 (v 15), .int .i64 (v 16), .slice A n c, .int .i64 (v 18), .int .i64 (v 19), .int .i64 (v 20)] 29) := ⟨_, rfl⟩
  have hal : Below w.heap.size w w0 := by rw [hw0]; exact (Below.refl w.heap.size w).alloc (Nat.le_refl _) _
  have hm : MAt w0 S v A n c := by rw [hw0, hS]; exact heap_alloc_new w _
  have HM := Lib.hid hm
  unfold BodyTo
  rw [hbv]
  rw [← hS] at hal hb ⊢
  have HB0 := Lib.hid hal
  have HT := Lib.hid (hb.below hal (Nat.le_refl _))
  have HW0 := Lib.hid hw0
  have HSW := Lib.hid hS
  have hs0 : S < w0.heap.size := ltb hm
  have HIN := Lib.hid hin
  have HN := Lib.hid hn
  have hmx := okM_len hok
  have c0 : w0.cell? ⟨S, 0, none⟩ = some (.int .i64 7) := by rw [← hk]; exact cellb (i := 0) hm rfl
  clear hw0 hal hm hb hn hS hin hlen hbv hok hk
  go_enter Tryd.func40, Tryd.ntmps40
  go_upto_region 1 with fail
  rw [← HSW.out, ← HW0.out]
  clear HW0 HSW
  obtain ⟨i5, hi, hz0, hz1, hz2⟩ := info_parts Tryd.info5
  go_upto_region 11 with (fail)
  clear c0
  have HMd : Hid (MAt w0.drew S v A n c) := Lib.hid HM.out
  have HBd : Hid (Below S w w0.drew) := Lib.hid HB0.out.drew
  have hsd : S < w0.drew.heap.size := hs0
  have f0 : w0.drew.cell? ⟨S, 1, none⟩ = some (.int .i64 (v 1)) := cellb (i := 1) HMd.out rfl
  have f1 : w0.drew.cell? ⟨S, 15, none⟩ = some (.int .i64 (v 15)) := cellb (i := 15) HMd.out rfl
  have f2 : w0.drew.cell? ⟨S, 16, none⟩ = some (.int .i64 (v 16)) := cellb (i := 16) HMd.out rfl
  have f3 : w0.drew.cell? ⟨S, 17, none⟩ = some (.slice A n c) := cellb (i := 17) HMd.out rfl
  have f4 : BytesIn w0.drew S A c t := HT.out.drew
  clear HM HB0 HT hs0
  refine wp_region_noPanic ?_
  refine wp_region_held_drew (S := fun w' => w'.cell? ⟨S, 1, none⟩ = some (.int .i64 (v 1)) ∧ w'.cell? ⟨S, 15, none⟩ = some (.int .i64 (v 15)) ∧ w'.cell? ⟨S, 16, none⟩ = some (.int .i64 (v 16)) ∧ w'.cell? ⟨S, 17, none⟩ = some (.slice A n c) ∧ BytesIn w' S A c t) (by kernel_rfl) ?_ (fun hHeld => ?_)
  · try dsimp only
    (refine ⟨?_, ?_, ?_, ?_, ?_⟩ <;> (first | with_reducible assumption))
  generalize w0.drew = wd at *
  refine wpAnyH_take (i := 0) (v := ?_) (by (simp only [List.getElem?_toArray, List.getElem?_cons_zero]; rfl)) (by kernel_rfl) (by kernel_rfl) (by kernel_rfl) (fun _ _ _ h => h) (Or.inl ⟨by rfl, ?_⟩) (by assumption) ?_
  rotate_left
  · (intro w hSw; (try dsimp only at hSw); go_simp; try with_reducible rfl)
  try simp only [Act.put, List.setIfInBounds_toArray, List.set_cons_zero, List.set_cons_succ]
  refine wpAnyH_take (i := 1) (v := ?_) (by (simp only [List.getElem?_toArray, List.getElem?_cons_succ, List.getElem?_cons_zero]; rfl)) (by kernel_rfl) (by kernel_rfl) (by kernel_rfl) (fun _ _ _ h => h) (Or.inl ⟨by rfl, ?_⟩) (by assumption) ?_
  rotate_left
  · (intro w hSw; (try dsimp only at hSw); go_simp; try with_reducible rfl)
  try simp only [Act.put, List.setIfInBounds_toArray, List.set_cons_zero, List.set_cons_succ]
  refine wpAnyH_take (i := 2) (v := ?_) (by (simp only [List.getElem?_toArray, List.getElem?_cons_succ, List.getElem?_cons_zero]; rfl)) (by kernel_rfl) (by kernel_rfl) (by kernel_rfl) (fun _ _ _ h => h) (Or.inl ⟨by rfl, ?_⟩) (by assumption) ?_
  rotate_left
  · (intro w hSw; (try dsimp only at hSw); go_simp; try with_reducible rfl)
  try simp only [Act.put, List.setIfInBounds_toArray, List.set_cons_zero, List.set_cons_succ]
  refine wpAnyH_take (i := 3) (v := ?_) (by (simp only [List.getElem?_toArray, List.getElem?_cons_succ, List.getElem?_cons_zero]; rfl)) (by kernel_rfl) (by kernel_rfl) (by kernel_rfl) (fun _ _ _ h => h) (Or.inl ⟨by rfl, ?_⟩) (by assumption) ?_
  rotate_left
  · (intro w hSw; (try dsimp only at hSw); go_simp; try with_reducible rfl)
  try simp only [Act.put, List.setIfInBounds_toArray, List.set_cons_zero, List.set_cons_succ]
  refine wpAnyH_take (i := 4) (v := ?_) (by (simp only [List.getElem?_toArray, List.getElem?_cons_succ, List.getElem?_cons_zero]; rfl)) (by kernel_rfl) (by kernel_rfl) (by kernel_rfl) (fun _ _ _ h => h) (Or.inl ⟨by rfl, ?_⟩) (by assumption) ?_
  rotate_left
  · (intro w hSw; (try dsimp only at hSw); go_simp; try with_reducible rfl)
  try simp only [Act.put, List.setIfInBounds_toArray, List.set_cons_zero, List.set_cons_succ]
  refine wpAnyH_take (i := 5) (v := ?_) (by (simp only [List.getElem?_toArray, List.getElem?_cons_succ, List.getElem?_cons_zero]; rfl)) (by kernel_rfl) (by kernel_rfl) (by kernel_rfl) (fun _ _ _ h => h) (Or.inl ⟨by rfl, ?_⟩) (by assumption) ?_
  rotate_left
  · (intro w hSw; (try dsimp only at hSw); go_simp; try with_reducible rfl)
  try simp only [Act.put, List.setIfInBounds_toArray, List.set_cons_zero, List.set_cons_succ]
  refine wpAnyH_take (i := 8) (v := ?_) (by (simp only [List.getElem?_toArray, List.getElem?_cons_succ, List.getElem?_cons_zero]; rfl)) (by kernel_rfl) (by kernel_rfl) (by kernel_rfl) (fun _ _ _ h => h) (Or.inl ⟨by rfl, ?_⟩) (by assumption) ?_
  rotate_left
  · (intro w hSw; (try dsimp only at hSw); go_simp; try with_reducible rfl)
  try simp only [Act.put, List.setIfInBounds_toArray, List.set_cons_zero, List.set_cons_succ]
  refine wpAnyH_take (i := 9) (v := ?_) (by (simp only [List.getElem?_toArray, List.getElem?_cons_succ, List.getElem?_cons_zero]; rfl)) (by kernel_rfl) (by kernel_rfl) (by kernel_rfl) (fun _ _ _ h => h) (Or.inl ⟨by rfl, ?_⟩) (by assumption) ?_
  rotate_left
  · (intro w hSw; (try dsimp only at hSw); go_simp; try with_reducible rfl)
  try simp only [Act.put, List.setIfInBounds_toArray, List.set_cons_zero, List.set_cons_succ]
  refine wpAnyH_take (i := 10) (v := ?_) (by (simp only [List.getElem?_toArray, List.getElem?_cons_succ, List.getElem?_cons_zero]; rfl)) (by kernel_rfl) (by kernel_rfl) (by kernel_rfl) (fun _ _ _ h => h) (Or.inl ⟨by rfl, ?_⟩) (by assumption) ?_
  rotate_left
  · (intro w hSw; (try dsimp only at hSw); have z := zc hSw.2.2.2.2 HN.out; go_simp; try with_reducible rfl)
  try simp only [Act.put, List.setIfInBounds_toArray, List.set_cons_zero, List.set_cons_succ]
  refine wpAnyH_ready (rs := [6]) (by kernel_rfl) (by simp) ?_
  refine AllReadyH.cons (by (simp only [List.getElem?_toArray, List.getElem?_cons_succ, List.getElem?_cons_zero]; rfl)) (fun K hK => ?_) AllReadyH.nil
  go_simp
  obtain ⟨w1, hw1⟩ : ∃ y, y = wd.alloc (.cells #[.int .i64 7, .int .i64 (v 1), .int .i64 (v 15), .int .i64 (v 16)] 3) := ⟨_, rfl⟩
  have hal : Below wd.heap.size wd w1 := by rw [hw1]; exact (Below.refl _ _).alloc (Nat.le_refl _) _
  have hci : CellsIn w1 w1.heap.size 1 (some ⟨wd.heap.size, 0, none⟩) 4 (intsV [7, v 1, v 15, v 16]) := cellsIn_new (cs := #[.int .i64 7, .int .i64 (v 1), .int .i64 (v 15), .int .i64 (v 16)]) 4 hw1 rfl
  have HC := Lib.hid hci
  have HMg := Lib.hid (HMd.out.below hal hsd)
  have HB1 := Lib.hid (HBd.out.trans (hal.mono (Nat.le_of_lt hsd)))
  have hs1 : S < w1.heap.size := Nat.lt_of_lt_of_le hsd hal.size
  have g0 : w1.cell? ⟨S, 1, none⟩ = some (.int .i64 (v 1)) := cellb (i := 1) HMg.out rfl
  have g1 : w1.cell? ⟨S, 15, none⟩ = some (.int .i64 (v 15)) := cellb (i := 15) HMg.out rfl
  have g2 : w1.cell? ⟨S, 16, none⟩ = some (.int .i64 (v 16)) := cellb (i := 16) HMg.out rfl
  have g3 : w1.cell? ⟨S, 17, none⟩ = some (.slice A n c) := cellb (i := 17) HMg.out rfl
  have g4 : BytesIn w1 S A c t := f4.below (hal.mono (Nat.le_of_lt hsd)) (Nat.le_refl _)
  rw [← hw1]
  clear hw1 hal hci
  refine hK.out _ _ ?_ (fun hHeld => ?_)
  · try dsimp only
    (refine ⟨?_, ?_, ?_, ?_, ?_⟩ <;> (first | with_reducible assumption))
  clear hK K
  try simp only [Act.put, List.setIfInBounds_toArray, List.set_cons_zero, List.set_cons_succ]
  refine wpAnyH_ready (rs := [7]) (by kernel_rfl) (by simp) ?_
  refine AllReadyH.cons (by (simp only [List.getElem?_toArray, List.getElem?_cons_succ, List.getElem?_cons_zero]; rfl)) (fun K hK => ?_) AllReadyH.nil
  go_simp
  refine (ints_any _ 4 4 w1.heap.size _ w1 HC.out (Nat.le_refl _) rfl HIN.out (by omega)).mono ?_
  rintro e w2 ⟨A2, c2, m, rfl, hm, ho, hb⟩
  have hmb := vrow_len _ HIN.out
  rw [← hm] at hmb
  simp only [List.length_cons, List.length_nil] at hmb
  have HO2 := Lib.hid (own_low ho (Nat.le_of_lt hs1))
  have HB2 := Lib.hid (HB1.out.trans (hb.mono (Nat.le_of_lt hs1)))
  have HMN := Lib.hid hm
  have HMh := Lib.hid (HMg.out.below hb hs1)
  have hs2 : S < w2.heap.size := Nat.lt_of_lt_of_le hs1 hb.size
  have h0 : w2.cell? ⟨S, 1, none⟩ = some (.int .i64 (v 1)) := cellb (i := 1) HMh.out rfl
  have h1 : w2.cell? ⟨S, 15, none⟩ = some (.int .i64 (v 15)) := cellb (i := 15) HMh.out rfl
  have h2 : w2.cell? ⟨S, 16, none⟩ = some (.int .i64 (v 16)) := cellb (i := 16) HMh.out rfl
  have h3 : w2.cell? ⟨S, 17, none⟩ = some (.slice A n c) := cellb (i := 17) HMh.out rfl
  have h4 : BytesIn w2 S A c t := g4.below (hb.mono (Nat.le_of_lt hs1)) (Nat.le_refl _)
  clear ho hb hm HC
  refine hK.out _ _ ?_ (fun hHeld => ?_)
  · try dsimp only
    (refine ⟨?_, ?_, ?_, ?_, ?_⟩ <;> (first | with_reducible assumption))
  clear hK K
  try simp only [Act.put, List.setIfInBounds_toArray, List.set_cons_zero, List.set_cons_succ]
  refine wpAnyH_ready (rs := [11]) (by kernel_rfl) (by simp) ?_
  refine AllReadyH.cons (by (simp only [List.getElem?_toArray, List.getElem?_cons_succ, List.getElem?_cons_zero]; rfl)) (fun K hK => ?_) AllReadyH.nil
  go_simp
  refine (ret_any t w2 (by have := HN.out; omega)).mono ?_
  rintro e w3 ⟨A3, c3, rfl, ho, hb⟩
  obtain ⟨k, hk⟩ : ∃ k, k = (vtext t).length := ⟨_, rfl⟩
  have hkb := vtext_len t (by have := HN.out; omega)
  rw [← hk] at ho hkb ⊢
  have HK := Lib.hid hk
  have hkl : k ≤ 4106 := by have := HN.out; omega
  have HR3 := Lib.hid (cellsIn_of_own ho)
  have HO3 : Hid (w3.ownsRow S 5 1 (.slice A2 m c2) m (cells8 (vrow [7, v 1, v 15, v 16]))) := Lib.hid (HO2.out.kept (grown_of_below hb none) (by cases A2 <;> simp [Value.ownBlock]))
  have HB3 := Lib.hid (HB2.out.trans (hb.mono (Nat.le_of_lt hs2)))
  have HMi := Lib.hid (HMh.out.below hb hs2)
  have hs3 : S < w3.heap.size := Nat.lt_of_lt_of_le hs2 hb.size
  have i0 : w3.cell? ⟨S, 1, none⟩ = some (.int .i64 (v 1)) := cellb (i := 1) HMi.out rfl
  have i1 : w3.cell? ⟨S, 15, none⟩ = some (.int .i64 (v 15)) := cellb (i := 15) HMi.out rfl
  have i2 : w3.cell? ⟨S, 16, none⟩ = some (.int .i64 (v 16)) := cellb (i := 16) HMi.out rfl
  have i3 : w3.cell? ⟨S, 17, none⟩ = some (.slice A n c) := cellb (i := 17) HMi.out rfl
  have i4 : BytesIn w3 S A c t := h4.below (hb.mono (Nat.le_of_lt hs2)) (Nat.le_refl _)
  clear ho hb hk hkb
  refine hK.out _ _ ?_ (fun hHeld => ?_)
  · try dsimp only
    (refine ⟨?_, ?_, ?_, ?_, ?_⟩ <;> (first | with_reducible assumption))
  clear hK K
  try simp only [Act.put, List.setIfInBounds_toArray, List.set_cons_zero, List.set_cons_succ]
  refine wpAnyH_ready (rs := [12]) (by kernel_rfl) (by simp) ?_
  refine AllReadyH.cons (by (simp only [List.getElem?_toArray, List.getElem?_cons_succ, List.getElem?_cons_zero]; rfl)) (fun K hK => ?_) AllReadyH.nil
  refine step_append_row w3 rfl (.tmp 74) (.tmp 78) _ rfl S 5 i5 _ 1 1 Tryd.underlying24 hi hz0 hz1 hz2 rfl (by omega) A2 m c2 _ rfl HO3.out _ _ k _ _ rfl HR3.out (cells8_one _) (by unfold maxLen; omega) (by omega) (Nat.le_of_lt hs3) ?_
  intro A4 c4 w4 hown hg hor
  have HO4 := Lib.hid hown
  have hch := Ch.ofOwn HO3.out hg
  have HB4 := Lib.hid (HB3.out.grown hg (Nat.le_of_lt hs3) (fun k hk => (HO3.out.lt k hk).1))
  have HMj : Hid (MAt w4 S v A n c) := Lib.hid (hch.blk HMi.out (by show (29 + 1 : Nat) ≠ _; decide))
  have j0 : w4.cell? ⟨S, 1, none⟩ = some (.int .i64 (v 1)) := cellb (i := 1) HMj.out rfl
  have j1 : w4.cell? ⟨S, 15, none⟩ = some (.int .i64 (v 15)) := cellb (i := 15) HMj.out rfl
  have j2 : w4.cell? ⟨S, 16, none⟩ = some (.int .i64 (v 16)) := cellb (i := 16) HMj.out rfl
  have j3 : w4.cell? ⟨S, 17, none⟩ = some (.slice A n c) := cellb (i := 17) HMj.out rfl
  have j4 : BytesIn w4 S A c t := i4.below ((Below.refl S w3).grown hg (Nat.le_of_lt hs3) (fun k hk => (HO3.out.lt k hk).1)) (Nat.le_refl _)
  clear hown hg hor hch
  refine hK.out _ _ ?_ (fun hHeld => ?_)
  · try dsimp only
    (refine ⟨?_, ?_, ?_, ?_, ?_⟩ <;> (first | with_reducible assumption))
  clear hK K
  try simp only [Act.put, List.setIfInBounds_toArray, List.set_cons_zero, List.set_cons_succ]
  refine wpAnyH_take (i := 13) (v := ?_) (by (simp only [List.getElem?_toArray, List.getElem?_cons_succ, List.getElem?_cons_zero]; rfl)) (by kernel_rfl) (by kernel_rfl) (by kernel_rfl) (fun _ _ _ h => h) (Or.inl ⟨by rfl, ?_⟩) (by assumption) ?_
  rotate_left
  · (intro w hSw; (try dsimp only at hSw); go_simp; try with_reducible rfl)
  try simp only [Act.put, List.setIfInBounds_toArray, List.set_cons_zero, List.set_cons_succ]
  refine wpAnyH_done (by kernel_rfl) ?_ _
  refine NoPanic.normal ?_
  clear hHeld f0 f1 f2 f3 f4 g0 g1 g2 g3 g4 h0 h1 h2 h3 h4 i0 i1 i2 i3 i4 j0 j1 j2 j3 j4
  go_wp2_with fail
  go_ret
  exact ⟨A4, c4, m + k, rfl, by rw [List.length_append, HMN.out, HK.out], by rw [cells8_append]; exact HO4.out, HB4.out⟩
set_option maxRecDepth 100000 in
set_option maxHeartbeats 2000000 in
theorem rbody_8 (v : Nat → Int) (A : Option Addr) (n c : Nat) (t : List UInt8) (w : World) (hb : BytesIn w w.heap.size A c t) (hn : n = t.length) (hok : OkM v n) (hk : v 0 = 8) :
    Calls Tryd.prog 40 #[.agg #[.int .i64 (v 0), .int .i64 (v 1), .int .i64 (v 2), .int .i64 (v 3), .int .i64 (v 4), .int .i64 (v 5), .int .i64 (v 6), .int .i64 (v 7), .int .i64 (v 8), .int .i64 (v 9), .int .i64 (v 10), .int .i64 (v 11), .int .i64 (v 12), .int .i64 (v 13), .int .i64 (v 14), .int .i64 (v 15), .int .i64 (v 16), .slice A n c, .int .i64 (v 18), .int .i64 (v 19), .int .i64 (v 20)]] w fun e w' => BodyTo v t w e w' := by
  have hin := okM_nums hok
  have hlen : (numsK v) = [8, v 1, v 15, v 16, v 18, v 19, v 20] := by unfold numsK; rw [hk, flK_8]; rfl
  have hbv : bodyV v t = vrow [8, v 1, v 15, v 16, v 18, v 19, v 20] := by unfold bodyV; rw [hlen, hk]; simp
  rw [hlen] at hin
  obtain ⟨S, hS⟩ : ∃ S, S = w.heap.size := ⟨_, rfl⟩
  obtain ⟨w0, hw0⟩ : ∃ y, y = w.alloc (.cells #[.int .i64 (v 0), .int .i64 (v 1), .int .i64 (v 2), .int .i64 (v 3), .int .i64 (v 4), .int .i64 (v 5), .int .i64 (v 6), .int .i64 (v 7), .int .i64 (v 8), .int .i64 (v 9), .int .i64 (v 10), .int .i64 (v 11), .int .i64 (v 12), .int .i64 (v 13), .int .i64 (v 14), .int .i64 (v 15), .int .i64 (v 16), .slice A n c, .int .i64 (v 18), .int .i64 (v 19), .int .i64 (v 20)] 29) := ⟨_, rfl⟩
  have hal : Below w.heap.size w w0 := by rw [hw0]; exact (Below.refl w.heap.size w).alloc (Nat.le_refl _) _
  have hm : MAt w0 S v A n c := by rw [hw0, hS]; exact heap_alloc_new w _
  have HM := Lib.hid hm
  unfold BodyTo
  rw [hbv]
  rw [← hS] at hal hb ⊢
  have HB0 := Lib.hid hal
  have HT := Lib.hid (hb.below hal (Nat.le_refl _))
  have HW0 := Lib.hid hw0
  have HSW := Lib.hid hS
  have hs0 : S < w0.heap.size := ltb hm
  have HIN := Lib.hid hin
  have HN := Lib.hid hn
  have hmx := okM_len hok
  have c0 : w0.cell? ⟨S, 0, none⟩ = some (.int .i64 8) := by rw [← hk]; exact cellb (i := 0) hm rfl
  clear hw0 hal hm hb hn hS hin hlen hbv hok hk
  go_enter Tryd.func40, Tryd.ntmps40
  go_upto_region 1 with fail
  rw [← HSW.out, ← HW0.out]
  clear HW0 HSW
  have c1 := cellb (i := 1) HM.out rfl
  have c15 := cellb (i := 15) HM.out rfl
  have c16 := cellb (i := 16) HM.out rfl
  have c18 := cellb (i := 18) HM.out rfl
  have c19 := cellb (i := 19) HM.out rfl
  have c20 := cellb (i := 20) HM.out rfl
  go_wp2_with fail
  clear c0 c1 c15 c16 c18 c19 c20
  obtain ⟨w1, hw1⟩ : ∃ y, y = w0.alloc (.cells #[.int .i64 8, .int .i64 (v 1), .int .i64 (v 15), .int .i64 (v 16), .int .i64 (v 18), .int .i64 (v 19), .int .i64 (v 20)] 3) := ⟨_, rfl⟩
  rw [← hw1]
  have hal : Below w0.heap.size w0 w1 := by rw [hw1]; exact (Below.refl _ _).alloc (Nat.le_refl _) _
  have hci : CellsIn w1 w1.heap.size 1 (some ⟨w0.heap.size, 0, none⟩) 7 (intsV [8, v 1, v 15, v 16, v 18, v 19, v 20]) := cellsIn_new (cs := #[.int .i64 8, .int .i64 (v 1), .int .i64 (v 15), .int .i64 (v 16), .int .i64 (v 18), .int .i64 (v 19), .int .i64 (v 20)]) 7 hw1 rfl
  have HC := Lib.hid hci
  have HB1 := Lib.hid (HB0.out.trans (hal.mono (Nat.le_of_lt hs0)))
  have hs1 : S ≤ w1.heap.size := Nat.le_trans (Nat.le_of_lt hs0) hal.size
  clear hw1 hal hci
  refine (ints_any _ 7 7 w1.heap.size _ w1 HC.out (Nat.le_refl _) rfl HIN.out (by omega)).mono ?_
  rintro e w2 ⟨A2, c2, m, rfl, hm, ho, hb⟩
  have HO2 := Lib.hid (own_low ho hs1)
  have HB2 := Lib.hid (HB1.out.trans (hb.mono hs1))
  have HM2 := Lib.hid hm
  clear ho hb hm HC
  go_wp2_with fail
  go_ret
  exact ⟨A2, c2, m, rfl, HM2.out, HO2.out, HB2.out⟩
theorem rbody_any (v : Nat → Int) (A : Option Addr) (n c : Nat) (t : List UInt8) (w : World) (hb : BytesIn w w.heap.size A c t) (hn : n = t.length) (hok : OkM v n) :
    Calls Tryd.prog 40 #[.agg #[.int .i64 (v 0), .int .i64 (v 1), .int .i64 (v 2), .int .i64 (v 3), .int .i64 (v 4), .int .i64 (v 5), .int .i64 (v 6), .int .i64 (v 7), .int .i64 (v 8), .int .i64 (v 9), .int .i64 (v 10), .int .i64 (v 11), .int .i64 (v 12), .int .i64 (v 13), .int .i64 (v 14), .int .i64 (v 15), .int .i64 (v 16), .slice A n c, .int .i64 (v 18), .int .i64 (v 19), .int .i64 (v 20)]] w fun e w' => BodyTo v t w e w' := by
  rcases kB_cases hok.1 with h | h | h | h | h | h | h | h
  · exact rbody_1 v A n c t w hb hn hok h
  · exact rbody_2 v A n c t w hb hn hok h
  · exact rbody_3 v A n c t w hb hn hok h
  · exact rbody_4 v A n c t w hb hn hok h
  · exact rbody_5 v A n c t w hb hn hok h
  · exact rbody_6 v A n c t w hb hn hok h
  · exact rbody_7 v A n c t w hb hn hok h
  · exact rbody_8 v A n c t w hb hn hok h
end Go.Proofs.YtkenaoejijpgpaaDoor
