/- The document's packet of a message. -/
import Derived.Test.YtkenaoejijpgpaaDoorRBody
import Derived.Test.YtkenaoejijpgpaaDoorMayOk18
namespace Go.Proofs.YtkenaoejijpgpaaDoor
open Go.RowKit

theorem ld21' {w : World} {S n c : Nat} {v : Nat → Int} {A : Option Addr} (h : MAt w S v A n c) : w.heap[S]? = some (.cells #[.int .i64 (v 0), .int .i64 (v 1), .int .i64 (v 2), .int .i64 (v 3), .int .i64 (v 4), .int .i64 (v 5), .int .i64 (v 6), .int .i64 (v 7), .int .i64 (v 8), .int .i64 (v 9), .int .i64 (v 10), .int .i64 (v 11), .int .i64 (v 12), .int .i64 (v 13), .int .i64 (v 14), .int .i64 (v 15), .int .i64 (v 16), .slice A n c, .int .i64 (v 18), .int .i64 (v 19), .int .i64 (v 20)] 29 (0, 0)) := h
set_option maxRecDepth 100000 in
set_option maxHeartbeats 2000000 in
theorem rpack_no (v : Nat → Int) (A : Option Addr) (n c : Nat) (t : List UInt8) (w : World) (hb : BytesIn w w.heap.size A c t) (hn : n = t.length) (hok : ¬ OkM v n) :
    Calls Tryd.prog 14 #[.agg #[.int .i64 (v 0), .int .i64 (v 1), .int .i64 (v 2), .int .i64 (v 3), .int .i64 (v 4), .int .i64 (v 5), .int .i64 (v 6), .int .i64 (v 7), .int .i64 (v 8), .int .i64 (v 9), .int .i64 (v 10), .int .i64 (v 11), .int .i64 (v 12), .int .i64 (v 13), .int .i64 (v 14), .int .i64 (v 15), .int .i64 (v 16), .slice A n c, .int .i64 (v 18), .int .i64 (v 19), .int .i64 (v 20)]] w fun e w' => e = .returned (.slice none 0 0) ∧ Below w.heap.size w w' := by
  have hmay : mayB v n = false := by
    cases h : mayB v n
    · rfl
    · exact absurd ((may_ok v n).1 h) hok
  have HMAY := Lib.hid hmay
  obtain ⟨S, hS⟩ : ∃ S, S = w.heap.size := ⟨_, rfl⟩
  obtain ⟨w0, hw0⟩ : ∃ y, y = w.alloc (.cells #[.int .i64 (v 0), .int .i64 (v 1), .int .i64 (v 2), .int .i64 (v 3), .int .i64 (v 4), .int .i64 (v 5), .int .i64 (v 6), .int .i64 (v 7), .int .i64 (v 8), .int .i64 (v 9), .int .i64 (v 10), .int .i64 (v 11), .int .i64 (v 12), .int .i64 (v 13), .int .i64 (v 14), .int .i64 (v 15), .int .i64 (v 16), .slice A n c, .int .i64 (v 18), .int .i64 (v 19), .int .i64 (v 20)] 29) := ⟨_, rfl⟩
  have hal : Below w.heap.size w w0 := by rw [hw0]; exact (Below.refl w.heap.size w).alloc (Nat.le_refl _) _
  have hm : MAt w0 S v A n c := by rw [hw0, hS]; exact heap_alloc_new w _
  have HM0 := Lib.hid hm
  rw [← hS] at hal hb ⊢
  have HB0 := Lib.hid hal
  have HT0 := Lib.hid (hb.below hal (Nat.le_refl _))
  have HW0 := Lib.hid hw0
  have HSW := Lib.hid hS
  have hs0 : S < w0.heap.size := ltb hm
  have HN := Lib.hid hn
  clear hw0 hal hm hb hn hS hmay hok
  go_enter Tryd.func14, Tryd.ntmps14
  go_upto_region 1 with fail
  rw [← HSW.out, ← HW0.out]
  clear HW0 HSW
  have HMU := Lib.hid (ld21' HM0.out)
  go_wp2_with (refine wpList_load_row rfl 29 _ rfl S rfl 29 _ (0, 0) _ HMU.out Tryd.underlying29 rfl (by kernel_rfl) ?_)
  clear HMU
  refine (may_any v A n c w0).mono ?_
  rw [HMAY.out]
  rintro e w1 ⟨rfl, hb⟩
  have HB1 := Lib.hid (HB0.out.trans (hb.mono (Nat.le_of_lt hs0)))
  clear hb
  go_wp2_with fail
  go_ret
  exact ⟨rfl, HB1.out⟩
set_option maxRecDepth 100000 in
set_option maxHeartbeats 2000000 in
theorem rpack_ok (v : Nat → Int) (A : Option Addr) (n c : Nat) (t : List UInt8) (w : World) (hb : BytesIn w w.heap.size A c t) (hn : n = t.length) (hok : OkM v n) :
    Calls Tryd.prog 14 #[.agg #[.int .i64 (v 0), .int .i64 (v 1), .int .i64 (v 2), .int .i64 (v 3), .int .i64 (v 4), .int .i64 (v 5), .int .i64 (v 6), .int .i64 (v 7), .int .i64 (v 8), .int .i64 (v 9), .int .i64 (v 10), .int .i64 (v 11), .int .i64 (v 12), .int .i64 (v 13), .int .i64 (v 14), .int .i64 (v 15), .int .i64 (v 16), .slice A n c, .int .i64 (v 18), .int .i64 (v 19), .int .i64 (v 20)]] w fun e w' => ∃ A2 c2, e = .returned (.slice A2 ((bodyV v t).length + 8) c2) ∧ w'.ownsRow w.heap.size 5 1 (.slice A2 ((bodyV v t).length + 8) c2) ((bodyV v t).length + 8) (cells8 (frameOf (bodyV v t))) ∧ Below w.heap.size w w' := by
  have HMAY := Lib.hid ((may_ok v n).2 hok)
  have HOK := Lib.hid hok
  have HLN := Lib.hid (bodyV_len (t := t) (hn ▸ hok))
  obtain ⟨S, hS⟩ : ∃ S, S = w.heap.size := ⟨_, rfl⟩
  obtain ⟨w0, hw0⟩ : ∃ y, y = w.alloc (.cells #[.int .i64 (v 0), .int .i64 (v 1), .int .i64 (v 2), .int .i64 (v 3), .int .i64 (v 4), .int .i64 (v 5), .int .i64 (v 6), .int .i64 (v 7), .int .i64 (v 8), .int .i64 (v 9), .int .i64 (v 10), .int .i64 (v 11), .int .i64 (v 12), .int .i64 (v 13), .int .i64 (v 14), .int .i64 (v 15), .int .i64 (v 16), .slice A n c, .int .i64 (v 18), .int .i64 (v 19), .int .i64 (v 20)] 29) := ⟨_, rfl⟩
  have hal : Below w.heap.size w w0 := by rw [hw0]; exact (Below.refl w.heap.size w).alloc (Nat.le_refl _) _
  have hm : MAt w0 S v A n c := by rw [hw0, hS]; exact heap_alloc_new w _
  have HM0 := Lib.hid hm
  rw [← hS] at hal hb ⊢
  have HB0 := Lib.hid hal
  have HT0 := Lib.hid (hb.below hal (Nat.le_refl _))
  have HW0 := Lib.hid hw0
  have HSW := Lib.hid hS
  have hs0 : S < w0.heap.size := ltb hm
  have HN := Lib.hid hn
  clear hw0 hal hm hb hn hS hok
  go_enter Tryd.func14, Tryd.ntmps14
  go_upto_region 1 with fail
  rw [← HSW.out, ← HW0.out]
  clear HW0 HSW
  have HMU := Lib.hid (ld21' HM0.out)
  go_wp2_with (refine wpList_load_row rfl 29 _ rfl S rfl 29 _ (0, 0) _ HMU.out Tryd.underlying29 rfl (by kernel_rfl) ?_)
  clear HMU
  refine (may_any v A n c w0).mono ?_
  rw [HMAY.out]
  rintro e w1 ⟨rfl, hb⟩
  have HB1 := Lib.hid (HB0.out.trans (hb.mono (Nat.le_of_lt hs0)))
  have HM1 := Lib.hid (HM0.out.below hb hs0)
  have HT1 := Lib.hid (HT0.out.below (hb.mono (Nat.le_of_lt hs0)) (Nat.le_refl _))
  have hs1 : S < w1.heap.size := Nat.lt_of_lt_of_le hs0 hb.size
  clear hb HB0 HM0 HT0
  have HMU := Lib.hid (ld21' HM1.out)
  go_wp2_with (refine wpList_load_row rfl 29 _ rfl S rfl 29 _ (0, 0) _ HMU.out Tryd.underlying29 rfl (by kernel_rfl) ?_)
  clear HMU
  refine (rbody_any v A n c t w1 (HT1.out.more (Nat.le_of_lt hs1)) HN.out HOK.out).mono ?_
  rintro e w2 ⟨A2, c2, m, rfl, hm, ho, hb⟩
  have HO2 := Lib.hid (bytesIn_of_own (hm ▸ ho)).2
  have HM2 := Lib.hid hm
  have HB2 := Lib.hid (HB1.out.trans (hb.mono (Nat.le_of_lt hs1)))
  have hs2 : S < w2.heap.size := Nat.lt_of_lt_of_le hs1 hb.size
  clear ho hb hm HB1 HM1 HT1
  go_wp2_with fail
  refine (rframe_any A2 c2 m (bodyV v t) w2 HO2.out HLN.out HM2.out).mono ?_
  rintro e w3 ⟨A3, c3, rfl, ho, hb⟩
  have HO3 := Lib.hid (own_low ho (Nat.le_of_lt hs2))
  have HB3 := Lib.hid (HB2.out.trans (hb.mono (Nat.le_of_lt hs2)))
  clear ho hb HO2 HB2
  go_wp2_with fail
  go_ret
  exact ⟨A3, c3, by rw [HM2.out]; rfl, by rw [← HM2.out]; exact HO3.out, HB3.out⟩
end Go.Proofs.YtkenaoejijpgpaaDoor
