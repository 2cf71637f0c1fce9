/- The document's client hears. -/
import Derived.Test.YtlcbpodjmafoeaaRcl
namespace Go.Proofs.Ytlcbpodjmafoeaa
open Go.RowKit

def Asked (s : Ct) (v : Nat → Int) : Prop := s.asks = true ∧ v 0 = 8 ∧ v 15 = s.id ∧ v 16 = s.seq
/-- What the document's client hears. -/
def RHearPost (s : Ct) (v : Nat → Int) (nb : Nat) (w : World) (e : Ending) (w' : World) : Prop :=
  (¬ Asked s v → e = .returned (.tuple #[.agg #[.int .i64 s.id, .int .i64 s.seq, .int .i64 s.epoch, .bool s.asks, .string (str s.body), .bool s.sent, .int .i64 s.at_], .agg #[.int .i64 0, .int .i64 0, .int .i64 0], .bool false])) ∧
  (Asked s v → e = .returned (.tuple #[.agg #[.int .i64 ((hearD s v (mayB v nb)).id), .int .i64 ((hearD s v (mayB v nb)).seq), .int .i64 ((hearD s v (mayB v nb)).epoch), .bool ((hearD s v (mayB v nb)).asks), .string (str (hearD s v (mayB v nb)).body), .bool ((hearD s v (mayB v nb)).sent), .int .i64 ((hearD s v (mayB v nb)).at_)], .agg #[.int .i64 (if hearK s v (mayB v nb) = true then v 18 else 0), .int .i64 (if hearK s v (mayB v nb) = true then v 19 else 0), .int .i64 (if hearK s v (mayB v nb) = true then v 20 else 0)], .bool (hearK s v (mayB v nb))])) ∧ Below w.heap.size w w'
set_option maxRecDepth 100000 in
set_option maxHeartbeats 8000000 in
theorem rhear_any (s : Ct) (v : Nat → Int) (B : Option Addr) (nb cb : Nat) (w : World) : Calls Try.prog 22 #[.agg #[.int .i64 s.id, .int .i64 s.seq, .int .i64 s.epoch, .bool s.asks, .string (str s.body), .bool s.sent, .int .i64 s.at_], .agg #[.int .i64 (v 0), .int .i64 (v 1), .int .i64 (v 2), .int .i64 (v 3), .int .i64 (v 4), .int .i64 (v 5), .int .i64 (v 6), .int .i64 (v 7), .int .i64 (v 8), .int .i64 (v 9), .int .i64 (v 10), .int .i64 (v 11), .int .i64 (v 12), .int .i64 (v 13), .int .i64 (v 14), .int .i64 (v 15), .int .i64 (v 16), .slice B nb cb, .int .i64 (v 18), .int .i64 (v 19), .int .i64 (v 20)]] w fun e w' => RHearPost s v nb w e w' := by
  obtain ⟨w0, rfl⟩ : ∃ y, y = w := ⟨_, rfl⟩
  obtain ⟨id, seq, epoch, asks, sent, at_, body⟩ := s
  have HB_0 : Hid (Below w0.heap.size w0 w0) := Lib.hid (Below.refl _ _)
  go_enter Try.func22, Try.ntmps22
  obtain ⟨P2, hP2⟩ : ∃ x, x = w0.heap.size := ⟨_, rfl⟩
  have loP2 : w0.heap.size ≤ P2 := (by have := HB_0.out.size; omega)
  obtain ⟨w1, hw1⟩ : ∃ y, y = w0.alloc (.cells #[.int .i64 id, .int .i64 seq, .int .i64 epoch, .bool asks, .string (str body), .bool sent, .int .i64 at_] 61) := ⟨_, rfl⟩
  have hal : Below w0.heap.size w0 w1 := by rw [hw1]; exact (Below.refl _ _).alloc (Nat.le_refl _) _
  have hnew : w1.heap[P2]? = some (.cells #[.int .i64 id, .int .i64 seq, .int .i64 epoch, .bool asks, .string (str body), .bool sent, .int .i64 at_] 61 (0, 0)) := by rw [hw1, hP2]; exact heap_alloc_new _ _
  have HB_1 : Hid (Below w0.heap.size w0 w1) := Lib.hid (HB_0.out.trans (hal.mono HB_0.out.size))
  clear hal HB_0
  have HP2_1 := Lib.hid hnew
  clear hnew
  obtain ⟨w2, hw2⟩ : ∃ y, y = w1.alloc (.cells #[.int .i64 (v 0), .int .i64 (v 1), .int .i64 (v 2), .int .i64 (v 3), .int .i64 (v 4), .int .i64 (v 5), .int .i64 (v 6), .int .i64 (v 7), .int .i64 (v 8), .int .i64 (v 9), .int .i64 (v 10), .int .i64 (v 11), .int .i64 (v 12), .int .i64 (v 13), .int .i64 (v 14), .int .i64 (v 15), .int .i64 (v 16), .slice B nb cb, .int .i64 (v 18), .int .i64 (v 19), .int .i64 (v 20)] 36) := ⟨_, rfl⟩
  have hal : Below w1.heap.size w1 w2 := by rw [hw2]; exact (Below.refl _ _).alloc (Nat.le_refl _) _
  have hnew : w2.heap[(P2 + 1)]? = some (.cells (mcv v (.slice B nb cb)) 36 (0, 0)) := by rw [hw2]; exact alloc_at _ _ _ (by simp [hw1, hP2])
  have HB_2 : Hid (Below w0.heap.size w0 w2) := Lib.hid (HB_1.out.trans (hal.mono HB_1.out.size))
  have HP2_2 : Hid (w2.heap[P2]? = some (.cells #[.int .i64 id, .int .i64 seq, .int .i64 epoch, .bool asks, .string (str body), .bool sent, .int .i64 at_] 61 (0, 0))) := Lib.hid ((hal.block P2 (ltb HP2_1.out)).trans HP2_1.out)
  clear hal HB_1 HP2_1
  have HP3_2 := Lib.hid hnew
  clear hnew
  obtain ⟨w3, hw3⟩ : ∃ y, y = w2.alloc (.cells #[.int .i64 0, .int .i64 0, .int .i64 0, .bool false, .string { data := #[] }, .bool false, .int .i64 0] 61) := ⟨_, rfl⟩
  have hal : Below w2.heap.size w2 w3 := by rw [hw3]; exact (Below.refl _ _).alloc (Nat.le_refl _) _
  have hnew : w3.heap[(P2 + 2)]? = some (.cells #[.int .i64 0, .int .i64 0, .int .i64 0, .bool false, .string { data := #[] }, .bool false, .int .i64 0] 61 (0, 0)) := by rw [hw3]; exact alloc_at _ _ _ (by simp [hw1, hw2, hP2])
  have HB_3 : Hid (Below w0.heap.size w0 w3) := Lib.hid (HB_2.out.trans (hal.mono HB_2.out.size))
  have HP2_3 : Hid (w3.heap[P2]? = some (.cells #[.int .i64 id, .int .i64 seq, .int .i64 epoch, .bool asks, .string (str body), .bool sent, .int .i64 at_] 61 (0, 0))) := Lib.hid ((hal.block P2 (ltb HP2_2.out)).trans HP2_2.out)
  have HP3_3 : Hid (w3.heap[(P2 + 1)]? = some (.cells (mcv v (.slice B nb cb)) 36 (0, 0))) := Lib.hid ((hal.block (P2 + 1) (ltb HP3_2.out)).trans HP3_2.out)
  clear hal HB_2 HP2_2 HP3_2
  have HP4_3 := Lib.hid hnew
  clear hnew
  obtain ⟨w4, hw4⟩ : ∃ y, y = w3.alloc (.cells #[.int .i64 0, .int .i64 0, .int .i64 0] 34) := ⟨_, rfl⟩
  have hal : Below w3.heap.size w3 w4 := by rw [hw4]; exact (Below.refl _ _).alloc (Nat.le_refl _) _
  have hnew : w4.heap[(P2 + 3)]? = some (.cells #[.int .i64 0, .int .i64 0, .int .i64 0] 34 (0, 0)) := by rw [hw4]; exact alloc_at _ _ _ (by simp [hw1, hw2, hw3, hP2])
  have HB_4 : Hid (Below w0.heap.size w0 w4) := Lib.hid (HB_3.out.trans (hal.mono HB_3.out.size))
  have HP2_4 : Hid (w4.heap[P2]? = some (.cells #[.int .i64 id, .int .i64 seq, .int .i64 epoch, .bool asks, .string (str body), .bool sent, .int .i64 at_] 61 (0, 0))) := Lib.hid ((hal.block P2 (ltb HP2_3.out)).trans HP2_3.out)
  have HP3_4 : Hid (w4.heap[(P2 + 1)]? = some (.cells (mcv v (.slice B nb cb)) 36 (0, 0))) := Lib.hid ((hal.block (P2 + 1) (ltb HP3_3.out)).trans HP3_3.out)
  have HP4_4 : Hid (w4.heap[(P2 + 2)]? = some (.cells #[.int .i64 0, .int .i64 0, .int .i64 0, .bool false, .string { data := #[] }, .bool false, .int .i64 0] 61 (0, 0))) := Lib.hid ((hal.block (P2 + 2) (ltb HP4_3.out)).trans HP4_3.out)
  clear hal HB_3 HP2_3 HP3_3 HP4_3
  have HP5_4 := Lib.hid hnew
  clear hnew
  go_upto_region 1 with fail
  rw [← hw1]
  clear hw1
  rw [← hw2]
  clear hw2
  rw [← hw3]
  clear hw3
  rw [← hw4]
  clear hw4
  rw [← hP2]
  clear hP2
  have K5 := HP3_4
  go_wp2_with (refine wpList_load_row rfl 36 (.tmp 3) rfl (P2 + 1) rfl 36 #[.int .i64 (v 0), .int .i64 (v 1), .int .i64 (v 2), .int .i64 (v 3), .int .i64 (v 4), .int .i64 (v 5), .int .i64 (v 6), .int .i64 (v 7), .int .i64 (v 8), .int .i64 (v 9), .int .i64 (v 10), .int .i64 (v 11), .int .i64 (v 12), .int .i64 (v 13), .int .i64 (v 14), .int .i64 (v 15), .int .i64 (v 16), .slice B nb cb, .int .i64 (v 18), .int .i64 (v 19), .int .i64 (v 20)] (0, 0) _ K5.out Try.underlying36 rfl (by kernel_rfl) ?_)
  clear K5
  refine (may_any v B nb cb w4).mono ?_
  rintro e w5 ⟨rfl, hb⟩
  obtain ⟨b, hbm⟩ : ∃ b, b = mayB v nb := ⟨_, rfl⟩
  rw [← hbm]
  have HBM := Lib.hid hbm
  clear hbm
  have HB_5 : Hid (Below w0.heap.size w0 w5) := Lib.hid (HB_4.out.trans (hb.mono HB_4.out.size))
  have HP2_5 : Hid (w5.heap[P2]? = some (.cells #[.int .i64 id, .int .i64 seq, .int .i64 epoch, .bool asks, .string (str body), .bool sent, .int .i64 at_] 61 (0, 0))) := Lib.hid ((hb.block P2 (ltb HP2_4.out)).trans HP2_4.out)
  have HP3_5 : Hid (w5.heap[(P2 + 1)]? = some (.cells (mcv v (.slice B nb cb)) 36 (0, 0))) := Lib.hid ((hb.block (P2 + 1) (ltb HP3_4.out)).trans HP3_4.out)
  have HP4_5 : Hid (w5.heap[(P2 + 2)]? = some (.cells #[.int .i64 0, .int .i64 0, .int .i64 0, .bool false, .string { data := #[] }, .bool false, .int .i64 0] 61 (0, 0))) := Lib.hid ((hb.block (P2 + 2) (ltb HP4_4.out)).trans HP4_4.out)
  have HP5_5 : Hid (w5.heap[(P2 + 3)]? = some (.cells #[.int .i64 0, .int .i64 0, .int .i64 0] 34 (0, 0))) := Lib.hid ((hb.block (P2 + 3) (ltb HP5_4.out)).trans HP5_4.out)
  clear hb HB_4 HP2_4 HP3_4 HP4_4 HP5_4
  cases asks
  · skip
    have HST := HP4_5
    have cc6 : w5.cell? ⟨P2, 3, none⟩ = some (.bool false) := cellb (i := 3) HP2_5.out rfl
    have cc7 : w5.cell? ⟨(P2 + 1), 0, none⟩ = some (.int .i64 (v 0)) := cellb (i := 0) HP3_5.out rfl
    have cc8 : w5.cell? ⟨(P2 + 1), 15, none⟩ = some (.int .i64 (v 15)) := cellb (i := 15) HP3_5.out rfl
    have cc9 : w5.cell? ⟨P2, 0, none⟩ = some (.int .i64 id) := cellb (i := 0) HP2_5.out rfl
    have cc10 : w5.cell? ⟨(P2 + 1), 16, none⟩ = some (.int .i64 (v 16)) := cellb (i := 16) HP3_5.out rfl
    have cc11 : w5.cell? ⟨P2, 1, none⟩ = some (.int .i64 seq) := cellb (i := 1) HP2_5.out rfl
    have K12 := HP2_5
    obtain ⟨w6, hw13⟩ : ∃ y, y = w5.setRow (P2 + 2) #[.int .i64 id, .int .i64 seq, .int .i64 epoch, .bool false, .string (str body), .bool sent, .int .i64 at_] := ⟨_, rfl⟩
    have hch := Ch.ofRow HP4_5.out #[.int .i64 id, .int .i64 seq, .int .i64 epoch, .bool false, .string (str body), .bool sent, .int .i64 at_]
    rw [← hw13] at hch
    have hnew : w6.heap[(P2 + 2)]? = some (.cells #[.int .i64 id, .int .i64 seq, .int .i64 epoch, .bool false, .string (str body), .bool sent, .int .i64 at_] 61 (0, 0)) := by rw [hw13]; exact setRow_heap _ _ _ _ _ _ HP4_5.out
    have HB_6 : Hid (Below w0.heap.size w0 w6) := Lib.hid (hch.below HB_5.out HB_5.out.size (fun k hk => by injection hk with hk; omega))
    have HP2_6 : Hid (w6.heap[P2]? = some (.cells #[.int .i64 id, .int .i64 seq, .int .i64 epoch, .bool false, .string (str body), .bool sent, .int .i64 at_] 61 (0, 0))) := Lib.hid (hch.blkN HP2_5.out (by intro e; injection e with e; omega))
    have HP3_6 : Hid (w6.heap[(P2 + 1)]? = some (.cells (mcv v (.slice B nb cb)) 36 (0, 0))) := Lib.hid (hch.blk HP3_5.out (by show (36 + 1 : Nat) ≠ _; decide))
    have HP5_6 : Hid (w6.heap[(P2 + 3)]? = some (.cells #[.int .i64 0, .int .i64 0, .int .i64 0] 34 (0, 0))) := Lib.hid (hch.blk HP5_5.out (by show (34 + 1 : Nat) ≠ _; decide))
    clear hch HB_5 HP2_5 HP3_5 HP5_5
    have HP4_6 := Lib.hid hnew
    clear hnew HP4_5
    have HST14 : Hid ((w5.setRow (P2 + 2) #[.int .i64 id, .int .i64 seq, .int .i64 epoch, .bool false, .string (str body), .bool sent, .int .i64 at_]).heap[(P2 + 3)]? = some (.cells #[.int .i64 0, .int .i64 0, .int .i64 0] 34 (0, 0))) := Lib.hid (by rw [← hw13]; exact HP5_6.out)
    obtain ⟨w7, hw15⟩ : ∃ y, y = w6.setRow (P2 + 3) #[.int .i64 0, .int .i64 0, .int .i64 0] := ⟨_, rfl⟩
    have hch := Ch.ofRow HP5_6.out #[.int .i64 0, .int .i64 0, .int .i64 0]
    rw [← hw15] at hch
    have hnew : w7.heap[(P2 + 3)]? = some (.cells #[.int .i64 0, .int .i64 0, .int .i64 0] 34 (0, 0)) := by rw [hw15]; exact setRow_heap _ _ _ _ _ _ HP5_6.out
    have HB_7 : Hid (Below w0.heap.size w0 w7) := Lib.hid (hch.below HB_6.out HB_6.out.size (fun k hk => by injection hk with hk; omega))
    have HP2_7 : Hid (w7.heap[P2]? = some (.cells #[.int .i64 id, .int .i64 seq, .int .i64 epoch, .bool false, .string (str body), .bool sent, .int .i64 at_] 61 (0, 0))) := Lib.hid (hch.blk HP2_6.out (by show (61 + 1 : Nat) ≠ _; decide))
    have HP3_7 : Hid (w7.heap[(P2 + 1)]? = some (.cells (mcv v (.slice B nb cb)) 36 (0, 0))) := Lib.hid (hch.blk HP3_6.out (by show (36 + 1 : Nat) ≠ _; decide))
    have HP4_7 : Hid (w7.heap[(P2 + 2)]? = some (.cells #[.int .i64 id, .int .i64 seq, .int .i64 epoch, .bool false, .string (str body), .bool sent, .int .i64 at_] 61 (0, 0))) := Lib.hid (hch.blk HP4_6.out (by show (61 + 1 : Nat) ≠ _; decide))
    clear hch HB_6 HP2_6 HP3_6 HP4_6
    have HP5_7 := Lib.hid hnew
    clear hnew HP5_6
    go_wp2_with (first | (refine wpList_load_row rfl 61 (.tmp 2) rfl P2 rfl 61 _ (0, 0) _ K12.out Try.underlying61 rfl (by kernel_rfl) ?_) | (refine wpList_store_row rfl 61 (.tmp 4) (.tmp 36) rfl (P2 + 2) _ rfl rfl 61 _ HST.out (by kernel_rfl) rfl (by simp [Value.oneCell']) ?_) | (refine wpList_store_row rfl 34 (.tmp 5) (.tmp 37) rfl (P2 + 3) _ rfl rfl 34 _ HST14.out (by kernel_rfl) rfl (by simp [Value.oneCell']) ?_))
    clear cc6 cc7 cc8 cc9 cc10 cc11 K12 HST HST14
    rw [← hw13]
    clear hw13
    rw [← hw15]
    clear hw15
    go_wp2_with fail
    refine bodyPost_ret (v := .tuple #[.agg #[.int .i64 id, .int .i64 seq, .int .i64 epoch, .bool false, .string (str body), .bool sent, .int .i64 at_], .agg #[.int .i64 0, .int .i64 0, .int .i64 0], .bool false]) (results_cc Try.results22 Try.underlying61 Try.underlying34 _ _ (P2 + 2) (P2 + 3) _ _ rfl rfl HP4_7.out HP5_7.out (by kernel_rfl) (by kernel_rfl)) rfl ?_
    refine ⟨fun hn => ?_, fun ha => ?_, HB_7.out⟩
    · rfl
    · exact absurd ha.1 (by simp)
  · skip
    cases b
    · skip
      have HST := HP4_5
      have cc16 : w5.cell? ⟨P2, 3, none⟩ = some (.bool true) := cellb (i := 3) HP2_5.out rfl
      have cc17 : w5.cell? ⟨(P2 + 1), 0, none⟩ = some (.int .i64 (v 0)) := cellb (i := 0) HP3_5.out rfl
      have cc18 : w5.cell? ⟨(P2 + 1), 15, none⟩ = some (.int .i64 (v 15)) := cellb (i := 15) HP3_5.out rfl
      have cc19 : w5.cell? ⟨P2, 0, none⟩ = some (.int .i64 id) := cellb (i := 0) HP2_5.out rfl
      have cc20 : w5.cell? ⟨(P2 + 1), 16, none⟩ = some (.int .i64 (v 16)) := cellb (i := 16) HP3_5.out rfl
      have cc21 : w5.cell? ⟨P2, 1, none⟩ = some (.int .i64 seq) := cellb (i := 1) HP2_5.out rfl
      have K22 := HP2_5
      obtain ⟨w6, hw23⟩ : ∃ y, y = w5.setRow (P2 + 2) #[.int .i64 id, .int .i64 seq, .int .i64 epoch, .bool true, .string (str body), .bool sent, .int .i64 at_] := ⟨_, rfl⟩
      have hch := Ch.ofRow HP4_5.out #[.int .i64 id, .int .i64 seq, .int .i64 epoch, .bool true, .string (str body), .bool sent, .int .i64 at_]
      rw [← hw23] at hch
      have hnew : w6.heap[(P2 + 2)]? = some (.cells #[.int .i64 id, .int .i64 seq, .int .i64 epoch, .bool true, .string (str body), .bool sent, .int .i64 at_] 61 (0, 0)) := by rw [hw23]; exact setRow_heap _ _ _ _ _ _ HP4_5.out
      have HB_6 : Hid (Below w0.heap.size w0 w6) := Lib.hid (hch.below HB_5.out HB_5.out.size (fun k hk => by injection hk with hk; omega))
      have HP2_6 : Hid (w6.heap[P2]? = some (.cells #[.int .i64 id, .int .i64 seq, .int .i64 epoch, .bool true, .string (str body), .bool sent, .int .i64 at_] 61 (0, 0))) := Lib.hid (hch.blkN HP2_5.out (by intro e; injection e with e; omega))
      have HP3_6 : Hid (w6.heap[(P2 + 1)]? = some (.cells (mcv v (.slice B nb cb)) 36 (0, 0))) := Lib.hid (hch.blk HP3_5.out (by show (36 + 1 : Nat) ≠ _; decide))
      have HP5_6 : Hid (w6.heap[(P2 + 3)]? = some (.cells #[.int .i64 0, .int .i64 0, .int .i64 0] 34 (0, 0))) := Lib.hid (hch.blk HP5_5.out (by show (34 + 1 : Nat) ≠ _; decide))
      clear hch HB_5 HP2_5 HP3_5 HP5_5
      have HP4_6 := Lib.hid hnew
      clear hnew HP4_5
      have HST24 : Hid ((w5.setRow (P2 + 2) #[.int .i64 id, .int .i64 seq, .int .i64 epoch, .bool true, .string (str body), .bool sent, .int .i64 at_]).heap[(P2 + 3)]? = some (.cells #[.int .i64 0, .int .i64 0, .int .i64 0] 34 (0, 0))) := Lib.hid (by rw [← hw23]; exact HP5_6.out)
      obtain ⟨w7, hw25⟩ : ∃ y, y = w6.setRow (P2 + 3) #[.int .i64 0, .int .i64 0, .int .i64 0] := ⟨_, rfl⟩
      have hch := Ch.ofRow HP5_6.out #[.int .i64 0, .int .i64 0, .int .i64 0]
      rw [← hw25] at hch
      have hnew : w7.heap[(P2 + 3)]? = some (.cells #[.int .i64 0, .int .i64 0, .int .i64 0] 34 (0, 0)) := by rw [hw25]; exact setRow_heap _ _ _ _ _ _ HP5_6.out
      have HB_7 : Hid (Below w0.heap.size w0 w7) := Lib.hid (hch.below HB_6.out HB_6.out.size (fun k hk => by injection hk with hk; omega))
      have HP2_7 : Hid (w7.heap[P2]? = some (.cells #[.int .i64 id, .int .i64 seq, .int .i64 epoch, .bool true, .string (str body), .bool sent, .int .i64 at_] 61 (0, 0))) := Lib.hid (hch.blk HP2_6.out (by show (61 + 1 : Nat) ≠ _; decide))
      have HP3_7 : Hid (w7.heap[(P2 + 1)]? = some (.cells (mcv v (.slice B nb cb)) 36 (0, 0))) := Lib.hid (hch.blk HP3_6.out (by show (36 + 1 : Nat) ≠ _; decide))
      have HP4_7 : Hid (w7.heap[(P2 + 2)]? = some (.cells #[.int .i64 id, .int .i64 seq, .int .i64 epoch, .bool true, .string (str body), .bool sent, .int .i64 at_] 61 (0, 0))) := Lib.hid (hch.blk HP4_6.out (by show (61 + 1 : Nat) ≠ _; decide))
      clear hch HB_6 HP2_6 HP3_6 HP4_6
      have HP5_7 := Lib.hid hnew
      clear hnew HP5_6
      go_wp2_with (first | (refine wpList_load_row rfl 61 (.tmp 2) rfl P2 rfl 61 _ (0, 0) _ K22.out Try.underlying61 rfl (by kernel_rfl) ?_) | (refine wpList_store_row rfl 61 (.tmp 4) (.tmp 36) rfl (P2 + 2) _ rfl rfl 61 _ HST.out (by kernel_rfl) rfl (by simp [Value.oneCell']) ?_) | (refine wpList_store_row rfl 34 (.tmp 5) (.tmp 37) rfl (P2 + 3) _ rfl rfl 34 _ HST24.out (by kernel_rfl) rfl (by simp [Value.oneCell']) ?_))
      clear cc16 cc17 cc18 cc19 cc20 cc21 K22 HST HST24
      rw [← hw23]
      clear hw23
      rw [← hw25]
      clear hw25
      go_wp2_with fail
      refine bodyPost_ret (v := .tuple #[.agg #[.int .i64 id, .int .i64 seq, .int .i64 epoch, .bool true, .string (str body), .bool sent, .int .i64 at_], .agg #[.int .i64 0, .int .i64 0, .int .i64 0], .bool false]) (results_cc Try.results22 Try.underlying61 Try.underlying34 _ _ (P2 + 2) (P2 + 3) _ _ rfl rfl HP4_7.out HP5_7.out (by kernel_rfl) (by kernel_rfl)) rfl ?_
      refine ⟨fun hn => ?_, fun ha => ?_, HB_7.out⟩
      · rfl
      · rw [← HBM.out]; unfold hearD hearK; simp
    · skip
      have h3 : v 0 ≠ 8 ∨ (v 0 = 8 ∧ v 15 ≠ id) ∨ (v 0 = 8 ∧ v 15 = id ∧ v 16 ≠ seq) ∨ (v 0 = 8 ∧ v 15 = id ∧ v 16 = seq) := by omega
      rcases h3 with h3 | h3 | h3 | h3
      all_goals have H3 := Lib.hid h3
      · skip
        have q1 : (v 0 != 8) = true := by rw [bne_iff_ne]; exact h3
        clear h3
        have HST := HP4_5
        have cc26 : w5.cell? ⟨P2, 3, none⟩ = some (.bool true) := cellb (i := 3) HP2_5.out rfl
        have cc27 : w5.cell? ⟨(P2 + 1), 0, none⟩ = some (.int .i64 (v 0)) := cellb (i := 0) HP3_5.out rfl
        have cc28 : w5.cell? ⟨(P2 + 1), 15, none⟩ = some (.int .i64 (v 15)) := cellb (i := 15) HP3_5.out rfl
        have cc29 : w5.cell? ⟨P2, 0, none⟩ = some (.int .i64 id) := cellb (i := 0) HP2_5.out rfl
        have cc30 : w5.cell? ⟨(P2 + 1), 16, none⟩ = some (.int .i64 (v 16)) := cellb (i := 16) HP3_5.out rfl
        have cc31 : w5.cell? ⟨P2, 1, none⟩ = some (.int .i64 seq) := cellb (i := 1) HP2_5.out rfl
        have K32 := HP2_5
        obtain ⟨w6, hw33⟩ : ∃ y, y = w5.setRow (P2 + 2) #[.int .i64 id, .int .i64 seq, .int .i64 epoch, .bool true, .string (str body), .bool sent, .int .i64 at_] := ⟨_, rfl⟩
        have hch := Ch.ofRow HP4_5.out #[.int .i64 id, .int .i64 seq, .int .i64 epoch, .bool true, .string (str body), .bool sent, .int .i64 at_]
        rw [← hw33] at hch
        have hnew : w6.heap[(P2 + 2)]? = some (.cells #[.int .i64 id, .int .i64 seq, .int .i64 epoch, .bool true, .string (str body), .bool sent, .int .i64 at_] 61 (0, 0)) := by rw [hw33]; exact setRow_heap _ _ _ _ _ _ HP4_5.out
        have HB_6 : Hid (Below w0.heap.size w0 w6) := Lib.hid (hch.below HB_5.out HB_5.out.size (fun k hk => by injection hk with hk; omega))
        have HP2_6 : Hid (w6.heap[P2]? = some (.cells #[.int .i64 id, .int .i64 seq, .int .i64 epoch, .bool true, .string (str body), .bool sent, .int .i64 at_] 61 (0, 0))) := Lib.hid (hch.blkN HP2_5.out (by intro e; injection e with e; omega))
        have HP3_6 : Hid (w6.heap[(P2 + 1)]? = some (.cells (mcv v (.slice B nb cb)) 36 (0, 0))) := Lib.hid (hch.blk HP3_5.out (by show (36 + 1 : Nat) ≠ _; decide))
        have HP5_6 : Hid (w6.heap[(P2 + 3)]? = some (.cells #[.int .i64 0, .int .i64 0, .int .i64 0] 34 (0, 0))) := Lib.hid (hch.blk HP5_5.out (by show (34 + 1 : Nat) ≠ _; decide))
        clear hch HB_5 HP2_5 HP3_5 HP5_5
        have HP4_6 := Lib.hid hnew
        clear hnew HP4_5
        have HST34 : Hid ((w5.setRow (P2 + 2) #[.int .i64 id, .int .i64 seq, .int .i64 epoch, .bool true, .string (str body), .bool sent, .int .i64 at_]).heap[(P2 + 3)]? = some (.cells #[.int .i64 0, .int .i64 0, .int .i64 0] 34 (0, 0))) := Lib.hid (by rw [← hw33]; exact HP5_6.out)
        obtain ⟨w7, hw35⟩ : ∃ y, y = w6.setRow (P2 + 3) #[.int .i64 0, .int .i64 0, .int .i64 0] := ⟨_, rfl⟩
        have hch := Ch.ofRow HP5_6.out #[.int .i64 0, .int .i64 0, .int .i64 0]
        rw [← hw35] at hch
        have hnew : w7.heap[(P2 + 3)]? = some (.cells #[.int .i64 0, .int .i64 0, .int .i64 0] 34 (0, 0)) := by rw [hw35]; exact setRow_heap _ _ _ _ _ _ HP5_6.out
        have HB_7 : Hid (Below w0.heap.size w0 w7) := Lib.hid (hch.below HB_6.out HB_6.out.size (fun k hk => by injection hk with hk; omega))
        have HP2_7 : Hid (w7.heap[P2]? = some (.cells #[.int .i64 id, .int .i64 seq, .int .i64 epoch, .bool true, .string (str body), .bool sent, .int .i64 at_] 61 (0, 0))) := Lib.hid (hch.blk HP2_6.out (by show (61 + 1 : Nat) ≠ _; decide))
        have HP3_7 : Hid (w7.heap[(P2 + 1)]? = some (.cells (mcv v (.slice B nb cb)) 36 (0, 0))) := Lib.hid (hch.blk HP3_6.out (by show (36 + 1 : Nat) ≠ _; decide))
        have HP4_7 : Hid (w7.heap[(P2 + 2)]? = some (.cells #[.int .i64 id, .int .i64 seq, .int .i64 epoch, .bool true, .string (str body), .bool sent, .int .i64 at_] 61 (0, 0))) := Lib.hid (hch.blk HP4_6.out (by show (61 + 1 : Nat) ≠ _; decide))
        clear hch HB_6 HP2_6 HP3_6 HP4_6
        have HP5_7 := Lib.hid hnew
        clear hnew HP5_6
        go_wp2_with (first | (refine wpList_load_row rfl 61 (.tmp 2) rfl P2 rfl 61 _ (0, 0) _ K32.out Try.underlying61 rfl (by kernel_rfl) ?_) | (refine wpList_store_row rfl 61 (.tmp 4) (.tmp 36) rfl (P2 + 2) _ rfl rfl 61 _ HST.out (by kernel_rfl) rfl (by simp [Value.oneCell']) ?_) | (refine wpList_store_row rfl 34 (.tmp 5) (.tmp 37) rfl (P2 + 3) _ rfl rfl 34 _ HST34.out (by kernel_rfl) rfl (by simp [Value.oneCell']) ?_))
        clear cc26 cc27 cc28 cc29 cc30 cc31 K32 HST HST34
        rw [← hw33]
        clear hw33
        rw [← hw35]
        clear hw35
        go_wp2_with fail
        refine bodyPost_ret (v := .tuple #[.agg #[.int .i64 id, .int .i64 seq, .int .i64 epoch, .bool true, .string (str body), .bool sent, .int .i64 at_], .agg #[.int .i64 0, .int .i64 0, .int .i64 0], .bool false]) (results_cc Try.results22 Try.underlying61 Try.underlying34 _ _ (P2 + 2) (P2 + 3) _ _ rfl rfl HP4_7.out HP5_7.out (by kernel_rfl) (by kernel_rfl)) rfl ?_
        refine ⟨fun hn => ?_, fun ha => ?_, HB_7.out⟩
        · rfl
        · exact absurd ha.2.1 H3.out
      · skip
        have q1 : (v 0 != 8) = false := by rw [bne_eq_false_iff_eq]; exact h3.1
        have q2 : (v 15 != id) = true := by rw [bne_iff_ne]; exact h3.2
        clear h3
        have HST := HP4_5
        have cc36 : w5.cell? ⟨P2, 3, none⟩ = some (.bool true) := cellb (i := 3) HP2_5.out rfl
        have cc37 : w5.cell? ⟨(P2 + 1), 0, none⟩ = some (.int .i64 (v 0)) := cellb (i := 0) HP3_5.out rfl
        have cc38 : w5.cell? ⟨(P2 + 1), 15, none⟩ = some (.int .i64 (v 15)) := cellb (i := 15) HP3_5.out rfl
        have cc39 : w5.cell? ⟨P2, 0, none⟩ = some (.int .i64 id) := cellb (i := 0) HP2_5.out rfl
        have cc40 : w5.cell? ⟨(P2 + 1), 16, none⟩ = some (.int .i64 (v 16)) := cellb (i := 16) HP3_5.out rfl
        have cc41 : w5.cell? ⟨P2, 1, none⟩ = some (.int .i64 seq) := cellb (i := 1) HP2_5.out rfl
        have K42 := HP2_5
        obtain ⟨w6, hw43⟩ : ∃ y, y = w5.setRow (P2 + 2) #[.int .i64 id, .int .i64 seq, .int .i64 epoch, .bool true, .string (str body), .bool sent, .int .i64 at_] := ⟨_, rfl⟩
        have hch := Ch.ofRow HP4_5.out #[.int .i64 id, .int .i64 seq, .int .i64 epoch, .bool true, .string (str body), .bool sent, .int .i64 at_]
        rw [← hw43] at hch
        have hnew : w6.heap[(P2 + 2)]? = some (.cells #[.int .i64 id, .int .i64 seq, .int .i64 epoch, .bool true, .string (str body), .bool sent, .int .i64 at_] 61 (0, 0)) := by rw [hw43]; exact setRow_heap _ _ _ _ _ _ HP4_5.out
        have HB_6 : Hid (Below w0.heap.size w0 w6) := Lib.hid (hch.below HB_5.out HB_5.out.size (fun k hk => by injection hk with hk; omega))
        have HP2_6 : Hid (w6.heap[P2]? = some (.cells #[.int .i64 id, .int .i64 seq, .int .i64 epoch, .bool true, .string (str body), .bool sent, .int .i64 at_] 61 (0, 0))) := Lib.hid (hch.blkN HP2_5.out (by intro e; injection e with e; omega))
        have HP3_6 : Hid (w6.heap[(P2 + 1)]? = some (.cells (mcv v (.slice B nb cb)) 36 (0, 0))) := Lib.hid (hch.blk HP3_5.out (by show (36 + 1 : Nat) ≠ _; decide))
        have HP5_6 : Hid (w6.heap[(P2 + 3)]? = some (.cells #[.int .i64 0, .int .i64 0, .int .i64 0] 34 (0, 0))) := Lib.hid (hch.blk HP5_5.out (by show (34 + 1 : Nat) ≠ _; decide))
        clear hch HB_5 HP2_5 HP3_5 HP5_5
        have HP4_6 := Lib.hid hnew
        clear hnew HP4_5
        have HST44 : Hid ((w5.setRow (P2 + 2) #[.int .i64 id, .int .i64 seq, .int .i64 epoch, .bool true, .string (str body), .bool sent, .int .i64 at_]).heap[(P2 + 3)]? = some (.cells #[.int .i64 0, .int .i64 0, .int .i64 0] 34 (0, 0))) := Lib.hid (by rw [← hw43]; exact HP5_6.out)
        obtain ⟨w7, hw45⟩ : ∃ y, y = w6.setRow (P2 + 3) #[.int .i64 0, .int .i64 0, .int .i64 0] := ⟨_, rfl⟩
        have hch := Ch.ofRow HP5_6.out #[.int .i64 0, .int .i64 0, .int .i64 0]
        rw [← hw45] at hch
        have hnew : w7.heap[(P2 + 3)]? = some (.cells #[.int .i64 0, .int .i64 0, .int .i64 0] 34 (0, 0)) := by rw [hw45]; exact setRow_heap _ _ _ _ _ _ HP5_6.out
        have HB_7 : Hid (Below w0.heap.size w0 w7) := Lib.hid (hch.below HB_6.out HB_6.out.size (fun k hk => by injection hk with hk; omega))
        have HP2_7 : Hid (w7.heap[P2]? = some (.cells #[.int .i64 id, .int .i64 seq, .int .i64 epoch, .bool true, .string (str body), .bool sent, .int .i64 at_] 61 (0, 0))) := Lib.hid (hch.blk HP2_6.out (by show (61 + 1 : Nat) ≠ _; decide))
        have HP3_7 : Hid (w7.heap[(P2 + 1)]? = some (.cells (mcv v (.slice B nb cb)) 36 (0, 0))) := Lib.hid (hch.blk HP3_6.out (by show (36 + 1 : Nat) ≠ _; decide))
        have HP4_7 : Hid (w7.heap[(P2 + 2)]? = some (.cells #[.int .i64 id, .int .i64 seq, .int .i64 epoch, .bool true, .string (str body), .bool sent, .int .i64 at_] 61 (0, 0))) := Lib.hid (hch.blk HP4_6.out (by show (61 + 1 : Nat) ≠ _; decide))
        clear hch HB_6 HP2_6 HP3_6 HP4_6
        have HP5_7 := Lib.hid hnew
        clear hnew HP5_6
        go_wp2_with (first | (refine wpList_load_row rfl 61 (.tmp 2) rfl P2 rfl 61 _ (0, 0) _ K42.out Try.underlying61 rfl (by kernel_rfl) ?_) | (refine wpList_store_row rfl 61 (.tmp 4) (.tmp 36) rfl (P2 + 2) _ rfl rfl 61 _ HST.out (by kernel_rfl) rfl (by simp [Value.oneCell']) ?_) | (refine wpList_store_row rfl 34 (.tmp 5) (.tmp 37) rfl (P2 + 3) _ rfl rfl 34 _ HST44.out (by kernel_rfl) rfl (by simp [Value.oneCell']) ?_))
        clear cc36 cc37 cc38 cc39 cc40 cc41 K42 HST HST44
        rw [← hw43]
        clear hw43
        rw [← hw45]
        clear hw45
        go_wp2_with fail
        refine bodyPost_ret (v := .tuple #[.agg #[.int .i64 id, .int .i64 seq, .int .i64 epoch, .bool true, .string (str body), .bool sent, .int .i64 at_], .agg #[.int .i64 0, .int .i64 0, .int .i64 0], .bool false]) (results_cc Try.results22 Try.underlying61 Try.underlying34 _ _ (P2 + 2) (P2 + 3) _ _ rfl rfl HP4_7.out HP5_7.out (by kernel_rfl) (by kernel_rfl)) rfl ?_
        refine ⟨fun hn => ?_, fun ha => ?_, HB_7.out⟩
        · rfl
        · exact absurd ha.2.2.1 H3.out.2
      · skip
        have q1 : (v 0 != 8) = false := by rw [bne_eq_false_iff_eq]; exact h3.1
        have q2 : (v 15 != id) = false := by rw [bne_eq_false_iff_eq]; exact h3.2.1
        have q3 : (v 16 != seq) = true := by rw [bne_iff_ne]; exact h3.2.2
        clear h3
        have HST := HP4_5
        have cc46 : w5.cell? ⟨P2, 3, none⟩ = some (.bool true) := cellb (i := 3) HP2_5.out rfl
        have cc47 : w5.cell? ⟨(P2 + 1), 0, none⟩ = some (.int .i64 (v 0)) := cellb (i := 0) HP3_5.out rfl
        have cc48 : w5.cell? ⟨(P2 + 1), 15, none⟩ = some (.int .i64 (v 15)) := cellb (i := 15) HP3_5.out rfl
        have cc49 : w5.cell? ⟨P2, 0, none⟩ = some (.int .i64 id) := cellb (i := 0) HP2_5.out rfl
        have cc50 : w5.cell? ⟨(P2 + 1), 16, none⟩ = some (.int .i64 (v 16)) := cellb (i := 16) HP3_5.out rfl
        have cc51 : w5.cell? ⟨P2, 1, none⟩ = some (.int .i64 seq) := cellb (i := 1) HP2_5.out rfl
        have K52 := HP2_5
        obtain ⟨w6, hw53⟩ : ∃ y, y = w5.setRow (P2 + 2) #[.int .i64 id, .int .i64 seq, .int .i64 epoch, .bool true, .string (str body), .bool sent, .int .i64 at_] := ⟨_, rfl⟩
        have hch := Ch.ofRow HP4_5.out #[.int .i64 id, .int .i64 seq, .int .i64 epoch, .bool true, .string (str body), .bool sent, .int .i64 at_]
        rw [← hw53] at hch
        have hnew : w6.heap[(P2 + 2)]? = some (.cells #[.int .i64 id, .int .i64 seq, .int .i64 epoch, .bool true, .string (str body), .bool sent, .int .i64 at_] 61 (0, 0)) := by rw [hw53]; exact setRow_heap _ _ _ _ _ _ HP4_5.out
        have HB_6 : Hid (Below w0.heap.size w0 w6) := Lib.hid (hch.below HB_5.out HB_5.out.size (fun k hk => by injection hk with hk; omega))
        have HP2_6 : Hid (w6.heap[P2]? = some (.cells #[.int .i64 id, .int .i64 seq, .int .i64 epoch, .bool true, .string (str body), .bool sent, .int .i64 at_] 61 (0, 0))) := Lib.hid (hch.blkN HP2_5.out (by intro e; injection e with e; omega))
        have HP3_6 : Hid (w6.heap[(P2 + 1)]? = some (.cells (mcv v (.slice B nb cb)) 36 (0, 0))) := Lib.hid (hch.blk HP3_5.out (by show (36 + 1 : Nat) ≠ _; decide))
        have HP5_6 : Hid (w6.heap[(P2 + 3)]? = some (.cells #[.int .i64 0, .int .i64 0, .int .i64 0] 34 (0, 0))) := Lib.hid (hch.blk HP5_5.out (by show (34 + 1 : Nat) ≠ _; decide))
        clear hch HB_5 HP2_5 HP3_5 HP5_5
        have HP4_6 := Lib.hid hnew
        clear hnew HP4_5
        have HST54 : Hid ((w5.setRow (P2 + 2) #[.int .i64 id, .int .i64 seq, .int .i64 epoch, .bool true, .string (str body), .bool sent, .int .i64 at_]).heap[(P2 + 3)]? = some (.cells #[.int .i64 0, .int .i64 0, .int .i64 0] 34 (0, 0))) := Lib.hid (by rw [← hw53]; exact HP5_6.out)
        obtain ⟨w7, hw55⟩ : ∃ y, y = w6.setRow (P2 + 3) #[.int .i64 0, .int .i64 0, .int .i64 0] := ⟨_, rfl⟩
        have hch := Ch.ofRow HP5_6.out #[.int .i64 0, .int .i64 0, .int .i64 0]
        rw [← hw55] at hch
        have hnew : w7.heap[(P2 + 3)]? = some (.cells #[.int .i64 0, .int .i64 0, .int .i64 0] 34 (0, 0)) := by rw [hw55]; exact setRow_heap _ _ _ _ _ _ HP5_6.out
        have HB_7 : Hid (Below w0.heap.size w0 w7) := Lib.hid (hch.below HB_6.out HB_6.out.size (fun k hk => by injection hk with hk; omega))
        have HP2_7 : Hid (w7.heap[P2]? = some (.cells #[.int .i64 id, .int .i64 seq, .int .i64 epoch, .bool true, .string (str body), .bool sent, .int .i64 at_] 61 (0, 0))) := Lib.hid (hch.blk HP2_6.out (by show (61 + 1 : Nat) ≠ _; decide))
        have HP3_7 : Hid (w7.heap[(P2 + 1)]? = some (.cells (mcv v (.slice B nb cb)) 36 (0, 0))) := Lib.hid (hch.blk HP3_6.out (by show (36 + 1 : Nat) ≠ _; decide))
        have HP4_7 : Hid (w7.heap[(P2 + 2)]? = some (.cells #[.int .i64 id, .int .i64 seq, .int .i64 epoch, .bool true, .string (str body), .bool sent, .int .i64 at_] 61 (0, 0))) := Lib.hid (hch.blk HP4_6.out (by show (61 + 1 : Nat) ≠ _; decide))
        clear hch HB_6 HP2_6 HP3_6 HP4_6
        have HP5_7 := Lib.hid hnew
        clear hnew HP5_6
        go_wp2_with (first | (refine wpList_load_row rfl 61 (.tmp 2) rfl P2 rfl 61 _ (0, 0) _ K52.out Try.underlying61 rfl (by kernel_rfl) ?_) | (refine wpList_store_row rfl 61 (.tmp 4) (.tmp 36) rfl (P2 + 2) _ rfl rfl 61 _ HST.out (by kernel_rfl) rfl (by simp [Value.oneCell']) ?_) | (refine wpList_store_row rfl 34 (.tmp 5) (.tmp 37) rfl (P2 + 3) _ rfl rfl 34 _ HST54.out (by kernel_rfl) rfl (by simp [Value.oneCell']) ?_))
        clear cc46 cc47 cc48 cc49 cc50 cc51 K52 HST HST54
        rw [← hw53]
        clear hw53
        rw [← hw55]
        clear hw55
        go_wp2_with fail
        refine bodyPost_ret (v := .tuple #[.agg #[.int .i64 id, .int .i64 seq, .int .i64 epoch, .bool true, .string (str body), .bool sent, .int .i64 at_], .agg #[.int .i64 0, .int .i64 0, .int .i64 0], .bool false]) (results_cc Try.results22 Try.underlying61 Try.underlying34 _ _ (P2 + 2) (P2 + 3) _ _ rfl rfl HP4_7.out HP5_7.out (by kernel_rfl) (by kernel_rfl)) rfl ?_
        refine ⟨fun hn => ?_, fun ha => ?_, HB_7.out⟩
        · rfl
        · exact absurd ha.2.2.2 H3.out.2.2
      · skip
        have q1 : (v 0 != 8) = false := by rw [bne_eq_false_iff_eq]; exact h3.1
        have q2 : (v 15 != id) = false := by rw [bne_eq_false_iff_eq]; exact h3.2.1
        have q3 : (v 16 != seq) = false := by rw [bne_eq_false_iff_eq]; exact h3.2.2
        clear h3
        have cc56 : w5.cell? ⟨P2, 3, none⟩ = some (.bool true) := cellb (i := 3) HP2_5.out rfl
        have cc57 : w5.cell? ⟨(P2 + 1), 0, none⟩ = some (.int .i64 (v 0)) := cellb (i := 0) HP3_5.out rfl
        have cc58 : w5.cell? ⟨(P2 + 1), 15, none⟩ = some (.int .i64 (v 15)) := cellb (i := 15) HP3_5.out rfl
        have cc59 : w5.cell? ⟨P2, 0, none⟩ = some (.int .i64 id) := cellb (i := 0) HP2_5.out rfl
        have cc60 : w5.cell? ⟨(P2 + 1), 16, none⟩ = some (.int .i64 (v 16)) := cellb (i := 16) HP3_5.out rfl
        have cc61 : w5.cell? ⟨P2, 1, none⟩ = some (.int .i64 seq) := cellb (i := 1) HP2_5.out rfl
        go_upto_region 4 with fail
        clear cc56 cc57 cc58 cc59 cc60 cc61
        by_cases h5 : v 18 = 190
        all_goals have H5 := Lib.hid h5
        · skip
          have q4 : (v 18 == 190) = true := by rw [beq_iff_eq]; exact h5
          clear h5
          have cc62 : w5.cell? ⟨(P2 + 1), 18, none⟩ = some (.int .i64 (v 18)) := cellb (i := 18) HP3_5.out rfl
          go_upto_region 5 with fail
          clear cc62
          by_cases h6 : epoch < v 1
          · skip
            have H6 := Lib.hid h6
            have cc63 : w5.cell? ⟨(P2 + 1), 1, none⟩ = some (.int .i64 (v 1)) := cellb (i := 1) HP3_5.out rfl
            have cc64 : w5.cell? ⟨P2, 2, none⟩ = some (.int .i64 epoch) := cellb (i := 2) HP2_5.out rfl
            have cc65 : w5.cell? ⟨(P2 + 1), 1, none⟩ = some (.int .i64 (v 1)) := cellb (i := 1) HP3_5.out rfl
            have cc66 : w5.cell? ⟨P2, 2, none⟩ = some (.int .i64 epoch) := cellb (i := 2) HP2_5.out rfl
            have fz67 : w5.frozen? ⟨P2, 2, none⟩ = false := fzb HP2_5.out 2
            obtain ⟨w6, hw68⟩ : ∃ y, y = w5.setCell ⟨P2, 2, none⟩ (.int .i64 (v 1)) := ⟨_, rfl⟩
            have hch := Ch.ofCell (i := 2) HP2_5.out (.int .i64 (v 1))
            rw [← hw68] at hch
            have hnew : w6.heap[P2]? = some (.cells #[.int .i64 id, .int .i64 seq, .int .i64 (v 1), .bool true, .string (str body), .bool sent, .int .i64 at_] 61 (0, 0)) := by rw [hw68]; exact set_blk HP2_5.out _
            have HB_6 : Hid (Below w0.heap.size w0 w6) := Lib.hid (hch.below HB_5.out HB_5.out.size (fun k hk => by injection hk with hk; omega))
            have HP3_6 : Hid (w6.heap[(P2 + 1)]? = some (.cells (mcv v (.slice B nb cb)) 36 (0, 0))) := Lib.hid (hch.blk HP3_5.out (by show (36 + 1 : Nat) ≠ _; decide))
            have HP4_6 : Hid (w6.heap[(P2 + 2)]? = some (.cells #[.int .i64 0, .int .i64 0, .int .i64 0, .bool false, .string { data := #[] }, .bool false, .int .i64 0] 61 (0, 0))) := Lib.hid (hch.blkN HP4_5.out (by intro e; injection e with e; omega))
            have HP5_6 : Hid (w6.heap[(P2 + 3)]? = some (.cells #[.int .i64 0, .int .i64 0, .int .i64 0] 34 (0, 0))) := Lib.hid (hch.blk HP5_5.out (by show (34 + 1 : Nat) ≠ _; decide))
            clear hch HB_5 HP3_5 HP4_5 HP5_5
            have HP2_6 := Lib.hid hnew
            clear hnew HP2_5
            go_upto_region 7 with fail
            clear cc63 cc64 cc65 cc66 fz67
            rw [← hw68]
            clear hw68
            have cc69 : w6.cell? ⟨P2, 5, none⟩ = some (.bool sent) := cellb (i := 5) HP2_6.out rfl
            have fz70 : w6.frozen? ⟨P2, 5, none⟩ = false := fzb HP2_6.out 5
            obtain ⟨w7, hw71⟩ : ∃ y, y = w6.setCell ⟨P2, 5, none⟩ (.bool false) := ⟨_, rfl⟩
            have hch := Ch.ofCell (i := 5) HP2_6.out (.bool false)
            rw [← hw71] at hch
            have hnew : w7.heap[P2]? = some (.cells #[.int .i64 id, .int .i64 seq, .int .i64 (v 1), .bool true, .string (str body), .bool false, .int .i64 at_] 61 (0, 0)) := by rw [hw71]; exact set_blk HP2_6.out _
            have HB_7 : Hid (Below w0.heap.size w0 w7) := Lib.hid (hch.below HB_6.out HB_6.out.size (fun k hk => by injection hk with hk; omega))
            have HP3_7 : Hid (w7.heap[(P2 + 1)]? = some (.cells (mcv v (.slice B nb cb)) 36 (0, 0))) := Lib.hid (hch.blk HP3_6.out (by show (36 + 1 : Nat) ≠ _; decide))
            have HP4_7 : Hid (w7.heap[(P2 + 2)]? = some (.cells #[.int .i64 0, .int .i64 0, .int .i64 0, .bool false, .string { data := #[] }, .bool false, .int .i64 0] 61 (0, 0))) := Lib.hid (hch.blkN HP4_6.out (by intro e; injection e with e; omega))
            have HP5_7 : Hid (w7.heap[(P2 + 3)]? = some (.cells #[.int .i64 0, .int .i64 0, .int .i64 0] 34 (0, 0))) := Lib.hid (hch.blk HP5_6.out (by show (34 + 1 : Nat) ≠ _; decide))
            clear hch HB_6 HP3_6 HP4_6 HP5_6
            have HP2_7 := Lib.hid hnew
            clear hnew HP2_6
            go_upto_region 8 with fail
            clear cc69 fz70
            rw [← hw71]
            clear hw71
            have HST := HP4_7
            have K72 := HP2_7
            obtain ⟨w8, hw73⟩ : ∃ y, y = w7.setRow (P2 + 2) #[.int .i64 id, .int .i64 seq, .int .i64 (v 1), .bool true, .string (str body), .bool false, .int .i64 at_] := ⟨_, rfl⟩
            have hch := Ch.ofRow HP4_7.out #[.int .i64 id, .int .i64 seq, .int .i64 (v 1), .bool true, .string (str body), .bool false, .int .i64 at_]
            rw [← hw73] at hch
            have hnew : w8.heap[(P2 + 2)]? = some (.cells #[.int .i64 id, .int .i64 seq, .int .i64 (v 1), .bool true, .string (str body), .bool false, .int .i64 at_] 61 (0, 0)) := by rw [hw73]; exact setRow_heap _ _ _ _ _ _ HP4_7.out
            have HB_8 : Hid (Below w0.heap.size w0 w8) := Lib.hid (hch.below HB_7.out HB_7.out.size (fun k hk => by injection hk with hk; omega))
            have HP3_8 : Hid (w8.heap[(P2 + 1)]? = some (.cells (mcv v (.slice B nb cb)) 36 (0, 0))) := Lib.hid (hch.blk HP3_7.out (by show (36 + 1 : Nat) ≠ _; decide))
            have HP5_8 : Hid (w8.heap[(P2 + 3)]? = some (.cells #[.int .i64 0, .int .i64 0, .int .i64 0] 34 (0, 0))) := Lib.hid (hch.blk HP5_7.out (by show (34 + 1 : Nat) ≠ _; decide))
            have HP2_8 : Hid (w8.heap[P2]? = some (.cells #[.int .i64 id, .int .i64 seq, .int .i64 (v 1), .bool true, .string (str body), .bool false, .int .i64 at_] 61 (0, 0))) := Lib.hid (hch.blkN HP2_7.out (by intro e; injection e with e; omega))
            clear hch HB_7 HP3_7 HP5_7 HP2_7
            have HP4_8 := Lib.hid hnew
            clear hnew HP4_7
            have HST74 : Hid ((w7.setRow (P2 + 2) #[.int .i64 id, .int .i64 seq, .int .i64 (v 1), .bool true, .string (str body), .bool false, .int .i64 at_]).heap[(P2 + 3)]? = some (.cells #[.int .i64 0, .int .i64 0, .int .i64 0] 34 (0, 0))) := Lib.hid (by rw [← hw73]; exact HP5_8.out)
            obtain ⟨w9, hw75⟩ : ∃ y, y = w8.setRow (P2 + 3) #[.int .i64 0, .int .i64 0, .int .i64 0] := ⟨_, rfl⟩
            have hch := Ch.ofRow HP5_8.out #[.int .i64 0, .int .i64 0, .int .i64 0]
            rw [← hw75] at hch
            have hnew : w9.heap[(P2 + 3)]? = some (.cells #[.int .i64 0, .int .i64 0, .int .i64 0] 34 (0, 0)) := by rw [hw75]; exact setRow_heap _ _ _ _ _ _ HP5_8.out
            have HB_9 : Hid (Below w0.heap.size w0 w9) := Lib.hid (hch.below HB_8.out HB_8.out.size (fun k hk => by injection hk with hk; omega))
            have HP3_9 : Hid (w9.heap[(P2 + 1)]? = some (.cells (mcv v (.slice B nb cb)) 36 (0, 0))) := Lib.hid (hch.blk HP3_8.out (by show (36 + 1 : Nat) ≠ _; decide))
            have HP2_9 : Hid (w9.heap[P2]? = some (.cells #[.int .i64 id, .int .i64 seq, .int .i64 (v 1), .bool true, .string (str body), .bool false, .int .i64 at_] 61 (0, 0))) := Lib.hid (hch.blk HP2_8.out (by show (61 + 1 : Nat) ≠ _; decide))
            have HP4_9 : Hid (w9.heap[(P2 + 2)]? = some (.cells #[.int .i64 id, .int .i64 seq, .int .i64 (v 1), .bool true, .string (str body), .bool false, .int .i64 at_] 61 (0, 0))) := Lib.hid (hch.blk HP4_8.out (by show (61 + 1 : Nat) ≠ _; decide))
            clear hch HB_8 HP3_8 HP2_8 HP4_8
            have HP5_9 := Lib.hid hnew
            clear hnew HP5_8
            go_wp2_with (first | (refine wpList_load_row rfl 61 (.tmp 2) rfl P2 rfl 61 _ (0, 0) _ K72.out Try.underlying61 rfl (by kernel_rfl) ?_) | (refine wpList_store_row rfl 61 (.tmp 4) (.tmp 51) rfl (P2 + 2) _ rfl rfl 61 _ HST.out (by kernel_rfl) rfl (by simp [Value.oneCell']) ?_) | (refine wpList_store_row rfl 34 (.tmp 5) (.tmp 52) rfl (P2 + 3) _ rfl rfl 34 _ HST74.out (by kernel_rfl) rfl (by simp [Value.oneCell']) ?_))
            clear K72 HST HST74
            rw [← hw73]
            clear hw73
            rw [← hw75]
            clear hw75
            go_wp2_with fail
            refine bodyPost_ret (v := .tuple #[.agg #[.int .i64 id, .int .i64 seq, .int .i64 (v 1), .bool true, .string (str body), .bool false, .int .i64 at_], .agg #[.int .i64 0, .int .i64 0, .int .i64 0], .bool false]) (results_cc Try.results22 Try.underlying61 Try.underlying34 _ _ (P2 + 2) (P2 + 3) _ _ rfl rfl HP4_9.out HP5_9.out (by kernel_rfl) (by kernel_rfl)) rfl ?_
            refine ⟨fun hn => ?_, fun ha => ?_, HB_9.out⟩
            · exact absurd ⟨rfl, H3.out.1, H3.out.2.1, H3.out.2.2⟩ hn
            · rw [← HBM.out]; unfold hearD hearK; simp only [H5.out, if_true, if_pos (show epoch < v 1 by have := H6.out; omega)]; simp
          · skip
            have H6 := Lib.hid h6
            have HST := HP4_5
            have cc76 : w5.cell? ⟨(P2 + 1), 1, none⟩ = some (.int .i64 (v 1)) := cellb (i := 1) HP3_5.out rfl
            have cc77 : w5.cell? ⟨P2, 2, none⟩ = some (.int .i64 epoch) := cellb (i := 2) HP2_5.out rfl
            have K78 := HP2_5
            obtain ⟨w6, hw79⟩ : ∃ y, y = w5.setRow (P2 + 2) #[.int .i64 id, .int .i64 seq, .int .i64 epoch, .bool true, .string (str body), .bool sent, .int .i64 at_] := ⟨_, rfl⟩
            have hch := Ch.ofRow HP4_5.out #[.int .i64 id, .int .i64 seq, .int .i64 epoch, .bool true, .string (str body), .bool sent, .int .i64 at_]
            rw [← hw79] at hch
            have hnew : w6.heap[(P2 + 2)]? = some (.cells #[.int .i64 id, .int .i64 seq, .int .i64 epoch, .bool true, .string (str body), .bool sent, .int .i64 at_] 61 (0, 0)) := by rw [hw79]; exact setRow_heap _ _ _ _ _ _ HP4_5.out
            have HB_6 : Hid (Below w0.heap.size w0 w6) := Lib.hid (hch.below HB_5.out HB_5.out.size (fun k hk => by injection hk with hk; omega))
            have HP2_6 : Hid (w6.heap[P2]? = some (.cells #[.int .i64 id, .int .i64 seq, .int .i64 epoch, .bool true, .string (str body), .bool sent, .int .i64 at_] 61 (0, 0))) := Lib.hid (hch.blkN HP2_5.out (by intro e; injection e with e; omega))
            have HP3_6 : Hid (w6.heap[(P2 + 1)]? = some (.cells (mcv v (.slice B nb cb)) 36 (0, 0))) := Lib.hid (hch.blk HP3_5.out (by show (36 + 1 : Nat) ≠ _; decide))
            have HP5_6 : Hid (w6.heap[(P2 + 3)]? = some (.cells #[.int .i64 0, .int .i64 0, .int .i64 0] 34 (0, 0))) := Lib.hid (hch.blk HP5_5.out (by show (34 + 1 : Nat) ≠ _; decide))
            clear hch HB_5 HP2_5 HP3_5 HP5_5
            have HP4_6 := Lib.hid hnew
            clear hnew HP4_5
            have HST80 : Hid ((w5.setRow (P2 + 2) #[.int .i64 id, .int .i64 seq, .int .i64 epoch, .bool true, .string (str body), .bool sent, .int .i64 at_]).heap[(P2 + 3)]? = some (.cells #[.int .i64 0, .int .i64 0, .int .i64 0] 34 (0, 0))) := Lib.hid (by rw [← hw79]; exact HP5_6.out)
            obtain ⟨w7, hw81⟩ : ∃ y, y = w6.setRow (P2 + 3) #[.int .i64 0, .int .i64 0, .int .i64 0] := ⟨_, rfl⟩
            have hch := Ch.ofRow HP5_6.out #[.int .i64 0, .int .i64 0, .int .i64 0]
            rw [← hw81] at hch
            have hnew : w7.heap[(P2 + 3)]? = some (.cells #[.int .i64 0, .int .i64 0, .int .i64 0] 34 (0, 0)) := by rw [hw81]; exact setRow_heap _ _ _ _ _ _ HP5_6.out
            have HB_7 : Hid (Below w0.heap.size w0 w7) := Lib.hid (hch.below HB_6.out HB_6.out.size (fun k hk => by injection hk with hk; omega))
            have HP2_7 : Hid (w7.heap[P2]? = some (.cells #[.int .i64 id, .int .i64 seq, .int .i64 epoch, .bool true, .string (str body), .bool sent, .int .i64 at_] 61 (0, 0))) := Lib.hid (hch.blk HP2_6.out (by show (61 + 1 : Nat) ≠ _; decide))
            have HP3_7 : Hid (w7.heap[(P2 + 1)]? = some (.cells (mcv v (.slice B nb cb)) 36 (0, 0))) := Lib.hid (hch.blk HP3_6.out (by show (36 + 1 : Nat) ≠ _; decide))
            have HP4_7 : Hid (w7.heap[(P2 + 2)]? = some (.cells #[.int .i64 id, .int .i64 seq, .int .i64 epoch, .bool true, .string (str body), .bool sent, .int .i64 at_] 61 (0, 0))) := Lib.hid (hch.blk HP4_6.out (by show (61 + 1 : Nat) ≠ _; decide))
            clear hch HB_6 HP2_6 HP3_6 HP4_6
            have HP5_7 := Lib.hid hnew
            clear hnew HP5_6
            go_wp2_with (first | (refine wpList_load_row rfl 61 (.tmp 2) rfl P2 rfl 61 _ (0, 0) _ K78.out Try.underlying61 rfl (by kernel_rfl) ?_) | (refine wpList_store_row rfl 61 (.tmp 4) (.tmp 51) rfl (P2 + 2) _ rfl rfl 61 _ HST.out (by kernel_rfl) rfl (by simp [Value.oneCell']) ?_) | (refine wpList_store_row rfl 34 (.tmp 5) (.tmp 52) rfl (P2 + 3) _ rfl rfl 34 _ HST80.out (by kernel_rfl) rfl (by simp [Value.oneCell']) ?_))
            clear cc76 cc77 K78 HST HST80
            rw [← hw79]
            clear hw79
            rw [← hw81]
            clear hw81
            go_wp2_with fail
            refine bodyPost_ret (v := .tuple #[.agg #[.int .i64 id, .int .i64 seq, .int .i64 epoch, .bool true, .string (str body), .bool sent, .int .i64 at_], .agg #[.int .i64 0, .int .i64 0, .int .i64 0], .bool false]) (results_cc Try.results22 Try.underlying61 Try.underlying34 _ _ (P2 + 2) (P2 + 3) _ _ rfl rfl HP4_7.out HP5_7.out (by kernel_rfl) (by kernel_rfl)) rfl ?_
            refine ⟨fun hn => ?_, fun ha => ?_, HB_7.out⟩
            · exact absurd ⟨rfl, H3.out.1, H3.out.2.1, H3.out.2.2⟩ hn
            · rw [← HBM.out]; unfold hearD hearK; simp only [H5.out, if_true, if_neg (show ¬ epoch < v 1 by have := H6.out; omega)]; simp
        · skip
          have q4 : (v 18 == 190) = false := by rw [beq_eq_false_iff_ne]; exact h5
          clear h5
          have cc82 : w5.cell? ⟨(P2 + 1), 18, none⟩ = some (.int .i64 (v 18)) := cellb (i := 18) HP3_5.out rfl
          go_upto_region 9 with fail
          clear cc82
          by_cases h6 : v 1 = epoch
          · skip
            have H6 := Lib.hid h6
            have q5 : (v 1 != epoch) = false := by rw [bne_eq_false_iff_eq]; exact h6
            clear h6
            have cc83 : w5.cell? ⟨(P2 + 1), 1, none⟩ = some (.int .i64 (v 1)) := cellb (i := 1) HP3_5.out rfl
            have cc84 : w5.cell? ⟨P2, 2, none⟩ = some (.int .i64 epoch) := cellb (i := 2) HP2_5.out rfl
            have cc85 : w5.cell? ⟨P2, 3, none⟩ = some (.bool true) := cellb (i := 3) HP2_5.out rfl
            have fz86 : w5.frozen? ⟨P2, 3, none⟩ = false := fzb HP2_5.out 3
            obtain ⟨w6, hw87⟩ : ∃ y, y = w5.setCell ⟨P2, 3, none⟩ (.bool false) := ⟨_, rfl⟩
            have hch := Ch.ofCell (i := 3) HP2_5.out (.bool false)
            rw [← hw87] at hch
            have hnew : w6.heap[P2]? = some (.cells #[.int .i64 id, .int .i64 seq, .int .i64 epoch, .bool false, .string (str body), .bool sent, .int .i64 at_] 61 (0, 0)) := by rw [hw87]; exact set_blk HP2_5.out _
            have HB_6 : Hid (Below w0.heap.size w0 w6) := Lib.hid (hch.below HB_5.out HB_5.out.size (fun k hk => by injection hk with hk; omega))
            have HP3_6 : Hid (w6.heap[(P2 + 1)]? = some (.cells (mcv v (.slice B nb cb)) 36 (0, 0))) := Lib.hid (hch.blk HP3_5.out (by show (36 + 1 : Nat) ≠ _; decide))
            have HP4_6 : Hid (w6.heap[(P2 + 2)]? = some (.cells #[.int .i64 0, .int .i64 0, .int .i64 0, .bool false, .string { data := #[] }, .bool false, .int .i64 0] 61 (0, 0))) := Lib.hid (hch.blkN HP4_5.out (by intro e; injection e with e; omega))
            have HP5_6 : Hid (w6.heap[(P2 + 3)]? = some (.cells #[.int .i64 0, .int .i64 0, .int .i64 0] 34 (0, 0))) := Lib.hid (hch.blk HP5_5.out (by show (34 + 1 : Nat) ≠ _; decide))
            clear hch HB_5 HP3_5 HP4_5 HP5_5
            have HP2_6 := Lib.hid hnew
            clear hnew HP2_5
            go_upto_region 12 with fail
            clear cc83 cc84 cc85 fz86
            rw [← hw87]
            clear hw87
            have HB_7 : Hid (Below w0.heap.size w0 w6.drew) := Lib.hid (HB_6.out.trans (((Below.refl w6.heap.size w6).drew).mono HB_6.out.size))
            have HP3_7 : Hid (w6.drew.heap[(P2 + 1)]? = some (.cells (mcv v (.slice B nb cb)) 36 (0, 0))) := Lib.hid ((((Below.refl w6.heap.size w6).drew).block (P2 + 1) (ltb HP3_6.out)).trans HP3_6.out)
            have HP4_7 : Hid (w6.drew.heap[(P2 + 2)]? = some (.cells #[.int .i64 0, .int .i64 0, .int .i64 0, .bool false, .string { data := #[] }, .bool false, .int .i64 0] 61 (0, 0))) := Lib.hid ((((Below.refl w6.heap.size w6).drew).block (P2 + 2) (ltb HP4_6.out)).trans HP4_6.out)
            have HP5_7 : Hid (w6.drew.heap[(P2 + 3)]? = some (.cells #[.int .i64 0, .int .i64 0, .int .i64 0] 34 (0, 0))) := Lib.hid ((((Below.refl w6.heap.size w6).drew).block (P2 + 3) (ltb HP5_6.out)).trans HP5_6.out)
            have HP2_7 : Hid (w6.drew.heap[P2]? = some (.cells #[.int .i64 id, .int .i64 seq, .int .i64 epoch, .bool false, .string (str body), .bool sent, .int .i64 at_] 61 (0, 0))) := Lib.hid ((((Below.refl w6.heap.size w6).drew).block P2 (ltb HP2_6.out)).trans HP2_6.out)
            clear HB_6 HP3_6 HP4_6 HP5_6 HP2_6
            have FP2 : w6.drew.heap[P2]? = some (.cells #[.int .i64 id, .int .i64 seq, .int .i64 epoch, .bool false, .string (str body), .bool sent, .int .i64 at_] 61 (0, 0)) := HP2_7.out
            have F_P2_1_ : w6.drew.heap[(P2 + 1)]? = some (.cells (mcv v (.slice B nb cb)) 36 (0, 0)) := HP3_7.out
            refine wp_region_noPanic ?_
            refine wp_region_held_drew (S := fun w' => w'.heap[P2]? = some (.cells #[.int .i64 id, .int .i64 seq, .int .i64 epoch, .bool false, .string (str body), .bool sent, .int .i64 at_] 61 (0, 0)) ∧ w'.heap[(P2 + 1)]? = some (.cells (mcv v (.slice B nb cb)) 36 (0, 0))) (by kernel_rfl) ?_ (fun hHeld => ?_)
            · try dsimp only
              (refine ⟨?_, ?_⟩ <;> (first | with_reducible assumption))
            generalize w6.drew = w7 at *
            refine wpAnyH_take (i := 0) (v := ?_) (by (simp only [List.getElem?_toArray, List.getElem?_cons_zero]; rfl)) (by kernel_rfl) (by kernel_rfl) (by kernel_rfl) (fun _ _ _ h => h) (Or.inl ⟨by rfl, ?_⟩) (by assumption) ?_
            rotate_left
            · intro w hSw
              try dsimp only at hSw
              refine take_load (x := .tmp 2) (ty := 61) ?_ P2 ?_ 61 _ (0, 0) _ hSw.1 Try.underlying61 rfl (by kernel_rfl)
              all_goals rfl
            try simp only [Act.put, List.setIfInBounds_toArray, List.set_cons_zero, List.set_cons_succ]
            refine wpAnyH_take (i := 1) (v := ?_) (by (simp only [List.getElem?_toArray, List.getElem?_cons_succ, List.getElem?_cons_zero]; rfl)) (by kernel_rfl) (by kernel_rfl) (by kernel_rfl) (fun _ _ _ h => h) (Or.inl ⟨by rfl, ?_⟩) (by assumption) ?_
            rotate_left
            · (intro w hSw; (try dsimp only at hSw); go_simp; try with_reducible rfl)
            try simp only [Act.put, List.setIfInBounds_toArray, List.set_cons_zero, List.set_cons_succ]
            refine wpAnyH_take (i := 2) (v := ?_) (by (simp only [List.getElem?_toArray, List.getElem?_cons_succ, List.getElem?_cons_zero]; rfl)) (by kernel_rfl) (by kernel_rfl) (by kernel_rfl) (fun _ _ _ h => h) (Or.inl ⟨by rfl, ?_⟩) (by assumption) ?_
            rotate_left
            · intro w hSw
              try dsimp only at hSw
              have x18 : w.cell? ⟨(P2 + 1), 18, none⟩ = some (.int .i64 (v 18)) := (cellb (i := 18) hSw.2 rfl)
              have x19 : w.cell? ⟨(P2 + 1), 19, none⟩ = some (.int .i64 (v 19)) := (cellb (i := 19) hSw.2 rfl)
              have x20 : w.cell? ⟨(P2 + 1), 20, none⟩ = some (.int .i64 (v 20)) := (cellb (i := 20) hSw.2 rfl)
              go_simp; try with_reducible rfl
            try simp only [Act.put, List.setIfInBounds_toArray, List.set_cons_zero, List.set_cons_succ]
            refine wpAnyH_ready (rs := [3]) (by kernel_rfl) (by simp) ?_
            refine AllReadyH.cons (by (simp only [List.getElem?_toArray, List.getElem?_cons_succ, List.getElem?_cons_zero]; rfl)) (fun K hK => ?_) AllReadyH.nil
            refine wp_store_row 61 (.tmp 4) (.tmp 61) rfl (P2 + 2) _ rfl rfl 61 _ HP4_7.out (by kernel_rfl) rfl (by simp [Value.oneCell']) ?_
            obtain ⟨w8, hw88⟩ : ∃ y, y = w7.setRow (P2 + 2) #[.int .i64 id, .int .i64 seq, .int .i64 epoch, .bool false, .string (str body), .bool sent, .int .i64 at_] := ⟨_, rfl⟩
            have hch := Ch.ofRow HP4_7.out #[.int .i64 id, .int .i64 seq, .int .i64 epoch, .bool false, .string (str body), .bool sent, .int .i64 at_]
            rw [← hw88] at hch
            have hnew : w8.heap[(P2 + 2)]? = some (.cells #[.int .i64 id, .int .i64 seq, .int .i64 epoch, .bool false, .string (str body), .bool sent, .int .i64 at_] 61 (0, 0)) := by rw [hw88]; exact setRow_heap _ _ _ _ _ _ HP4_7.out
            have HB_8 : Hid (Below w0.heap.size w0 w8) := Lib.hid (hch.below HB_7.out HB_7.out.size (fun k hk => by injection hk with hk; omega))
            have HP3_8 : Hid (w8.heap[(P2 + 1)]? = some (.cells (mcv v (.slice B nb cb)) 36 (0, 0))) := Lib.hid (hch.blk HP3_7.out (by show (36 + 1 : Nat) ≠ _; decide))
            have HP5_8 : Hid (w8.heap[(P2 + 3)]? = some (.cells #[.int .i64 0, .int .i64 0, .int .i64 0] 34 (0, 0))) := Lib.hid (hch.blk HP5_7.out (by show (34 + 1 : Nat) ≠ _; decide))
            have HP2_8 : Hid (w8.heap[P2]? = some (.cells #[.int .i64 id, .int .i64 seq, .int .i64 epoch, .bool false, .string (str body), .bool sent, .int .i64 at_] 61 (0, 0))) := Lib.hid (hch.blkN HP2_7.out (by intro e; injection e with e; omega))
            clear hch HB_7 HP3_7 HP5_7 HP2_7
            have HP4_8 := Lib.hid hnew
            clear hnew HP4_7
            rw [← hw88]
            clear hw88
            have FP2' : w8.heap[P2]? = some (.cells #[.int .i64 id, .int .i64 seq, .int .i64 epoch, .bool false, .string (str body), .bool sent, .int .i64 at_] 61 (0, 0)) := HP2_8.out
            have F_P2_1_' : w8.heap[(P2 + 1)]? = some (.cells (mcv v (.slice B nb cb)) 36 (0, 0)) := HP3_8.out
            clear FP2 F_P2_1_
            have FP2 := FP2'
            clear FP2'
            have F_P2_1_ := F_P2_1_'
            clear F_P2_1_'
            refine hK.out _ _ ?_ (fun hHeld => ?_)
            · try dsimp only
              (refine ⟨?_, ?_⟩ <;> (first | with_reducible assumption))
            clear hK K
            try simp only [Act.put]
            refine wpAnyH_ready (rs := [4]) (by kernel_rfl) (by simp) ?_
            refine AllReadyH.cons (by (simp only [List.getElem?_toArray, List.getElem?_cons_succ, List.getElem?_cons_zero]; rfl)) (fun K hK => ?_) AllReadyH.nil
            refine wp_store_row 34 (.tmp 5) (.tmp 63) rfl (P2 + 3) _ rfl rfl 34 _ HP5_8.out (by kernel_rfl) rfl (by simp [Value.oneCell']) ?_
            obtain ⟨w9, hw89⟩ : ∃ y, y = w8.setRow (P2 + 3) #[.int .i64 (v 18), .int .i64 (v 19), .int .i64 (v 20)] := ⟨_, rfl⟩
            have hch := Ch.ofRow HP5_8.out #[.int .i64 (v 18), .int .i64 (v 19), .int .i64 (v 20)]
            rw [← hw89] at hch
            have hnew : w9.heap[(P2 + 3)]? = some (.cells #[.int .i64 (v 18), .int .i64 (v 19), .int .i64 (v 20)] 34 (0, 0)) := by rw [hw89]; exact setRow_heap _ _ _ _ _ _ HP5_8.out
            have HB_9 : Hid (Below w0.heap.size w0 w9) := Lib.hid (hch.below HB_8.out HB_8.out.size (fun k hk => by injection hk with hk; omega))
            have HP3_9 : Hid (w9.heap[(P2 + 1)]? = some (.cells (mcv v (.slice B nb cb)) 36 (0, 0))) := Lib.hid (hch.blk HP3_8.out (by show (36 + 1 : Nat) ≠ _; decide))
            have HP2_9 : Hid (w9.heap[P2]? = some (.cells #[.int .i64 id, .int .i64 seq, .int .i64 epoch, .bool false, .string (str body), .bool sent, .int .i64 at_] 61 (0, 0))) := Lib.hid (hch.blk HP2_8.out (by show (61 + 1 : Nat) ≠ _; decide))
            have HP4_9 : Hid (w9.heap[(P2 + 2)]? = some (.cells #[.int .i64 id, .int .i64 seq, .int .i64 epoch, .bool false, .string (str body), .bool sent, .int .i64 at_] 61 (0, 0))) := Lib.hid (hch.blk HP4_8.out (by show (61 + 1 : Nat) ≠ _; decide))
            clear hch HB_8 HP3_8 HP2_8 HP4_8
            have HP5_9 := Lib.hid hnew
            clear hnew HP5_8
            rw [← hw89]
            clear hw89
            have FP2' : w9.heap[P2]? = some (.cells #[.int .i64 id, .int .i64 seq, .int .i64 epoch, .bool false, .string (str body), .bool sent, .int .i64 at_] 61 (0, 0)) := HP2_9.out
            have F_P2_1_' : w9.heap[(P2 + 1)]? = some (.cells (mcv v (.slice B nb cb)) 36 (0, 0)) := HP3_9.out
            clear FP2 F_P2_1_
            have FP2 := FP2'
            clear FP2'
            have F_P2_1_ := F_P2_1_'
            clear F_P2_1_'
            refine hK.out _ _ ?_ (fun hHeld => ?_)
            · try dsimp only
              (refine ⟨?_, ?_⟩ <;> (first | with_reducible assumption))
            clear hK K
            try simp only [Act.put]
            refine wpAnyH_take (i := 5) (v := ?_) (by (simp only [List.getElem?_toArray, List.getElem?_cons_succ, List.getElem?_cons_zero]; rfl)) (by kernel_rfl) (by kernel_rfl) (by kernel_rfl) (fun _ _ _ h => h) (Or.inl ⟨by rfl, ?_⟩) (by assumption) ?_
            rotate_left
            · (intro w hSw; (try dsimp only at hSw); go_simp; try with_reducible rfl)
            try simp only [Act.put, List.setIfInBounds_toArray, List.set_cons_zero, List.set_cons_succ]
            refine wpAnyH_done (by kernel_rfl) ?_ _
            refine NoPanic.normal ?_
            clear hHeld FP2 F_P2_1_
            go_wp2_with fail
            refine bodyPost_ret (v := .tuple #[.agg #[.int .i64 id, .int .i64 seq, .int .i64 epoch, .bool false, .string (str body), .bool sent, .int .i64 at_], .agg #[.int .i64 (v 18), .int .i64 (v 19), .int .i64 (v 20)], .bool true]) (results_cc Try.results22 Try.underlying61 Try.underlying34 _ _ (P2 + 2) (P2 + 3) _ _ rfl rfl HP4_9.out HP5_9.out (by kernel_rfl) (by kernel_rfl)) rfl ?_
            refine ⟨fun hn => ?_, fun ha => ?_, HB_9.out⟩
            · exact absurd ⟨rfl, H3.out.1, H3.out.2.1, H3.out.2.2⟩ hn
            · rw [← HBM.out]; unfold hearD hearK; simp [H5.out, H6.out]
          · skip
            have H6 := Lib.hid h6
            have q5 : (v 1 != epoch) = true := by rw [bne_iff_ne]; exact h6
            clear h6
            have HST := HP4_5
            have cc90 : w5.cell? ⟨(P2 + 1), 1, none⟩ = some (.int .i64 (v 1)) := cellb (i := 1) HP3_5.out rfl
            have cc91 : w5.cell? ⟨P2, 2, none⟩ = some (.int .i64 epoch) := cellb (i := 2) HP2_5.out rfl
            have K92 := HP2_5
            obtain ⟨w6, hw93⟩ : ∃ y, y = w5.setRow (P2 + 2) #[.int .i64 id, .int .i64 seq, .int .i64 epoch, .bool true, .string (str body), .bool sent, .int .i64 at_] := ⟨_, rfl⟩
            have hch := Ch.ofRow HP4_5.out #[.int .i64 id, .int .i64 seq, .int .i64 epoch, .bool true, .string (str body), .bool sent, .int .i64 at_]
            rw [← hw93] at hch
            have hnew : w6.heap[(P2 + 2)]? = some (.cells #[.int .i64 id, .int .i64 seq, .int .i64 epoch, .bool true, .string (str body), .bool sent, .int .i64 at_] 61 (0, 0)) := by rw [hw93]; exact setRow_heap _ _ _ _ _ _ HP4_5.out
            have HB_6 : Hid (Below w0.heap.size w0 w6) := Lib.hid (hch.below HB_5.out HB_5.out.size (fun k hk => by injection hk with hk; omega))
            have HP2_6 : Hid (w6.heap[P2]? = some (.cells #[.int .i64 id, .int .i64 seq, .int .i64 epoch, .bool true, .string (str body), .bool sent, .int .i64 at_] 61 (0, 0))) := Lib.hid (hch.blkN HP2_5.out (by intro e; injection e with e; omega))
            have HP3_6 : Hid (w6.heap[(P2 + 1)]? = some (.cells (mcv v (.slice B nb cb)) 36 (0, 0))) := Lib.hid (hch.blk HP3_5.out (by show (36 + 1 : Nat) ≠ _; decide))
            have HP5_6 : Hid (w6.heap[(P2 + 3)]? = some (.cells #[.int .i64 0, .int .i64 0, .int .i64 0] 34 (0, 0))) := Lib.hid (hch.blk HP5_5.out (by show (34 + 1 : Nat) ≠ _; decide))
            clear hch HB_5 HP2_5 HP3_5 HP5_5
            have HP4_6 := Lib.hid hnew
            clear hnew HP4_5
            have HST94 : Hid ((w5.setRow (P2 + 2) #[.int .i64 id, .int .i64 seq, .int .i64 epoch, .bool true, .string (str body), .bool sent, .int .i64 at_]).heap[(P2 + 3)]? = some (.cells #[.int .i64 0, .int .i64 0, .int .i64 0] 34 (0, 0))) := Lib.hid (by rw [← hw93]; exact HP5_6.out)
            obtain ⟨w7, hw95⟩ : ∃ y, y = w6.setRow (P2 + 3) #[.int .i64 0, .int .i64 0, .int .i64 0] := ⟨_, rfl⟩
            have hch := Ch.ofRow HP5_6.out #[.int .i64 0, .int .i64 0, .int .i64 0]
            rw [← hw95] at hch
            have hnew : w7.heap[(P2 + 3)]? = some (.cells #[.int .i64 0, .int .i64 0, .int .i64 0] 34 (0, 0)) := by rw [hw95]; exact setRow_heap _ _ _ _ _ _ HP5_6.out
            have HB_7 : Hid (Below w0.heap.size w0 w7) := Lib.hid (hch.below HB_6.out HB_6.out.size (fun k hk => by injection hk with hk; omega))
            have HP2_7 : Hid (w7.heap[P2]? = some (.cells #[.int .i64 id, .int .i64 seq, .int .i64 epoch, .bool true, .string (str body), .bool sent, .int .i64 at_] 61 (0, 0))) := Lib.hid (hch.blk HP2_6.out (by show (61 + 1 : Nat) ≠ _; decide))
            have HP3_7 : Hid (w7.heap[(P2 + 1)]? = some (.cells (mcv v (.slice B nb cb)) 36 (0, 0))) := Lib.hid (hch.blk HP3_6.out (by show (36 + 1 : Nat) ≠ _; decide))
            have HP4_7 : Hid (w7.heap[(P2 + 2)]? = some (.cells #[.int .i64 id, .int .i64 seq, .int .i64 epoch, .bool true, .string (str body), .bool sent, .int .i64 at_] 61 (0, 0))) := Lib.hid (hch.blk HP4_6.out (by show (61 + 1 : Nat) ≠ _; decide))
            clear hch HB_6 HP2_6 HP3_6 HP4_6
            have HP5_7 := Lib.hid hnew
            clear hnew HP5_6
            go_wp2_with (first | (refine wpList_load_row rfl 61 (.tmp 2) rfl P2 rfl 61 _ (0, 0) _ K92.out Try.underlying61 rfl (by kernel_rfl) ?_) | (refine wpList_store_row rfl 61 (.tmp 4) (.tmp 58) rfl (P2 + 2) _ rfl rfl 61 _ HST.out (by kernel_rfl) rfl (by simp [Value.oneCell']) ?_) | (refine wpList_store_row rfl 34 (.tmp 5) (.tmp 59) rfl (P2 + 3) _ rfl rfl 34 _ HST94.out (by kernel_rfl) rfl (by simp [Value.oneCell']) ?_))
            clear cc90 cc91 K92 HST HST94
            rw [← hw93]
            clear hw93
            rw [← hw95]
            clear hw95
            go_wp2_with fail
            refine bodyPost_ret (v := .tuple #[.agg #[.int .i64 id, .int .i64 seq, .int .i64 epoch, .bool true, .string (str body), .bool sent, .int .i64 at_], .agg #[.int .i64 0, .int .i64 0, .int .i64 0], .bool false]) (results_cc Try.results22 Try.underlying61 Try.underlying34 _ _ (P2 + 2) (P2 + 3) _ _ rfl rfl HP4_7.out HP5_7.out (by kernel_rfl) (by kernel_rfl)) rfl ?_
            refine ⟨fun hn => ?_, fun ha => ?_, HB_7.out⟩
            · exact absurd ⟨rfl, H3.out.1, H3.out.2.1, H3.out.2.2⟩ hn
            · rw [← HBM.out]; unfold hearD hearK; simp [H5.out, H6.out]
/-- Both clients hear the same. -/
def HearB (s : Ct) (v : Nat → Int) (n : Nat) (k : Bool) (s' : Ct) (a b d : Int) : Prop :=
  (¬ Asked s v ∧ k = false ∧ s' = s ∧ a = 0 ∧ b = 0 ∧ d = 0) ∨ (Asked s v ∧ ∃ q : Bool, (q = true ↔ OkL [⟨1, 0, 1099511627776⟩, ⟨15, 1, 16⟩, ⟨16, 1, 1099511627776⟩, ⟨18, 0, 999⟩, ⟨19, 0, 100⟩, ⟨20, 0, 100⟩] v n 0) ∧ k = hearK s v q ∧ s' = hearD s v q ∧ a = (if hearK s v q = true then v 18 else 0) ∧ b = (if hearK s v q = true then v 19 else 0) ∧ d = (if hearK s v q = true then v 20 else 0))
def HearC (g : Nat) (s : Ct) (A : Option Addr) (c : Nat) (v : Nat → Int) (n : Nat) (w : World) (e : Ending) (w' : World) : Prop :=
  ∃ (k : Bool) (s' : Ct) (a b d : Int), HearB s v n k s' a b d ∧ e = .returned (.tuple #[.agg #[.int .i64 a, .int .i64 b, .int .i64 d], .bool k]) ∧ CAt w' g s' A c ∧ Chg (fun k => k = g) w w'
theorem hear_c (g : Nat) (s : Ct) (A : Option Addr) (c : Nat) (v : Nat → Int) (B : Option Addr) (n cb : Nat) (w : World) (h : CAt w g s A c) :
    Calls Try.prog 21 #[.pointer (some ⟨g, 0, none⟩), .agg #[.int .i64 (v 0), .int .i64 (v 1), .int .i64 (v 2), .int .i64 (v 3), .int .i64 (v 4), .int .i64 (v 5), .int .i64 (v 6), .int .i64 (v 7), .int .i64 (v 8), .int .i64 (v 9), .int .i64 (v 10), .int .i64 (v 11), .int .i64 (v 12), .int .i64 (v 13), .int .i64 (v 14), .int .i64 (v 15), .int .i64 (v 16), .slice B n cb, .int .i64 (v 18), .int .i64 (v 19), .int .i64 (v 20)]] w fun e w' => HearC g s A c v n w e w' := by
  by_cases hd : Asked s v
  · refine (hear_asked g s A c v B n cb w h hd).mono ?_
    rintro e w' ⟨b, hb, he, hc, hg⟩
    exact ⟨_, _, _, _, _, .inr ⟨hd, b, hb, rfl, rfl, rfl, rfl, rfl⟩, he, hc, hg⟩
  · refine (hear_deaf g s A c v B n cb w h ?_).mono ?_
    · unfold Asked at hd
      by_cases h1 : s.asks = true
      · by_cases h2 : v 0 = 8
        · by_cases h3 : v 15 = s.id
          · exact .inr (.inr (.inr (fun h4 => hd ⟨h1, h2, h3, h4⟩)))
          · exact .inr (.inr (.inl h3))
        · exact .inr (.inl h2)
      · exact .inl (by simpa using h1)
    · rintro e w' ⟨rfl, hb⟩
      exact ⟨false, s, 0, 0, 0, .inl ⟨hd, rfl, rfl, rfl, rfl, rfl⟩, rfl, h.below hb, Chg.of_below hb⟩
theorem rhear_c (s : Ct) (v : Nat → Int) (B : Option Addr) (n cb : Nat) (w : World) (k : Bool) (s' : Ct) (a b d : Int) (h : HearB s v n k s' a b d) : Calls Try.prog 22 #[.agg #[.int .i64 s.id, .int .i64 s.seq, .int .i64 s.epoch, .bool s.asks, .string (str s.body), .bool s.sent, .int .i64 s.at_], .agg #[.int .i64 (v 0), .int .i64 (v 1), .int .i64 (v 2), .int .i64 (v 3), .int .i64 (v 4), .int .i64 (v 5), .int .i64 (v 6), .int .i64 (v 7), .int .i64 (v 8), .int .i64 (v 9), .int .i64 (v 10), .int .i64 (v 11), .int .i64 (v 12), .int .i64 (v 13), .int .i64 (v 14), .int .i64 (v 15), .int .i64 (v 16), .slice B n cb, .int .i64 (v 18), .int .i64 (v 19), .int .i64 (v 20)]] w fun e w' => e = .returned (.tuple #[.agg #[.int .i64 s'.id, .int .i64 s'.seq, .int .i64 s'.epoch, .bool s'.asks, .string (str s'.body), .bool s'.sent, .int .i64 s'.at_], .agg #[.int .i64 a, .int .i64 b, .int .i64 d], .bool k]) ∧ Below w.heap.size w w' := by
  refine (rhear_any s v B n cb w).mono ?_
  rintro e w' ⟨h1, h2, hb⟩
  rcases h with ⟨hd, rfl, rfl, rfl, rfl, rfl⟩ | ⟨hd, q, hq, rfl, rfl, rfl, rfl, rfl⟩
  · exact ⟨h1 hd, hb⟩
  · have e : mayB v n = q := Bool.eq_iff_iff.2 ((may8 v n hd.2.1).trans hq.symm)
    rw [e] at h2
    exact ⟨h2 hd, hb⟩
theorem eq_rep3 (a b c : Int) (w : World) : (Go.binOp .eql 34 (.agg #[.int .i64 a, .int .i64 b, .int .i64 c]) (.agg #[.int .i64 a, .int .i64 b, .int .i64 c])).run Try.prog w = .ok (.bool true) w := by
  simp [go_sem]
end Go.Proofs.Ytlcbpodjmafoeaa
