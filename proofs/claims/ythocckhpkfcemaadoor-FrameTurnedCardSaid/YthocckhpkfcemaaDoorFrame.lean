/- The frame of a body: the program's and the document's. -/
import Derived.Test.YthocckhpkfcemaaDoorFour
namespace Go.Proofs.YthocckhpkfcemaaDoor
open Go.RowKit

/-- The frame of a body, as bytes. -/
def frameOf (l : List UInt8) : List UInt8 := (be4 l.length ++ l) ++ be4 (crc (be4 l.length ++ l))
theorem frameOf_length (l : List UInt8) : (frameOf l).length = l.length + 8 := by unfold frameOf; simp [be4_length]; omega
theorem crc_lt (l : List UInt8) : crc l < 4294967296 := by unfold crc; omega

set_option maxHeartbeats 400000 in
theorem frame_any (A : Option Addr) (c n : Nat) (l : List UInt8) (w : World) (h : BytesIn w w.heap.size A c l) (hh : Hal w) (h0 : 0 < w.heap.size) (hl : l.length ≤ 65536) (hn : n = l.length) :
    Calls Tryd.prog 10 #[.slice A n c] w fun e w' => ∃ A2 c2, e = .returned (.tuple #[.slice A2 (n + 8) c2, .int .i64 0]) ∧
      w'.ownsRow w.heap.size 5 1 (.slice A2 (n + 8) c2) (n + 8) (cells8 (frameOf l)) ∧ Below w.heap.size w w' := by
  obtain ⟨i0, hi, hz0, hz1, hz2⟩ := info_parts Tryd.info5
  have hn2 : n ≤ 65536 := by omega
  have hc1 := h.cap
  have HN := Lib.hid hn; clear hn
  have HB := Lib.hid h; clear h
  have HH := Lib.hid hh; clear hh
  go_enter Tryd.func10, Tryd.ntmps10
  go_wp2_with (at_make; refine wpList_make_own _ rfl _ _ 22 rfl w.heap.size 5 i0 (.int .u8 0) 1 Tryd.underlying22 hi hz0 hz1 _ _ _ (n + 8) rfl rfl (by omega) (by rw [hz2]; omega) (by unfold maxLen; omega) (Nat.le_refl _) ?_; intro w1 hown1 hg1)
  have hb1 : Below w.heap.size w w1 := below_of_grown hg1 (by simp)
  have HB1 := Lib.hid hb1
  clear hg1 hb1
  have hs1 : w.heap.size ≤ w1.heap.size := HB1.out.size
  go_wp2_with fail
  have hown1' : w1.ownsRow w.heap.size 5 1 (.slice (some ⟨w.heap.size, 0, none⟩) 0 (n + 8)) 0 (cells8 []) := hown1
  refine (four_any _ _ [] n w1 _ 0 (by omega) hown1' (by omega) hs1).mono ?_
  rintro e w2 ⟨A2, c2, rfl, hown2, hg2⟩
  clear hown1 hown1'
  simp only [Nat.zero_add, List.nil_append] at hown2 ⊢
  have hb2 : Below w.heap.size w w2 := HB1.out.grown hg2 hs1 (by simp [Value.ownBlock])
  have HB2 := Lib.hid hb2
  have hr2 := (HB.out.below hb2 (Nat.le_refl _)).cells
  rw [← HN.out] at hr2
  have hs2 : w.heap.size ≤ w2.heap.size := HB2.out.size
  clear hg2 hb2
  go_wp2_with (at_builtin; refine wpList_append_row _ rfl (.tmp 16) (.tmp 17) _ rfl w.heap.size 5 i0 _ 1 1 Tryd.underlying22 hi hz0 hz1 hz2 rfl (by omega) A2 4 c2 (cells8 (be4 n)) rfl hown2 _ _ n _ _ rfl hr2 (cells8_one l) (by unfold maxLen; omega) (by omega) hs2 ?_; intro A3 c3 w3 hown3 hg3 _)
  rw [← cells8_append] at hown3
  have hb3 : Below w.heap.size w w3 := HB2.out.grown hg3 hs2 (fun k hk => (hown2.lt k hk).1)
  have HB3 := Lib.hid hb3
  have hs3 : w.heap.size ≤ w3.heap.size := HB3.out.size
  clear hown2 hg3 hr2 hb3
  obtain ⟨hl3, hr3⟩ := bytesIn_of_own hown3
  have HR3 := Lib.hid hr3
  have HL3 := Lib.hid hl3
  have HO3 := Lib.hid hown3
  clear hown3 hr3 hl3
  refine (sum_n _ _ _ _ w3 _ HR3.out (HH.out.below HB3.out h0) HL3.out).mono ?_
  rintro e w' ⟨rfl, rfl⟩
  go_wp2_with fail
  refine (four_any _ _ _ _ w3 _ _ (crc_lt _) HO3.out (by omega) hs3).mono ?_
  rintro e w4 ⟨A4, c4, rfl, hown4, hg4⟩
  have e48 : 4 + n + 4 = n + 8 := by omega
  rw [e48] at hown4
  rw [e48]
  have hfin : w4.ownsRow w.heap.size 5 1 (.slice A4 (n + 8) c4) (n + 8) (cells8 (frameOf l)) := by
    unfold frameOf; rw [← HN.out]; exact hown4
  have HF := Lib.hid hfin
  have hb4 : Below w.heap.size w w4 := HB3.out.grown hg4 hs3 (fun k hk => (HO3.out.lt k hk).1)
  have HB4 := Lib.hid hb4
  clear hown4 hg4 hfin hb4 e48
  go_wp2
  go_ret2
  exact ⟨A4, c4, rfl, HF.out, HB4.out⟩

set_option maxHeartbeats 400000 in
theorem frame_big (A : Option Addr) (c n : Nat) (w : World) (hn : 65536 < n) (hc : n ≤ 9223372036854775807) :
    Calls Tryd.prog 10 #[.slice A n c] w fun e w' => e = .returned (.tuple #[.slice none 0 0, .int .i64 2]) ∧ w = w' := by
  go_enter Tryd.func10, Tryd.ntmps10
  go_wp2_with fail
  go_ret2
  exact ⟨rfl, rfl⟩

set_option maxHeartbeats 400000 in
theorem rframe_any (A : Option Addr) (c n : Nat) (l : List UInt8) (w : World) (h : BytesIn w w.heap.size A c l) (hl : l.length ≤ 65536) (hn : n = l.length) :
    Calls Tryd.prog 11 #[.slice A n c] w fun e w' => ∃ A2 c2, e = .returned (.tuple #[.slice A2 (n + 8) c2, .int .i64 0]) ∧
      w'.ownsRow w.heap.size 5 1 (.slice A2 (n + 8) c2) (n + 8) (cells8 (frameOf l)) ∧ Below w.heap.size w w' := by
  obtain ⟨i0, hi, hz0, hz1, hz2⟩ := info_parts Tryd.info5
  have hn2 : n ≤ 65536 := by omega
  have hc1 := h.cap
  have HN := Lib.hid hn; clear hn
  have HB := Lib.hid h; clear h
  go_enter Tryd.func11, Tryd.ntmps11
  go_wp2_with fail
  refine (rfour_any n w (by omega)).mono ?_
  rintro e w2 ⟨A2, c2, rfl, hown2, hb2⟩
  have HB2 := Lib.hid hb2
  have hr2 := (HB.out.below hb2 (Nat.le_refl _)).cells
  rw [← HN.out] at hr2
  have hs2 : w.heap.size ≤ w2.heap.size := HB2.out.size
  clear hb2
  go_wp2_with (at_builtin; refine wpList_append_row _ rfl (.tmp 11) (.tmp 12) _ rfl w.heap.size 5 i0 _ 1 1 Tryd.underlying22 hi hz0 hz1 hz2 rfl (by omega) A2 4 c2 (cells8 (be4 n)) rfl hown2 _ _ n _ _ rfl hr2 (cells8_one l) (by unfold maxLen; omega) (by omega) hs2 ?_; intro A3 c3 w3 hown3 hg3 _)
  rw [← cells8_append] at hown3
  have hb3 : Below w.heap.size w w3 := HB2.out.grown hg3 hs2 (fun k hk => (hown2.lt k hk).1)
  have HB3 := Lib.hid hb3
  have hs3 : w.heap.size ≤ w3.heap.size := HB3.out.size
  clear hown2 hg3 hr2 hb3
  obtain ⟨hl3, hr3⟩ := bytesIn_of_own hown3
  have HR3 := Lib.hid hr3
  have HL3 := Lib.hid hl3
  have HO3 := Lib.hid hown3
  clear hown3 hr3 hl3
  refine (rsum_n _ _ _ _ w3 _ HR3.out HL3.out).mono ?_
  rintro e w' ⟨rfl, rfl⟩
  go_wp2_with fail
  refine (rfour_any _ w3 (crc_lt _)).mono ?_
  rintro e w4 ⟨A4, c4, rfl, hown4, hb4⟩
  have hs4 : w3.heap.size ≤ w4.heap.size := hb4.size
  have ho3 : w4.ownsRow w.heap.size 5 1 (.slice A3 (4 + n) c3) (4 + n) (cells8 (be4 n ++ l)) := HO3.out.kept (grown_of_below hb4 none) (by cases A3 <;> simp [Value.ownBlock])
  have hr4 := (bytesIn_of_own hown4).2.cells
  have HB4 := Lib.hid (HB3.out.trans (hb4.mono hs3))
  clear hown4 hb4
  go_wp2_with (at_builtin; refine wpList_append_row _ rfl (.tmp 14) (.tmp 17) _ rfl w.heap.size 5 i0 _ 1 1 Tryd.underlying22 hi hz0 hz1 hz2 rfl (by omega) A3 (4 + n) c3 (cells8 (be4 n ++ l)) rfl ho3 _ _ 4 _ _ rfl hr4 (cells8_one _) (by unfold maxLen; omega) (by omega) (by omega) ?_; intro A5 c5 w5 hown5 hg5 _)
  have e48 : 4 + n + 4 = n + 8 := by omega
  have hfin : w5.ownsRow w.heap.size 5 1 (.slice A5 (n + 8) c5) (n + 8) (cells8 (frameOf l)) := by
    unfold frameOf; rw [← HN.out, cells8_append _ (be4 (crc _)), ← e48]; exact hown5
  have hb5 : Below w.heap.size w w5 := HB4.out.grown hg5 (by omega) (fun k hk => (ho3.lt k hk).1)
  rw [e48]
  go_ret2
  exact ⟨A5, c5, rfl, hfin, hb5⟩
end Go.Proofs.YthocckhpkfcemaaDoor
