/- The law FrameLimit: the walk. -/
import Derived.Test.YthocckhpkfcemaaDoorNext
namespace Go.Proofs.YthocckhpkfcemaaDoor
open Go.RowKit

theorem look_11 (c : UInt8) : lookE [0, 1, 0, 1, c, c, c, c, c] = 11 := by
  have h : num4 [0, 1, 0, 1, c, c, c, c, c] = 65537 := by unfold num4; simp
  unfold lookE; rw [h]; rfl
theorem look_10 (c : UInt8) : lookE [0, 1, 0, 0, c, c, c, c, c] = 10 := by
  have h : num4 [0, 1, 0, 0, c, c, c, c, c] = 65536 := by unfold num4; simp
  unfold lookE; rw [h]; rfl
theorem zeros (N : Nat) (c : UInt8) : ((madeCells (Value.int .u8 0).cells (N * 1)).toList).set 0 (.int .u8 (c.toNat : Int)) = cells8 ((List.replicate N 0).set 0 c) := by
  have : (Value.int .u8 0).cells = #[.int .u8 0] := rfl
  rw [this, toList_madeCells_one]
  unfold cells8
  rw [List.map_set, List.map_replicate, Nat.mul_one]; rfl

theorem made_row {w1 w2 : World} {B N : Nat} (c : UInt8) (hNp : 0 < N) (h : w2.ownsRow B 5 1 (.slice (some ⟨w1.heap.size, 0, none⟩) N N) N (madeCells (Value.int .u8 0).cells (N * 1)).toList) :
    w2.cell? ⟨w1.heap.size, 0, none⟩ = some (.int .u8 0) ∧ w2.frozen? ⟨w1.heap.size, 0, none⟩ = false ∧
    (w2.setCell ⟨w1.heap.size, 0, none⟩ (.int .u8 (c.toNat : Int))).ownsRow B 5 1 (.slice (some ⟨w1.heap.size, 0, none⟩) N N) N (cells8 ((List.replicate N 0).set 0 c)) := by
  refine ⟨?_, h.frozenAt 0, ?_⟩
  · rw [h.cellAt 0 (by omega), show (Value.int .u8 0).cells = #[.int .u8 0] from rfl, toList_madeCells_one, List.getElem?_replicate, if_pos (by omega)]
  · have := (h.stored 0 (.int .u8 (c.toNat : Int))).1
    rwa [zeros] at this

set_option maxHeartbeats 2000000 in
theorem law_limit (x : Int) (c : UInt8) (w : World) (h0 : 0 < w.heap.size) (hh : Hal w) :
    Calls Tryd.prog 8 #[.int .i64 x, .int .u8 (c.toNat : Int)] w fun e w' => e = .returned (.bool true) ∧ Below w.heap.size w w' := by
  obtain ⟨i5, hi, hz0, hz1, hz2⟩ := info_parts Tryd.info5
  have HH := Lib.hid hh; clear hh
  go_enter Tryd.func8, Tryd.ntmps8
  go_wp2_with fail
  refine (awake_any w h0 HH.out).mono ?_
  rintro e w1 ⟨rfl, hb1⟩
  have HB1 := Lib.hid hb1
  have hs1 : w.heap.size ≤ w1.heap.size := hb1.size
  clear hb1
  by_cases hx : x.tmod 4 = 0
  · have q : (x.tmod 4 != 0) = false := by rw [hx]; rfl
    clear hx
    obtain ⟨N, hN⟩ : ∃ N : Nat, N = 65536 := ⟨_, rfl⟩
    have hNi : (65536 : Int) = (N : Int) := by rw [hN]; rfl
    have hNb : N ≤ 65537 := by omega
    have hNp : 0 < N := by omega
    have hNi0 : (0 : Int) < (N : Int) := by omega
    have HN := Lib.hid hN; clear hN
    have HNi := Lib.hid hNi; clear hNi
    go_wp2_with (at_make; refine wpList_make_full _ rfl _ _ 22 rfl w.heap.size 5 i5 (.int .u8 0) 1 Tryd.underlying22 hi hz0 hz1 _ _ _ _ N rfl rfl HNi.out HNi.out (by rw [hz2]; omega) (by unfold maxLen; omega) hs1 ?_; intro w2 hown2 hg2; obtain ⟨hcell, hfz, hst⟩ := made_row c hNp hown2; have HO2 := Lib.hid hst; have HB2 := Lib.hid ((HB1.out.grown hg2 hs1 (by simp)).setCell (p := ⟨w1.heap.size, 0, none⟩) hs1 (.int .u8 (c.toNat : Int))); clear hown2 hg2 hst)
    generalize w2.setCell ⟨w1.heap.size, 0, none⟩ (.int .u8 (c.toNat : Int)) = w3 at HO2 HB2 ⊢
    have hs3 : w.heap.size ≤ w3.heap.size := HB2.out.size
    have HR3 := Lib.hid (bytesIn_of_own HO2.out)
    refine (frame_any _ _ _ _ w3 HR3.out.2 (HH.out.below HB2.out h0) (by omega) (by rw [← HR3.out.1, HN.out]; omega) HR3.out.1).mono ?_
    rintro e w4 ⟨A4, c4, rfl, hown4, hb4⟩
    have HB4 := Lib.hid (HB2.out.trans (hb4.mono hs3))
    obtain ⟨M, hM⟩ : ∃ M, M = N + 8 := ⟨_, rfl⟩
    rw [← hM]
    have q2 : ((M : Int) == 65544) = true := by rw [beq_iff_eq, hM]; have := HN.out; omega
    clear hown4 hb4 hM
    have HS4 : Hid (w.heap.size ≤ w4.heap.size) := Lib.hid HB4.out.size
    have hs4 := HS4.out
    have hbA : Below w4.heap.size w4 (w4.alloc (.cells #[.int .u8 0, .int .u8 1, .int .u8 0, .int .u8 1, .int .u8 (c.toNat : Int), .int .u8 (c.toNat : Int), .int .u8 (c.toNat : Int), .int .u8 (c.toNat : Int), .int .u8 (c.toNat : Int)] 5)) := (Below.refl _ _).alloc (Nat.le_refl _) _
    have HBA := Lib.hid (HB4.out.trans (hbA.mono hs4))
    have HRA := Lib.hid (bytes_new w4 #[.int .u8 0, .int .u8 1, .int .u8 0, .int .u8 1, .int .u8 (c.toNat : Int), .int .u8 (c.toNat : Int), .int .u8 (c.toNat : Int), .int .u8 (c.toNat : Int), .int .u8 (c.toNat : Int)] 5 (0, 0) [0, 1, 0, 1, c, c, c, c, c] 9 rfl rfl (by omega))
    clear hbA
    go_wp2_with fail
    refine (next_no _ _ _ [0, 1, 0, 1, c, c, c, c, c] _ _ HRA.out (HH.out.below HBA.out h0) rfl (by rw [look_11]; decide)).mono ?_
    rw [look_11]
    rintro e w' ⟨rfl, k1, rfl⟩
    have HBA2 := Lib.hid (below_dn (n := k1) HBA.out)
    generalize (w4.alloc (.cells #[.int .u8 0, .int .u8 1, .int .u8 0, .int .u8 1, .int .u8 (c.toNat : Int), .int .u8 (c.toNat : Int), .int .u8 (c.toNat : Int), .int .u8 (c.toNat : Int), .int .u8 (c.toNat : Int)] 5)).drewN k1 = w5 at HBA2 ⊢
    have hs5 : w.heap.size ≤ w5.heap.size := HBA2.out.size
    have hbB : Below w5.heap.size w5 (w5.alloc (.cells #[.int .u8 0, .int .u8 1, .int .u8 0, .int .u8 0, .int .u8 (c.toNat : Int), .int .u8 (c.toNat : Int), .int .u8 (c.toNat : Int), .int .u8 (c.toNat : Int), .int .u8 (c.toNat : Int)] 5)) := (Below.refl _ _).alloc (Nat.le_refl _) _
    have HBB := Lib.hid (HBA2.out.trans (hbB.mono hs5))
    have HRB := Lib.hid (bytes_new w5 #[.int .u8 0, .int .u8 1, .int .u8 0, .int .u8 0, .int .u8 (c.toNat : Int), .int .u8 (c.toNat : Int), .int .u8 (c.toNat : Int), .int .u8 (c.toNat : Int), .int .u8 (c.toNat : Int)] 5 (0, 0) [0, 1, 0, 0, c, c, c, c, c] 9 rfl rfl (by omega))
    clear hbB
    go_wp2_with fail
    refine (next_no _ _ _ [0, 1, 0, 0, c, c, c, c, c] _ _ HRB.out (HH.out.below HBB.out h0) rfl (by rw [look_10]; decide)).mono ?_
    rw [look_10]
    rintro e w' ⟨rfl, k2, rfl⟩
    have HBB2 := Lib.hid (below_dn (n := k2) HBB.out)
    go_wp2_with fail
    go_ret
    exact ⟨rfl, HBB2.out⟩
  · have q : (x.tmod 4 != 0) = true := by rw [bne_iff_ne]; exact hx
    clear hx
    obtain ⟨N, hN⟩ : ∃ N : Nat, N = 65537 := ⟨_, rfl⟩
    have hNi : (65537 : Int) = (N : Int) := by rw [hN]; rfl
    have hNb : N ≤ 65537 := by omega
    have hNp : 0 < N := by omega
    have hNi0 : (0 : Int) < (N : Int) := by omega
    have HN := Lib.hid hN; clear hN
    have HNi := Lib.hid hNi; clear hNi
    go_wp2_with (at_make; refine wpList_make_full _ rfl _ _ 22 rfl w.heap.size 5 i5 (.int .u8 0) 1 Tryd.underlying22 hi hz0 hz1 _ _ _ _ N rfl rfl HNi.out HNi.out (by rw [hz2]; omega) (by unfold maxLen; omega) hs1 ?_; intro w2 hown2 hg2; obtain ⟨hcell, hfz, hst⟩ := made_row c hNp hown2; have HO2 := Lib.hid hst; have HB2 := Lib.hid ((HB1.out.grown hg2 hs1 (by simp)).setCell (p := ⟨w1.heap.size, 0, none⟩) hs1 (.int .u8 (c.toNat : Int))); clear hown2 hg2 hst)
    generalize w2.setCell ⟨w1.heap.size, 0, none⟩ (.int .u8 (c.toNat : Int)) = w3 at HO2 HB2 ⊢
    have hs3 : w.heap.size ≤ w3.heap.size := HB2.out.size
    have HR3 := Lib.hid (bytesIn_of_own HO2.out)
    refine (frame_big _ _ _ w3 (by have := HN.out; omega) (by omega)).mono ?_
    rintro e w' ⟨rfl, rfl⟩
    obtain ⟨w4, hw4⟩ : ∃ w4, w4 = w3 := ⟨_, rfl⟩
    rw [← hw4] at HB2 ⊢
    have HB4 := HB2
    clear hw4
    have HS4 : Hid (w.heap.size ≤ w4.heap.size) := Lib.hid HB4.out.size
    have hs4 := HS4.out
    have hbA : Below w4.heap.size w4 (w4.alloc (.cells #[.int .u8 0, .int .u8 1, .int .u8 0, .int .u8 1, .int .u8 (c.toNat : Int), .int .u8 (c.toNat : Int), .int .u8 (c.toNat : Int), .int .u8 (c.toNat : Int), .int .u8 (c.toNat : Int)] 5)) := (Below.refl _ _).alloc (Nat.le_refl _) _
    have HBA := Lib.hid (HB4.out.trans (hbA.mono hs4))
    have HRA := Lib.hid (bytes_new w4 #[.int .u8 0, .int .u8 1, .int .u8 0, .int .u8 1, .int .u8 (c.toNat : Int), .int .u8 (c.toNat : Int), .int .u8 (c.toNat : Int), .int .u8 (c.toNat : Int), .int .u8 (c.toNat : Int)] 5 (0, 0) [0, 1, 0, 1, c, c, c, c, c] 9 rfl rfl (by omega))
    clear hbA
    go_wp2_with fail
    refine (next_no _ _ _ [0, 1, 0, 1, c, c, c, c, c] _ _ HRA.out (HH.out.below HBA.out h0) rfl (by rw [look_11]; decide)).mono ?_
    rw [look_11]
    rintro e w' ⟨rfl, k1, rfl⟩
    have HBA2 := Lib.hid (below_dn (n := k1) HBA.out)
    generalize (w4.alloc (.cells #[.int .u8 0, .int .u8 1, .int .u8 0, .int .u8 1, .int .u8 (c.toNat : Int), .int .u8 (c.toNat : Int), .int .u8 (c.toNat : Int), .int .u8 (c.toNat : Int), .int .u8 (c.toNat : Int)] 5)).drewN k1 = w5 at HBA2 ⊢
    have hs5 : w.heap.size ≤ w5.heap.size := HBA2.out.size
    have hbB : Below w5.heap.size w5 (w5.alloc (.cells #[.int .u8 0, .int .u8 1, .int .u8 0, .int .u8 0, .int .u8 (c.toNat : Int), .int .u8 (c.toNat : Int), .int .u8 (c.toNat : Int), .int .u8 (c.toNat : Int), .int .u8 (c.toNat : Int)] 5)) := (Below.refl _ _).alloc (Nat.le_refl _) _
    have HBB := Lib.hid (HBA2.out.trans (hbB.mono hs5))
    have HRB := Lib.hid (bytes_new w5 #[.int .u8 0, .int .u8 1, .int .u8 0, .int .u8 0, .int .u8 (c.toNat : Int), .int .u8 (c.toNat : Int), .int .u8 (c.toNat : Int), .int .u8 (c.toNat : Int), .int .u8 (c.toNat : Int)] 5 (0, 0) [0, 1, 0, 0, c, c, c, c, c] 9 rfl rfl (by omega))
    clear hbB
    go_wp2_with fail
    refine (next_no _ _ _ [0, 1, 0, 0, c, c, c, c, c] _ _ HRB.out (HH.out.below HBB.out h0) rfl (by rw [look_10]; decide)).mono ?_
    rw [look_10]
    rintro e w' ⟨rfl, k2, rfl⟩
    have HBB2 := Lib.hid (below_dn (n := k2) HBB.out)
    go_wp2_with fail
    go_ret
    exact ⟨rfl, HBB2.out⟩
end Go.Proofs.YthocckhpkfcemaaDoor
