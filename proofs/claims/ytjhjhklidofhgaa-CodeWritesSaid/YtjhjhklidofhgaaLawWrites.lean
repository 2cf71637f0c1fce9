/- The law CodeWrites: the walk. -/
import Derived.Test.YtjhjhklidofhgaaEncN
import Derived.Test.YtjhjhklidofhgaaOpen01
import Derived.Test.YtjhjhklidofhgaaHeldW
import Derived.Test.YtjhjhklidofhgaaREnc
import Derived.Deep.RegionHeld3
import Derived.Deep.DrawnRows
namespace Go.Proofs.Ytjhjhklidofhgaa
open Go.RowKit
attribute [local go_sem ↓] Go.wp_at_zero Go.wp_at_succ
attribute [local go_sem] str_append

theorem below_of_drew {B : Nat} {a w : World} (h : Below B a.drew w) : Below B a w := ⟨h.os, h.tape, h.output, h.size, h.block⟩
theorem CellsIn.below {w w' : World} {B B' size m : Nat} {A : Option Addr} {xs : List Value} (h : CellsIn w B size A m xs) (hb : Below B' w w') (hB : B ≤ B') : CellsIn w' B size A m xs := by
  refine ⟨h.len, ?_⟩
  rcases h.rd with e | ⟨b, off, e, hb', hc⟩
  · exact .inl e
  · exact .inr ⟨b, off, e, hb', fun j u hu => (hb.cell (p := ⟨b, off + j, none⟩) (by show b < B'; omega)).trans (hc j u hu)⟩
theorem own_first {w : World} {base n m c : Nat} {A : Option Addr} {l : List UInt8} (h : w.ownsRow base 5 1 (.slice A n c) n (cells8 l)) : BytesIn w w.heap.size A c (l.take m) := (bytesIn_of_own h).2.take

set_option maxHeartbeats 8000000 in
set_option maxRecDepth 100000 in
theorem law_writes (A : Option Addr) (c n : Nat) (l : List UInt8) (N : Nat) (I : Int) (s : List UInt8) (Ai : Option Addr) (m ci : Nat) (xs : List Int) (w : World) (h : BytesIn w w.heap.size A c l) (hn : n = l.length)
    (hN : N < 18446744073709551616) (hI : inI64 I) (hs : s.length ≤ 9223372036854775807) (hm : m = xs.length) (hmc : m ≤ 9223372036854775807) (hx : CellsIn w w.heap.size 1 Ai m (cellsI xs)) (hin : ∀ n ∈ xs, inI64 n) :
    Calls Try.prog 4 #[.slice A n c, .agg #[.int .u64 (N : Int), .int .i64 I, .string (str s), .slice Ai m ci]] w fun e w' => e = .returned (.bool true) ∧ Below w.heap.size w w' := by
  obtain ⟨i5, hi, hz0, hz1, hz2⟩ := info_parts Try.info5
  have hz : (str s).size = s.length := str_size s
  obtain ⟨w0, hw0⟩ : ∃ w0, w0 = w.alloc (.cells #[.int .u64 (N : Int), .int .i64 I, .string (str s), .slice Ai m ci] 36) := ⟨_, rfl⟩
  have hb0 : Below w.heap.size w w0 := by rw [hw0]; exact (Below.refl _ _).alloc (Nat.le_refl _) _
  obtain ⟨p, hp⟩ : ∃ p, p = w.heap.size := ⟨_, rfl⟩
  have k0 : w0.cell? ⟨p, 0, none⟩ = some (.int .u64 (N : Int)) := by rw [hw0, hp]; simp
  have k1 : w0.cell? ⟨p, 1, none⟩ = some (.int .i64 I) := by rw [hw0, hp]; simp
  have k2 : w0.cell? ⟨p, 2, none⟩ = some (.string (str s)) := by rw [hw0, hp]; simp
  have k3 : w0.cell? ⟨p, 3, none⟩ = some (.slice Ai m ci) := by rw [hw0, hp]; simp
  have hp0 : p < w0.heap.size := by rw [hw0, hp]; simp
  have hc1 := h.cap
  have hnc : n ≤ c := by have := h.le; omega
  have HB0 := Lib.hid hb0
  have K0 := Lib.hid k0
  have K1 := Lib.hid k1
  have K2 := Lib.hid k2
  have K3 := Lib.hid k3
  have HNN := Lib.hid hN
  have HI := Lib.hid hI
  have HX := Lib.hid hx
  have HIN := Lib.hid hin
  have HM := Lib.hid hm
  have HN := Lib.hid hn
  have HH := Lib.hid h
  have hpw : w.heap.size ≤ p := by omega
  have HW0 := Lib.hid hw0
  have HP := Lib.hid hp
  clear hb0 k0 k1 k2 k3 hN hI hx hin hm hw0 hp h hn
  go_enter Try.func4, Try.ntmps4
  go_wp2_with fail
  rw [← HW0.out, ← HP.out]
  refine (awake_any w0).mono ?_
  rintro e w1 ⟨rfl, hb1⟩
  have HB1 := Lib.hid (HB0.out.trans (hb1.mono (by have := HB0.out.size; omega)))
  have k0 : w1.cell? ⟨p, 0, none⟩ = some (.int .u64 (N : Int)) := (hb1.cell (p := ⟨p, 0, none⟩) hp0).trans K0.out
  have k1 : w1.cell? ⟨p, 1, none⟩ = some (.int .i64 I) := (hb1.cell (p := ⟨p, 1, none⟩) hp0).trans K1.out
  have k2 : w1.cell? ⟨p, 2, none⟩ = some (.string (str s)) := (hb1.cell (p := ⟨p, 2, none⟩) hp0).trans K2.out
  have k3 : w1.cell? ⟨p, 3, none⟩ = some (.slice Ai m ci) := (hb1.cell (p := ⟨p, 3, none⟩) hp0).trans K3.out
  have hp1 : p < w1.heap.size := by have := hb1.size; omega
  have hs1 : w.heap.size ≤ w1.heap.size := by omega
  clear hb1 K0 K1 K2 K3 HW0
  by_cases hbn : 10000 < n
  · go_wp2_with fail
    go_ret
    exact ⟨rfl, HB1.out⟩
  by_cases hbs : 100000 < s.length
  · go_wp2_with fail
    go_ret
    exact ⟨rfl, HB1.out⟩
  by_cases hbm : 10000 < m
  · go_wp2_with fail
    go_ret
    exact ⟨rfl, HB1.out⟩
  have zh : (convert 22 9 (.slice A n c)).run Try.prog w1 = .ok (.string (str l)) w1 := conv_b (HH.out.below HB1.out (Nat.le_refl _)) HN.out
  have HR1 := Lib.hid ((HH.out.below HB1.out (Nat.le_refl _)).cellsN HN.out)
  go_wp2_with (first
    | (at_make; refine wpList_make_own _ rfl _ _ 22 rfl w1.heap.size 5 i5 (.int .u8 0) 1 Try.underlying22 hi hz0 hz1 _ _ _ (n + 20) rfl rfl (by omega) (by rw [hz2]; omega) (by unfold maxLen; omega) (Nat.le_refl _) ?_; intro w2 hown2 hg2; have HO2 : Hid (w2.ownsRow w1.heap.size 5 1 (.slice (some ⟨w1.heap.size, 0, none⟩) 0 (n + 20)) 0 (cells8 [])) := Lib.hid hown2; have HB2 := Lib.hid (below_of_grown hg2 (by simp)); have hs2 : w1.heap.size ≤ w2.heap.size := HB2.out.size; have HR2 := Lib.hid (((HH.out.below HB1.out (Nat.le_refl _)).below (HB2.out.mono hs1) (Nat.le_refl _)).cellsN HN.out); clear hown2 hg2)
    | (at_builtin; refine wpList_append_row _ rfl (.tmp 33) (.tmp 34) _ rfl w1.heap.size 5 i5 _ 1 1 Try.underlying22 hi hz0 hz1 hz2 rfl (by omega) (some ⟨w1.heap.size, 0, none⟩) 0 (n + 20) (cells8 []) rfl HO2.out _ A n c (cells8 l) rfl HR2.out (cells8_one l) (by unfold maxLen; omega) (by omega) hs2 ?_; intro A3 c3 w3 hown3 hg3 _; have HO3 : Hid (w3.ownsRow w1.heap.size 5 1 (.slice A3 n c3) n (cells8 l)) := Lib.hid (own_norm hown3); have HB3 := Lib.hid (HB2.out.grown hg3 hs2 (fun k hk => (HO2.out.lt k hk).1)); have hs3 : w1.heap.size ≤ w3.heap.size := HB3.out.size; clear hown3 hg3; simp only [Nat.zero_add])
    | (at_builtin; refine wpList_append_row _ rfl (.tmp 35) (.tmp 36) _ rfl w1.heap.size 5 i5 _ 1 1 Try.underlying22 hi hz0 hz1 hz2 rfl (by omega) A3 n c3 (cells8 l) rfl (HO3.out.alloc _) (w3.heap.size + 1) (some ⟨w3.heap.size, 0, none⟩) 3 3 (cells8 [7, 7, 7]) rfl (cellsIn_alloc w3 #[.int .u8 7, .int .u8 7, .int .u8 7] 5 (0, 0) 1 3 rfl) (cells8_one _) (by unfold maxLen; omega) (by omega) (by simp; omega) ?_; intro A4 c4 w4 hown4 hg4 _; have HO4 : Hid (w4.ownsRow w1.heap.size 5 1 (.slice A4 (n + 3) c4) (n + 3) (cells8 (l ++ [7, 7, 7]))) := Lib.hid (by rw [cells8_append]; exact hown4); have HB4 := Lib.hid ((HB3.out.alloc hs3 (.cells #[.int .u8 7, .int .u8 7, .int .u8 7] 5)).grown hg4 (by simp; omega) (fun k hk => (HO3.out.lt k hk).1)); have hs4 : w1.heap.size ≤ w4.heap.size := HB4.out.size; have hnc4 : n ≤ c4 := (by have := (bytesIn_of_own HO4.out).2.le; have := (bytesIn_of_own HO4.out).1; omega); have hc463 : c4 ≤ 9223372036854775807 := (bytesIn_of_own HO4.out).2.cap; clear hown4 hg4))
  have hv1 := vb_len10 N HNN.out
  have hv2 := vb_len10 (zz I) (zz_lt I HI.out.1 HI.out.2)
  have hv3 := vb_len10 s.length (by omega)
  have hv4 := vb_len10 xs.length (by have := HM.out; omega)
  have hv5 := vrow_len xs HIN.out
  obtain ⟨n1, hn1⟩ : ∃ n1, n1 = (vb N).length := ⟨_, rfl⟩
  obtain ⟨n2, hn2⟩ : ∃ n2, n2 = (vb (zz I)).length := ⟨_, rfl⟩
  obtain ⟨n3, hn3⟩ : ∃ n3, n3 = (vtext s).length := ⟨_, rfl⟩
  obtain ⟨n4, hn4⟩ : ∃ n4, n4 = (vints xs).length := ⟨_, rfl⟩
  have HN1 := Lib.hid hn1
  have HN2 := Lib.hid hn2
  have HN3 := Lib.hid hn3
  have HN4 := Lib.hid hn4
  have HBR : Hid (BytesIn w4 w4.heap.size A4 c4 l) := Lib.hid (by
    have h1 := own_first (m := n) HO4.out
    rwa [List.take_append_of_le_length (by rw [← HN.out]; exact Nat.le_refl _), List.take_of_length_le (by rw [← HN.out]; exact Nat.le_refl _)] at h1)
  have HBw4 := Lib.hid (HB1.out.trans (HB4.out.mono hs1))
  have g0 := (HB4.out.cell (p := ⟨p, 0, none⟩) hp1).trans k0
  have g1 := (HB4.out.cell (p := ⟨p, 1, none⟩) hp1).trans k1
  have g2 := (HB4.out.cell (p := ⟨p, 2, none⟩) hp1).trans k2
  have g3 := (HB4.out.cell (p := ⟨p, 3, none⟩) hp1).trans k3
  have hp4 : p < w4.heap.size := by omega
  have hcat : ∀ b : List UInt8, b.length ≤ 200000 → ¬ 9223372036854775807 < (str l).size + (str b).size := fun b hb => by rw [str_size, str_size, ← HN.out]; omega
  have hvt : (vtext s).length ≤ 200000 := by unfold vtext; rw [List.length_append]; omega
  have hvx : (vints xs).length ≤ 200000 := by have := HM.out; unfold vints; rw [List.length_append]; omega
  have hcat1 := hcat (vb N) (by omega)
  have hcat2 := hcat (vb (zz I)) (by omega)
  have hcat3 := hcat (vtext s) hvt
  have hcat4 := hcat (vints xs) hvx
  have hcat5 := hcat [7, 7, 7] (by simp)
  clear hcat hvt hvx
  clear hv1 hv2 hv3 hv4 hv5 hn1 hn2 hn3 hn4 k0 k1 k2 k3 zh HR1
  have HBRr4 := HBR
  have HOs4 := HO4
  have g0_4 := g0
  have g1_4 := g1
  have g2_4 := g2
  have g3_4 := g3
  clear g0 g1 g2 g3
  have HBWd : Hid (Below w.heap.size w w4.drew) := Lib.hid ⟨HBw4.out.os, HBw4.out.tape, HBw4.out.output, HBw4.out.size, HBw4.out.block⟩
  have HBRd : Hid (BytesIn w4.drew w4.heap.size A4 c4 l) := Lib.hid HBRr4.out.drew
  have HOd : Hid (w4.drew.ownsRow w1.heap.size 5 1 (.slice A4 (n + 3) c4) (n + 3) (cells8 (l ++ [7, 7, 7]))) := Lib.hid HOs4.out.drew
  have gd0 : w4.drew.cell? ⟨p, 0, none⟩ = some (.int .u64 (N : Int)) := g0_4
  have gd1 : w4.drew.cell? ⟨p, 1, none⟩ = some (.int .i64 I) := g1_4
  have gd2 : w4.drew.cell? ⟨p, 2, none⟩ = some (.string (str s)) := g2_4
  have gd3 : w4.drew.cell? ⟨p, 3, none⟩ = some (.slice Ai m ci) := g3_4
  have hpd : p < w4.drew.heap.size := hp4
  have hsd : w.heap.size ≤ w4.drew.heap.size := by show w.heap.size ≤ w4.heap.size; omega
  clear g0_4 g1_4 g2_4 g3_4
  refine wp_region_noPanic ?_
  refine wp_region_held_drew (S := fun w' => w'.cell? ⟨p, 0, none⟩ = some (.int .u64 (N : Int)) ∧ w'.cell? ⟨p, 1, none⟩ = some (.int .i64 I) ∧ w'.cell? ⟨p, 2, none⟩ = some (.string (str s)) ∧ w'.cell? ⟨p, 3, none⟩ = some (.slice Ai m ci)) (by kernel_rfl) ?_ (fun hHeld => ?_)
  · try dsimp only
    (refine ⟨?_, ?_, ?_, ?_⟩ <;> (first | with_reducible assumption))
  refine wpAnyH_take (i := 0) (v := ?_) (by (simp only [List.getElem?_toArray, List.getElem?_cons_zero]; rfl)) (by kernel_rfl) (by kernel_rfl) (by kernel_rfl) (fun _ _ _ h => h) (Or.inl ⟨by rfl, ?_⟩) (by assumption) ?_
  rotate_left
  · (intro w hSw; (try dsimp only at hSw); go_simp; try with_reducible rfl)
  try simp only [Act.put, List.setIfInBounds_toArray, List.set_cons_zero, List.set_cons_succ]
  refine wpAnyH_take (i := 1) (v := ?_) (by (simp only [List.getElem?_toArray, List.getElem?_cons_succ, List.getElem?_cons_zero]; rfl)) (by kernel_rfl) (by kernel_rfl) (by kernel_rfl) (fun _ _ _ h => h) (Or.inl ⟨by rfl, ?_⟩) (by assumption) ?_
  rotate_left
  · (intro w hSw; (try dsimp only at hSw); go_simp; try with_reducible rfl)
  try simp only [Act.put, List.setIfInBounds_toArray, List.set_cons_zero, List.set_cons_succ]
  refine wpAnyH_take (i := 2) (v := ?_) (by (simp only [List.getElem?_toArray, List.getElem?_cons_succ, List.getElem?_cons_zero]; rfl)) (by kernel_rfl) (by kernel_rfl) (by kernel_rfl) (fun _ _ _ h => h) (Or.inl ⟨by rfl, ?_⟩) (by assumption) ?_
  rotate_left
  · (intro w hSw; (try dsimp only at hSw); go_simp; try with_reducible rfl)
  try simp only [Act.put, List.setIfInBounds_toArray, List.set_cons_zero, List.set_cons_succ]
  refine wpAnyH_take (i := 5) (v := ?_) (by (simp only [List.getElem?_toArray, List.getElem?_cons_succ, List.getElem?_cons_zero]; rfl)) (by kernel_rfl) (by kernel_rfl) (by kernel_rfl) (fun _ _ _ h => h) (Or.inl ⟨by rfl, ?_⟩) (by assumption) ?_
  rotate_left
  · (intro w hSw; (try dsimp only at hSw); go_simp; try with_reducible rfl)
  try simp only [Act.put, List.setIfInBounds_toArray, List.set_cons_zero, List.set_cons_succ]
  refine wpAnyH_take (i := 6) (v := ?_) (by (simp only [List.getElem?_toArray, List.getElem?_cons_succ, List.getElem?_cons_zero]; rfl)) (by kernel_rfl) (by kernel_rfl) (by kernel_rfl) (fun _ _ _ h => h) (Or.inl ⟨by rfl, ?_⟩) (by assumption) ?_
  rotate_left
  · (intro w hSw; (try dsimp only at hSw); go_simp; try with_reducible rfl)
  try simp only [Act.put, List.setIfInBounds_toArray, List.set_cons_zero, List.set_cons_succ]
  refine wpAnyH_take (i := 7) (v := ?_) (by (simp only [List.getElem?_toArray, List.getElem?_cons_succ, List.getElem?_cons_zero]; rfl)) (by kernel_rfl) (by kernel_rfl) (by kernel_rfl) (fun _ _ _ h => h) (Or.inl ⟨by rfl, ?_⟩) (by assumption) ?_
  rotate_left
  · (intro w hSw; (try dsimp only at hSw); go_simp; try with_reducible rfl)
  try simp only [Act.put, List.setIfInBounds_toArray, List.set_cons_zero, List.set_cons_succ]
  refine wpAnyH_ready (rs := [3]) (by kernel_rfl) (by simp) ?_
  refine AllReadyH.cons (by (simp only [List.getElem?_toArray, List.getElem?_cons_succ, List.getElem?_cons_zero]; rfl)) (fun K hK => ?_) AllReadyH.nil
  go_simp
  have HBRx : Hid (BytesIn (w4.drew) (w4.drew).heap.size A4 c4 l) := HBRd
  refine (eu_any A4 c4 n l N _ HBRx.out HN.out (by omega) HNN.out).mono ?_
  rw [← HN1.out]
  rintro e w5 ⟨A5, c5, rfl, ho, hb⟩
  have HBw5 := Lib.hid (HBWd.out.trans (hb.mono hsd))
  have g0_5 := (hb.cell (p := ⟨p, 0, none⟩) hpd).trans gd0
  have g1_5 := (hb.cell (p := ⟨p, 1, none⟩) hpd).trans gd1
  have g2_5 := (hb.cell (p := ⟨p, 2, none⟩) hpd).trans gd2
  have g3_5 := (hb.cell (p := ⟨p, 3, none⟩) hpd).trans gd3
  have hs5 : (w4.drew).heap.size ≤ w5.heap.size := hb.size
  have hp5 : p < w5.heap.size := Nat.lt_of_lt_of_le hpd hs5
  have hsw5 : w.heap.size ≤ w5.heap.size := Nat.le_trans hsd hs5
  have HBRr5 : Hid (BytesIn w5 w5.heap.size A4 c4 l) := Lib.hid ((HBRx.out.below hb (Nat.le_refl _)).more hs5)
  have HOs5 : Hid (w5.ownsRow w1.heap.size 5 1 (.slice A4 (n + 3) c4) (n + 3) (cells8 (l ++ [7, 7, 7]))) := Lib.hid ((Chg.of_below hb).own HOd.out (fun _ _ h => h))
  have HR5 := Lib.hid ho
  have z5 : (convert 22 9 (.slice A5 (n + n1) c5)).run Try.prog w5 = .ok (.string (str (l ++ vb N))) w5 := conv_l ho
  clear HBRx ho hb
  refine hK.out _ _ ?_ (fun hHeld => ?_)
  · try dsimp only
    (refine ⟨?_, ?_, ?_, ?_⟩ <;> (first | with_reducible assumption))
  clear hK K
  try simp only [Act.put, List.setIfInBounds_toArray, List.set_cons_zero, List.set_cons_succ]
  refine wpAnyH_weaken (S' := fun w' => ((fun w' => w'.cell? ⟨p, 0, none⟩ = some (.int .u64 (N : Int)) ∧ w'.cell? ⟨p, 1, none⟩ = some (.int .i64 I) ∧ w'.cell? ⟨p, 2, none⟩ = some (.string (str s)) ∧ w'.cell? ⟨p, 3, none⟩ = some (.slice Ai m ci)) w') ∧ ((convert 22 9 (.slice A5 (n + n1) c5)).run Try.prog w' = .ok (.string (str (l ++ vb N))) w')) (fun _ h => h.1) ?_
  have hHeld := (show (fun w' => ((fun w' => w'.cell? ⟨p, 0, none⟩ = some (.int .u64 (N : Int)) ∧ w'.cell? ⟨p, 1, none⟩ = some (.int .i64 I) ∧ w'.cell? ⟨p, 2, none⟩ = some (.string (str s)) ∧ w'.cell? ⟨p, 3, none⟩ = some (.slice Ai m ci)) w') ∧ ((convert 22 9 (.slice A5 (n + n1) c5)).run Try.prog w' = .ok (.string (str (l ++ vb N))) w')) _ from ⟨hHeld, z5⟩)
  refine wpAnyH_take (i := 4) (v := ?_) (by (simp only [List.getElem?_toArray, List.getElem?_cons_succ, List.getElem?_cons_zero]; rfl)) (by kernel_rfl) (by kernel_rfl) (by kernel_rfl) (fun _ _ _ h => h) (Or.inl ⟨by rfl, ?_⟩) (by assumption) ?_
  rotate_left
  · (intro w hSw; (try dsimp only at hSw); go_simp; try with_reducible rfl)
  try simp only [Act.put, List.setIfInBounds_toArray, List.set_cons_zero, List.set_cons_succ]
  refine wpAnyH_ready (rs := [8]) (by kernel_rfl) (by simp) ?_
  refine AllReadyH.cons (by (simp only [List.getElem?_toArray, List.getElem?_cons_succ, List.getElem?_cons_zero]; rfl)) (fun K hK => ?_) AllReadyH.nil
  go_simp
  have HBRx : Hid (BytesIn (w5) (w5).heap.size A4 c4 l) := HBRr5
  refine (reu_any N N _ (Nat.le_refl _) HNN.out).mono ?_
  rw [← HN1.out]
  rintro e w6 ⟨A6, c6, rfl, ho, hb⟩
  have HBw6 := Lib.hid (HBw5.out.trans (hb.mono hsw5))
  have g0_6 := (hb.cell (p := ⟨p, 0, none⟩) hp5).trans g0_5
  have g1_6 := (hb.cell (p := ⟨p, 1, none⟩) hp5).trans g1_5
  have g2_6 := (hb.cell (p := ⟨p, 2, none⟩) hp5).trans g2_5
  have g3_6 := (hb.cell (p := ⟨p, 3, none⟩) hp5).trans g3_5
  have hs6 : (w5).heap.size ≤ w6.heap.size := hb.size
  have hp6 : p < w6.heap.size := Nat.lt_of_lt_of_le hp5 hs6
  have hsw6 : w.heap.size ≤ w6.heap.size := Nat.le_trans hsw5 hs6
  have HBRr6 : Hid (BytesIn w6 w6.heap.size A4 c4 l) := Lib.hid ((HBRx.out.below hb (Nat.le_refl _)).more hs6)
  have HOs6 : Hid (w6.ownsRow w1.heap.size 5 1 (.slice A4 (n + 3) c4) (n + 3) (cells8 (l ++ [7, 7, 7]))) := Lib.hid ((Chg.of_below hb).own HOs5.out (fun _ _ h => h))
  have HR5_6 := Lib.hid ((Chg.of_below hb).own HR5.out (fun _ _ h => h))
  have z5_6 : (convert 22 9 (.slice A5 (n + n1) c5)).run Try.prog w6 = .ok (.string (str (l ++ vb N))) w6 := conv_l HR5_6.out
  have HR6 := Lib.hid ho
  have z6 : (convert 22 9 (.slice A6 n1 c6)).run Try.prog w6 = .ok (.string (str (vb N))) w6 := conv_l ho
  clear HBRx ho hb
  refine hK.out _ _ ?_ (fun hHeld => ?_)
  · try dsimp only
    (refine ⟨⟨?_, ?_, ?_, ?_⟩, ?_⟩ <;> (first | with_reducible assumption))
  clear hK K
  try simp only [Act.put, List.setIfInBounds_toArray, List.set_cons_zero, List.set_cons_succ]
  refine wpAnyH_weaken (S' := fun w' => ((fun w' => ((fun w' => w'.cell? ⟨p, 0, none⟩ = some (.int .u64 (N : Int)) ∧ w'.cell? ⟨p, 1, none⟩ = some (.int .i64 I) ∧ w'.cell? ⟨p, 2, none⟩ = some (.string (str s)) ∧ w'.cell? ⟨p, 3, none⟩ = some (.slice Ai m ci)) w') ∧ ((convert 22 9 (.slice A5 (n + n1) c5)).run Try.prog w' = .ok (.string (str (l ++ vb N))) w')) w') ∧ ((convert 22 9 (.slice A6 n1 c6)).run Try.prog w' = .ok (.string (str (vb N))) w')) (fun _ h => h.1) ?_
  have hHeld := (show (fun w' => ((fun w' => ((fun w' => w'.cell? ⟨p, 0, none⟩ = some (.int .u64 (N : Int)) ∧ w'.cell? ⟨p, 1, none⟩ = some (.int .i64 I) ∧ w'.cell? ⟨p, 2, none⟩ = some (.string (str s)) ∧ w'.cell? ⟨p, 3, none⟩ = some (.slice Ai m ci)) w') ∧ ((convert 22 9 (.slice A5 (n + n1) c5)).run Try.prog w' = .ok (.string (str (l ++ vb N))) w')) w') ∧ ((convert 22 9 (.slice A6 n1 c6)).run Try.prog w' = .ok (.string (str (vb N))) w')) _ from ⟨hHeld, z6⟩)
  refine wpAnyH_take (i := 9) (v := ?_) (by (simp only [List.getElem?_toArray, List.getElem?_cons_succ, List.getElem?_cons_zero]; rfl)) (by kernel_rfl) (by kernel_rfl) (by kernel_rfl) (fun _ _ _ h => h) (Or.inl ⟨by rfl, ?_⟩) (by assumption) ?_
  rotate_left
  · (intro w hSw; (try dsimp only at hSw); go_simp; try with_reducible rfl)
  try simp only [Act.put, List.setIfInBounds_toArray, List.set_cons_zero, List.set_cons_succ]
  refine wpAnyH_take (i := 10) (v := ?_) (by (simp only [List.getElem?_toArray, List.getElem?_cons_succ, List.getElem?_cons_zero]; rfl)) (by kernel_rfl) (by kernel_rfl) (by kernel_rfl) (fun _ _ _ h => h) (Or.inl ⟨by rfl, ?_⟩) (by assumption) ?_
  rotate_left
  · (intro w hSw; (try dsimp only at hSw); go_simp; try with_reducible rfl)
  try simp only [Act.put, List.setIfInBounds_toArray, List.set_cons_zero, List.set_cons_succ]
  refine wpAnyH_take (i := 11) (v := ?_) (by (simp only [List.getElem?_toArray, List.getElem?_cons_succ, List.getElem?_cons_zero]; rfl)) (by kernel_rfl) (by kernel_rfl) (by kernel_rfl) (fun _ _ _ h => h) (Or.inl ⟨by rfl, ?_⟩) (by assumption) ?_
  rotate_left
  · (intro w hSw; (try dsimp only at hSw); go_simp; try with_reducible rfl)
  try simp only [Act.put, List.setIfInBounds_toArray, List.set_cons_zero, List.set_cons_succ]
  refine wpAnyH_take (i := 12) (v := ?_) (by (simp only [List.getElem?_toArray, List.getElem?_cons_succ, List.getElem?_cons_zero]; rfl)) (by kernel_rfl) (by kernel_rfl) (by kernel_rfl) (fun _ _ _ h => h) (Or.inl ⟨by rfl, ?_⟩) (by assumption) ?_
  rotate_left
  · (intro w hSw; (try dsimp only at hSw); go_simp; try with_reducible rfl)
  try simp only [Act.put, List.setIfInBounds_toArray, List.set_cons_zero, List.set_cons_succ]
  refine wpAnyH_take (i := 13) (v := ?_) (by (simp only [List.getElem?_toArray, List.getElem?_cons_succ, List.getElem?_cons_zero]; rfl)) (by kernel_rfl) (by kernel_rfl) (by kernel_rfl) (fun _ _ _ h => h) (Or.inl ⟨by rfl, ?_⟩) (by assumption) ?_
  rotate_left
  · (intro w hSw; (try dsimp only at hSw); go_simp; try with_reducible rfl)
  try simp only [Act.put, List.setIfInBounds_toArray, List.set_cons_zero, List.set_cons_succ]
  refine wpAnyH_take (i := 14) (v := ?_) (by (simp only [List.getElem?_toArray, List.getElem?_cons_succ, List.getElem?_cons_zero]; rfl)) (by kernel_rfl) (by kernel_rfl) (by kernel_rfl) (fun _ _ _ h => h) (Or.inl ⟨by rfl, ?_⟩) (by assumption) ?_
  rotate_left
  · (intro w hSw; (try dsimp only at hSw); go_simp; try with_reducible rfl)
  try simp only [Act.put, List.setIfInBounds_toArray, List.set_cons_zero, List.set_cons_succ]
  refine wpAnyH_take (i := 15) (v := ?_) (by (simp only [List.getElem?_toArray, List.getElem?_cons_succ, List.getElem?_cons_zero]; rfl)) (by kernel_rfl) (by kernel_rfl) (by kernel_rfl) (fun _ _ _ h => h) (Or.inl ⟨by rfl, ?_⟩) (by assumption) ?_
  rotate_left
  · (intro w hSw; (try dsimp only at hSw); go_simp; try with_reducible rfl)
  try simp only [Act.put, List.setIfInBounds_toArray, List.set_cons_zero, List.set_cons_succ]
  refine wpAnyH_take (i := 18) (v := ?_) (by (simp only [List.getElem?_toArray, List.getElem?_cons_succ, List.getElem?_cons_zero]; rfl)) (by kernel_rfl) (by kernel_rfl) (by kernel_rfl) (fun _ _ _ h => h) (Or.inl ⟨by rfl, ?_⟩) (by assumption) ?_
  rotate_left
  · (intro w hSw; (try dsimp only at hSw); go_simp; try with_reducible rfl)
  try simp only [Act.put, List.setIfInBounds_toArray, List.set_cons_zero, List.set_cons_succ]
  refine wpAnyH_take (i := 19) (v := ?_) (by (simp only [List.getElem?_toArray, List.getElem?_cons_succ, List.getElem?_cons_zero]; rfl)) (by kernel_rfl) (by kernel_rfl) (by kernel_rfl) (fun _ _ _ h => h) (Or.inl ⟨by rfl, ?_⟩) (by assumption) ?_
  rotate_left
  · (intro w hSw; (try dsimp only at hSw); go_simp; try with_reducible rfl)
  try simp only [Act.put, List.setIfInBounds_toArray, List.set_cons_zero, List.set_cons_succ]
  refine wpAnyH_take (i := 20) (v := ?_) (by (simp only [List.getElem?_toArray, List.getElem?_cons_succ, List.getElem?_cons_zero]; rfl)) (by kernel_rfl) (by kernel_rfl) (by kernel_rfl) (fun _ _ _ h => h) (Or.inl ⟨by rfl, ?_⟩) (by assumption) ?_
  rotate_left
  · (intro w hSw; (try dsimp only at hSw); go_simp; try with_reducible rfl)
  try simp only [Act.put, List.setIfInBounds_toArray, List.set_cons_zero, List.set_cons_succ]
  refine wpAnyH_ready (rs := [16]) (by kernel_rfl) (by simp) ?_
  refine AllReadyH.cons (by (simp only [List.getElem?_toArray, List.getElem?_cons_succ, List.getElem?_cons_zero]; rfl)) (fun K hK => ?_) AllReadyH.nil
  go_simp
  have HBRx : Hid (BytesIn (w6) (w6).heap.size A4 c4 l) := HBRr6
  refine (ei_any A4 c4 n l I _ HBRx.out HN.out (by omega) HI.out).mono ?_
  rw [← HN2.out]
  rintro e w7 ⟨A7, c7, rfl, ho, hb⟩
  have HBw7 := Lib.hid (HBw6.out.trans (hb.mono hsw6))
  have g0_7 := (hb.cell (p := ⟨p, 0, none⟩) hp6).trans g0_6
  have g1_7 := (hb.cell (p := ⟨p, 1, none⟩) hp6).trans g1_6
  have g2_7 := (hb.cell (p := ⟨p, 2, none⟩) hp6).trans g2_6
  have g3_7 := (hb.cell (p := ⟨p, 3, none⟩) hp6).trans g3_6
  have hs7 : (w6).heap.size ≤ w7.heap.size := hb.size
  have hp7 : p < w7.heap.size := Nat.lt_of_lt_of_le hp6 hs7
  have hsw7 : w.heap.size ≤ w7.heap.size := Nat.le_trans hsw6 hs7
  have HBRr7 : Hid (BytesIn w7 w7.heap.size A4 c4 l) := Lib.hid ((HBRx.out.below hb (Nat.le_refl _)).more hs7)
  have HOs7 : Hid (w7.ownsRow w1.heap.size 5 1 (.slice A4 (n + 3) c4) (n + 3) (cells8 (l ++ [7, 7, 7]))) := Lib.hid ((Chg.of_below hb).own HOs6.out (fun _ _ h => h))
  have HR5_7 := Lib.hid ((Chg.of_below hb).own HR5_6.out (fun _ _ h => h))
  have z5_7 : (convert 22 9 (.slice A5 (n + n1) c5)).run Try.prog w7 = .ok (.string (str (l ++ vb N))) w7 := conv_l HR5_7.out
  have HR6_7 := Lib.hid ((Chg.of_below hb).own HR6.out (fun _ _ h => h))
  have z6_7 : (convert 22 9 (.slice A6 n1 c6)).run Try.prog w7 = .ok (.string (str (vb N))) w7 := conv_l HR6_7.out
  have HR7 := Lib.hid ho
  have z7 : (convert 22 9 (.slice A7 (n + n2) c7)).run Try.prog w7 = .ok (.string (str (l ++ vb (zz I)))) w7 := conv_l ho
  clear HBRx ho hb
  refine hK.out _ _ ?_ (fun hHeld => ?_)
  · try dsimp only
    (refine ⟨⟨⟨?_, ?_, ?_, ?_⟩, ?_⟩, ?_⟩ <;> (first | with_reducible assumption))
  clear hK K
  try simp only [Act.put, List.setIfInBounds_toArray, List.set_cons_zero, List.set_cons_succ]
  refine wpAnyH_weaken (S' := fun w' => ((fun w' => ((fun w' => ((fun w' => w'.cell? ⟨p, 0, none⟩ = some (.int .u64 (N : Int)) ∧ w'.cell? ⟨p, 1, none⟩ = some (.int .i64 I) ∧ w'.cell? ⟨p, 2, none⟩ = some (.string (str s)) ∧ w'.cell? ⟨p, 3, none⟩ = some (.slice Ai m ci)) w') ∧ ((convert 22 9 (.slice A5 (n + n1) c5)).run Try.prog w' = .ok (.string (str (l ++ vb N))) w')) w') ∧ ((convert 22 9 (.slice A6 n1 c6)).run Try.prog w' = .ok (.string (str (vb N))) w')) w') ∧ ((convert 22 9 (.slice A7 (n + n2) c7)).run Try.prog w' = .ok (.string (str (l ++ vb (zz I)))) w')) (fun _ h => h.1) ?_
  have hHeld := (show (fun w' => ((fun w' => ((fun w' => ((fun w' => w'.cell? ⟨p, 0, none⟩ = some (.int .u64 (N : Int)) ∧ w'.cell? ⟨p, 1, none⟩ = some (.int .i64 I) ∧ w'.cell? ⟨p, 2, none⟩ = some (.string (str s)) ∧ w'.cell? ⟨p, 3, none⟩ = some (.slice Ai m ci)) w') ∧ ((convert 22 9 (.slice A5 (n + n1) c5)).run Try.prog w' = .ok (.string (str (l ++ vb N))) w')) w') ∧ ((convert 22 9 (.slice A6 n1 c6)).run Try.prog w' = .ok (.string (str (vb N))) w')) w') ∧ ((convert 22 9 (.slice A7 (n + n2) c7)).run Try.prog w' = .ok (.string (str (l ++ vb (zz I)))) w')) _ from ⟨hHeld, z7⟩)
  refine wpAnyH_take (i := 17) (v := ?_) (by (simp only [List.getElem?_toArray, List.getElem?_cons_succ, List.getElem?_cons_zero]; rfl)) (by kernel_rfl) (by kernel_rfl) (by kernel_rfl) (fun _ _ _ h => h) (Or.inl ⟨by rfl, ?_⟩) (by assumption) ?_
  rotate_left
  · (intro w hSw; (try dsimp only at hSw); go_simp; try with_reducible rfl)
  try simp only [Act.put, List.setIfInBounds_toArray, List.set_cons_zero, List.set_cons_succ]
  refine wpAnyH_ready (rs := [21]) (by kernel_rfl) (by simp) ?_
  refine AllReadyH.cons (by (simp only [List.getElem?_toArray, List.getElem?_cons_succ, List.getElem?_cons_zero]; rfl)) (fun K hK => ?_) AllReadyH.nil
  go_simp
  have HBRx : Hid (BytesIn (w7) (w7).heap.size A4 c4 l) := HBRr7
  refine (rei_any I _ HI.out).mono ?_
  rw [← HN2.out]
  rintro e w8 ⟨A8, c8, rfl, ho, hb⟩
  have HBw8 := Lib.hid (HBw7.out.trans (hb.mono hsw7))
  have g0_8 := (hb.cell (p := ⟨p, 0, none⟩) hp7).trans g0_7
  have g1_8 := (hb.cell (p := ⟨p, 1, none⟩) hp7).trans g1_7
  have g2_8 := (hb.cell (p := ⟨p, 2, none⟩) hp7).trans g2_7
  have g3_8 := (hb.cell (p := ⟨p, 3, none⟩) hp7).trans g3_7
  have hs8 : (w7).heap.size ≤ w8.heap.size := hb.size
  have hp8 : p < w8.heap.size := Nat.lt_of_lt_of_le hp7 hs8
  have hsw8 : w.heap.size ≤ w8.heap.size := Nat.le_trans hsw7 hs8
  have HBRr8 : Hid (BytesIn w8 w8.heap.size A4 c4 l) := Lib.hid ((HBRx.out.below hb (Nat.le_refl _)).more hs8)
  have HOs8 : Hid (w8.ownsRow w1.heap.size 5 1 (.slice A4 (n + 3) c4) (n + 3) (cells8 (l ++ [7, 7, 7]))) := Lib.hid ((Chg.of_below hb).own HOs7.out (fun _ _ h => h))
  have HR5_8 := Lib.hid ((Chg.of_below hb).own HR5_7.out (fun _ _ h => h))
  have z5_8 : (convert 22 9 (.slice A5 (n + n1) c5)).run Try.prog w8 = .ok (.string (str (l ++ vb N))) w8 := conv_l HR5_8.out
  have HR6_8 := Lib.hid ((Chg.of_below hb).own HR6_7.out (fun _ _ h => h))
  have z6_8 : (convert 22 9 (.slice A6 n1 c6)).run Try.prog w8 = .ok (.string (str (vb N))) w8 := conv_l HR6_8.out
  have HR7_8 := Lib.hid ((Chg.of_below hb).own HR7.out (fun _ _ h => h))
  have z7_8 : (convert 22 9 (.slice A7 (n + n2) c7)).run Try.prog w8 = .ok (.string (str (l ++ vb (zz I)))) w8 := conv_l HR7_8.out
  have HR8 := Lib.hid ho
  have z8 : (convert 22 9 (.slice A8 n2 c8)).run Try.prog w8 = .ok (.string (str (vb (zz I)))) w8 := conv_l ho
  clear HBRx ho hb
  refine hK.out _ _ ?_ (fun hHeld => ?_)
  · try dsimp only
    (refine ⟨⟨⟨⟨?_, ?_, ?_, ?_⟩, ?_⟩, ?_⟩, ?_⟩ <;> (first | with_reducible assumption))
  clear hK K
  try simp only [Act.put, List.setIfInBounds_toArray, List.set_cons_zero, List.set_cons_succ]
  refine wpAnyH_weaken (S' := fun w' => ((fun w' => ((fun w' => ((fun w' => ((fun w' => w'.cell? ⟨p, 0, none⟩ = some (.int .u64 (N : Int)) ∧ w'.cell? ⟨p, 1, none⟩ = some (.int .i64 I) ∧ w'.cell? ⟨p, 2, none⟩ = some (.string (str s)) ∧ w'.cell? ⟨p, 3, none⟩ = some (.slice Ai m ci)) w') ∧ ((convert 22 9 (.slice A5 (n + n1) c5)).run Try.prog w' = .ok (.string (str (l ++ vb N))) w')) w') ∧ ((convert 22 9 (.slice A6 n1 c6)).run Try.prog w' = .ok (.string (str (vb N))) w')) w') ∧ ((convert 22 9 (.slice A7 (n + n2) c7)).run Try.prog w' = .ok (.string (str (l ++ vb (zz I)))) w')) w') ∧ ((convert 22 9 (.slice A8 n2 c8)).run Try.prog w' = .ok (.string (str (vb (zz I)))) w')) (fun _ h => h.1) ?_
  have hHeld := (show (fun w' => ((fun w' => ((fun w' => ((fun w' => ((fun w' => w'.cell? ⟨p, 0, none⟩ = some (.int .u64 (N : Int)) ∧ w'.cell? ⟨p, 1, none⟩ = some (.int .i64 I) ∧ w'.cell? ⟨p, 2, none⟩ = some (.string (str s)) ∧ w'.cell? ⟨p, 3, none⟩ = some (.slice Ai m ci)) w') ∧ ((convert 22 9 (.slice A5 (n + n1) c5)).run Try.prog w' = .ok (.string (str (l ++ vb N))) w')) w') ∧ ((convert 22 9 (.slice A6 n1 c6)).run Try.prog w' = .ok (.string (str (vb N))) w')) w') ∧ ((convert 22 9 (.slice A7 (n + n2) c7)).run Try.prog w' = .ok (.string (str (l ++ vb (zz I)))) w')) w') ∧ ((convert 22 9 (.slice A8 n2 c8)).run Try.prog w' = .ok (.string (str (vb (zz I)))) w')) _ from ⟨hHeld, z8⟩)
  refine wpAnyH_take (i := 22) (v := ?_) (by (simp only [List.getElem?_toArray, List.getElem?_cons_succ, List.getElem?_cons_zero]; rfl)) (by kernel_rfl) (by kernel_rfl) (by kernel_rfl) (fun _ _ _ h => h) (Or.inl ⟨by rfl, ?_⟩) (by assumption) ?_
  rotate_left
  · (intro w hSw; (try dsimp only at hSw); go_simp; try with_reducible rfl)
  try simp only [Act.put, List.setIfInBounds_toArray, List.set_cons_zero, List.set_cons_succ]
  refine wpAnyH_take (i := 23) (v := ?_) (by (simp only [List.getElem?_toArray, List.getElem?_cons_succ, List.getElem?_cons_zero]; rfl)) (by kernel_rfl) (by kernel_rfl) (by kernel_rfl) (fun _ _ _ h => h) (Or.inl ⟨by rfl, ?_⟩) (by assumption) ?_
  rotate_left
  · (intro w hSw; (try dsimp only at hSw); go_simp; try with_reducible rfl)
  try simp only [Act.put, List.setIfInBounds_toArray, List.set_cons_zero, List.set_cons_succ]
  refine wpAnyH_take (i := 24) (v := ?_) (by (simp only [List.getElem?_toArray, List.getElem?_cons_succ, List.getElem?_cons_zero]; rfl)) (by kernel_rfl) (by kernel_rfl) (by kernel_rfl) (fun _ _ _ h => h) (Or.inl ⟨by rfl, ?_⟩) (by assumption) ?_
  rotate_left
  · (intro w hSw; (try dsimp only at hSw); go_simp; try with_reducible rfl)
  try simp only [Act.put, List.setIfInBounds_toArray, List.set_cons_zero, List.set_cons_succ]
  refine wpAnyH_take (i := 25) (v := ?_) (by (simp only [List.getElem?_toArray, List.getElem?_cons_succ, List.getElem?_cons_zero]; rfl)) (by kernel_rfl) (by kernel_rfl) (by kernel_rfl) (fun _ _ _ h => h) (Or.inl ⟨by rfl, ?_⟩) (by assumption) ?_
  rotate_left
  · (intro w hSw; (try dsimp only at hSw); go_simp; try with_reducible rfl)
  try simp only [Act.put, List.setIfInBounds_toArray, List.set_cons_zero, List.set_cons_succ]
  refine wpAnyH_take (i := 26) (v := ?_) (by (simp only [List.getElem?_toArray, List.getElem?_cons_succ, List.getElem?_cons_zero]; rfl)) (by kernel_rfl) (by kernel_rfl) (by kernel_rfl) (fun _ _ _ h => h) (Or.inl ⟨by rfl, ?_⟩) (by assumption) ?_
  rotate_left
  · (intro w hSw; (try dsimp only at hSw); go_simp; try with_reducible rfl)
  try simp only [Act.put, List.setIfInBounds_toArray, List.set_cons_zero, List.set_cons_succ]
  refine wpAnyH_done (by kernel_rfl) ?_ _
  refine NoPanic.normal ?_
  clear z5 z6 z7 z8 z5_6 z5_7 z5_8 z6_7 z6_8 z7_8 HR5 HR6 HR7 HR8 HR5_6 HR5_7 HR5_8 HR6_7 HR6_8 HR7_8 HBWd HBRd HOd gd0 gd1 gd2 gd3 hpd hsd hHeld
  clear g0_5 g1_5 g2_5 g3_5 g0_6 g1_6 g2_6 g3_6 g0_7 g1_7 g2_7 g3_7
  go_wp2_with fail
  have HBWd : Hid (Below w.heap.size w w8.drew) := Lib.hid ⟨HBw8.out.os, HBw8.out.tape, HBw8.out.output, HBw8.out.size, HBw8.out.block⟩
  have HBRd : Hid (BytesIn w8.drew w8.heap.size A4 c4 l) := Lib.hid HBRr8.out.drew
  have HOd : Hid (w8.drew.ownsRow w1.heap.size 5 1 (.slice A4 (n + 3) c4) (n + 3) (cells8 (l ++ [7, 7, 7]))) := Lib.hid HOs8.out.drew
  have gd0 : w8.drew.cell? ⟨p, 0, none⟩ = some (.int .u64 (N : Int)) := g0_8
  have gd1 : w8.drew.cell? ⟨p, 1, none⟩ = some (.int .i64 I) := g1_8
  have gd2 : w8.drew.cell? ⟨p, 2, none⟩ = some (.string (str s)) := g2_8
  have gd3 : w8.drew.cell? ⟨p, 3, none⟩ = some (.slice Ai m ci) := g3_8
  have hpd : p < w8.drew.heap.size := hp8
  have hsd : w.heap.size ≤ w8.drew.heap.size := by show w.heap.size ≤ w8.heap.size; omega
  clear g0_8 g1_8 g2_8 g3_8
  refine wp_region_noPanic ?_
  refine wp_region_held_drew (S := fun w' => w'.cell? ⟨p, 0, none⟩ = some (.int .u64 (N : Int)) ∧ w'.cell? ⟨p, 1, none⟩ = some (.int .i64 I) ∧ w'.cell? ⟨p, 2, none⟩ = some (.string (str s)) ∧ w'.cell? ⟨p, 3, none⟩ = some (.slice Ai m ci)) (by kernel_rfl) ?_ (fun hHeld => ?_)
  · try dsimp only
    (refine ⟨?_, ?_, ?_, ?_⟩ <;> (first | with_reducible assumption))
  refine wpAnyH_take (i := 0) (v := ?_) (by (simp only [List.getElem?_toArray, List.getElem?_cons_zero]; rfl)) (by kernel_rfl) (by kernel_rfl) (by kernel_rfl) (fun _ _ _ h => h) (Or.inl ⟨by rfl, ?_⟩) (by assumption) ?_
  rotate_left
  · (intro w hSw; (try dsimp only at hSw); go_simp; try with_reducible rfl)
  try simp only [Act.put, List.setIfInBounds_toArray, List.set_cons_zero, List.set_cons_succ]
  refine wpAnyH_take (i := 1) (v := ?_) (by (simp only [List.getElem?_toArray, List.getElem?_cons_succ, List.getElem?_cons_zero]; rfl)) (by kernel_rfl) (by kernel_rfl) (by kernel_rfl) (fun _ _ _ h => h) (Or.inl ⟨by rfl, ?_⟩) (by assumption) ?_
  rotate_left
  · (intro w hSw; (try dsimp only at hSw); go_simp; try with_reducible rfl)
  try simp only [Act.put, List.setIfInBounds_toArray, List.set_cons_zero, List.set_cons_succ]
  refine wpAnyH_take (i := 2) (v := ?_) (by (simp only [List.getElem?_toArray, List.getElem?_cons_succ, List.getElem?_cons_zero]; rfl)) (by kernel_rfl) (by kernel_rfl) (by kernel_rfl) (fun _ _ _ h => h) (Or.inl ⟨by rfl, ?_⟩) (by assumption) ?_
  rotate_left
  · (intro w hSw; (try dsimp only at hSw); go_simp; try with_reducible rfl)
  try simp only [Act.put, List.setIfInBounds_toArray, List.set_cons_zero, List.set_cons_succ]
  refine wpAnyH_take (i := 3) (v := ?_) (by (simp only [List.getElem?_toArray, List.getElem?_cons_succ, List.getElem?_cons_zero]; rfl)) (by kernel_rfl) (by kernel_rfl) (by kernel_rfl) (fun _ _ _ h => h) (Or.inl ⟨by rfl, ?_⟩) (by assumption) ?_
  rotate_left
  · (intro w hSw; (try dsimp only at hSw); go_simp; try with_reducible rfl)
  try simp only [Act.put, List.setIfInBounds_toArray, List.set_cons_zero, List.set_cons_succ]
  refine wpAnyH_take (i := 4) (v := ?_) (by (simp only [List.getElem?_toArray, List.getElem?_cons_succ, List.getElem?_cons_zero]; rfl)) (by kernel_rfl) (by kernel_rfl) (by kernel_rfl) (fun _ _ _ h => h) (Or.inl ⟨by rfl, ?_⟩) (by assumption) ?_
  rotate_left
  · (intro w hSw; (try dsimp only at hSw); go_simp; try with_reducible rfl)
  try simp only [Act.put, List.setIfInBounds_toArray, List.set_cons_zero, List.set_cons_succ]
  refine wpAnyH_take (i := 7) (v := ?_) (by (simp only [List.getElem?_toArray, List.getElem?_cons_succ, List.getElem?_cons_zero]; rfl)) (by kernel_rfl) (by kernel_rfl) (by kernel_rfl) (fun _ _ _ h => h) (Or.inl ⟨by rfl, ?_⟩) (by assumption) ?_
  rotate_left
  · (intro w hSw; (try dsimp only at hSw); go_simp; try with_reducible rfl)
  try simp only [Act.put, List.setIfInBounds_toArray, List.set_cons_zero, List.set_cons_succ]
  refine wpAnyH_take (i := 8) (v := ?_) (by (simp only [List.getElem?_toArray, List.getElem?_cons_succ, List.getElem?_cons_zero]; rfl)) (by kernel_rfl) (by kernel_rfl) (by kernel_rfl) (fun _ _ _ h => h) (Or.inl ⟨by rfl, ?_⟩) (by assumption) ?_
  rotate_left
  · (intro w hSw; (try dsimp only at hSw); go_simp; try with_reducible rfl)
  try simp only [Act.put, List.setIfInBounds_toArray, List.set_cons_zero, List.set_cons_succ]
  refine wpAnyH_take (i := 9) (v := ?_) (by (simp only [List.getElem?_toArray, List.getElem?_cons_succ, List.getElem?_cons_zero]; rfl)) (by kernel_rfl) (by kernel_rfl) (by kernel_rfl) (fun _ _ _ h => h) (Or.inl ⟨by rfl, ?_⟩) (by assumption) ?_
  rotate_left
  · (intro w hSw; (try dsimp only at hSw); go_simp; try with_reducible rfl)
  try simp only [Act.put, List.setIfInBounds_toArray, List.set_cons_zero, List.set_cons_succ]
  refine wpAnyH_ready (rs := [5]) (by kernel_rfl) (by simp) ?_
  refine AllReadyH.cons (by (simp only [List.getElem?_toArray, List.getElem?_cons_succ, List.getElem?_cons_zero]; rfl)) (fun K hK => ?_) AllReadyH.nil
  go_simp
  have HBRx : Hid (BytesIn (w8.drew) (w8.drew).heap.size A4 c4 l) := HBRd
  refine (et_any A4 c4 n l s _ HBRx.out HN.out (by omega) (by omega)).mono ?_
  rw [← HN3.out]
  rintro e w9 ⟨A9, c9, rfl, ho, hb⟩
  have HBw9 := Lib.hid (HBWd.out.trans (hb.mono hsd))
  have g0_9 := (hb.cell (p := ⟨p, 0, none⟩) hpd).trans gd0
  have g1_9 := (hb.cell (p := ⟨p, 1, none⟩) hpd).trans gd1
  have g2_9 := (hb.cell (p := ⟨p, 2, none⟩) hpd).trans gd2
  have g3_9 := (hb.cell (p := ⟨p, 3, none⟩) hpd).trans gd3
  have hs9 : (w8.drew).heap.size ≤ w9.heap.size := hb.size
  have hp9 : p < w9.heap.size := Nat.lt_of_lt_of_le hpd hs9
  have hsw9 : w.heap.size ≤ w9.heap.size := Nat.le_trans hsd hs9
  have HBRr9 : Hid (BytesIn w9 w9.heap.size A4 c4 l) := Lib.hid ((HBRx.out.below hb (Nat.le_refl _)).more hs9)
  have HOs9 : Hid (w9.ownsRow w1.heap.size 5 1 (.slice A4 (n + 3) c4) (n + 3) (cells8 (l ++ [7, 7, 7]))) := Lib.hid ((Chg.of_below hb).own HOd.out (fun _ _ h => h))
  have HR9 := Lib.hid ho
  have z9 : (convert 22 9 (.slice A9 (n + n3) c9)).run Try.prog w9 = .ok (.string (str (l ++ vtext s))) w9 := conv_l ho
  clear HBRx ho hb
  refine hK.out _ _ ?_ (fun hHeld => ?_)
  · try dsimp only
    (refine ⟨?_, ?_, ?_, ?_⟩ <;> (first | with_reducible assumption))
  clear hK K
  try simp only [Act.put, List.setIfInBounds_toArray, List.set_cons_zero, List.set_cons_succ]
  refine wpAnyH_weaken (S' := fun w' => ((fun w' => w'.cell? ⟨p, 0, none⟩ = some (.int .u64 (N : Int)) ∧ w'.cell? ⟨p, 1, none⟩ = some (.int .i64 I) ∧ w'.cell? ⟨p, 2, none⟩ = some (.string (str s)) ∧ w'.cell? ⟨p, 3, none⟩ = some (.slice Ai m ci)) w') ∧ ((convert 22 9 (.slice A9 (n + n3) c9)).run Try.prog w' = .ok (.string (str (l ++ vtext s))) w')) (fun _ h => h.1) ?_
  have hHeld := (show (fun w' => ((fun w' => w'.cell? ⟨p, 0, none⟩ = some (.int .u64 (N : Int)) ∧ w'.cell? ⟨p, 1, none⟩ = some (.int .i64 I) ∧ w'.cell? ⟨p, 2, none⟩ = some (.string (str s)) ∧ w'.cell? ⟨p, 3, none⟩ = some (.slice Ai m ci)) w') ∧ ((convert 22 9 (.slice A9 (n + n3) c9)).run Try.prog w' = .ok (.string (str (l ++ vtext s))) w')) _ from ⟨hHeld, z9⟩)
  refine wpAnyH_take (i := 6) (v := ?_) (by (simp only [List.getElem?_toArray, List.getElem?_cons_succ, List.getElem?_cons_zero]; rfl)) (by kernel_rfl) (by kernel_rfl) (by kernel_rfl) (fun _ _ _ h => h) (Or.inl ⟨by rfl, ?_⟩) (by assumption) ?_
  rotate_left
  · (intro w hSw; (try dsimp only at hSw); go_simp; try with_reducible rfl)
  try simp only [Act.put, List.setIfInBounds_toArray, List.set_cons_zero, List.set_cons_succ]
  refine wpAnyH_ready (rs := [10]) (by kernel_rfl) (by simp) ?_
  refine AllReadyH.cons (by (simp only [List.getElem?_toArray, List.getElem?_cons_succ, List.getElem?_cons_zero]; rfl)) (fun K hK => ?_) AllReadyH.nil
  go_simp
  have HBRx : Hid (BytesIn (w9) (w9).heap.size A4 c4 l) := HBRr9
  refine (ret_any s _ (by omega)).mono ?_
  rw [← HN3.out]
  rintro e w10 ⟨A10, c10, rfl, ho, hb⟩
  have HBw10 := Lib.hid (HBw9.out.trans (hb.mono hsw9))
  have g0_10 := (hb.cell (p := ⟨p, 0, none⟩) hp9).trans g0_9
  have g1_10 := (hb.cell (p := ⟨p, 1, none⟩) hp9).trans g1_9
  have g2_10 := (hb.cell (p := ⟨p, 2, none⟩) hp9).trans g2_9
  have g3_10 := (hb.cell (p := ⟨p, 3, none⟩) hp9).trans g3_9
  have hs10 : (w9).heap.size ≤ w10.heap.size := hb.size
  have hp10 : p < w10.heap.size := Nat.lt_of_lt_of_le hp9 hs10
  have hsw10 : w.heap.size ≤ w10.heap.size := Nat.le_trans hsw9 hs10
  have HBRr10 : Hid (BytesIn w10 w10.heap.size A4 c4 l) := Lib.hid ((HBRx.out.below hb (Nat.le_refl _)).more hs10)
  have HOs10 : Hid (w10.ownsRow w1.heap.size 5 1 (.slice A4 (n + 3) c4) (n + 3) (cells8 (l ++ [7, 7, 7]))) := Lib.hid ((Chg.of_below hb).own HOs9.out (fun _ _ h => h))
  have HR9_10 := Lib.hid ((Chg.of_below hb).own HR9.out (fun _ _ h => h))
  have z9_10 : (convert 22 9 (.slice A9 (n + n3) c9)).run Try.prog w10 = .ok (.string (str (l ++ vtext s))) w10 := conv_l HR9_10.out
  have HR10 := Lib.hid ho
  have z10 : (convert 22 9 (.slice A10 n3 c10)).run Try.prog w10 = .ok (.string (str (vtext s))) w10 := conv_l ho
  clear HBRx ho hb
  refine hK.out _ _ ?_ (fun hHeld => ?_)
  · try dsimp only
    (refine ⟨⟨?_, ?_, ?_, ?_⟩, ?_⟩ <;> (first | with_reducible assumption))
  clear hK K
  try simp only [Act.put, List.setIfInBounds_toArray, List.set_cons_zero, List.set_cons_succ]
  refine wpAnyH_weaken (S' := fun w' => ((fun w' => ((fun w' => w'.cell? ⟨p, 0, none⟩ = some (.int .u64 (N : Int)) ∧ w'.cell? ⟨p, 1, none⟩ = some (.int .i64 I) ∧ w'.cell? ⟨p, 2, none⟩ = some (.string (str s)) ∧ w'.cell? ⟨p, 3, none⟩ = some (.slice Ai m ci)) w') ∧ ((convert 22 9 (.slice A9 (n + n3) c9)).run Try.prog w' = .ok (.string (str (l ++ vtext s))) w')) w') ∧ ((convert 22 9 (.slice A10 n3 c10)).run Try.prog w' = .ok (.string (str (vtext s))) w')) (fun _ h => h.1) ?_
  have hHeld := (show (fun w' => ((fun w' => ((fun w' => w'.cell? ⟨p, 0, none⟩ = some (.int .u64 (N : Int)) ∧ w'.cell? ⟨p, 1, none⟩ = some (.int .i64 I) ∧ w'.cell? ⟨p, 2, none⟩ = some (.string (str s)) ∧ w'.cell? ⟨p, 3, none⟩ = some (.slice Ai m ci)) w') ∧ ((convert 22 9 (.slice A9 (n + n3) c9)).run Try.prog w' = .ok (.string (str (l ++ vtext s))) w')) w') ∧ ((convert 22 9 (.slice A10 n3 c10)).run Try.prog w' = .ok (.string (str (vtext s))) w')) _ from ⟨hHeld, z10⟩)
  refine wpAnyH_take (i := 11) (v := ?_) (by (simp only [List.getElem?_toArray, List.getElem?_cons_succ, List.getElem?_cons_zero]; rfl)) (by kernel_rfl) (by kernel_rfl) (by kernel_rfl) (fun _ _ _ h => h) (Or.inl ⟨by rfl, ?_⟩) (by assumption) ?_
  rotate_left
  · (intro w hSw; (try dsimp only at hSw); go_simp; try with_reducible rfl)
  try simp only [Act.put, List.setIfInBounds_toArray, List.set_cons_zero, List.set_cons_succ]
  refine wpAnyH_take (i := 12) (v := ?_) (by (simp only [List.getElem?_toArray, List.getElem?_cons_succ, List.getElem?_cons_zero]; rfl)) (by kernel_rfl) (by kernel_rfl) (by kernel_rfl) (fun _ _ _ h => h) (Or.inl ⟨by rfl, ?_⟩) (by assumption) ?_
  rotate_left
  · (intro w hSw; (try dsimp only at hSw); go_simp; try with_reducible rfl)
  try simp only [Act.put, List.setIfInBounds_toArray, List.set_cons_zero, List.set_cons_succ]
  refine wpAnyH_take (i := 13) (v := ?_) (by (simp only [List.getElem?_toArray, List.getElem?_cons_succ, List.getElem?_cons_zero]; rfl)) (by kernel_rfl) (by kernel_rfl) (by kernel_rfl) (fun _ _ _ h => h) (Or.inl ⟨by rfl, ?_⟩) (by assumption) ?_
  rotate_left
  · (intro w hSw; (try dsimp only at hSw); go_simp; try with_reducible rfl)
  try simp only [Act.put, List.setIfInBounds_toArray, List.set_cons_zero, List.set_cons_succ]
  refine wpAnyH_take (i := 14) (v := ?_) (by (simp only [List.getElem?_toArray, List.getElem?_cons_succ, List.getElem?_cons_zero]; rfl)) (by kernel_rfl) (by kernel_rfl) (by kernel_rfl) (fun _ _ _ h => h) (Or.inl ⟨by rfl, ?_⟩) (by assumption) ?_
  rotate_left
  · (intro w hSw; (try dsimp only at hSw); go_simp; try with_reducible rfl)
  try simp only [Act.put, List.setIfInBounds_toArray, List.set_cons_zero, List.set_cons_succ]
  refine wpAnyH_take (i := 15) (v := ?_) (by (simp only [List.getElem?_toArray, List.getElem?_cons_succ, List.getElem?_cons_zero]; rfl)) (by kernel_rfl) (by kernel_rfl) (by kernel_rfl) (fun _ _ _ h => h) (Or.inl ⟨by rfl, ?_⟩) (by assumption) ?_
  rotate_left
  · (intro w hSw; (try dsimp only at hSw); go_simp; try with_reducible rfl)
  try simp only [Act.put, List.setIfInBounds_toArray, List.set_cons_zero, List.set_cons_succ]
  refine wpAnyH_take (i := 16) (v := ?_) (by (simp only [List.getElem?_toArray, List.getElem?_cons_succ, List.getElem?_cons_zero]; rfl)) (by kernel_rfl) (by kernel_rfl) (by kernel_rfl) (fun _ _ _ h => h) (Or.inl ⟨by rfl, ?_⟩) (by assumption) ?_
  rotate_left
  · (intro w hSw; (try dsimp only at hSw); go_simp; try with_reducible rfl)
  try simp only [Act.put, List.setIfInBounds_toArray, List.set_cons_zero, List.set_cons_succ]
  refine wpAnyH_take (i := 17) (v := ?_) (by (simp only [List.getElem?_toArray, List.getElem?_cons_succ, List.getElem?_cons_zero]; rfl)) (by kernel_rfl) (by kernel_rfl) (by kernel_rfl) (fun _ _ _ h => h) (Or.inl ⟨by rfl, ?_⟩) (by assumption) ?_
  rotate_left
  · (intro w hSw; (try dsimp only at hSw); go_simp; try with_reducible rfl)
  try simp only [Act.put, List.setIfInBounds_toArray, List.set_cons_zero, List.set_cons_succ]
  refine wpAnyH_take (i := 18) (v := ?_) (by (simp only [List.getElem?_toArray, List.getElem?_cons_succ, List.getElem?_cons_zero]; rfl)) (by kernel_rfl) (by kernel_rfl) (by kernel_rfl) (fun _ _ _ h => h) (Or.inl ⟨by rfl, ?_⟩) (by assumption) ?_
  rotate_left
  · (intro w hSw; (try dsimp only at hSw); go_simp; try with_reducible rfl)
  try simp only [Act.put, List.setIfInBounds_toArray, List.set_cons_zero, List.set_cons_succ]
  refine wpAnyH_take (i := 21) (v := ?_) (by (simp only [List.getElem?_toArray, List.getElem?_cons_succ, List.getElem?_cons_zero]; rfl)) (by kernel_rfl) (by kernel_rfl) (by kernel_rfl) (fun _ _ _ h => h) (Or.inl ⟨by rfl, ?_⟩) (by assumption) ?_
  rotate_left
  · (intro w hSw; (try dsimp only at hSw); go_simp; try with_reducible rfl)
  try simp only [Act.put, List.setIfInBounds_toArray, List.set_cons_zero, List.set_cons_succ]
  refine wpAnyH_take (i := 22) (v := ?_) (by (simp only [List.getElem?_toArray, List.getElem?_cons_succ, List.getElem?_cons_zero]; rfl)) (by kernel_rfl) (by kernel_rfl) (by kernel_rfl) (fun _ _ _ h => h) (Or.inl ⟨by rfl, ?_⟩) (by assumption) ?_
  rotate_left
  · (intro w hSw; (try dsimp only at hSw); go_simp; try with_reducible rfl)
  try simp only [Act.put, List.setIfInBounds_toArray, List.set_cons_zero, List.set_cons_succ]
  refine wpAnyH_take (i := 23) (v := ?_) (by (simp only [List.getElem?_toArray, List.getElem?_cons_succ, List.getElem?_cons_zero]; rfl)) (by kernel_rfl) (by kernel_rfl) (by kernel_rfl) (fun _ _ _ h => h) (Or.inl ⟨by rfl, ?_⟩) (by assumption) ?_
  rotate_left
  · (intro w hSw; (try dsimp only at hSw); go_simp; try with_reducible rfl)
  try simp only [Act.put, List.setIfInBounds_toArray, List.set_cons_zero, List.set_cons_succ]
  refine wpAnyH_ready (rs := [19]) (by kernel_rfl) (by simp) ?_
  refine AllReadyH.cons (by (simp only [List.getElem?_toArray, List.getElem?_cons_succ, List.getElem?_cons_zero]; rfl)) (fun K hK => ?_) AllReadyH.nil
  go_simp
  have HBRx : Hid (BytesIn (w10) (w10).heap.size A4 c4 l) := HBRr10
  refine (el_any A4 Ai c4 n ci m w.heap.size l xs _ HBRx.out HN.out (by omega) (HX.out.below HBw10.out (Nat.le_refl _)) hsw10 HM.out HIN.out).mono ?_
  rw [← HN4.out]
  rintro e w11 ⟨A11, c11, rfl, ho, hb⟩
  have HBw11 := Lib.hid (HBw10.out.trans (hb.mono hsw10))
  have g0_11 := (hb.cell (p := ⟨p, 0, none⟩) hp10).trans g0_10
  have g1_11 := (hb.cell (p := ⟨p, 1, none⟩) hp10).trans g1_10
  have g2_11 := (hb.cell (p := ⟨p, 2, none⟩) hp10).trans g2_10
  have g3_11 := (hb.cell (p := ⟨p, 3, none⟩) hp10).trans g3_10
  have hs11 : (w10).heap.size ≤ w11.heap.size := hb.size
  have hp11 : p < w11.heap.size := Nat.lt_of_lt_of_le hp10 hs11
  have hsw11 : w.heap.size ≤ w11.heap.size := Nat.le_trans hsw10 hs11
  have HBRr11 : Hid (BytesIn w11 w11.heap.size A4 c4 l) := Lib.hid ((HBRx.out.below hb (Nat.le_refl _)).more hs11)
  have HOs11 : Hid (w11.ownsRow w1.heap.size 5 1 (.slice A4 (n + 3) c4) (n + 3) (cells8 (l ++ [7, 7, 7]))) := Lib.hid ((Chg.of_below hb).own HOs10.out (fun _ _ h => h))
  have HR9_11 := Lib.hid ((Chg.of_below hb).own HR9_10.out (fun _ _ h => h))
  have z9_11 : (convert 22 9 (.slice A9 (n + n3) c9)).run Try.prog w11 = .ok (.string (str (l ++ vtext s))) w11 := conv_l HR9_11.out
  have HR10_11 := Lib.hid ((Chg.of_below hb).own HR10.out (fun _ _ h => h))
  have z10_11 : (convert 22 9 (.slice A10 n3 c10)).run Try.prog w11 = .ok (.string (str (vtext s))) w11 := conv_l HR10_11.out
  have HR11 := Lib.hid ho
  have z11 : (convert 22 9 (.slice A11 (n + n4) c11)).run Try.prog w11 = .ok (.string (str (l ++ vints xs))) w11 := conv_l ho
  clear HBRx ho hb
  refine hK.out _ _ ?_ (fun hHeld => ?_)
  · try dsimp only
    (refine ⟨⟨⟨?_, ?_, ?_, ?_⟩, ?_⟩, ?_⟩ <;> (first | with_reducible assumption))
  clear hK K
  try simp only [Act.put, List.setIfInBounds_toArray, List.set_cons_zero, List.set_cons_succ]
  refine wpAnyH_weaken (S' := fun w' => ((fun w' => ((fun w' => ((fun w' => w'.cell? ⟨p, 0, none⟩ = some (.int .u64 (N : Int)) ∧ w'.cell? ⟨p, 1, none⟩ = some (.int .i64 I) ∧ w'.cell? ⟨p, 2, none⟩ = some (.string (str s)) ∧ w'.cell? ⟨p, 3, none⟩ = some (.slice Ai m ci)) w') ∧ ((convert 22 9 (.slice A9 (n + n3) c9)).run Try.prog w' = .ok (.string (str (l ++ vtext s))) w')) w') ∧ ((convert 22 9 (.slice A10 n3 c10)).run Try.prog w' = .ok (.string (str (vtext s))) w')) w') ∧ ((convert 22 9 (.slice A11 (n + n4) c11)).run Try.prog w' = .ok (.string (str (l ++ vints xs))) w')) (fun _ h => h.1) ?_
  have hHeld := (show (fun w' => ((fun w' => ((fun w' => ((fun w' => w'.cell? ⟨p, 0, none⟩ = some (.int .u64 (N : Int)) ∧ w'.cell? ⟨p, 1, none⟩ = some (.int .i64 I) ∧ w'.cell? ⟨p, 2, none⟩ = some (.string (str s)) ∧ w'.cell? ⟨p, 3, none⟩ = some (.slice Ai m ci)) w') ∧ ((convert 22 9 (.slice A9 (n + n3) c9)).run Try.prog w' = .ok (.string (str (l ++ vtext s))) w')) w') ∧ ((convert 22 9 (.slice A10 n3 c10)).run Try.prog w' = .ok (.string (str (vtext s))) w')) w') ∧ ((convert 22 9 (.slice A11 (n + n4) c11)).run Try.prog w' = .ok (.string (str (l ++ vints xs))) w')) _ from ⟨hHeld, z11⟩)
  refine wpAnyH_take (i := 20) (v := ?_) (by (simp only [List.getElem?_toArray, List.getElem?_cons_succ, List.getElem?_cons_zero]; rfl)) (by kernel_rfl) (by kernel_rfl) (by kernel_rfl) (fun _ _ _ h => h) (Or.inl ⟨by rfl, ?_⟩) (by assumption) ?_
  rotate_left
  · (intro w hSw; (try dsimp only at hSw); go_simp; try with_reducible rfl)
  try simp only [Act.put, List.setIfInBounds_toArray, List.set_cons_zero, List.set_cons_succ]
  refine wpAnyH_ready (rs := [24]) (by kernel_rfl) (by simp) ?_
  refine AllReadyH.cons (by (simp only [List.getElem?_toArray, List.getElem?_cons_succ, List.getElem?_cons_zero]; rfl)) (fun K hK => ?_) AllReadyH.nil
  go_simp
  have HBRx : Hid (BytesIn (w11) (w11).heap.size A4 c4 l) := HBRr11
  refine (rel_any Ai ci m w.heap.size xs _ (HX.out.below HBw11.out (Nat.le_refl _)) hsw11 HM.out (by omega) HIN.out).mono ?_
  rw [← HN4.out]
  rintro e w12 ⟨A12, c12, rfl, ho, hb⟩
  have HBw12 := Lib.hid (HBw11.out.trans (hb.mono hsw11))
  have g0_12 := (hb.cell (p := ⟨p, 0, none⟩) hp11).trans g0_11
  have g1_12 := (hb.cell (p := ⟨p, 1, none⟩) hp11).trans g1_11
  have g2_12 := (hb.cell (p := ⟨p, 2, none⟩) hp11).trans g2_11
  have g3_12 := (hb.cell (p := ⟨p, 3, none⟩) hp11).trans g3_11
  have hs12 : (w11).heap.size ≤ w12.heap.size := hb.size
  have hp12 : p < w12.heap.size := Nat.lt_of_lt_of_le hp11 hs12
  have hsw12 : w.heap.size ≤ w12.heap.size := Nat.le_trans hsw11 hs12
  have HBRr12 : Hid (BytesIn w12 w12.heap.size A4 c4 l) := Lib.hid ((HBRx.out.below hb (Nat.le_refl _)).more hs12)
  have HOs12 : Hid (w12.ownsRow w1.heap.size 5 1 (.slice A4 (n + 3) c4) (n + 3) (cells8 (l ++ [7, 7, 7]))) := Lib.hid ((Chg.of_below hb).own HOs11.out (fun _ _ h => h))
  have HR9_12 := Lib.hid ((Chg.of_below hb).own HR9_11.out (fun _ _ h => h))
  have z9_12 : (convert 22 9 (.slice A9 (n + n3) c9)).run Try.prog w12 = .ok (.string (str (l ++ vtext s))) w12 := conv_l HR9_12.out
  have HR10_12 := Lib.hid ((Chg.of_below hb).own HR10_11.out (fun _ _ h => h))
  have z10_12 : (convert 22 9 (.slice A10 n3 c10)).run Try.prog w12 = .ok (.string (str (vtext s))) w12 := conv_l HR10_12.out
  have HR11_12 := Lib.hid ((Chg.of_below hb).own HR11.out (fun _ _ h => h))
  have z11_12 : (convert 22 9 (.slice A11 (n + n4) c11)).run Try.prog w12 = .ok (.string (str (l ++ vints xs))) w12 := conv_l HR11_12.out
  have HR12 := Lib.hid ho
  have z12 : (convert 22 9 (.slice A12 n4 c12)).run Try.prog w12 = .ok (.string (str (vints xs))) w12 := conv_l ho
  clear HBRx ho hb
  refine hK.out _ _ ?_ (fun hHeld => ?_)
  · try dsimp only
    (refine ⟨⟨⟨⟨?_, ?_, ?_, ?_⟩, ?_⟩, ?_⟩, ?_⟩ <;> (first | with_reducible assumption))
  clear hK K
  try simp only [Act.put, List.setIfInBounds_toArray, List.set_cons_zero, List.set_cons_succ]
  refine wpAnyH_weaken (S' := fun w' => ((fun w' => ((fun w' => ((fun w' => ((fun w' => w'.cell? ⟨p, 0, none⟩ = some (.int .u64 (N : Int)) ∧ w'.cell? ⟨p, 1, none⟩ = some (.int .i64 I) ∧ w'.cell? ⟨p, 2, none⟩ = some (.string (str s)) ∧ w'.cell? ⟨p, 3, none⟩ = some (.slice Ai m ci)) w') ∧ ((convert 22 9 (.slice A9 (n + n3) c9)).run Try.prog w' = .ok (.string (str (l ++ vtext s))) w')) w') ∧ ((convert 22 9 (.slice A10 n3 c10)).run Try.prog w' = .ok (.string (str (vtext s))) w')) w') ∧ ((convert 22 9 (.slice A11 (n + n4) c11)).run Try.prog w' = .ok (.string (str (l ++ vints xs))) w')) w') ∧ ((convert 22 9 (.slice A12 n4 c12)).run Try.prog w' = .ok (.string (str (vints xs))) w')) (fun _ h => h.1) ?_
  have hHeld := (show (fun w' => ((fun w' => ((fun w' => ((fun w' => ((fun w' => w'.cell? ⟨p, 0, none⟩ = some (.int .u64 (N : Int)) ∧ w'.cell? ⟨p, 1, none⟩ = some (.int .i64 I) ∧ w'.cell? ⟨p, 2, none⟩ = some (.string (str s)) ∧ w'.cell? ⟨p, 3, none⟩ = some (.slice Ai m ci)) w') ∧ ((convert 22 9 (.slice A9 (n + n3) c9)).run Try.prog w' = .ok (.string (str (l ++ vtext s))) w')) w') ∧ ((convert 22 9 (.slice A10 n3 c10)).run Try.prog w' = .ok (.string (str (vtext s))) w')) w') ∧ ((convert 22 9 (.slice A11 (n + n4) c11)).run Try.prog w' = .ok (.string (str (l ++ vints xs))) w')) w') ∧ ((convert 22 9 (.slice A12 n4 c12)).run Try.prog w' = .ok (.string (str (vints xs))) w')) _ from ⟨hHeld, z12⟩)
  refine wpAnyH_take (i := 25) (v := ?_) (by (simp only [List.getElem?_toArray, List.getElem?_cons_succ, List.getElem?_cons_zero]; rfl)) (by kernel_rfl) (by kernel_rfl) (by kernel_rfl) (fun _ _ _ h => h) (Or.inl ⟨by rfl, ?_⟩) (by assumption) ?_
  rotate_left
  · (intro w hSw; (try dsimp only at hSw); go_simp; try with_reducible rfl)
  try simp only [Act.put, List.setIfInBounds_toArray, List.set_cons_zero, List.set_cons_succ]
  refine wpAnyH_take (i := 26) (v := ?_) (by (simp only [List.getElem?_toArray, List.getElem?_cons_succ, List.getElem?_cons_zero]; rfl)) (by kernel_rfl) (by kernel_rfl) (by kernel_rfl) (fun _ _ _ h => h) (Or.inl ⟨by rfl, ?_⟩) (by assumption) ?_
  rotate_left
  · (intro w hSw; (try dsimp only at hSw); go_simp; try with_reducible rfl)
  try simp only [Act.put, List.setIfInBounds_toArray, List.set_cons_zero, List.set_cons_succ]
  refine wpAnyH_take (i := 27) (v := ?_) (by (simp only [List.getElem?_toArray, List.getElem?_cons_succ, List.getElem?_cons_zero]; rfl)) (by kernel_rfl) (by kernel_rfl) (by kernel_rfl) (fun _ _ _ h => h) (Or.inl ⟨by rfl, ?_⟩) (by assumption) ?_
  rotate_left
  · (intro w hSw; (try dsimp only at hSw); go_simp; try with_reducible rfl)
  try simp only [Act.put, List.setIfInBounds_toArray, List.set_cons_zero, List.set_cons_succ]
  refine wpAnyH_take (i := 28) (v := ?_) (by (simp only [List.getElem?_toArray, List.getElem?_cons_succ, List.getElem?_cons_zero]; rfl)) (by kernel_rfl) (by kernel_rfl) (by kernel_rfl) (fun _ _ _ h => h) (Or.inl ⟨by rfl, ?_⟩) (by assumption) ?_
  rotate_left
  · (intro w hSw; (try dsimp only at hSw); go_simp; try with_reducible rfl)
  try simp only [Act.put, List.setIfInBounds_toArray, List.set_cons_zero, List.set_cons_succ]
  refine wpAnyH_take (i := 29) (v := ?_) (by (simp only [List.getElem?_toArray, List.getElem?_cons_succ, List.getElem?_cons_zero]; rfl)) (by kernel_rfl) (by kernel_rfl) (by kernel_rfl) (fun _ _ _ h => h) (Or.inl ⟨by rfl, ?_⟩) (by assumption) ?_
  rotate_left
  · (intro w hSw; (try dsimp only at hSw); go_simp; try with_reducible rfl)
  try simp only [Act.put, List.setIfInBounds_toArray, List.set_cons_zero, List.set_cons_succ]
  refine wpAnyH_done (by kernel_rfl) ?_ _
  refine NoPanic.normal ?_
  have zs : (convert 22 9 (.slice A4 (n + 3) c4)).run Try.prog w12 = .ok (.string (str (l ++ [7, 7, 7]))) w12 := conv_l HOs12.out
  clear hHeld
  go_wp2_with fail
  go_ret
  refine ⟨?_, HBw12.out⟩
  show Ending.returned (.bool (l ++ [7, 7, 7] == (str l ++ (⟨#[7, 7, 7]⟩ : ByteArray)).toList)) = _
  rw [show str l ++ (⟨#[7, 7, 7]⟩ : ByteArray) = str (l ++ [7, 7, 7]) from str_append l [7, 7, 7], str_toList, beq_self_eq_true]
end Go.Proofs.Ytjhjhklidofhgaa
