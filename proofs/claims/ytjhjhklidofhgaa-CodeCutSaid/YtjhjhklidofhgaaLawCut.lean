/- The law CodeCut: the walk. -/
import Derived.Test.YtjhjhklidofhgaaCut
import Derived.Deep.RegionHeld3
import Derived.Deep.Cut
namespace Go.Proofs.Ytjhjhklidofhgaa
open Go.RowKit

theorem CellsIn.below {w w' : World} {B B' size m : Nat} {A : Option Addr} {xs : List Value} (h : CellsIn w B size A m xs) (hb : Below B' w w') (hB : B ≤ B') : CellsIn w' B size A m xs := by
  refine ⟨h.len, ?_⟩
  rcases h.rd with e | ⟨b, off, e, hb', hc⟩
  · exact .inl e
  · exact .inr ⟨b, off, e, hb', fun j u hu => (hb.cell (p := ⟨b, off + j, none⟩) (by show b < B'; omega)).trans (hc j u hu)⟩

theorem below_of_drew {B : Nat} {a w : World} (h : Below B a.drew w) : Below B a w := ⟨h.os, h.tape, h.output, h.size, h.block⟩

theorem rtS_len (s : Rd) (most : Int) : (rtS s most).l.length ≤ s.l.length := by
  unfold rtS
  have h1 := rcS_len s most
  split
  · split
    · simp only [List.length_drop]; omega
    · simp
  · exact h1
theorem rend_nil (e : Int) : rendS ⟨[], e⟩ = ⟨[], e⟩ := rfl

set_option maxHeartbeats 4000000 in
theorem law_cut (N : Nat) (I : Int) (s : List UInt8) (Ai : Option Addr) (m ci : Nat) (xs : List Int) (cut : Int) (w : World) (hN : N < 18446744073709551616) (hs : s.length ≤ 9223372036854775807) (hm : m = xs.length) (hmc : m ≤ 9223372036854775807) (hx : CellsIn w w.heap.size 1 Ai m (cellsI xs)) (hin : ∀ n ∈ xs, inI64 n) (hc1 : -9223372036854775808 ≤ cut) (hc2 : cut ≤ 9223372036854775807) :
    Calls Try.prog 8 #[.agg #[.int .u64 (N : Int), .int .i64 I, .string (str s), .slice Ai m ci], .int .i64 cut] w fun e w' => e = .returned (.bool true) ∧ Below w.heap.size w w' := by
  have hz : (str s).size = s.length := str_size s
  obtain ⟨w0, hw0⟩ : ∃ w0, w0 = w.alloc (.cells #[.int .u64 (N : Int), .int .i64 I, .string (str s), .slice Ai m ci] 36) := ⟨_, rfl⟩
  have hb0 : Below w.heap.size w w0 := by rw [hw0]; exact (Below.refl _ _).alloc (Nat.le_refl _) _
  obtain ⟨p, hp⟩ : ∃ p, p = w.heap.size := ⟨_, rfl⟩
  have k0 : w0.cell? ⟨p, 0, none⟩ = some (.int .u64 (N : Int)) := by rw [hw0, hp]; simp
  have k2 : w0.cell? ⟨p, 2, none⟩ = some (.string (str s)) := by rw [hw0, hp]; simp
  have k3 : w0.cell? ⟨p, 3, none⟩ = some (.slice Ai m ci) := by rw [hw0, hp]; simp
  have hp0 : p < w0.heap.size := by rw [hw0, hp]; simp
  have HB0 := Lib.hid hb0
  have K0 := Lib.hid k0
  have K2 := Lib.hid k2
  have K3 := Lib.hid k3
  have HNN := Lib.hid hN
  have HX := Lib.hid hx
  have HIN := Lib.hid hin
  have HM := Lib.hid hm
  have hpw : w.heap.size ≤ p := by omega
  have HW0 := Lib.hid hw0
  have HP := Lib.hid hp
  clear hb0 k0 k2 k3 hN hx hin hm hw0 hp
  go_enter Try.func8, Try.ntmps8
  go_wp2_with fail
  rw [← HW0.out, ← HP.out]
  refine (awake_any w0).mono ?_
  rintro e w1 ⟨rfl, hb1⟩
  have HB1 := Lib.hid (HB0.out.trans (hb1.mono (by have := HB0.out.size; omega)))
  have k0 : w1.cell? ⟨p, 0, none⟩ = some (.int .u64 (N : Int)) := (hb1.cell (p := ⟨p, 0, none⟩) hp0).trans K0.out
  have k2 : w1.cell? ⟨p, 2, none⟩ = some (.string (str s)) := (hb1.cell (p := ⟨p, 2, none⟩) hp0).trans K2.out
  have k3 : w1.cell? ⟨p, 3, none⟩ = some (.slice Ai m ci) := (hb1.cell (p := ⟨p, 3, none⟩) hp0).trans K3.out
  have hp1 : p < w1.heap.size := by have := hb1.size; omega
  have hs1 : w.heap.size ≤ w1.heap.size := by omega
  clear hb1 K0 K2 K3 HW0
  by_cases hbs : 1000 < s.length
  · go_wp2_with fail
    go_ret
    exact ⟨rfl, HB1.out⟩
  by_cases hbm : 1000 < m
  · go_wp2_with fail
    go_ret
    exact ⟨rfl, HB1.out⟩
  go_wp2_with fail
  have hv1 := vb_len10 N HNN.out
  have hv2 := vb_len10 s.length (by omega)
  have HV1 := Lib.hid hv1
  obtain ⟨n1, hn1⟩ : ∃ n1, n1 = (vb N).length := ⟨_, rfl⟩
  obtain ⟨n2, hn2⟩ : ∃ n2, n2 = (vtext s).length := ⟨_, rfl⟩
  obtain ⟨n3, hn3⟩ : ∃ n3, n3 = (vints xs).length := ⟨_, rfl⟩
  have hb1' : n1 ≤ 10 := by omega
  have hb2' : n2 ≤ 1010 := by rw [hn2]; unfold vtext; rw [List.length_append]; omega
  have hb3' : n3 ≤ 10010 := by
    have h1 := vrow_len xs HIN.out
    have h2 := vb_len10 xs.length (by have := HM.out; omega)
    have h3 := HM.out
    rw [hn3]; unfold vints; rw [List.length_append]; omega
  have hpos : 0 < n1 := by rw [hn1]; exact vb_pos N
  have HN1 := Lib.hid hn1
  have HN2 := Lib.hid hn2
  have HN3 := Lib.hid hn3
  clear hv1 hv2 hn1 hn2 hn3
  have kd : ∀ i v, w1.cell? ⟨p, i, none⟩ = some v → w1.drew.cell? ⟨p, i, none⟩ = some v := fun _ _ h => h
  go_region_held3 (fun w' => w'.cell? ⟨p, 0, none⟩ = some (.int .u64 (N : Int)) ∧ w'.cell? ⟨p, 2, none⟩ = some (.string (str s)) ∧ w'.cell? ⟨p, 3, none⟩ = some (.slice Ai m ci))
    (refine ⟨?_, ?_, ?_⟩ <;> (first | with_reducible assumption | with_reducible exact kd _ _ k0 | with_reducible exact kd _ _ k2 | with_reducible exact kd _ _ k3))
    (first
      | (go_at_call 14; refine (eu_nil N _ HNN.out).mono ?_; rw [← HN1.out]; rintro e w3 ⟨A3, c3, rfl, ho3, hb3⟩; have q0 := (hb3.cell (p := ⟨p, 0, none⟩) hp1).trans k0; have q2 := (hb3.cell (p := ⟨p, 2, none⟩) hp1).trans k2; have q3 := (hb3.cell (p := ⟨p, 3, none⟩) hp1).trans k3; have hs3 : w1.heap.size ≤ w3.heap.size := hb3.size; have HB3 := Lib.hid (HB1.out.trans ((below_of_drew hb3).mono hs1)); have HY3 := Lib.hid (bytesIn_of_own ho3).2; clear ho3 hb3)
      | (go_at_call 19; refine (et_any A3 c3 n1 (vb N) s w3 HY3.out HN1.out (by omega) (by omega)).mono ?_; rw [← HN2.out]; rintro e w4 ⟨A4, c4, rfl, ho4, hb4⟩; have q0' := (hb4.cell (p := ⟨p, 0, none⟩) (by show p < w3.heap.size; omega)).trans q0; have q2' := (hb4.cell (p := ⟨p, 2, none⟩) (by show p < w3.heap.size; omega)).trans q2; have q3' := (hb4.cell (p := ⟨p, 3, none⟩) (by show p < w3.heap.size; omega)).trans q3; have hs4 : w3.heap.size ≤ w4.heap.size := hb4.size; have HB4 := Lib.hid (HB3.out.trans (hb4.mono (by omega))); have HY4 := Lib.hid (bytesIn_of_own ho4); clear ho4 hb4)
      | (go_at_call 21; refine (el_any A4 Ai c4 (n1 + n2) ci m w.heap.size (vb N ++ vtext s) xs w4 HY4.out.2 HY4.out.1 (by omega) (HX.out.below HB4.out (Nat.le_refl _)) (by omega) HM.out HIN.out).mono ?_; rw [← HN3.out]; rintro e w5 ⟨A5, c5, rfl, ho5, hb5⟩; have q0'' := (hb5.cell (p := ⟨p, 0, none⟩) (by show p < w4.heap.size; omega)).trans q0'; have q2'' := (hb5.cell (p := ⟨p, 2, none⟩) (by show p < w4.heap.size; omega)).trans q2'; have q3'' := (hb5.cell (p := ⟨p, 3, none⟩) (by show p < w4.heap.size; omega)).trans q3'; have hs5 : w4.heap.size ≤ w5.heap.size := hb5.size; have HB5 := Lib.hid (HB4.out.trans (hb5.mono (by omega))); have HY5 := Lib.hid (bytesIn_of_own ho5); clear ho5 hb5))
  all_goals
    obtain ⟨L, hL⟩ : ∃ L, L = n1 + n2 + n3 := ⟨_, rfl⟩
    have HY6 := HY5
    rw [← hL] at HY6 ⊢
    have hL1 : L ≤ 20000 := by omega
    have hL0 : 0 < L := by omega
    have HLL := Lib.hid hL
    clear hL HY5 HY4 HY3 hb1' hb2' hb3'
    by_cases hneg : cut < 0
    · obtain ⟨Q, hQ⟩ : ∃ Q : Nat, -(cut + 1) = (Q : Int) := ⟨(-(cut + 1)).toNat, by omega⟩
      have hQ2 : Q ≤ 9223372036854775807 := by omega
      go_upto_region 9 with (fail)
      clear hneg hc1 hc2
      obtain ⟨q, hq⟩ : ∃ q, q = Q % L := ⟨_, rfl⟩
      have hqL : q < L := by rw [hq]; exact Nat.mod_lt _ hL0
      have hqi : ((Q : Int) % (L : Int)) = (q : Int) := by rw [hq]; simp
      have hlc : L ≤ c5 := by have h1 := HY6.out.2.le; have h2 := HY6.out.1; omega
      have hcc := HY6.out.2.cap
      have HQ2 : Hid (q = ((vb N ++ vtext s ++ vints xs).take q).length) := Lib.hid (by rw [List.length_take, ← HY6.out.1]; omega)
      have HA := Lib.hid (all_cut N s xs q HNN.out (by omega) (by have := HM.out; omega) HIN.out (by rw [← HY6.out.1]; exact hqL))
      have hls : ((vb N ++ vtext s ++ vints xs).take q).length ≤ 20000 := by rw [← HQ2.out]; omega
      have HYT := Lib.hid (BytesIn.take (k := q) HY6.out.2)
      generalize (vb N ++ vtext s ++ vints xs).take q = l at HQ2 HA hls HYT
      clear hq q0 q2 q3 q0' q2' q3' q0'' q2'' q3'' k0 k2 k3 kd
      go_wp2_with fail
      refine (read_any A5 c5 q w5.heap.size l w5 HYT.out HQ2.out (Nat.le_refl _)).mono ?_
      rintro e w6 ⟨rfl, hr6, hw6⟩
      have HC6 : Hid (Chg NoBlk w5 w6) := by rw [← hw6]; exact (Chg.refl _ _).alloc _
      obtain ⟨g, hg⟩ : ∃ g, g = w5.heap.size := ⟨_, rfl⟩
      rw [← hg] at hr6 ⊢
      have hgw : w.heap.size ≤ g := by omega
      have HR6 := Lib.hid hr6
      have hgl : g < w6.heap.size := hr6.glt
      have HB6 : Hid (Below w.heap.size w w6) := Lib.hid (HB5.out.trans (HC6.out.below (by omega) (fun _ _ h => h)))
      clear hw6 hr6 hg hqi
      go_wp2_with fail
      refine (ru_any g g ⟨l, 0⟩ A5 c5 w6 HR6.out).mono ?_
      rintro e w7 ⟨rfl, hr7⟩
      have HB7 := Lib.hid (HB6.out.trans (hr7.chg.below (B := w.heap.size) (by omega) (fun k hk e => by omega)))
      have hg7 : g < w7.heap.size := by have := hr7.chg.size; omega
      obtain ⟨A7, c7, hr7'⟩ := hr7.open_
      have HR7 := Lib.hid hr7'
      have hl7 : (ruS ⟨l, 0⟩).l.length ≤ 20000 := Nat.le_trans (ruS_len ⟨l, 0⟩) hls
      clear hr7 hr7'
      generalize ruS ⟨l, 0⟩ = s7 at HA HR7 hl7 ⊢
      go_wp2_with fail
      refine (rt_any g g s7 A7 c7 1000 (by omega) w7 HR7.out).mono ?_
      rintro e w8 ⟨rfl, hr8⟩
      have HB8 := Lib.hid (HB7.out.trans (hr8.chg.below (B := w.heap.size) (by omega) (fun k hk e => by omega)))
      have hg8 : g < w8.heap.size := by have := hr8.chg.size; omega
      obtain ⟨A8, c8, hr8'⟩ := hr8.open_
      have HR8 := Lib.hid hr8'
      have hl8 : (rtS s7 1000).l.length ≤ 20000 := Nat.le_trans (rtS_len s7 1000) hl7
      clear hr8 hr8'
      generalize rtS s7 1000 = s8 at HA HR8 hl8 ⊢
      go_wp2_with fail
      refine (rl_any g g s8 A8 c8 1000 (by omega) w8 HR8.out (by omega)).mono ?_
      rw [HA.out]
      rintro e w9 ⟨Ao, co, rfl, _, hr9⟩
      have HB9 := Lib.hid (HB8.out.trans (hr9.chg.below (B := w.heap.size) (by omega) (fun k hk e => by omega)))
      have hg9 : g < w9.heap.size := by have := hr9.chg.size; omega
      obtain ⟨A9, c9, hr9'⟩ := hr9.open_
      have HR9 := Lib.hid hr9'
      clear hr9 hr9'
      go_wp2_with fail
      refine (err_any g g ⟨[], 10⟩ A9 c9 w9 HR9.out).mono ?_
      rintro e w' ⟨rfl, rfl⟩
      go_wp2_with fail
      refine (end_any g g ⟨[], 10⟩ A9 c9 w9 HR9.out).mono ?_
      rw [rend_nil]
      rintro e w10 ⟨rfl, hr10⟩
      have HB10 := Lib.hid (HB9.out.trans (hr10.chg.below (B := w.heap.size) (by omega) (fun k hk e => by omega)))
      obtain ⟨A10, c10, hr10'⟩ := hr10.open_
      have HR10 := Lib.hid hr10'
      clear hr10 hr10'
      go_wp2_with fail
      refine (left_any g g ⟨[], 10⟩ A10 c10 0 w10 HR10.out rfl).mono ?_
      rintro e w' ⟨rfl, rfl⟩
      go_wp2_with fail
      go_ret
      exact ⟨rfl, HB10.out⟩
    · obtain ⟨Q, rfl⟩ := Int.eq_ofNat_of_zero_le (show 0 ≤ cut by omega)
      go_upto_region 9 with (fail)
      clear hneg hc1 hc2
      obtain ⟨q, hq⟩ : ∃ q, q = Q % L := ⟨_, rfl⟩
      have hqL : q < L := by rw [hq]; exact Nat.mod_lt _ hL0
      have hqi : ((Q : Int) % (L : Int)) = (q : Int) := by rw [hq]; simp
      have hlc : L ≤ c5 := by have h1 := HY6.out.2.le; have h2 := HY6.out.1; omega
      have hcc := HY6.out.2.cap
      have HQ2 : Hid (q = ((vb N ++ vtext s ++ vints xs).take q).length) := Lib.hid (by rw [List.length_take, ← HY6.out.1]; omega)
      have HA := Lib.hid (all_cut N s xs q HNN.out (by omega) (by have := HM.out; omega) HIN.out (by rw [← HY6.out.1]; exact hqL))
      have hls : ((vb N ++ vtext s ++ vints xs).take q).length ≤ 20000 := by rw [← HQ2.out]; omega
      have HYT := Lib.hid (BytesIn.take (k := q) HY6.out.2)
      generalize (vb N ++ vtext s ++ vints xs).take q = l at HQ2 HA hls HYT
      clear hq q0 q2 q3 q0' q2' q3' q0'' q2'' q3'' k0 k2 k3 kd
      go_wp2_with fail
      refine (read_any A5 c5 q w5.heap.size l w5 HYT.out HQ2.out (Nat.le_refl _)).mono ?_
      rintro e w6 ⟨rfl, hr6, hw6⟩
      have HC6 : Hid (Chg NoBlk w5 w6) := by rw [← hw6]; exact (Chg.refl _ _).alloc _
      obtain ⟨g, hg⟩ : ∃ g, g = w5.heap.size := ⟨_, rfl⟩
      rw [← hg] at hr6 ⊢
      have hgw : w.heap.size ≤ g := by omega
      have HR6 := Lib.hid hr6
      have hgl : g < w6.heap.size := hr6.glt
      have HB6 : Hid (Below w.heap.size w w6) := Lib.hid (HB5.out.trans (HC6.out.below (by omega) (fun _ _ h => h)))
      clear hw6 hr6 hg hqi
      go_wp2_with fail
      refine (ru_any g g ⟨l, 0⟩ A5 c5 w6 HR6.out).mono ?_
      rintro e w7 ⟨rfl, hr7⟩
      have HB7 := Lib.hid (HB6.out.trans (hr7.chg.below (B := w.heap.size) (by omega) (fun k hk e => by omega)))
      have hg7 : g < w7.heap.size := by have := hr7.chg.size; omega
      obtain ⟨A7, c7, hr7'⟩ := hr7.open_
      have HR7 := Lib.hid hr7'
      have hl7 : (ruS ⟨l, 0⟩).l.length ≤ 20000 := Nat.le_trans (ruS_len ⟨l, 0⟩) hls
      clear hr7 hr7'
      generalize ruS ⟨l, 0⟩ = s7 at HA HR7 hl7 ⊢
      go_wp2_with fail
      refine (rt_any g g s7 A7 c7 1000 (by omega) w7 HR7.out).mono ?_
      rintro e w8 ⟨rfl, hr8⟩
      have HB8 := Lib.hid (HB7.out.trans (hr8.chg.below (B := w.heap.size) (by omega) (fun k hk e => by omega)))
      have hg8 : g < w8.heap.size := by have := hr8.chg.size; omega
      obtain ⟨A8, c8, hr8'⟩ := hr8.open_
      have HR8 := Lib.hid hr8'
      have hl8 : (rtS s7 1000).l.length ≤ 20000 := Nat.le_trans (rtS_len s7 1000) hl7
      clear hr8 hr8'
      generalize rtS s7 1000 = s8 at HA HR8 hl8 ⊢
      go_wp2_with fail
      refine (rl_any g g s8 A8 c8 1000 (by omega) w8 HR8.out (by omega)).mono ?_
      rw [HA.out]
      rintro e w9 ⟨Ao, co, rfl, _, hr9⟩
      have HB9 := Lib.hid (HB8.out.trans (hr9.chg.below (B := w.heap.size) (by omega) (fun k hk e => by omega)))
      have hg9 : g < w9.heap.size := by have := hr9.chg.size; omega
      obtain ⟨A9, c9, hr9'⟩ := hr9.open_
      have HR9 := Lib.hid hr9'
      clear hr9 hr9'
      go_wp2_with fail
      refine (err_any g g ⟨[], 10⟩ A9 c9 w9 HR9.out).mono ?_
      rintro e w' ⟨rfl, rfl⟩
      go_wp2_with fail
      refine (end_any g g ⟨[], 10⟩ A9 c9 w9 HR9.out).mono ?_
      rw [rend_nil]
      rintro e w10 ⟨rfl, hr10⟩
      have HB10 := Lib.hid (HB9.out.trans (hr10.chg.below (B := w.heap.size) (by omega) (fun k hk e => by omega)))
      obtain ⟨A10, c10, hr10'⟩ := hr10.open_
      have HR10 := Lib.hid hr10'
      clear hr10 hr10'
      go_wp2_with fail
      refine (left_any g g ⟨[], 10⟩ A10 c10 0 w10 HR10.out rfl).mono ?_
      rintro e w' ⟨rfl, rfl⟩
      go_wp2_with fail
      go_ret
      exact ⟨rfl, HB10.out⟩
end Go.Proofs.Ytjhjhklidofhgaa
