/- The law CodeReads: the walk. -/
import Derived.Test.YtjhjhklidofhgaaStep01
import Derived.Deep.RegionWith
import Derived.Deep.RegionHeld3
import Derived.Deep.DrawnRows
namespace Go.Proofs.Ytjhjhklidofhgaa
open Go.RowKit
attribute [local go_sem ↓] Go.wp_at_zero Go.wp_at_succ

set_option maxHeartbeats 8000000 in
set_option maxRecDepth 100000 in
theorem law_reads (A As : Option Addr) (c n cs m : Nat) (l : List UInt8) (gs : List (Int × Int)) (w : World) (h : BytesIn w w.heap.size A c l) (hn : n = l.length) (hg : PairsIn w w.heap.size As gs) (hm : m = gs.length) (hmc : m ≤ 9223372036854775807) :
    Calls Try.prog 5 #[.slice A n c, .slice As m cs] w fun e w' => e = .returned (.bool true) ∧ Below w.heap.size w w' := by
  have hc1 := h.cap
  have hnc : n ≤ c := by have := h.le; omega
  have HN := Lib.hid hn
  have HB := Lib.hid h
  have HG := Lib.hid hg
  have HM := Lib.hid hm
  clear h hn hg hm
  go_enter Try.func5, Try.ntmps5
  go_wp2_with fail
  refine (awake_any w).mono ?_
  rintro e w1 ⟨rfl, hb1⟩
  have HB1 := Lib.hid hb1
  have hs1 : w.heap.size ≤ w1.heap.size := hb1.size
  clear hb1
  by_cases hbig : 10000 < n
  · go_wp2_with fail
    go_ret
    exact ⟨rfl, HB1.out⟩
  · go_wp2_with fail
    have HY1 := Lib.hid (HB.out.below HB1.out (Nat.le_refl _))
    refine (read_any A c n w.heap.size l w1 HY1.out HN.out hs1).mono ?_
    rintro e w2 ⟨rfl, hr2, hw2⟩
    have HC2 : Hid (Chg NoBlk w1 w2) := by rw [← hw2]; exact (Chg.refl _ _).alloc _
    obtain ⟨g, hg⟩ : ∃ g, g = w1.heap.size := ⟨_, rfl⟩
    rw [← hg] at hr2 ⊢
    have hgl : g < w2.heap.size := hr2.glt
    have hgw : w.heap.size ≤ g := by omega
    have HR2 := Lib.hid hr2
    have HB2 : Hid (Below w.heap.size w w2) := Lib.hid (HB1.out.trans (HC2.out.below hs1 (fun _ _ h => h)))
    clear hw2 hr2 hg
    obtain ⟨w3, hw3⟩ : ∃ w3, w3 = w2.alloc (.cells #[.slice A n c, .int .i64 0] 47) := ⟨_, rfl⟩
    obtain ⟨g2, hg2⟩ : ∃ g, g = w2.heap.size := ⟨_, rfl⟩
    have hgg : g < g2 := by omega
    have hs2 : w.heap.size ≤ w2.heap.size := by omega
    have HC3 : Hid (Chg NoBlk w2 w3) := by rw [hw3]; exact (Chg.refl _ _).alloc _
    have HRa3 := Lib.hid (HR2.out.chg0 HC3.out)
    have HRb3 : Hid (RdAt 47 w3 w.heap.size g2 ⟨l, 0⟩ A c) := Lib.hid (by
      have hy : BytesIn w3 w.heap.size A c l := (HB.out.below HB2.out (Nat.le_refl _)).below (HC3.out.below hs2 (fun _ _ h => h)) (Nat.le_refl _)
      refine ⟨?_, hy, by omega⟩
      rw [hw3, hg2, HN.out]
      exact heap_alloc_new w2 _)
    have HB3 : Hid (Below w.heap.size w w3) := Lib.hid (HB2.out.trans (HC3.out.below hs2 (fun _ _ h => h)))
    have HW3 := Lib.hid hw3
    have HG2 := Lib.hid hg2
    clear hw3 hg2
    go_wp2_with fail
    rw [← HW3.out, ← HG2.out]
    have hl0 : l.length ≤ 10000 := by rw [← HN.out]; omega
    go_loopw [8] (fun i wr => ∃ (k : Nat) (s : Rd) (A1 A2 : Option Addr) (c1 c2 : Nat), i = .int .i64 k ∧ k ≤ 60 ∧ k ≤ m ∧ Hid (okR s) ∧ s.l.length ≤ 10000 ∧ Hid (RdAt 60 wr w.heap.size g s A1 c1) ∧ Hid (RdAt 47 wr w.heap.size g2 s A2 c2) ∧ Hid (Below w.heap.size w wr)) (fun i _ => 60 - (intOf i).toNat)
    case atStart => exact ⟨0, ⟨l, 0⟩, A, A, c, c, rfl, by omega, by omega, Lib.hid (fun h => absurd rfl h), hl0, HRa3, HRb3, HB3⟩
    case round =>
      clear HRa3 HRb3 HB3 HR2 HB2 HC2 HC3 HW3 HY1 HB1
      obtain ⟨k, s, A1, A2, c1, c2, rfl, hk60, hkm, HOK, hsl, HR1, HR2, HBw⟩ := hrel
      have hg1 := HR1.out.glt
      have hg2l := HR2.out.glt
      by_cases hrun : k < m ∧ k < 60
      · obtain ⟨hkm2, hk602⟩ := hrun
        obtain ⟨bs, off, rfl, hbs, hk0', hk1', hq⟩ := HG.out.at_ (k := k) (by rw [← HM.out]; exact hkm2)
        generalize (gs.getD k (0, 0)).1 = p at hk0'
        generalize (gs.getD k (0, 0)).2 = q at hk1' hq
        have k0 : wr.cell? ⟨bs, off + k * 2, none⟩ = some (.int .i64 p) := (HBw.out.cell (p := ⟨bs, off + k * 2, none⟩) hbs).trans hk0'
        have k1 : wr.cell? ⟨bs, off + k * 2 + 1, none⟩ = some (.int .i64 q) := (HBw.out.cell (p := ⟨bs, off + k * 2 + 1, none⟩) hbs).trans hk1'
        have hq2 : q ≤ 9223372036854775807 := hq.2
        have hkz : (0 : Int) ≤ (k : Int) := by omega
        have hkmI : (k : Int) < (m : Int) := by omega
        obtain ⟨K, hK8, fK⟩ := and7 p
        clear hk0' hk1' hq
        have hcase : K = 0 ∨ K = 1 ∨ K = 2 ∨ K = 3 ∨ K = 4 ∨ K = 5 ∨ K = 6 ∨ K = 7 := by omega
        clear hK8
        rcases hcase with rfl | rfl | rfl | rfl | rfl | rfl | rfl | rfl
        · go_wp2_with fail
          refine (ru_any w.heap.size g s A1 c1 wr HR1.out).mono ?_
          rintro e w4 ⟨rfl, hr4⟩
          have HB4 := Lib.hid (HBw.out.trans (hr4.chg.below (B := w.heap.size) (by omega) (fun k hk e => by omega)))
          have HRb4 := Lib.hid (HR2.out.chg hr4.chg (by omega) (fun k hk e => by omega))
          obtain ⟨A4, c4, hr4'⟩ := hr4.open_
          have HRa4 := Lib.hid hr4'
          have hgl4 := HRb4.out.glt
          clear hr4 hr4' k0 HR1 HR2 HBw
          go_wp2_with fail
          refine (rru_any w.heap.size g2 s A2 c2 w4 HRb4.out).mono ?_
          rintro e w5 ⟨rfl, hr5⟩
          have HBz := Lib.hid (HB4.out.trans (hr5.chg.below (B := w.heap.size) (by omega) (fun k hk e => by omega)))
          have HR1z := Lib.hid (HRa4.out.chg hr5.chg (by omega) (fun k hk e => by omega))
          obtain ⟨A5, c5, hr5'⟩ := hr5.open_
          have HR2z := Lib.hid hr5'
          have HOKz : Hid (okR (ruS s)) := Lib.hid (okR_ru HOK.out)
          have hslz : (ruS s).l.length ≤ 10000 := Nat.le_trans (ruS_len s) hsl
          clear hr5 hr5' HRa4 HRb4 HB4 k1
          obtain ⟨Nz, hNz⟩ : ∃ N, N = (ruS s).l.length := ⟨_, rfl⟩
          have kz0 := HR2z.out.c0
          have kz1 := HR2z.out.c1
          rw [← hNz] at kz0
          have HNz := Lib.hid hNz
          have hg2z := HR2z.out.glt
          clear hNz
          generalize hEz : (ruS s).e = Ez at kz1
          have HEz := Lib.hid hEz
          clear hEz
          have hErr : ∀ k, Hid (Calls Try.prog 12 #[.pointer (some ⟨g, 0, none⟩)] (w5.drewN k) fun x w' => x = .returned (.int .i64 Ez) ∧ w5.drewN k = w') := fun k => Lib.hid (by rw [← HEz.out]; exact err_any w.heap.size g (ruS s) _ _ _ (HR1z.out.drewN k))
          go_wp2_with fail
          go_quiet (first | (go_at_call 13; exact quiet_eq (left_any w.heap.size g (ruS s) _ _ Nz _ (HR1z.out.drewN _) HNz.out)) | (go_at_call 12; exact quiet_eq (hErr _).out))
          go_wp2_with fail
          go_roundw
          case rel => exact ⟨k + 1, ruS s, _, _, _, _, by go_num, by omega, by omega, HOKz, hslz, Lib.hid (HR1z.out.drewN nq), Lib.hid (HR2z.out.drewN nq), Lib.hid (below_dn HBz.out)⟩
          case measure => simp [intOf]; omega
        · go_wp2_with fail
          refine (ru_any w.heap.size g s A1 c1 wr HR1.out).mono ?_
          rintro e w4 ⟨rfl, hr4⟩
          have HB4 := Lib.hid (HBw.out.trans (hr4.chg.below (B := w.heap.size) (by omega) (fun k hk e => by omega)))
          have HRb4 := Lib.hid (HR2.out.chg hr4.chg (by omega) (fun k hk e => by omega))
          obtain ⟨A4, c4, hr4'⟩ := hr4.open_
          have HRa4 := Lib.hid hr4'
          have hgl4 := HRb4.out.glt
          clear hr4 hr4' k0 HR1 HR2 HBw
          go_wp2_with fail
          refine (rru_any w.heap.size g2 s A2 c2 w4 HRb4.out).mono ?_
          rintro e w5 ⟨rfl, hr5⟩
          have HBz := Lib.hid (HB4.out.trans (hr5.chg.below (B := w.heap.size) (by omega) (fun k hk e => by omega)))
          have HR1z := Lib.hid (HRa4.out.chg hr5.chg (by omega) (fun k hk e => by omega))
          obtain ⟨A5, c5, hr5'⟩ := hr5.open_
          have HR2z := Lib.hid hr5'
          have HOKz : Hid (okR (ruS s)) := Lib.hid (okR_ru HOK.out)
          have hslz : (ruS s).l.length ≤ 10000 := Nat.le_trans (ruS_len s) hsl
          clear hr5 hr5' HRa4 HRb4 HB4 k1
          obtain ⟨Nz, hNz⟩ : ∃ N, N = (ruS s).l.length := ⟨_, rfl⟩
          have kz0 := HR2z.out.c0
          have kz1 := HR2z.out.c1
          rw [← hNz] at kz0
          have HNz := Lib.hid hNz
          have hg2z := HR2z.out.glt
          clear hNz
          generalize hEz : (ruS s).e = Ez at kz1
          have HEz := Lib.hid hEz
          clear hEz
          have hErr : ∀ k, Hid (Calls Try.prog 12 #[.pointer (some ⟨g, 0, none⟩)] (w5.drewN k) fun x w' => x = .returned (.int .i64 Ez) ∧ w5.drewN k = w') := fun k => Lib.hid (by rw [← HEz.out]; exact err_any w.heap.size g (ruS s) _ _ _ (HR1z.out.drewN k))
          go_wp2_with fail
          go_quiet (first | (go_at_call 13; exact quiet_eq (left_any w.heap.size g (ruS s) _ _ Nz _ (HR1z.out.drewN _) HNz.out)) | (go_at_call 12; exact quiet_eq (hErr _).out))
          go_wp2_with fail
          go_roundw
          case rel => exact ⟨k + 1, ruS s, _, _, _, _, by go_num, by omega, by omega, HOKz, hslz, Lib.hid (HR1z.out.drewN nq), Lib.hid (HR2z.out.drewN nq), Lib.hid (below_dn HBz.out)⟩
          case measure => simp [intOf]; omega
        · go_wp2_with fail
          refine (ri_any w.heap.size g s A1 c1 wr HR1.out).mono ?_
          rintro e w4 ⟨rfl, hr4⟩
          have HB4 := Lib.hid (HBw.out.trans (hr4.chg.below (B := w.heap.size) (by omega) (fun k hk e => by omega)))
          have HRb4 := Lib.hid (HR2.out.chg hr4.chg (by omega) (fun k hk e => by omega))
          obtain ⟨A4, c4, hr4'⟩ := hr4.open_
          have HRa4 := Lib.hid hr4'
          have hgl4 := HRb4.out.glt
          clear hr4 hr4' k0 HR1 HR2 HBw
          go_wp2_with fail
          refine (rri_any w.heap.size g2 s A2 c2 w4 HRb4.out).mono ?_
          rintro e w5 ⟨rfl, hr5⟩
          have HBz := Lib.hid (HB4.out.trans (hr5.chg.below (B := w.heap.size) (by omega) (fun k hk e => by omega)))
          have HR1z := Lib.hid (HRa4.out.chg hr5.chg (by omega) (fun k hk e => by omega))
          obtain ⟨A5, c5, hr5'⟩ := hr5.open_
          have HR2z := Lib.hid hr5'
          have HOKz : Hid (okR (ruS s)) := Lib.hid (okR_ru HOK.out)
          have hslz : (ruS s).l.length ≤ 10000 := Nat.le_trans (ruS_len s) hsl
          clear hr5 hr5' HRa4 HRb4 HB4 k1
          obtain ⟨Nz, hNz⟩ : ∃ N, N = (ruS s).l.length := ⟨_, rfl⟩
          have kz0 := HR2z.out.c0
          have kz1 := HR2z.out.c1
          rw [← hNz] at kz0
          have HNz := Lib.hid hNz
          have hg2z := HR2z.out.glt
          clear hNz
          generalize hEz : (ruS s).e = Ez at kz1
          have HEz := Lib.hid hEz
          clear hEz
          have hErr : ∀ k, Hid (Calls Try.prog 12 #[.pointer (some ⟨g, 0, none⟩)] (w5.drewN k) fun x w' => x = .returned (.int .i64 Ez) ∧ w5.drewN k = w') := fun k => Lib.hid (by rw [← HEz.out]; exact err_any w.heap.size g (ruS s) _ _ _ (HR1z.out.drewN k))
          go_wp2_with fail
          go_quiet (first | (go_at_call 13; exact quiet_eq (left_any w.heap.size g (ruS s) _ _ Nz _ (HR1z.out.drewN _) HNz.out)) | (go_at_call 12; exact quiet_eq (hErr _).out))
          go_wp2_with fail
          go_roundw
          case rel => exact ⟨k + 1, ruS s, _, _, _, _, by go_num, by omega, by omega, HOKz, hslz, Lib.hid (HR1z.out.drewN nq), Lib.hid (HR2z.out.drewN nq), Lib.hid (below_dn HBz.out)⟩
          case measure => simp [intOf]; omega
        · go_wp2_with fail
          refine (ri_any w.heap.size g s A1 c1 wr HR1.out).mono ?_
          rintro e w4 ⟨rfl, hr4⟩
          have HB4 := Lib.hid (HBw.out.trans (hr4.chg.below (B := w.heap.size) (by omega) (fun k hk e => by omega)))
          have HRb4 := Lib.hid (HR2.out.chg hr4.chg (by omega) (fun k hk e => by omega))
          obtain ⟨A4, c4, hr4'⟩ := hr4.open_
          have HRa4 := Lib.hid hr4'
          have hgl4 := HRb4.out.glt
          clear hr4 hr4' k0 HR1 HR2 HBw
          go_wp2_with fail
          refine (rri_any w.heap.size g2 s A2 c2 w4 HRb4.out).mono ?_
          rintro e w5 ⟨rfl, hr5⟩
          have HBz := Lib.hid (HB4.out.trans (hr5.chg.below (B := w.heap.size) (by omega) (fun k hk e => by omega)))
          have HR1z := Lib.hid (HRa4.out.chg hr5.chg (by omega) (fun k hk e => by omega))
          obtain ⟨A5, c5, hr5'⟩ := hr5.open_
          have HR2z := Lib.hid hr5'
          have HOKz : Hid (okR (ruS s)) := Lib.hid (okR_ru HOK.out)
          have hslz : (ruS s).l.length ≤ 10000 := Nat.le_trans (ruS_len s) hsl
          clear hr5 hr5' HRa4 HRb4 HB4 k1
          obtain ⟨Nz, hNz⟩ : ∃ N, N = (ruS s).l.length := ⟨_, rfl⟩
          have kz0 := HR2z.out.c0
          have kz1 := HR2z.out.c1
          rw [← hNz] at kz0
          have HNz := Lib.hid hNz
          have hg2z := HR2z.out.glt
          clear hNz
          generalize hEz : (ruS s).e = Ez at kz1
          have HEz := Lib.hid hEz
          clear hEz
          have hErr : ∀ k, Hid (Calls Try.prog 12 #[.pointer (some ⟨g, 0, none⟩)] (w5.drewN k) fun x w' => x = .returned (.int .i64 Ez) ∧ w5.drewN k = w') := fun k => Lib.hid (by rw [← HEz.out]; exact err_any w.heap.size g (ruS s) _ _ _ (HR1z.out.drewN k))
          go_wp2_with fail
          go_quiet (first | (go_at_call 13; exact quiet_eq (left_any w.heap.size g (ruS s) _ _ Nz _ (HR1z.out.drewN _) HNz.out)) | (go_at_call 12; exact quiet_eq (hErr _).out))
          go_wp2_with fail
          go_roundw
          case rel => exact ⟨k + 1, ruS s, _, _, _, _, by go_num, by omega, by omega, HOKz, hslz, Lib.hid (HR1z.out.drewN nq), Lib.hid (HR2z.out.drewN nq), Lib.hid (below_dn HBz.out)⟩
          case measure => simp [intOf]; omega
        · have hbg : bs < g := by omega
          go_wp2_with fail
          have HRd1 := Lib.hid (HR1.out.chg0 ((Chg.refl NoBlk wr).drew))
          have HRd2 := Lib.hid (HR2.out.chg0 ((Chg.refl NoBlk wr).drew))
          have HBd : Hid (Below w.heap.size w wr.drew) := Lib.hid ⟨HBw.out.os, HBw.out.tape, HBw.out.output, HBw.out.size, HBw.out.block⟩
          have k1d : wr.drew.cell? ⟨bs, off + k * 2 + 1, none⟩ = some (.int .i64 q) := k1
          go_region_held3 (fun w' => w'.cell? ⟨bs, off + k * 2 + 1, none⟩ = some (.int .i64 q))
            (first | with_reducible assumption | with_reducible exact k1d)
            (first
              | (go_at_call 25; refine (rt_any w.heap.size g s A1 c1 q hq2 _ HRd1.out).mono ?_; rintro e w4 ⟨rfl, hr4⟩; have HB4 := Lib.hid (HBd.out.trans (hr4.chg.below (B := w.heap.size) (by show w.heap.size ≤ wr.heap.size; omega) (fun k hk e => by omega))); have HRb4 := Lib.hid (HRd2.out.chg hr4.chg (by omega) (fun k hk e => by omega)); have k14 := hr4.chg.cell k1d (by simp only; omega); have HRa4 := Lib.hid hr4.open_; have hgl4 := HRb4.out.glt; clear hr4)
              | (go_at_call 26; refine (rrt_any w.heap.size g2 s A2 c2 q hq2 w4 HRb4.out).mono ?_; rintro e w5 ⟨rfl, hr5⟩; have HBz := Lib.hid (HB4.out.trans (hr5.chg.below (B := w.heap.size) (by omega) (fun k hk e => by omega))); have k15 := hr5.chg.cell k14 (by simp only; omega); have HC5 := Lib.hid hr5.chg; have HRb5 := Lib.hid hr5.open_; clear hr5))
          all_goals
            obtain ⟨A4, c4, hr4'⟩ := HRa4.out
            obtain ⟨A5, c5, hr5'⟩ := HRb5.out
            have HR1z := Lib.hid (hr4'.chg HC5.out (by omega) (fun k hk e => by omega))
            have HR2z := Lib.hid hr5'
            have HOKz : Hid (okR (rtS s q)) := Lib.hid (okR_rt HOK.out q)
            have hslz : (rtS s q).l.length ≤ 10000 := Nat.le_trans (rtS_le s q) hsl
            clear hr4' hr5' HRa4 HRb4 HB4 HRb5 HRd1 HRd2 HBd k0 k1 k1d k14 k15 HR1 HR2 HBw HC5
            obtain ⟨Nz, hNz⟩ : ∃ N, N = (rtS s q).l.length := ⟨_, rfl⟩
            have kz0 := HR2z.out.c0
            have kz1 := HR2z.out.c1
            rw [← hNz] at kz0
            have HNz := Lib.hid hNz
            have hg2z := HR2z.out.glt
            clear hNz
            generalize hEz : (rtS s q).e = Ez at kz1
            have HEz := Lib.hid hEz
            clear hEz
            have hErr : ∀ k, Hid (Calls Try.prog 12 #[.pointer (some ⟨g, 0, none⟩)] (w5.drewN k) fun x w' => x = .returned (.int .i64 Ez) ∧ w5.drewN k = w') := fun k => Lib.hid (by rw [← HEz.out]; exact err_any w.heap.size g (rtS s q) _ _ _ (HR1z.out.drewN k))
            go_wp2_with fail
            go_quiet (first | (go_at_call 13; exact quiet_eq (left_any w.heap.size g (rtS s q) _ _ Nz _ (HR1z.out.drewN _) HNz.out)) | (go_at_call 12; exact quiet_eq (hErr _).out))
            go_wp2_with fail
            go_roundw
            case rel => exact ⟨k + 1, rtS s q, _, _, _, _, by go_num, by omega, by omega, HOKz, hslz, Lib.hid (HR1z.out.drewN nq), Lib.hid (HR2z.out.drewN nq), Lib.hid (below_dn HBz.out)⟩
            case measure => simp [intOf]; omega
        · have hbg : bs < g := by omega
          have hrl := rsL_le s q
          go_wp2_with fail
          have HRd1 := Lib.hid (HR1.out.chg0 ((Chg.refl NoBlk wr).drew))
          have HRd2 := Lib.hid (HR2.out.chg0 ((Chg.refl NoBlk wr).drew))
          have HBd : Hid (Below w.heap.size w wr.drew) := Lib.hid ⟨HBw.out.os, HBw.out.tape, HBw.out.output, HBw.out.size, HBw.out.block⟩
          have k1d : wr.drew.cell? ⟨bs, off + k * 2 + 1, none⟩ = some (.int .i64 q) := k1
          go_region_held3 (fun w' => w'.cell? ⟨bs, off + k * 2 + 1, none⟩ = some (.int .i64 q))
            (first | with_reducible assumption | with_reducible exact k1d)
            (first
              | (go_at_call 28; refine (rl_any w.heap.size g s A1 c1 q hq2 _ HRd1.out (by omega)).mono ?_; rintro e w4 ⟨Ao, co, rfl, ho4, hr4⟩; have HO4 := Lib.hid ho4; have hso : ∀ k, Value.ownBlock (.slice Ao (rsL s q).length co) = some k → wr.heap.size ≤ k := (fun k hk => (ho4.lt k hk).1); have HSO := Lib.hid hso; have HB4 := Lib.hid (HBd.out.trans (hr4.chg.below (B := w.heap.size) (by show w.heap.size ≤ wr.heap.size; omega) (fun k hk e => by omega))); have HRb4 := Lib.hid (HRd2.out.chg hr4.chg (by omega) (fun k hk e => by omega)); have k14 := hr4.chg.cell k1d (by simp only; omega); have HRa4 := Lib.hid hr4.open_; have hgl4 := HRb4.out.glt; clear hr4 ho4 hso)
              | (go_at_call 29; refine (rrl_all w.heap.size g2 s A2 c2 q hq2 w4 HRb4.out (by omega)).mono ?_; rintro e w5 ⟨Ap, cp, rfl, ho5, hr5⟩; have HO5 := Lib.hid ho5; have HO45 := Lib.hid (hr5.chg.own HO4.out (fun k hk e => by have := HSO.out k hk; omega)); have HBz := Lib.hid (HB4.out.trans (hr5.chg.below (B := w.heap.size) (by omega) (fun k hk e => by omega))); have k15 := hr5.chg.cell k14 (by simp only; omega); have HC5 := Lib.hid hr5.chg; have HRb5 := Lib.hid hr5.open_; clear hr5 ho5)
              | (go_at_call 27; refine (same_any Ao Ap co cp _ _ _ _ (rsL s q) (rsL s q) w5 (cellsIn_of_own HO45.out) (cellsIn_of_own HO5.out) rfl rfl (by omega) (by omega)).mono ?_; rintro e w6 ⟨rfl, kk, rfl⟩; have k16 : (w5.drewN kk).cell? ⟨bs, off + k * 2 + 1, none⟩ = some (.int .i64 q) := k15))
          all_goals
            obtain ⟨A4, c4, hr4'⟩ := HRa4.out
            obtain ⟨A5, c5, hr5'⟩ := HRb5.out
            have HR1y := Lib.hid ((hr4'.chg HC5.out (by omega) (fun k hk e => by omega)).drewN kk)
            have HR2y := Lib.hid (hr5'.drewN kk)
            have HBy := Lib.hid (below_dn (n := kk) HBz.out)
            clear hr4' hr5' HRa4 HRb4 HB4 HRb5 HRd1 HRd2 HBd k0 k1 k1d k14 k15 k16 HR1 HR2 HBw HC5 HBz HO4 HO5 HO45 HSO
            generalize w5.drewN kk = w6 at HR1y HR2y HBy ⊢
            have HR1z := HR1y
            have HR2z := HR2y
            have HBz := HBy
            have HOKz : Hid (okR (rsS s q)) := Lib.hid (okR_rs HOK.out q)
            have hslz : (rsS s q).l.length ≤ 10000 := Nat.le_trans (rsS_le s q) hsl
            clear HR1y HR2y HBy hrl
            obtain ⟨Nz, hNz⟩ : ∃ N, N = (rsS s q).l.length := ⟨_, rfl⟩
            have kz0 := HR2z.out.c0
            have kz1 := HR2z.out.c1
            rw [← hNz] at kz0
            have HNz := Lib.hid hNz
            have hg2z := HR2z.out.glt
            clear hNz
            generalize hEz : (rsS s q).e = Ez at kz1
            have HEz := Lib.hid hEz
            clear hEz
            have hErr : ∀ k, Hid (Calls Try.prog 12 #[.pointer (some ⟨g, 0, none⟩)] (w6.drewN k) fun x w' => x = .returned (.int .i64 Ez) ∧ w6.drewN k = w') := fun k => Lib.hid (by rw [← HEz.out]; exact err_any w.heap.size g (rsS s q) _ _ _ (HR1z.out.drewN k))
            go_wp2_with fail
            go_quiet (first | (go_at_call 13; exact quiet_eq (left_any w.heap.size g (rsS s q) _ _ Nz _ (HR1z.out.drewN _) HNz.out)) | (go_at_call 12; exact quiet_eq (hErr _).out))
            go_wp2_with fail
            go_roundw
            case rel => exact ⟨k + 1, rsS s q, _, _, _, _, by go_num, by omega, by omega, HOKz, hslz, Lib.hid (HR1z.out.drewN nq), Lib.hid (HR2z.out.drewN nq), Lib.hid (below_dn HBz.out)⟩
            case measure => simp [intOf]; omega
        · have hqm : ∃ E, q.tmod 40 = E := ⟨_, rfl⟩
          obtain ⟨E, hE⟩ := hqm
          go_wp2_with fail
          refine (fail_any w.heap.size g s A1 c1 E wr HR1.out).mono ?_
          rintro e w4 ⟨rfl, hr4⟩
          have HB4 := Lib.hid (HBw.out.trans (hr4.chg.below (B := w.heap.size) (by omega) (fun k hk e => by omega)))
          have HRb4 := Lib.hid (HR2.out.chg hr4.chg (by omega) (fun k hk e => by omega))
          obtain ⟨A4, c4, hr4'⟩ := hr4.open_
          have HRa4 := Lib.hid hr4'
          have hgl4 := HRb4.out.glt
          clear hr4 hr4' k0 HR1 HR2 HBw
          go_wp2_with fail
          clear hE
          refine (rrfail_any w.heap.size g2 s A2 c2 E w4 HRb4.out).mono ?_
          rintro e w5 ⟨rfl, hr5⟩
          have HBz := Lib.hid (HB4.out.trans (hr5.chg.below (B := w.heap.size) (by omega) (fun k hk e => by omega)))
          have HR1z := Lib.hid (HRa4.out.chg hr5.chg (by omega) (fun k hk e => by omega))
          obtain ⟨A5, c5, hr5'⟩ := hr5.open_
          have HR2z := Lib.hid hr5'
          have HOKz : Hid (okR (rfail s E)) := Lib.hid (okR_fail HOK.out E)
          have hslz : (rfail s E).l.length ≤ 10000 := Nat.le_trans (rfail_len s E) hsl
          clear hr5 hr5' HRa4 HRb4 HB4 k1
          obtain ⟨Nz, hNz⟩ : ∃ N, N = (rfail s E).l.length := ⟨_, rfl⟩
          have kz0 := HR2z.out.c0
          have kz1 := HR2z.out.c1
          rw [← hNz] at kz0
          have HNz := Lib.hid hNz
          have hg2z := HR2z.out.glt
          clear hNz
          generalize hEz : (rfail s E).e = Ez at kz1
          have HEz := Lib.hid hEz
          clear hEz
          have hErr : ∀ k, Hid (Calls Try.prog 12 #[.pointer (some ⟨g, 0, none⟩)] (w5.drewN k) fun x w' => x = .returned (.int .i64 Ez) ∧ w5.drewN k = w') := fun k => Lib.hid (by rw [← HEz.out]; exact err_any w.heap.size g (rfail s E) _ _ _ (HR1z.out.drewN k))
          go_wp2_with fail
          go_quiet (first | (go_at_call 13; exact quiet_eq (left_any w.heap.size g (rfail s E) _ _ Nz _ (HR1z.out.drewN _) HNz.out)) | (go_at_call 12; exact quiet_eq (hErr _).out))
          go_wp2_with fail
          go_roundw
          case rel => exact ⟨k + 1, rfail s E, _, _, _, _, by go_num, by omega, by omega, HOKz, hslz, Lib.hid (HR1z.out.drewN nq), Lib.hid (HR2z.out.drewN nq), Lib.hid (below_dn HBz.out)⟩
          case measure => simp [intOf]; omega
        · have HR1z := HR1
          have HR2z := HR2
          have HBz := HBw
          have HOKz := HOK
          have hslz := hsl
          clear HR1 HR2 HBw k1
          obtain ⟨Nz, hNz⟩ : ∃ N, N = (s).l.length := ⟨_, rfl⟩
          have kz0 := HR2z.out.c0
          have kz1 := HR2z.out.c1
          rw [← hNz] at kz0
          have HNz := Lib.hid hNz
          have hg2z := HR2z.out.glt
          clear hNz
          generalize hEz : (s).e = Ez at kz1
          have HEz := Lib.hid hEz
          clear hEz
          have hErr : ∀ k, Hid (Calls Try.prog 12 #[.pointer (some ⟨g, 0, none⟩)] (wr.drewN k) fun x w' => x = .returned (.int .i64 Ez) ∧ wr.drewN k = w') := fun k => Lib.hid (by rw [← HEz.out]; exact err_any w.heap.size g (s) _ _ _ (HR1z.out.drewN k))
          go_wp2_with fail
          go_quiet (first | (go_at_call 13; exact quiet_eq (left_any w.heap.size g (s) _ _ Nz _ (HR1z.out.drewN _) HNz.out)) | (go_at_call 12; exact quiet_eq (hErr _).out))
          go_wp2_with fail
          go_roundw
          case rel => exact ⟨k + 1, s, _, _, _, _, by go_num, by omega, by omega, HOKz, hslz, Lib.hid (HR1z.out.drewN nq), Lib.hid (HR2z.out.drewN nq), Lib.hid (below_dn HBz.out)⟩
          case measure => simp [intOf]; omega
      · have hx : ¬ (k < m ∧ k < 60) := hrun
        have hend : decide (k < m) = false ∨ ¬ k < 60 := by
          by_cases h : k < m
          · right; omega
          · left; rw [decide_eq_false_iff_not]; exact h
        rcases hend with hend | hend
        · have hnm : ¬ k < m := by rw [decide_eq_false_iff_not] at hend; exact hend
          clear hend hrun hx
          go_wp2_with fail
          have HRd1 := Lib.hid (HR1.out.chg0 ((Chg.refl NoBlk wr).drew))
          have HRd2 := Lib.hid (HR2.out.chg0 ((Chg.refl NoBlk wr).drew))
          have HBd : Hid (Below w.heap.size w wr.drew) := Lib.hid ⟨HBw.out.os, HBw.out.tape, HBw.out.output, HBw.out.size, HBw.out.block⟩
          go_region_with (first
            | (go_at_call 32; refine (end_any w.heap.size g s A1 c1 _ HRd1.out).mono ?_; rintro e w4 ⟨rfl, hr4⟩; have HB4 := Lib.hid (HBd.out.trans (hr4.chg.below (B := w.heap.size) (by show w.heap.size ≤ wr.heap.size; omega) (fun k hk e => by omega))); have HRb4 := Lib.hid (HRd2.out.chg hr4.chg (by omega) (fun k hk e => by omega)); have HRa4 := Lib.hid hr4.open_; have hgl4 := HRb4.out.glt; clear hr4)
            | (go_at_call 33; refine (rend_any w.heap.size g2 s A2 c2 w4 HRb4.out HOK.out).mono ?_; rintro e w5 ⟨rfl, hr5⟩; have HBz := Lib.hid (HB4.out.trans (hr5.chg.below (B := w.heap.size) (by omega) (fun k hk e => by omega))); obtain ⟨A4, c4, hr4'⟩ := HRa4.out; have HR1z := Lib.hid (hr4'.chg hr5.chg (by omega) (fun k hk e => by omega)); obtain ⟨A5, c5, hr5'⟩ := hr5.open_; have kz1 := hr5'.c1; have hg5 := hr5'.glt; clear hr5 hr5' hr4')
            | (go_at_call 12; refine (err_any w.heap.size g (rendS s) A4 c4 w5 HR1z.out).mono ?_; rintro e w' ⟨rfl, rfl⟩))
          all_goals
            go_wp2_with fail
            go_ret
            exact ⟨rfl, HBz.out⟩
        · by_cases hkm3 : k < m
          · clear hrun hx
            go_wp2_with fail
            have HRd1 := Lib.hid (HR1.out.chg0 ((Chg.refl NoBlk wr).drew))
            have HRd2 := Lib.hid (HR2.out.chg0 ((Chg.refl NoBlk wr).drew))
            have HBd : Hid (Below w.heap.size w wr.drew) := Lib.hid ⟨HBw.out.os, HBw.out.tape, HBw.out.output, HBw.out.size, HBw.out.block⟩
            go_region_with (first
              | (go_at_call 32; refine (end_any w.heap.size g s A1 c1 _ HRd1.out).mono ?_; rintro e w4 ⟨rfl, hr4⟩; have HB4 := Lib.hid (HBd.out.trans (hr4.chg.below (B := w.heap.size) (by show w.heap.size ≤ wr.heap.size; omega) (fun k hk e => by omega))); have HRb4 := Lib.hid (HRd2.out.chg hr4.chg (by omega) (fun k hk e => by omega)); have HRa4 := Lib.hid hr4.open_; have hgl4 := HRb4.out.glt; clear hr4)
              | (go_at_call 33; refine (rend_any w.heap.size g2 s A2 c2 w4 HRb4.out HOK.out).mono ?_; rintro e w5 ⟨rfl, hr5⟩; have HBz := Lib.hid (HB4.out.trans (hr5.chg.below (B := w.heap.size) (by omega) (fun k hk e => by omega))); obtain ⟨A4, c4, hr4'⟩ := HRa4.out; have HR1z := Lib.hid (hr4'.chg hr5.chg (by omega) (fun k hk e => by omega)); obtain ⟨A5, c5, hr5'⟩ := hr5.open_; have kz1 := hr5'.c1; have hg5 := hr5'.glt; clear hr5 hr5' hr4')
              | (go_at_call 12; refine (err_any w.heap.size g (rendS s) A4 c4 w5 HR1z.out).mono ?_; rintro e w' ⟨rfl, rfl⟩))
            all_goals
              go_wp2_with fail
              go_ret
              exact ⟨rfl, HBz.out⟩
          · clear hrun hx
            go_wp2_with fail
            have HRd1 := Lib.hid (HR1.out.chg0 ((Chg.refl NoBlk wr).drew))
            have HRd2 := Lib.hid (HR2.out.chg0 ((Chg.refl NoBlk wr).drew))
            have HBd : Hid (Below w.heap.size w wr.drew) := Lib.hid ⟨HBw.out.os, HBw.out.tape, HBw.out.output, HBw.out.size, HBw.out.block⟩
            go_region_with (first
              | (go_at_call 32; refine (end_any w.heap.size g s A1 c1 _ HRd1.out).mono ?_; rintro e w4 ⟨rfl, hr4⟩; have HB4 := Lib.hid (HBd.out.trans (hr4.chg.below (B := w.heap.size) (by show w.heap.size ≤ wr.heap.size; omega) (fun k hk e => by omega))); have HRb4 := Lib.hid (HRd2.out.chg hr4.chg (by omega) (fun k hk e => by omega)); have HRa4 := Lib.hid hr4.open_; have hgl4 := HRb4.out.glt; clear hr4)
              | (go_at_call 33; refine (rend_any w.heap.size g2 s A2 c2 w4 HRb4.out HOK.out).mono ?_; rintro e w5 ⟨rfl, hr5⟩; have HBz := Lib.hid (HB4.out.trans (hr5.chg.below (B := w.heap.size) (by omega) (fun k hk e => by omega))); obtain ⟨A4, c4, hr4'⟩ := HRa4.out; have HR1z := Lib.hid (hr4'.chg hr5.chg (by omega) (fun k hk e => by omega)); obtain ⟨A5, c5, hr5'⟩ := hr5.open_; have kz1 := hr5'.c1; have hg5 := hr5'.glt; clear hr5 hr5' hr4')
              | (go_at_call 12; refine (err_any w.heap.size g (rendS s) A4 c4 w5 HR1z.out).mono ?_; rintro e w' ⟨rfl, rfl⟩))
            all_goals
              go_wp2_with fail
              go_ret
              exact ⟨rfl, HBz.out⟩
end Go.Proofs.Ytjhjhklidofhgaa
