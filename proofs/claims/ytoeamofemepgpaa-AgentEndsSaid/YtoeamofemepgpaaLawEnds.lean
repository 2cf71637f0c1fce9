/- Chapter 20: AgentEnds. -/
import Derived.Test.YtoeamofemepgpaaFitsNo
import Derived.Test.YtoeamofemepgpaaEndsC
namespace Go.Proofs.Ytoeamofemepgpaa
open Go.RowKit

theorem lt_of_cell {w : World} {b i : Nat} {u : Value} (h : w.cell? ⟨b, i, none⟩ = some u) : b < w.heap.size := by
  by_cases e : b < w.heap.size
  · exact e
  · have : w.heap[b]? = none := Array.getElem?_eq_none (by omega)
    simp [World.cell?, this] at h
set_option maxRecDepth 10000 in
set_option maxHeartbeats 4000000 in
theorem ends_no (w : World) (nd : Int) (g : Nat → Int) (A : Option Addr) (n c : Nat) (l : List Int) (hn : n = l.length) (hc : CellsIn w w.heap.size 1 A n (ints l)) (hnil : A = none → n = 0 ∧ c = 0) (B0 : Option Addr) (len cap : Nat) (gs : List Ac) (hlen : len = gs.length) (hp : ActsIn w w.heap.size B0 gs) (later : Int) (hbad : nd < 0 ∨ 16 ≤ nd ∨ rightB g = false) :
    Calls Try.prog 5 #[.agg #[.int .i64 nd, .int .i64 (g 0), .int .i64 (g 1), .int .i64 (g 2), .int .i64 (g 3), .slice A n c], .slice B0 len cap, .int .i64 later] w fun e w' => e = .returned (.bool true) ∧ Below w.heap.size w w' := by
  obtain ⟨P, hP⟩ : ∃ x, x = w.heap.size := ⟨_, rfl⟩
  obtain ⟨w1, hw1⟩ : ∃ y, y = w.alloc (.cells #[.int .i64 nd, .int .i64 (g 0), .int .i64 (g 1), .int .i64 (g 2), .int .i64 (g 3), .slice A n c] 42) := ⟨_, rfl⟩
  have hb1 : Below w.heap.size w w1 := by rw [hw1]; exact (Below.refl _ w).alloc (Nat.le_refl _) _
  have hn1 : w1.heap[P]? = some (.cells #[.int .i64 nd, .int .i64 (g 0), .int .i64 (g 1), .int .i64 (g 2), .int .i64 (g 3), .slice A n c] 42 (0, 0)) := by rw [hw1, hP]; exact heap_alloc_new w _
  have HPS : Hid (P < w1.heap.size) := Lib.hid (ltb hn1)
  have HB1 := Lib.hid hb1
  have HN1 := Lib.hid hn1
  have HP := Lib.hid ((hp.below hb1 (Nat.le_refl _)).mono hb1.size)
  have HL := Lib.hid hlen
  have HW := Lib.hid hn
  have HWC := Lib.hid (cells_below hc hb1)
  have HNIL := Lib.hid hnil
  clear hb1 hn1 hp hlen hn hc hnil
  go_enter Try.func5, Try.ntmps5
  go_upto_region 1 with fail
  rw [← hw1, ← hP]
  clear hw1 hP
  go_upto_region 4 with (go_at_call 8; refine (awake_any w1).mono ?_; rintro e w2 ⟨rfl, hb⟩; have HB2 := Lib.hid hb; clear hb)
  have HN2 : Hid (w2.heap[P]? = some (.cells #[.int .i64 nd, .int .i64 (g 0), .int .i64 (g 1), .int .i64 (g 2), .int .i64 (g 3), .slice A n c] 42 (0, 0))) := Lib.hid ((HB2.out.block P HPS.out).trans HN1.out)
  go_wp2_with (refine wpList_load_row rfl 42 (.tmp 3) rfl P rfl 42 #[.int .i64 nd, .int .i64 (g 0), .int .i64 (g 1), .int .i64 (g 2), .int .i64 (g 3), .slice A n c] (0, 0) _ HN2.out Try.underlying42 rfl (by kernel_rfl) ?_)
  refine (few_any w2 nd g A n c B0 len cap gs HL.out (HP.out.below HB2.out (Nat.le_refl _) |>.mono HB2.out.size)).mono ?_
  rintro e w3 ⟨b, rfl, hb2, hb⟩
  have HB3 : Hid (Below w1.heap.size w1 w3) := Lib.hid (HB2.out.trans (hb.mono HB2.out.size))
  have HF := Lib.hid hb2
  clear hb hb2 HN2 HB2
  cases b
  · go_wp2_with fail
    go_ret
    exact ⟨rfl, HB1.out.trans (HB3.out.mono HB1.out.size)⟩
  have hn20 := (HF.out rfl).1
  have hl60 := (HF.out rfl).2
  clear HF
  have HN3 : Hid (w3.heap[P]? = some (.cells #[.int .i64 nd, .int .i64 (g 0), .int .i64 (g 1), .int .i64 (g 2), .int .i64 (g 3), .slice A n c] 42 (0, 0))) := Lib.hid ((HB3.out.block P HPS.out).trans HN1.out)
  have HM3 : Hid (w3.rangeAt P 1 [.int .i64 (g 0), .int .i64 (g 1), .int .i64 (g 2), .int .i64 (g 3)]) := Lib.hid (mid_of [.int .i64 nd] [.int .i64 (g 0), .int .i64 (g 1), .int .i64 (g 2), .int .i64 (g 3)] [.slice A n c] HN3.out rfl)
  have c0 : w3.cell? ⟨P, 0, none⟩ = some (.int .i64 nd) := cellb (i := 0) HN3.out rfl
  have c5 : w3.cell? ⟨P, 5, none⟩ = some (.slice A n c) := cellb (i := 5) HN3.out rfl
  have HWC3 := Lib.hid (cells_below2 HWC.out HB3.out)
  go_wp2_with (first | (refine wpList_load_mid rfl 26 (.tmp 32) rfl P 1 rfl [.int .i64 (g 0), .int .i64 (g 1), .int .i64 (g 2), .int .i64 (g 3)] _ HM3.out Try.underlying26 rfl (by kernel_rfl) ?_) | (go_at_call 9; refine (new_no w3 nd g A n c hbad).mono ?_; rintro e w4 ⟨rfl, hb⟩; have HB4 : Hid (Below w1.heap.size w1 w4) := Lib.hid (HB3.out.trans (hb.mono HB3.out.size)); clear hb))
  go_ret
  exact ⟨rfl, HB1.out.trans (HB4.out.mono HB1.out.size)⟩
set_option maxRecDepth 10000 in
set_option maxHeartbeats 64000000 in
theorem ends_a (w : World) (nd : Int) (g : Nat → Int) (A : Option Addr) (n c : Nat) (l : List Int) (hn : n = l.length) (hc : CellsIn w w.heap.size 1 A n (ints l)) (hnil : A = none → n = 0 ∧ c = 0) (B0 : Option Addr) (len cap : Nat) (gs : List Ac) (hlen : len = gs.length) (hp : ActsIn w w.heap.size B0 gs) (later : Int) (h0 : 0 ≤ nd) (h16 : nd < 16) (hrt : rightB g = true) :
    Calls Try.prog 5 #[.agg #[.int .i64 nd, .int .i64 (g 0), .int .i64 (g 1), .int .i64 (g 2), .int .i64 (g 3), .slice A n c], .slice B0 len cap, .int .i64 later] w fun e w' => e = .returned (.bool true) ∧ Below w.heap.size w w' := by
  case' _ =>
    have HRT := Lib.hid hrt
    clear hrt
    obtain ⟨P, hP⟩ : ∃ x, x = w.heap.size := ⟨_, rfl⟩
    obtain ⟨w1, hw1⟩ : ∃ y, y = w.alloc (.cells #[.int .i64 nd, .int .i64 (g 0), .int .i64 (g 1), .int .i64 (g 2), .int .i64 (g 3), .slice A n c] 42) := ⟨_, rfl⟩
    have hb1 : Below w.heap.size w w1 := by rw [hw1]; exact (Below.refl _ w).alloc (Nat.le_refl _) _
    have hn1 : w1.heap[P]? = some (.cells #[.int .i64 nd, .int .i64 (g 0), .int .i64 (g 1), .int .i64 (g 2), .int .i64 (g 3), .slice A n c] 42 (0, 0)) := by rw [hw1, hP]; exact heap_alloc_new w _
    have HPS : Hid (P < w1.heap.size) := Lib.hid (ltb hn1)
    have HB1 := Lib.hid hb1
    have HN1 := Lib.hid hn1
    have HP := Lib.hid ((hp.below hb1 (Nat.le_refl _)).mono hb1.size)
    have HL := Lib.hid hlen
    have HW := Lib.hid hn
    have HWC := Lib.hid (cells_below hc hb1)
    have HNIL := Lib.hid hnil
    clear hb1 hn1 hp hlen hn hc hnil
    go_enter Try.func5, Try.ntmps5
    go_upto_region 1 with fail
    rw [← hw1, ← hP]
    clear hw1 hP
    go_upto_region 4 with (go_at_call 8; refine (awake_any w1).mono ?_; rintro e w2 ⟨rfl, hb⟩; have HB2 := Lib.hid hb; clear hb)
    have HN2 : Hid (w2.heap[P]? = some (.cells #[.int .i64 nd, .int .i64 (g 0), .int .i64 (g 1), .int .i64 (g 2), .int .i64 (g 3), .slice A n c] 42 (0, 0))) := Lib.hid ((HB2.out.block P HPS.out).trans HN1.out)
    go_wp2_with (refine wpList_load_row rfl 42 (.tmp 3) rfl P rfl 42 #[.int .i64 nd, .int .i64 (g 0), .int .i64 (g 1), .int .i64 (g 2), .int .i64 (g 3), .slice A n c] (0, 0) _ HN2.out Try.underlying42 rfl (by kernel_rfl) ?_)
    refine (few_any w2 nd g A n c B0 len cap gs HL.out (HP.out.below HB2.out (Nat.le_refl _) |>.mono HB2.out.size)).mono ?_
    rintro e w3 ⟨b, rfl, hb2, hb⟩
    have HB3 : Hid (Below w1.heap.size w1 w3) := Lib.hid (HB2.out.trans (hb.mono HB2.out.size))
    have HF := Lib.hid hb2
    clear hb hb2 HN2 HB2
    cases b
    · go_wp2_with fail
      go_ret
      exact ⟨rfl, HB1.out.trans (HB3.out.mono HB1.out.size)⟩
    have hn20 := (HF.out rfl).1
    have hl60 := (HF.out rfl).2
    clear HF
    have HN3 : Hid (w3.heap[P]? = some (.cells #[.int .i64 nd, .int .i64 (g 0), .int .i64 (g 1), .int .i64 (g 2), .int .i64 (g 3), .slice A n c] 42 (0, 0))) := Lib.hid ((HB3.out.block P HPS.out).trans HN1.out)
    have HM3 : Hid (w3.rangeAt P 1 [.int .i64 (g 0), .int .i64 (g 1), .int .i64 (g 2), .int .i64 (g 3)]) := Lib.hid (mid_of [.int .i64 nd] [.int .i64 (g 0), .int .i64 (g 1), .int .i64 (g 2), .int .i64 (g 3)] [.slice A n c] HN3.out rfl)
    have c0 : w3.cell? ⟨P, 0, none⟩ = some (.int .i64 nd) := cellb (i := 0) HN3.out rfl
    have c5 : w3.cell? ⟨P, 5, none⟩ = some (.slice A n c) := cellb (i := 5) HN3.out rfl
    have HWC3 := Lib.hid (cells_below2 HWC.out HB3.out)
    go_upto_region 8 with (first | (refine wpList_load_mid rfl 26 (.tmp 32) rfl P 1 rfl [.int .i64 (g 0), .int .i64 (g 1), .int .i64 (g 2), .int .i64 (g 3)] _ HM3.out Try.underlying26 rfl (by kernel_rfl) ?_) | (go_at_call 9; refine (new_ok w3 nd g A n c l h0 h16 HRT.out HWC3.out HW.out (by omega) HNIL.out).mono ?_; rintro e w4 ⟨A4, L4, rfl, ha, hb, ho⟩; have HL4 : Hid (Lives w1 w4 A4 L4 (Ag.new nd g l)) := Lib.hid ⟨ha, fun k hk => Nat.le_trans HB3.out.size (ho k hk), HB3.out.trans (hb.mono HB3.out.size)⟩; clear ha hb ho))
    have HF4 : Hid (Fine (Ag.new nd g l) 0) := Lib.hid (fine_new nd g l (by have := HW.out; omega))
    have HI4 : Hid (Born gs 0 (Ag.new nd g l)) := Lib.hid (new_born gs nd g l)
    have HG4 : Hid ((Ag.new nd g l).boot = 0 ∧ (Ag.new nd g l).tick ≤ 0) := Lib.hid ⟨rfl, Int.le_refl _⟩
    obtain ⟨K63, hK63, ek63⟩ := and63 later
    clear c0 c5 HM3 HN3 HB3 HWC3 h0 h16
    go_wp2_with fail
    go_loopg [10, 11, 12] len (fun gk tv bv iv wr => ∃ (j : Nat) (t bt : Int) (L : Lay) (s : Ag), j ≤ len ∧ gk = len - j ∧ iv = .int .i64 j ∧ tv = .int .i64 t ∧ bv = .int .i64 bt ∧ Hid (Lives w1 wr A4 L s) ∧ Hid (Fine s j) ∧ Hid (Born gs j s) ∧ Hid (s.boot = bt ∧ s.tick ≤ t) ∧ 0 ≤ t ∧ t ≤ 15 * j)
    case atStart => exact ⟨0, 0, 0, L4, _, Nat.zero_le _, rfl, rfl, rfl, rfl, HL4, HF4, HI4, HG4, by decide, by decide⟩
    case round =>
      obtain ⟨j, t, bt, L, s, hj, rfl, rfl, rfl, rfl, HLv, HFi, HIn, HGb, ht0, ht1⟩ := hrel
      by_cases hjl : j < len
      rotate_left
      · obtain rfl : j = len := by omega
        go_wp2_with fail
        go_ret
        exact ⟨rfl, HB1.out.trans (HLv.out.bel.mono HB1.out.size)⟩
      · have hj1 : (j : Int) < (len : Int) := by omega
        have hj0 : (0 : Int) ≤ (j : Int) := by omega
        obtain ⟨a, ha⟩ : ∃ a, gs[j]? = some a := ⟨gs[j]'(by have := HL.out; omega), List.getElem?_eq_getElem (by have := HL.out; omega)⟩
        obtain ⟨b0, off, hB, hb0, hr⟩ := HP.out.get ha
        subst hB
        obtain ⟨kd, ti, raw, rn, v, X, xn, xc⟩ := a
        have HRG : Hid (wr.rangeAt b0 (off + j * 25) [.int .i64 kd, .int .i64 ti, .bool raw, .int .i64 rn, .int .i64 (v 0), .int .i64 (v 1), .int .i64 (v 2), .int .i64 (v 3), .int .i64 (v 4), .int .i64 (v 5), .int .i64 (v 6), .int .i64 (v 7), .int .i64 (v 8), .int .i64 (v 9), .int .i64 (v 10), .int .i64 (v 11), .int .i64 (v 12), .int .i64 (v 13), .int .i64 (v 14), .int .i64 (v 15), .int .i64 (v 16), .slice X xn xc, .int .i64 (v 18), .int .i64 (v 19), .int .i64 (v 20)]) := Lib.hid (fun i u hu => (HLv.out.bel.cell (p := ⟨b0, off + j * 25 + i, none⟩) hb0).trans (hr i u hu))
        have HA := Lib.hid ha
        have HB0 := Lib.hid hb0
        clear hr ha hb0
        obtain ⟨Px, hPx⟩ : ∃ x, x = wr.heap.size := ⟨_, rfl⟩
        have hal : Below wr.heap.size wr (wr.alloc (.cells #[.int .i64 kd, .int .i64 ti, .bool raw, .int .i64 rn, .int .i64 (v 0), .int .i64 (v 1), .int .i64 (v 2), .int .i64 (v 3), .int .i64 (v 4), .int .i64 (v 5), .int .i64 (v 6), .int .i64 (v 7), .int .i64 (v 8), .int .i64 (v 9), .int .i64 (v 10), .int .i64 (v 11), .int .i64 (v 12), .int .i64 (v 13), .int .i64 (v 14), .int .i64 (v 15), .int .i64 (v 16), .slice X xn xc, .int .i64 (v 18), .int .i64 (v 19), .int .i64 (v 20)] 47)) := (Below.refl _ _).alloc (Nat.le_refl _) _
        have hnew : (wr.alloc (.cells #[.int .i64 kd, .int .i64 ti, .bool raw, .int .i64 rn, .int .i64 (v 0), .int .i64 (v 1), .int .i64 (v 2), .int .i64 (v 3), .int .i64 (v 4), .int .i64 (v 5), .int .i64 (v 6), .int .i64 (v 7), .int .i64 (v 8), .int .i64 (v 9), .int .i64 (v 10), .int .i64 (v 11), .int .i64 (v 12), .int .i64 (v 13), .int .i64 (v 14), .int .i64 (v 15), .int .i64 (v 16), .slice X xn xc, .int .i64 (v 18), .int .i64 (v 19), .int .i64 (v 20)] 47)).heap[Px]? = some (.cells #[.int .i64 kd, .int .i64 ti, .bool raw, .int .i64 rn, .int .i64 (v 0), .int .i64 (v 1), .int .i64 (v 2), .int .i64 (v 3), .int .i64 (v 4), .int .i64 (v 5), .int .i64 (v 6), .int .i64 (v 7), .int .i64 (v 8), .int .i64 (v 9), .int .i64 (v 10), .int .i64 (v 11), .int .i64 (v 12), .int .i64 (v 13), .int .i64 (v 14), .int .i64 (v 15), .int .i64 (v 16), .slice X xn xc, .int .i64 (v 18), .int .i64 (v 19), .int .i64 (v 20)] 47 (0, 0)) := by rw [hPx]; exact heap_alloc_new wr _
        have HL5 := Lib.hid (HLv.out.below hal)
        have HX5 := Lib.hid hnew
        clear hal hnew HLv
        go_upto_region 16 with (first | (refine wpList_load_mid rfl 47 (.tmp 47) rfl b0 (off + j * 25) rfl [.int .i64 kd, .int .i64 ti, .bool raw, .int .i64 rn, .int .i64 (v 0), .int .i64 (v 1), .int .i64 (v 2), .int .i64 (v 3), .int .i64 (v 4), .int .i64 (v 5), .int .i64 (v 6), .int .i64 (v 7), .int .i64 (v 8), .int .i64 (v 9), .int .i64 (v 10), .int .i64 (v 11), .int .i64 (v 12), .int .i64 (v 13), .int .i64 (v 14), .int .i64 (v 15), .int .i64 (v 16), .slice X xn xc, .int .i64 (v 18), .int .i64 (v 19), .int .i64 (v 20)] _ HRG.out Try.underlying47 rfl (by kernel_rfl) ?_) | (refine wpList_store_row rfl 47 (.tmp 13) (.tmp 48) rfl wr.heap.size _ rfl rfl 47 _ (heap_alloc_new wr _) (by kernel_rfl) rfl (by simp [Value.oneCell']) ?_; rw [World.setRow_alloc_new]))
        rw [← hPx]
        clear hPx HRG
        generalize wr.alloc (.cells #[.int .i64 kd, .int .i64 ti, .bool raw, .int .i64 rn, .int .i64 (v 0), .int .i64 (v 1), .int .i64 (v 2), .int .i64 (v 3), .int .i64 (v 4), .int .i64 (v 5), .int .i64 (v 6), .int .i64 (v 7), .int .i64 (v 8), .int .i64 (v 9), .int .i64 (v 10), .int .i64 (v 11), .int .i64 (v 12), .int .i64 (v 13), .int .i64 (v 14), .int .i64 (v 15), .int .i64 (v 16), .slice X xn xc, .int .i64 (v 18), .int .i64 (v 19), .int .i64 (v 20)] 47) = w5 at HL5 HX5 ⊢
        obtain ⟨K15, hK15, ek15⟩ := and15 ti
        obtain ⟨K7, hK7, ek7⟩ := and7 kd
        have HK7 := Lib.hid ek7
        have cx1 : w5.cell? ⟨Px, 1, none⟩ = some (.int .i64 ti) := cellb (i := 1) HX5.out rfl
        have hwt : IntKind.i64.wrap (t + (K15 : Int)) = t + (K15 : Int) := IntWalk.i64_in _ (by omega)
        clear ek7
        go_upto_region 17 with fail
        clear cx1 hwt ek15
        obtain ⟨t2, ht2⟩ : ∃ x, x = t + (K15 : Int) := ⟨_, rfl⟩
        rw [← ht2]
        have ht20 : 0 ≤ t2 := by omega
        have ht21 : t2 ≤ 15 * ((j + 1 : Nat) : Int) := by omega
        have HGO : Hid (s.goes t2) := Lib.hid ⟨by have := HGb.out.2; omega, by omega⟩
        clear ht2 ht0 ht1 hK15
        obtain ⟨nb, hnb⟩ : ∃ x, x = (decide (K7 = 0) && !s.up) := ⟨_, rfl⟩
        go_cut [62] (fun s62 wx => s62 = .bool nb ∧ wx = w5)
        case first =>
          as_aux_lemma =>
            have cx0 : w5.cell? ⟨Px, 0, none⟩ = some (.int .i64 kd) := cellb (i := 0) HX5.out rfl
            have ek7 : bits .and .i64 kd 7 = (K7 : Int) := HK7.out
            have HNB := Lib.hid hnb
            clear hnb
            by_cases k0 : K7 = 0
            · have k0' : (K7 : Int) = 0 := by omega
              rw [k0'] at ek7
              cases hup : s.up
              · have hnb : nb = true := by rw [HNB.out, hup]; simp [k0]
                have HNB2 := Lib.hid hnb
                clear k0 k0' hnb
                go_wp2_with (go_at_call 18; refine (up_ag w5 HL5.out.at_).mono ?_; rintro e w' ⟨rfl, rfl⟩; rw [hup])
                go_meet
                case rel => exact ⟨by rw [HNB2.out], rfl⟩
              · have hnb : nb = false := by rw [HNB.out, hup]; simp
                have HNB2 := Lib.hid hnb
                clear k0 k0' hnb
                go_wp2_with (go_at_call 18; refine (up_ag w5 HL5.out.at_).mono ?_; rintro e w' ⟨rfl, rfl⟩; rw [hup])
                go_meet
                case rel => exact ⟨by rw [HNB2.out], rfl⟩
            · have k0' : ¬ (K7 : Int) = 0 := by omega
              have hnb : nb = false := by rw [HNB.out]; simp [k0]
              have HNB2 := Lib.hid hnb
              clear k0 hnb
              go_wp2_with fail
              go_meet
              case rel => exact ⟨by rw [HNB2.out], rfl⟩
        case rest =>
          as_aux_lemma =>
            obtain ⟨rfl, hw⟩ := hcut
            replace hw := hw.symm
            subst hw
            have HNB := Lib.hid hnb
            clear hnb
            go_upto_if 62 with fail
            go_cut [11] (fun s11 wx => s11 = .int .i64 (if nb = true then t2 else bt) ∧ wx = w5)
            case first =>
              as_aux_lemma =>
                clear HNB
                cases nb
                · go_wp2_with fail
                  go_meet
                  case rel => exact ⟨rfl, rfl⟩
                · go_wp2_with fail
                  go_meet
                  case rel => exact ⟨rfl, rfl⟩
            case rest =>
              as_aux_lemma =>
                obtain ⟨rfl, hw⟩ := hcut
                replace hw := hw.symm
                subst hw
                obtain ⟨bt2, hbt2⟩ : ∃ x, x = if nb = true then t2 else bt := ⟨_, rfl⟩
                rw [← hbt2]
                have HF6 := Lib.hid (fine_done K7 v xn t2 HFi.out)
                have HI6 := Lib.hid (done_born (n := xn) HIn.out HGO.out ht20 HA.out HK7.out)
                have HG6 : Hid ((s.done K7 v xn t2).boot = bt2 ∧ (s.done K7 v xn t2).tick ≤ t2) := Lib.hid ⟨by
                  rw [done_boot K7 v xn HGO.out, hbt2, HNB.out, HGb.out.1]
                  by_cases h1 : K7 = 0 <;> cases h2 : s.up <;> simp [h1], done_tick K7 v xn HGO.out⟩
                clear hbt2 HNB
                go_upto_region 20 with (first | (refine wpList_load_row rfl 47 (.tmp 13) rfl Px rfl 47 #[.int .i64 kd, .int .i64 ti, .bool raw, .int .i64 rn, .int .i64 (v 0), .int .i64 (v 1), .int .i64 (v 2), .int .i64 (v 3), .int .i64 (v 4), .int .i64 (v 5), .int .i64 (v 6), .int .i64 (v 7), .int .i64 (v 8), .int .i64 (v 9), .int .i64 (v 10), .int .i64 (v 11), .int .i64 (v 12), .int .i64 (v 13), .int .i64 (v 14), .int .i64 (v 15), .int .i64 (v 16), .slice X xn xc, .int .i64 (v 18), .int .i64 (v 19), .int .i64 (v 20)] (0, 0) _ HX5.out Try.underlying47 rfl (by kernel_rfl) ?_) | (go_at_call 16; refine (done_any w5 HL5.out.at_ HFi.out (by omega) t2 kd ti raw rn v X xn xc K7 hK7 HK7.out).mono ?_; rintro e w6 ⟨⟨r, rfl⟩, hl⟩; obtain ⟨L6, hl6, _, _⟩ := HL5.out.left hl; have HL6 := Lib.hid hl6; clear hl hl6))
                clear HL5 HX5 HFi HIn HGb HK7 hK7 HA HGO
                have hI6 := HI6.out
                clear HI6
                obtain ⟨s6, hs6⟩ : ∃ x, x = s.done K7 v xn t2 := ⟨_, rfl⟩
                have HI6 : Hid (Born gs (j + 1) s6) := Lib.hid (by rw [hs6]; exact hI6)
                rw [← hs6] at HF6 HG6 HL6
                clear hs6 hI6
                have hwl : IntKind.i64.wrap (t2 + (K63 : Int)) = t2 + (K63 : Int) := IntWalk.i64_in _ (by omega)
                obtain ⟨lv, hlv⟩ : ∃ x, x = s6.leaseV := ⟨_, rfl⟩
                obtain ⟨sv, uv⟩ := lv
                have hle := lease_ag w6 HL6.out.at_
                rw [← hlv] at hle
                have HLE := Lib.hid hle
                have HSU : Hid (s6.up = true → sv = s6.since ∧ uv = s6.until_) := Lib.hid (fun hu => by
                  unfold Ag.leaseV at hlv
                  rw [if_pos hu] at hlv
                  injection hlv with e1 e2
                  exact ⟨e1, e2⟩)
                clear hle hlv
                go_upto_region 22 with (go_at_call 19; refine HLE.out.mono ?_; clear HLE; rintro e w7 ⟨rfl, hb⟩; have HL7 := Lib.hid (HL6.out.below hb); clear hb)
                clear hwl HL6
                obtain ⟨T, hT⟩ : ∃ x, x = t2 + (K63 : Int) := ⟨_, rfl⟩
                rw [← hT]
                clear hT
                obtain ⟨rs, hrs⟩ : ∃ x, x = s6.runsAt T := ⟨_, rfl⟩
                obtain ⟨m, hm⟩ : ∃ x, x = rs.length := ⟨_, rfl⟩
                have hm61 : m ≤ 61 := by have := runs_len2 s6 T; have := HF6.out.len; rw [hm, hrs]; omega
                have HRU := Lib.hid (fun (p : Pt) (hp : p ∈ s6.runsAt T) => runs_ends HI6.out HG6.out.2 hp)
                have HUP0 : Hid (s6.up = false → m = 0) := Lib.hid (fun hu => by rw [hm, hrs]; unfold Ag.runsAt; rw [hu]; rfl)
                have hra := running_ag w7 HL7.out.at_ (by have := HF6.out.len; omega) T
                unfold RunGot at hra
                rw [← hrs, ← hm] at hra
                have HRA := Lib.hid hra
                rw [← hrs] at HRU
                have HM6 := Lib.hid hm
                clear hra hrs hm
                go_wp2_with (go_at_call 12; refine HRA.out.mono ?_; clear HRA; rintro e w8 ⟨RA, rc, rfl, hr, hb⟩; have HL8 := Lib.hid (HL7.out.below hb); have HR8 := Lib.hid hr; clear hr hb HL7)
                go_loopw [18] (fun kv wr => ∃ k : Nat, k ≤ m ∧ kv = .int .i64 k ∧ Hid (Below w8.heap.size w8 wr)) (fun kv _ => m - (intOf kv).toNat)
                case atStart => exact ⟨0, Nat.zero_le _, rfl, Lib.hid (Below.refl _ _)⟩
                case round =>
                  as_aux_lemma =>
                    obtain ⟨k, hk, rfl, HBk⟩ := hrel
                    by_cases hkm : k < m
                    rotate_left
                    · obtain rfl : k = m := by omega
                      have HL9 := Lib.hid (HL8.out.below HBk.out)
                      cases hup : s6.up
                      · have hm0 : k = 0 := HUP0.out hup
                        have hm1 : ¬ (0 : Int) < (k : Int) := by omega
                        clear hm0
                        go_wp2_with (go_at_call 18; refine (up_ag wr HL9.out.at_).mono ?_; rintro e w' ⟨rfl, rfl⟩; rw [hup])
                        go_roundg (len - (j + 1))
                        case measure => omega
                        case rel => exact ⟨j + 1, t2, bt2, L6, s6, by omega, rfl, by go_num, rfl, rfl, HL9, HF6, HI6, HG6, ht20, ht21⟩
                      · go_wp2_with (go_at_call 18; refine (up_ag wr HL9.out.at_).mono ?_; rintro e w' ⟨rfl, rfl⟩; rw [hup])
                        go_roundg (len - (j + 1))
                        case measure => omega
                        case rel => exact ⟨j + 1, t2, bt2, L6, s6, by omega, rfl, by go_num, rfl, rfl, HL9, HF6, HI6, HG6, ht20, ht21⟩
                    · have hk1 : (k : Int) < (m : Int) := by omega
                      have hk0 : (0 : Int) ≤ (k : Int) := by omega
                      obtain ⟨p, hp⟩ : ∃ p, rs[k]? = some p := ⟨rs[k]'(by have := HM6.out; omega), List.getElem?_eq_getElem (by have := HM6.out; omega)⟩
                      obtain ⟨G, hG, _, hgc⟩ := own_cells HR8.out (by omega)
                      subst hG
                      have HGC : Hid (∀ (wr : World) (o : Nat) (u : Value), Below w8.heap.size w8 wr → (p.runC s6.until_)[o]? = some u → wr.cell? ⟨G, k * 8 + o, none⟩ = some u) := Lib.hid (fun wr o u hc hu => by
                        have h1 := hgc _ _ (run_at _ hp o u hu)
                        exact (hc.cell (p := ⟨G, k * 8 + o, none⟩) (lt_of_cell h1)).trans h1)
                      obtain ⟨hup, hu1, hu2, hu3, hu4, hu5, hu6, hu7, x, hx, a, K, hga, hK, k2, k4, hkn⟩ := HRU.out p (List.mem_of_getElem? hp)
                      obtain ⟨rfl, rfl⟩ := HSU.out hup
                      have hbt : s6.boot = bt2 := HG6.out.1
                      rw [hbt] at hu5 hkn
                      have HKN := Lib.hid hkn
                      have HGA := Lib.hid hga
                      have HKK := Lib.hid hK
                      have HU := Lib.hid (And.intro hu3 (And.intro hu6 hu7))
                      have c7 : wr.cell? ⟨G, k * 8 + 7, none⟩ = some (.int .i64 (p.upto s6.until_)) := HGC.out wr 7 _ HBk.out rfl
                      have c6 : wr.cell? ⟨G, k * 8 + 6, none⟩ = some (.int .i64 p.begun) := HGC.out wr 6 _ HBk.out rfl
                      clear hup hu7 hK hga hkn hbt hp hgc
                      go_wp2_with fail
                      clear c6 c7
                      go_loopw [19, 20] (fun nv iv wr => ∃ (q : Nat) (b : Bool), q ≤ j + 1 ∧ iv = .int .i64 q ∧ nv = .bool b ∧ (x < q → b = true) ∧ Hid (Below w8.heap.size w8 wr)) (fun _ iv _ => j + 1 - (intOf iv).toNat)
                      case atStart => exact ⟨0, false, Nat.zero_le _, rfl, rfl, fun h => absurd h (Nat.not_lt_zero _), HBk⟩
                      case round =>
                        as_aux_lemma =>
                          obtain ⟨q, b, hq, rfl, rfl, hxb, HBq⟩ := hrel
                          by_cases hqj : q ≤ j
                          rotate_left
                          · obtain rfl : q = j + 1 := by omega
                            have hq1 : ¬ ((j + 1 : Nat) : Int) ≤ (j : Int) := by omega
                            obtain rfl : b = true := hxb hx
                            go_wp2_with fail
                            go_roundw
                            case measure => simp [intOf]; omega
                            case rel => exact ⟨k + 1, by omega, by go_num, HBq⟩
                          · have hq1 : (q : Int) ≤ (j : Int) := by omega
                            have hq2 : (q : Int) < (len : Int) := by omega
                            have hq0 : (0 : Int) ≤ (q : Int) := by omega
                            obtain ⟨aq, haq⟩ : ∃ a, gs[q]? = some a := ⟨gs[q]'(by have := HL.out; omega), List.getElem?_eq_getElem (by have := HL.out; omega)⟩
                            obtain ⟨b1, off1, hB1, hb1, hr1⟩ := HP.out.get haq
                            injection hB1 with hB1
                            injection hB1 with hB1 hB2
                            subst hB1
                            subst hB2
                            have HQX : Hid (q = x → aq = a) := Lib.hid (fun e => by rw [e, HGA.out] at haq; injection haq with h; exact h.symm)
                            obtain ⟨kd1, ti1, raw1, rn1, v1, X1, xn1, xc1⟩ := aq
                            have HRQ : Hid (∀ wz, Below w8.heap.size w8 wz → wz.rangeAt b0 (off + q * 25) [.int .i64 kd1, .int .i64 ti1, .bool raw1, .int .i64 rn1, .int .i64 (v1 0), .int .i64 (v1 1), .int .i64 (v1 2), .int .i64 (v1 3), .int .i64 (v1 4), .int .i64 (v1 5), .int .i64 (v1 6), .int .i64 (v1 7), .int .i64 (v1 8), .int .i64 (v1 9), .int .i64 (v1 10), .int .i64 (v1 11), .int .i64 (v1 12), .int .i64 (v1 13), .int .i64 (v1 14), .int .i64 (v1 15), .int .i64 (v1 16), .slice X1 xn1 xc1, .int .i64 (v1 18), .int .i64 (v1 19), .int .i64 (v1 20)]) := Lib.hid (fun wz hz i u hu => (hz.cell (p := ⟨b0, off + q * 25 + i, none⟩) (Nat.lt_of_lt_of_le hb1 HL8.out.bel.size)).trans ((HL8.out.bel.cell (p := ⟨b0, off + q * 25 + i, none⟩) hb1).trans (hr1 i u hu)))
                            have HRM : Hid (wr.rangeAt b0 (off + q * 25 + 4) [.int .i64 (v1 0), .int .i64 (v1 1), .int .i64 (v1 2), .int .i64 (v1 3), .int .i64 (v1 4), .int .i64 (v1 5), .int .i64 (v1 6), .int .i64 (v1 7), .int .i64 (v1 8), .int .i64 (v1 9), .int .i64 (v1 10), .int .i64 (v1 11), .int .i64 (v1 12), .int .i64 (v1 13), .int .i64 (v1 14), .int .i64 (v1 15), .int .i64 (v1 16), .slice X1 xn1 xc1, .int .i64 (v1 18), .int .i64 (v1 19), .int .i64 (v1 20)]) := Lib.hid (fun i u hu => by rw [Nat.add_assoc]; exact HRQ.out wr HBq.out (4 + i) u (by rw [Nat.add_comm]; exact hu))
                            obtain ⟨Pm, hPm⟩ : ∃ x, x = wr.heap.size := ⟨_, rfl⟩
                            have hal : Below wr.heap.size wr (wr.alloc (.cells #[.int .i64 (v1 0), .int .i64 (v1 1), .int .i64 (v1 2), .int .i64 (v1 3), .int .i64 (v1 4), .int .i64 (v1 5), .int .i64 (v1 6), .int .i64 (v1 7), .int .i64 (v1 8), .int .i64 (v1 9), .int .i64 (v1 10), .int .i64 (v1 11), .int .i64 (v1 12), .int .i64 (v1 13), .int .i64 (v1 14), .int .i64 (v1 15), .int .i64 (v1 16), .slice X1 xn1 xc1, .int .i64 (v1 18), .int .i64 (v1 19), .int .i64 (v1 20)] 35)) := (Below.refl _ _).alloc (Nat.le_refl _) _
                            have hnew : (wr.alloc (.cells #[.int .i64 (v1 0), .int .i64 (v1 1), .int .i64 (v1 2), .int .i64 (v1 3), .int .i64 (v1 4), .int .i64 (v1 5), .int .i64 (v1 6), .int .i64 (v1 7), .int .i64 (v1 8), .int .i64 (v1 9), .int .i64 (v1 10), .int .i64 (v1 11), .int .i64 (v1 12), .int .i64 (v1 13), .int .i64 (v1 14), .int .i64 (v1 15), .int .i64 (v1 16), .slice X1 xn1 xc1, .int .i64 (v1 18), .int .i64 (v1 19), .int .i64 (v1 20)] 35)).heap[Pm]? = some (.cells #[.int .i64 (v1 0), .int .i64 (v1 1), .int .i64 (v1 2), .int .i64 (v1 3), .int .i64 (v1 4), .int .i64 (v1 5), .int .i64 (v1 6), .int .i64 (v1 7), .int .i64 (v1 8), .int .i64 (v1 9), .int .i64 (v1 10), .int .i64 (v1 11), .int .i64 (v1 12), .int .i64 (v1 13), .int .i64 (v1 14), .int .i64 (v1 15), .int .i64 (v1 16), .slice X1 xn1 xc1, .int .i64 (v1 18), .int .i64 (v1 19), .int .i64 (v1 20)] 35 (0, 0)) := by rw [hPm]; exact heap_alloc_new wr _
                            have HBm := Lib.hid (HBq.out.trans (hal.mono HBq.out.size))
                            have HXm := Lib.hid hnew
                            clear hal hnew HBq haq hr1
                            go_upto_region 33 with (first | (refine wpList_load_mid rfl 35 (.tmp 142) rfl b0 (off + q * 25 + 4) rfl [.int .i64 (v1 0), .int .i64 (v1 1), .int .i64 (v1 2), .int .i64 (v1 3), .int .i64 (v1 4), .int .i64 (v1 5), .int .i64 (v1 6), .int .i64 (v1 7), .int .i64 (v1 8), .int .i64 (v1 9), .int .i64 (v1 10), .int .i64 (v1 11), .int .i64 (v1 12), .int .i64 (v1 13), .int .i64 (v1 14), .int .i64 (v1 15), .int .i64 (v1 16), .slice X1 xn1 xc1, .int .i64 (v1 18), .int .i64 (v1 19), .int .i64 (v1 20)] _ HRM.out Try.underlying35 rfl (by kernel_rfl) ?_) | (refine wpList_store_row rfl 35 (.tmp 21) (.tmp 143) rfl wr.heap.size _ rfl rfl 35 _ (heap_alloc_new wr _) (by kernel_rfl) rfl (by simp [Value.oneCell']) ?_; rw [World.setRow_alloc_new]))
                            rw [← hPm]
                            clear hPm HRM
                            generalize wr.alloc (.cells #[.int .i64 (v1 0), .int .i64 (v1 1), .int .i64 (v1 2), .int .i64 (v1 3), .int .i64 (v1 4), .int .i64 (v1 5), .int .i64 (v1 6), .int .i64 (v1 7), .int .i64 (v1 8), .int .i64 (v1 9), .int .i64 (v1 10), .int .i64 (v1 11), .int .i64 (v1 12), .int .i64 (v1 13), .int .i64 (v1 14), .int .i64 (v1 15), .int .i64 (v1 16), .slice X1 xn1 xc1, .int .i64 (v1 18), .int .i64 (v1 19), .int .i64 (v1 20)] 35) = wm at HBm HXm ⊢
                            clear HL4 HF4 HI4 HG4 HWC HNIL HW HB1 HN1 HPS HRT HP HL HL8 HR8 HF6 HI6 HG6 HUP0 HRU HSU
                            simp only [Act.put]
                            go_cut [233] (fun s233 wx => ∃ bq, s233 = .bool bq ∧ (q = x → bq = true) ∧ Hid (Below w8.heap.size w8 wx))
                            case first =>
                              as_aux_lemma =>
                                obtain ⟨Kq, hKq, ekq⟩ := and7 kd1
                                have HTX : Hid (q = x → (2 : Int) ≤ (Kq : Int) ∧ (Kq : Int) ≤ 4 ∧ v1 0 = 3 ∧ v1 6 = p.job ∧ v1 7 = p.att ∧ bt2 < v1 8 ∧ s6.since < v1 8 ∧ p.begun ≤ IntKind.i64.wrap (v1 8 + 8) ∧ p.upto s6.until_ ≤ IntKind.i64.wrap (p.begun + v1 9) ∧ p.d0 = v1 11 ∧ p.d1 = v1 12 ∧ p.d2 = v1 13 ∧ p.d3 = v1 14) := Lib.hid (fun e => by
                                  have e2 := HQX.out e
                                  subst e2
                                  have e3 : bits .and .i64 kd1 7 = ((K : Nat) : Int) := HKK.out
                                  have hk : Known bt2 s6.since v1 p := HKN.out
                                  have h1 := known_tests (u := s6.until_) hk HU.out.2.2 (by have := HU.out.2.1; omega)
                                  exact ⟨by omega, by omega, hk.k, hk.j, hk.a, hk.b, hk.s, h1.1, h1.2, hk.d0, hk.d1, hk.d2, hk.d3⟩)
                                have cd : wm.cell? ⟨b0, off + q * 25, none⟩ = some (.int .i64 kd1) := HRQ.out wm HBm.out 0 _ rfl
                                have m0 : wm.cell? ⟨Pm, 0, none⟩ = some (.int .i64 (v1 0)) := cellb (i := 0) HXm.out rfl
                                have m6 : wm.cell? ⟨Pm, 6, none⟩ = some (.int .i64 (v1 6)) := cellb (i := 6) HXm.out rfl
                                have m7 : wm.cell? ⟨Pm, 7, none⟩ = some (.int .i64 (v1 7)) := cellb (i := 7) HXm.out rfl
                                have m8 : wm.cell? ⟨Pm, 8, none⟩ = some (.int .i64 (v1 8)) := cellb (i := 8) HXm.out rfl
                                have m9 : wm.cell? ⟨Pm, 9, none⟩ = some (.int .i64 (v1 9)) := cellb (i := 9) HXm.out rfl
                                have m11 : wm.cell? ⟨Pm, 11, none⟩ = some (.int .i64 (v1 11)) := cellb (i := 11) HXm.out rfl
                                have m12 : wm.cell? ⟨Pm, 12, none⟩ = some (.int .i64 (v1 12)) := cellb (i := 12) HXm.out rfl
                                have m13 : wm.cell? ⟨Pm, 13, none⟩ = some (.int .i64 (v1 13)) := cellb (i := 13) HXm.out rfl
                                have m14 : wm.cell? ⟨Pm, 14, none⟩ = some (.int .i64 (v1 14)) := cellb (i := 14) HXm.out rfl
                                have r0 : wm.cell? ⟨G, k * 8, none⟩ = some (.int .i64 p.job) := HGC.out wm 0 _ HBm.out rfl
                                have r1 : wm.cell? ⟨G, k * 8 + 1, none⟩ = some (.int .i64 p.att) := HGC.out wm 1 _ HBm.out rfl
                                have r2 : wm.cell? ⟨G, k * 8 + 2, none⟩ = some (.int .i64 p.d0) := HGC.out wm 2 _ HBm.out rfl
                                have r3 : wm.cell? ⟨G, k * 8 + 2 + 1, none⟩ = some (.int .i64 p.d1) := HGC.out wm 3 _ HBm.out rfl
                                have r4 : wm.cell? ⟨G, k * 8 + 2 + 2, none⟩ = some (.int .i64 p.d2) := HGC.out wm 4 _ HBm.out rfl
                                have r5 : wm.cell? ⟨G, k * 8 + 2 + 3, none⟩ = some (.int .i64 p.d3) := HGC.out wm 5 _ HBm.out rfl
                                have r6 : wm.cell? ⟨G, k * 8 + 6, none⟩ = some (.int .i64 p.begun) := HGC.out wm 6 _ HBm.out rfl
                                have r7 : wm.cell? ⟨G, k * 8 + 7, none⟩ = some (.int .i64 (p.upto s6.until_)) := HGC.out wm 7 _ HBm.out rfl
                                refine cond_reg (x := x) (y8 := IntKind.i64.wrap (v1 8 + 8)) (y9 := IntKind.i64.wrap (p.begun + v1 9)) hk0 hk1 hq0 hq2 ekq rfl rfl HTX cd m0 m6 m7 m8 m9 m11 m12 m13 m14 r0 r1 r2 r3 r4 r5 r6 r7 (Lib.hid ?_)
                                clear cd m0 m6 m7 m8 m9 m11 m12 m13 m14 r0 r1 r2 r3 r4 r5 r6 r7
                                intro bq n
                                intros
                                rename_i hbq
                                dsimp only
                                go_wp2_with fail
                                go_meet
                                case rel => exact ⟨bq, rfl, hbq, Lib.hid (below_dn HBm.out)⟩
                            case rest =>
                              obtain ⟨bq, rfl, hbq, HBx⟩ := hcut
                              have HBQ := Lib.hid hbq
                              clear hbq HGC HRQ HKN HKK HQX HXm HU HBm
                              cases bq
                              · go_wp2_with fail
                                go_roundw
                                case measure => simp [intOf]; omega
                                case rel => exact ⟨q + 1, b, by omega, by go_num, rfl, fun h => hxb (Nat.lt_of_le_of_ne (Nat.le_of_lt_succ h) (fun e => nomatch HBQ.out e.symm)), HBx⟩
                              · go_wp2_with fail
                                go_roundw
                                case measure => simp [intOf]; omega
                                case rel => exact ⟨q + 1, true, by omega, by go_num, rfl, fun _ => rfl, HBx⟩
theorem law_ends (w : World) (nd : Int) (g : Nat → Int) (A : Option Addr) (n c : Nat) (l : List Int) (hn : n = l.length) (hc : CellsIn w w.heap.size 1 A n (ints l)) (hnil : A = none → n = 0 ∧ c = 0) (B0 : Option Addr) (len cap : Nat) (gs : List Ac) (hlen : len = gs.length) (hp : ActsIn w w.heap.size B0 gs) (later : Int) :
    Calls Try.prog 5 #[.agg #[.int .i64 nd, .int .i64 (g 0), .int .i64 (g 1), .int .i64 (g 2), .int .i64 (g 3), .slice A n c], .slice B0 len cap, .int .i64 later] w fun e w' => e = .returned (.bool true) ∧ Below w.heap.size w w' := by
  by_cases h0 : 0 ≤ nd
  · by_cases h16 : nd < 16
    · cases hr : rightB g
      · exact ends_no w nd g A n c l hn hc hnil B0 len cap gs hlen hp later (.inr (.inr hr))
      · exact ends_a w nd g A n c l hn hc hnil B0 len cap gs hlen hp later h0 h16 hr
    · exact ends_no w nd g A n c l hn hc hnil B0 len cap gs hlen hp later (.inr (.inl (by omega)))
  · exact ends_no w nd g A n c l hn hc hnil B0 len cap gs hlen hp later (.inl (by omega))
end Go.Proofs.Ytoeamofemepgpaa
