/- Chapter 20: AgentFits. -/
import Derived.Test.YtoeamofemepgpaaFitsNo
namespace Go.Proofs.Ytoeamofemepgpaa
open Go.RowKit

set_option maxRecDepth 10000 in
set_option maxHeartbeats 16000000 in
theorem fits_yes (w : World) (nd : Int) (g : Nat → Int) (A : Option Addr) (n c : Nat) (l : List Int) (hn : n = l.length) (hc : CellsIn w w.heap.size 1 A n (ints l)) (hnil : A = none → n = 0 ∧ c = 0) (B0 : Option Addr) (len cap : Nat) (gs : List Ac) (hlen : len = gs.length) (hp : ActsIn w w.heap.size B0 gs) (later : Int) (h0 : 0 ≤ nd) (h16 : nd < 16) (hrt : rightB g = true) :
    Calls Try.prog 4 #[.agg #[.int .i64 nd, .int .i64 (g 0), .int .i64 (g 1), .int .i64 (g 2), .int .i64 (g 3), .slice A n c], .slice B0 len cap, .int .i64 later] w fun e w' => e = .returned (.bool true) ∧ Below w.heap.size w w' := by
  have HRT := Lib.hid hrt
  clear hrt
  obtain ⟨P, hP⟩ : ∃ x, x = w.heap.size := ⟨_, rfl⟩
  obtain ⟨w1, hw1⟩ : ∃ y, y = w.alloc (.cells #[.int .i64 nd, .int .i64 (g 0), .int .i64 (g 1), .int .i64 (g 2), .int .i64 (g 3), .slice A n c] 42) := ⟨_, rfl⟩
  have hb1 : Below w.heap.size w w1 := by rw [hw1]; exact (Below.refl _ w).alloc (Nat.le_refl _) _
  have hn1 : w1.heap[P]? = some (.cells #[.int .i64 nd, .int .i64 (g 0), .int .i64 (g 1), .int .i64 (g 2), .int .i64 (g 3), .slice A n c] 42 (0, 0)) := by rw [hw1, hP]; exact heap_alloc_new w _
  have HPS : Hid (P < w1.heap.size) := Lib.hid (ltb hn1)
  have HB1 := Lib.hid hb1
  have HN1 := Lib.hid hn1
  have HP := Lib.hid ((hp.below hb1 (Nat.le_refl _)).mono hb1.size)
  have HL := Lib.hid hlen
  have HW := Lib.hid hn
  have HWC := Lib.hid (cells_below hc hb1)
  have HNIL := Lib.hid hnil
  clear hb1 hn1 hp hlen hn hc hnil
  go_enter Try.func4, Try.ntmps4
  go_upto_region 1 with fail
  rw [← hw1, ← hP]
  clear hw1 hP
  go_upto_region 4 with (go_at_call 8; refine (awake_any w1).mono ?_; rintro e w2 ⟨rfl, hb⟩; have HB2 := Lib.hid hb; clear hb)
  have HN2 : Hid (w2.heap[P]? = some (.cells #[.int .i64 nd, .int .i64 (g 0), .int .i64 (g 1), .int .i64 (g 2), .int .i64 (g 3), .slice A n c] 42 (0, 0))) := Lib.hid ((HB2.out.block P HPS.out).trans HN1.out)
  go_wp2_with (refine wpList_load_row rfl 42 (.tmp 3) rfl P rfl 42 #[.int .i64 nd, .int .i64 (g 0), .int .i64 (g 1), .int .i64 (g 2), .int .i64 (g 3), .slice A n c] (0, 0) _ HN2.out Try.underlying42 rfl (by kernel_rfl) ?_)
  refine (few_any w2 nd g A n c B0 len cap gs HL.out (HP.out.below HB2.out (Nat.le_refl _) |>.mono HB2.out.size)).mono ?_
  rintro e w3 ⟨b, rfl, hb2, hb⟩
  have HB3 : Hid (Below w1.heap.size w1 w3) := Lib.hid (HB2.out.trans (hb.mono HB2.out.size))
  have HF := Lib.hid hb2
  clear hb hb2 HN2 HB2
  cases b
  · go_wp2_with fail
    go_ret
    exact ⟨rfl, HB1.out.trans (HB3.out.mono HB1.out.size)⟩
  have hn20 := (HF.out rfl).1
  have hl60 := (HF.out rfl).2
  clear HF
  have HN3 : Hid (w3.heap[P]? = some (.cells #[.int .i64 nd, .int .i64 (g 0), .int .i64 (g 1), .int .i64 (g 2), .int .i64 (g 3), .slice A n c] 42 (0, 0))) := Lib.hid ((HB3.out.block P HPS.out).trans HN1.out)
  have HM3 : Hid (w3.rangeAt P 1 [.int .i64 (g 0), .int .i64 (g 1), .int .i64 (g 2), .int .i64 (g 3)]) := Lib.hid (mid_of [.int .i64 nd] [.int .i64 (g 0), .int .i64 (g 1), .int .i64 (g 2), .int .i64 (g 3)] [.slice A n c] HN3.out rfl)
  have c0 : w3.cell? ⟨P, 0, none⟩ = some (.int .i64 nd) := cellb (i := 0) HN3.out rfl
  have c5 : w3.cell? ⟨P, 5, none⟩ = some (.slice A n c) := cellb (i := 5) HN3.out rfl
  have HWC3 := Lib.hid (cells_below2 HWC.out HB3.out)
  go_upto_region 8 with (first | (refine wpList_load_mid rfl 26 (.tmp 28) rfl P 1 rfl [.int .i64 (g 0), .int .i64 (g 1), .int .i64 (g 2), .int .i64 (g 3)] _ HM3.out Try.underlying26 rfl (by kernel_rfl) ?_) | (go_at_call 9; refine (new_ok w3 nd g A n c l h0 h16 HRT.out HWC3.out HW.out (by omega) HNIL.out).mono ?_; rintro e w4 ⟨A4, L4, rfl, ha, hb, ho⟩; have HL4 : Hid (Lives w1 w4 A4 L4 (Ag.new nd g l)) := Lib.hid ⟨ha, fun k hk => Nat.le_trans HB3.out.size (ho k hk), HB3.out.trans (hb.mono HB3.out.size)⟩; clear ha hb ho))
  have HF4 : Hid (Fine (Ag.new nd g l) 0) := Lib.hid (fine_new nd g l (by have := HW.out; omega))
  have HI4 : Hid (Fits2 (Ag.new nd g l)) := Lib.hid (new_fits nd g l HRT.out)
  have HG4 : Hid (∀ k, k < 4 → (Ag.new nd g l).whole k = g k) := Lib.hid (fun k hk => by
    have hk : k = 0 ∨ k = 1 ∨ k = 2 ∨ k = 3 := by omega
    rcases hk with rfl | rfl | rfl | rfl <;> rfl)
  obtain ⟨K31, hK31, ek31⟩ := and31 later
  clear c0 c5 HM3 HN3 HB3 HWC3 h0 h16
  go_wp2_with fail
  go_loopw [10, 11] (fun tv iv wr => ∃ (j : Nat) (t : Int) (L : Lay) (s : Ag), j ≤ len ∧ iv = .int .i64 j ∧ tv = .int .i64 t ∧ Hid (Lives w1 wr A4 L s) ∧ Hid (Fine s j) ∧ Hid (Fits2 s) ∧ Hid (∀ k, k < 4 → s.whole k = g k) ∧ 0 ≤ t ∧ t ≤ 15 * j) (fun _ iv _ => len - (intOf iv).toNat)
  case atStart => exact ⟨0, 0, L4, _, Nat.zero_le _, rfl, rfl, HL4, HF4, HI4, HG4, by decide, by decide⟩
  case round =>
    obtain ⟨j, t, L, s, hj, rfl, rfl, HLv, HFi, HIn, HGw, ht0, ht1⟩ := hrel
    by_cases hjl : j < len
    · have hj1 : (j : Int) < (len : Int) := by omega
      have hj0 : (0 : Int) ≤ (j : Int) := by omega
      obtain ⟨a, ha⟩ : ∃ a, gs[j]? = some a := ⟨gs[j]'(by have := HL.out; omega), List.getElem?_eq_getElem (by have := HL.out; omega)⟩
      obtain ⟨b0, off, hB, hb0, hr⟩ := HP.out.get ha
      subst hB
      obtain ⟨kd, ti, raw, rn, v, X, xn, xc⟩ := a
      have HRG : Hid (wr.rangeAt b0 (off + j * 25) [.int .i64 kd, .int .i64 ti, .bool raw, .int .i64 rn, .int .i64 (v 0), .int .i64 (v 1), .int .i64 (v 2), .int .i64 (v 3), .int .i64 (v 4), .int .i64 (v 5), .int .i64 (v 6), .int .i64 (v 7), .int .i64 (v 8), .int .i64 (v 9), .int .i64 (v 10), .int .i64 (v 11), .int .i64 (v 12), .int .i64 (v 13), .int .i64 (v 14), .int .i64 (v 15), .int .i64 (v 16), .slice X xn xc, .int .i64 (v 18), .int .i64 (v 19), .int .i64 (v 20)]) := Lib.hid (fun i u hu => (HLv.out.bel.cell (p := ⟨b0, off + j * 25 + i, none⟩) hb0).trans (hr i u hu))
      clear hr ha hb0
      obtain ⟨Px, hPx⟩ : ∃ x, x = wr.heap.size := ⟨_, rfl⟩
      have hal : Below wr.heap.size wr (wr.alloc (.cells #[.int .i64 kd, .int .i64 ti, .bool raw, .int .i64 rn, .int .i64 (v 0), .int .i64 (v 1), .int .i64 (v 2), .int .i64 (v 3), .int .i64 (v 4), .int .i64 (v 5), .int .i64 (v 6), .int .i64 (v 7), .int .i64 (v 8), .int .i64 (v 9), .int .i64 (v 10), .int .i64 (v 11), .int .i64 (v 12), .int .i64 (v 13), .int .i64 (v 14), .int .i64 (v 15), .int .i64 (v 16), .slice X xn xc, .int .i64 (v 18), .int .i64 (v 19), .int .i64 (v 20)] 47)) := (Below.refl _ _).alloc (Nat.le_refl _) _
      have hnew : (wr.alloc (.cells #[.int .i64 kd, .int .i64 ti, .bool raw, .int .i64 rn, .int .i64 (v 0), .int .i64 (v 1), .int .i64 (v 2), .int .i64 (v 3), .int .i64 (v 4), .int .i64 (v 5), .int .i64 (v 6), .int .i64 (v 7), .int .i64 (v 8), .int .i64 (v 9), .int .i64 (v 10), .int .i64 (v 11), .int .i64 (v 12), .int .i64 (v 13), .int .i64 (v 14), .int .i64 (v 15), .int .i64 (v 16), .slice X xn xc, .int .i64 (v 18), .int .i64 (v 19), .int .i64 (v 20)] 47)).heap[Px]? = some (.cells #[.int .i64 kd, .int .i64 ti, .bool raw, .int .i64 rn, .int .i64 (v 0), .int .i64 (v 1), .int .i64 (v 2), .int .i64 (v 3), .int .i64 (v 4), .int .i64 (v 5), .int .i64 (v 6), .int .i64 (v 7), .int .i64 (v 8), .int .i64 (v 9), .int .i64 (v 10), .int .i64 (v 11), .int .i64 (v 12), .int .i64 (v 13), .int .i64 (v 14), .int .i64 (v 15), .int .i64 (v 16), .slice X xn xc, .int .i64 (v 18), .int .i64 (v 19), .int .i64 (v 20)] 47 (0, 0)) := by rw [hPx]; exact heap_alloc_new wr _
      have HL5 := Lib.hid (HLv.out.below hal)
      have HX5 := Lib.hid hnew
      clear hal hnew HLv
      go_upto_region 15 with (first | (refine wpList_load_mid rfl 47 (.tmp 57) rfl b0 (off + j * 25) rfl [.int .i64 kd, .int .i64 ti, .bool raw, .int .i64 rn, .int .i64 (v 0), .int .i64 (v 1), .int .i64 (v 2), .int .i64 (v 3), .int .i64 (v 4), .int .i64 (v 5), .int .i64 (v 6), .int .i64 (v 7), .int .i64 (v 8), .int .i64 (v 9), .int .i64 (v 10), .int .i64 (v 11), .int .i64 (v 12), .int .i64 (v 13), .int .i64 (v 14), .int .i64 (v 15), .int .i64 (v 16), .slice X xn xc, .int .i64 (v 18), .int .i64 (v 19), .int .i64 (v 20)] _ HRG.out Try.underlying47 rfl (by kernel_rfl) ?_) | (refine wpList_store_row rfl 47 (.tmp 12) (.tmp 58) rfl wr.heap.size _ rfl rfl 47 _ (heap_alloc_new wr _) (by kernel_rfl) rfl (by simp [Value.oneCell']) ?_; rw [World.setRow_alloc_new]))
      rw [← hPx]
      clear hPx HRG
      generalize wr.alloc (.cells #[.int .i64 kd, .int .i64 ti, .bool raw, .int .i64 rn, .int .i64 (v 0), .int .i64 (v 1), .int .i64 (v 2), .int .i64 (v 3), .int .i64 (v 4), .int .i64 (v 5), .int .i64 (v 6), .int .i64 (v 7), .int .i64 (v 8), .int .i64 (v 9), .int .i64 (v 10), .int .i64 (v 11), .int .i64 (v 12), .int .i64 (v 13), .int .i64 (v 14), .int .i64 (v 15), .int .i64 (v 16), .slice X xn xc, .int .i64 (v 18), .int .i64 (v 19), .int .i64 (v 20)] 47) = w5 at HL5 HX5 ⊢
      obtain ⟨K15, hK15, ek15⟩ := and15 ti
      obtain ⟨K7, hK7, ek7⟩ := and7 kd
      have HK7 := Lib.hid ek7
      have cx1 : w5.cell? ⟨Px, 1, none⟩ = some (.int .i64 ti) := cellb (i := 1) HX5.out rfl
      have hwt : IntKind.i64.wrap (t + (K15 : Int)) = t + (K15 : Int) := IntWalk.i64_in _ (by omega)
      clear ek7
      go_upto_region 16 with fail
      clear cx1 hwt ek15
      obtain ⟨t2, ht2⟩ : ∃ x, x = t + (K15 : Int) := ⟨_, rfl⟩
      rw [← ht2]
      have ht20 : 0 ≤ t2 := by omega
      have ht21 : t2 ≤ 15 * ((j + 1 : Nat) : Int) := by omega
      clear ht2 ht0 ht1 hK15
      have HF6 := Lib.hid (fine_done K7 v xn t2 HFi.out)
      have HI6 := Lib.hid (done_fits K7 v xn t2 HFi.out.small (fun k hk => by rw [HGw.out k hk]; exact (right_bd HRT.out k hk).1) HIn.out)
      have HG6 : Hid (∀ k, k < 4 → (s.done K7 v xn t2).whole k = g k) := Lib.hid (fun k hk => by rw [done_whole]; exact HGw.out k hk)
      go_upto_region 17 with (first | (refine wpList_load_row rfl 47 (.tmp 12) rfl Px rfl 47 #[.int .i64 kd, .int .i64 ti, .bool raw, .int .i64 rn, .int .i64 (v 0), .int .i64 (v 1), .int .i64 (v 2), .int .i64 (v 3), .int .i64 (v 4), .int .i64 (v 5), .int .i64 (v 6), .int .i64 (v 7), .int .i64 (v 8), .int .i64 (v 9), .int .i64 (v 10), .int .i64 (v 11), .int .i64 (v 12), .int .i64 (v 13), .int .i64 (v 14), .int .i64 (v 15), .int .i64 (v 16), .slice X xn xc, .int .i64 (v 18), .int .i64 (v 19), .int .i64 (v 20)] (0, 0) _ HX5.out Try.underlying47 rfl (by kernel_rfl) ?_) | (go_at_call 16; refine (done_any w5 HL5.out.at_ HFi.out (by omega) t2 kd ti raw rn v X xn xc K7 hK7 HK7.out).mono ?_; rintro e w6 ⟨⟨r, rfl⟩, hl⟩; obtain ⟨L6, hl6, _, _⟩ := HL5.out.left hl; have HL6 := Lib.hid hl6; clear hl hl6))
      clear HL5 HX5 HFi HIn HGw HK7 hK7
      obtain ⟨s6, hs6⟩ : ∃ x, x = s.done K7 v xn t2 := ⟨_, rfl⟩
      rw [← hs6] at HF6 HI6 HG6 HL6
      clear hs6
      have hwl : IntKind.i64.wrap (t2 + (K31 : Int)) = t2 + (K31 : Int) := IntWalk.i64_in _ (by omega)
      obtain ⟨m, hm⟩ : ∃ x, x = (s6.runsAt (t2 + (K31 : Int))).length := ⟨_, rfl⟩
      have HM6 := Lib.hid hm
      have hm61 : m ≤ 61 := by have := runs_len2 s6 (t2 + (K31 : Int)); have := HF6.out.len; omega
      go_upto_region 18 with (go_at_call 12; refine (running_ag w6 HL6.out.at_ (by have := HF6.out.len; omega) (t2 + (K31 : Int))).mono ?_; rintro e w7 ⟨RA, rc, rfl, hr, hb⟩; rw [← HM6.out] at hr ⊢; have HL7 := Lib.hid (HL6.out.below hb); have HR7 := Lib.hid hr; have HS7 : Hid (w6.heap.size ≤ w7.heap.size) := Lib.hid hb.size; clear hr hb)
      clear hwl hm HL6
      try rw [← HM6.out]
      obtain ⟨Pv, hPv⟩ : ∃ x, x = w7.heap.size := ⟨_, rfl⟩
      have hal : Below w7.heap.size w7 (w7.alloc (.cells #[.int .i64 0, .int .i64 0, .int .i64 0, .int .i64 0] 26)) := (Below.refl _ _).alloc (Nat.le_refl _) _
      have HL8 := Lib.hid (HL7.out.below hal)
      have HOW : Hid (∀ x, L6.own A4 x → x < Pv) := Lib.hid (fun x ho => by rw [hPv]; exact HL7.out.at_.own_lt ho)
      have HR8 := Lib.hid ((Chg.of_below (S := fun _ => False) hal).own HR7.out (fun _ _ h => h))
      have HGLT : Hid (∀ b, (Value.slice RA m rc).ownBlock = some b → b < Pv) := Lib.hid (fun b hb => by rw [hPv]; obtain ⟨cur, f, e⟩ := own_elem HR7.out hb; exact ltb e)
      have HV8 : Hid (VAt (w7.alloc (.cells #[.int .i64 0, .int .i64 0, .int .i64 0, .int .i64 0] 26)) Pv (sums (s6.runsAt (t2 + (K31 : Int))) 0)) := Lib.hid (by rw [hPv]; exact heap_alloc_new w7 _)
      have HBD := Lib.hid (fun k d hd => sums_bd HF6.out.small HI6.out HG6.out (t2 + (K31 : Int)) k d hd)
      have HKY := Lib.hid (fun (i j : Nat) (p q : Pt) hi hj hij => runs_key HI6.out (t2 + (K31 : Int)) (i := i) (j := j) (p := p) (q := q) hi hj hij)
      obtain ⟨rs, hrs⟩ : ∃ x, x = s6.runsAt (t2 + (K31 : Int)) := ⟨_, rfl⟩
      rw [← hrs] at HR8 HV8 HBD HKY HM6
      have HPV : Hid (w1.heap.size ≤ Pv) := Lib.hid (by rw [hPv]; exact HL7.out.bel.size)
      clear hrs hal HL7 HR7 HS7
      go_upto_region 19 with fail
      rw [← hPv]
      clear hPv
      generalize w7.alloc (.cells #[.int .i64 0, .int .i64 0, .int .i64 0, .int .i64 0] 26) = w8 at HL8 HR8 HV8 ⊢
      go_wp2_with fail
      go_loopw [15] (fun kv wr => ∃ k : Nat, k ≤ m ∧ kv = .int .i64 k ∧ Hid (VAt wr Pv (sums rs k)) ∧ Hid (Chg (fun x => x = Pv) w8 wr)) (fun kv _ => m - (intOf kv).toNat)
      case atStart => exact ⟨0, Nat.zero_le _, rfl, HV8, Lib.hid (Chg.refl _ _)⟩
      case round =>
        obtain ⟨k, hk, rfl, HV, HC⟩ := hrel
        by_cases hkm : k < m
        · have hk1 : (k : Int) < (m : Int) := by omega
          have hk0 : (0 : Int) ≤ (k : Int) := by omega
          obtain ⟨p, hp⟩ : ∃ p, rs[k]? = some p := ⟨rs[k]'(by have := HM6.out; omega), List.getElem?_eq_getElem (by have := HM6.out; omega)⟩
          obtain ⟨G, hG, _, hgc⟩ := own_cells HR8.out (by omega)
          subst hG
          have HGP : Hid (G < Pv) := Lib.hid (HGLT.out G rfl)
          have HGC : Hid (∀ (wr : World) (i o : Nat) (q : Pt) (u : Value), Chg (fun x => x = Pv) w8 wr → rs[i]? = some q → (q.runC s6.until_)[o]? = some u → wr.cell? ⟨G, i * 8 + o, none⟩ = some u) := Lib.hid (fun wr i o q u hc hq hu => hc.cell (hgc _ _ (run_at _ hq o u hu)) (fun e => by have e : G = Pv := e; have := HGP.out; omega))
          have HPK := Lib.hid hp
          have HNX := Lib.hid (sums_next hp)
          clear hgc hp
          go_wp2_with fail
          go_loopw [16] (fun dv wi => ∃ d : Nat, d ≤ 4 ∧ dv = .int .i64 d ∧ Hid (VAt wi Pv (adds (sums rs k) p.d d)) ∧ Hid (Chg (fun x => x = Pv) w8 wi)) (fun dv _ => 4 - (intOf dv).toNat)
          case atStart => exact ⟨0, Nat.zero_le _, rfl, Lib.hid (HV.out.congr (fun i _ => by simp [adds])), HC⟩
          case round =>
            obtain ⟨d, hd, rfl, HV2, HC2⟩ := hrel
            by_cases hd4 : d < 4
            · have hd' : (d : Int) < 4 := by omega
              have hd0 : (0 : Int) ≤ (d : Int) := by omega
              have cv0 : wr.drew.cell? ⟨Pv, d, none⟩ = some (.int .i64 (sums rs k d)) := by
                have := HV2.out.cell hd4
                simp only [adds, Nat.lt_irrefl, if_false, Int.add_zero] at this
                exact this
              have cvf : wr.drew.frozen? ⟨Pv, d, none⟩ = false := fzb HV2.out d
              have cx : wr.drew.cell? ⟨G, k * 8 + 2 + d, none⟩ = some (.int .i64 (p.d d)) := by
                rw [Nat.add_assoc]
                refine HGC.out wr.drew k (2 + d) p _ HC2.out.drew HPK.out ?_
                have hd4 : d = 0 ∨ d = 1 ∨ d = 2 ∨ d = 3 := by omega
                rcases hd4 with rfl | rfl | rfl | rfl <;> rfl
              have hwr : IntKind.i64.wrap (sums rs k d + p.d d) = sums rs k d + p.d d := IntWalk.i64_in _ (by
                have h1 := HNX.out d
                have h2 := HBD.out (k + 1) d hd4
                have h3 := (right_bd HRT.out d hd4).2
                omega)
              have hGP : Pv ≠ G := by have := HGP.out; omega
              have HV3 : Hid (VAt (wr.drew.setCell ⟨Pv, d, none⟩ (.int .i64 (sums rs k d + p.d d))) Pv (adds (sums rs k) p.d (d + 1))) := Lib.hid (VAt.set' (d := adds (sums rs k) p.d d) HV2.out hd4 _ _ (fun i hi => by
                by_cases e : i = d
                · subst e; simp [adds]
                · by_cases e2 : i < d
                  · simp [adds, e, e2, show i < d + 1 by omega]
                  · simp [adds, e, e2, show ¬ i < d + 1 by omega]))
              have HC3 : Hid (Chg (fun x => x = Pv) w8 (wr.drew.setCell ⟨Pv, d, none⟩ (.int .i64 (sums rs k d + p.d d)))) := Lib.hid (HC2.out.drew.setCell (p := ⟨Pv, d, none⟩) (.inr rfl) _)
              clear HV2 HC2
              go_wp2_with fail

              refine wp_region_noPanic ?_
              refine wp_region_held_drew (S := fun w' => w'.cell? ⟨G, k * 8 + 2 + d, none⟩ = some (.int .i64 (p.d d))) (by kernel_rfl) ?_ (fun hHeld => ?_)
              · try dsimp only
                (refine ?_ <;> (first | with_reducible assumption))
              generalize wr.drew = Wd at *
              refine tk 0 ?_
              try simp only [Act.put, p1, p2, p3]
              refine tk 1 ?_
              try simp only [Act.put, p1, p2, p3]
              refine tk 3 ?_
              try simp only [Act.put, p1, p2, p3]
              refine tk 4 ?_
              try simp only [Act.put, p1, p2, p3]
              refine tk 5 ?_
              try simp only [Act.put, p1, p2, p3]
              refine tk 6 ?_
              try simp only [Act.put, p1, p2, p3]
              refine tk 7 ?_
              try simp only [Act.put, p1, p2, p3]
              refine tk 8 ?_
              try simp only [Act.put, p1, p2, p3]
              refine tk 9 ?_
              try simp only [Act.put, p1, p2, p3]
              refine rd 2 fun K hK => ?_
              go_simp
              refine hK.out _ _ ?_ (fun hHeld => ?_)
              · try dsimp only
                (refine ?_ <;> (first | with_reducible assumption))
              clear hK K
              try simp only [Act.put, p1, p2, p3]
              refine tk 10 ?_
              try simp only [Act.put, p1, p2, p3]
              refine tk 11 ?_
              try simp only [Act.put, p1, p2, p3]
              refine rd 12 fun K hK => ?_
              go_simp
              have cx' : (Wd.setCell ⟨Pv, d, none⟩ (.int .i64 (sums rs k d + p.d d))).cell? ⟨G, k * 8 + 2 + d, none⟩ = some (.int .i64 (p.d d)) := (World.cell?_setCell_far _ _ _ _ hGP).trans cx
              refine hK.out _ _ ?_ (fun hHeld => ?_)
              · try dsimp only
                (refine ?_ <;> (first | with_reducible assumption))
              clear hK K
              try simp only [Act.put]
              refine wpAnyH_done (by kernel_rfl) ?_ _
              refine NoPanic.normal ?_
              clear hHeld
              go_wp2_with fail
              go_roundw
              case rel => exact ⟨d + 1, by omega, by go_num, HV3, HC3⟩
              case measure => simp [intOf]; omega
            · obtain rfl : d = 4 := by omega
              have HV3 : Hid (VAt wr Pv (sums rs (k + 1))) := Lib.hid (HV2.out.congr (fun i hi => by rw [HNX.out]; simp [adds, hi]))
              clear HV2
              rw [show ((4 : Nat) : Int) = 4 from rfl]
              go_wp2_with fail
              go_loopw [17] (fun jv wr => ∃ i : Nat, i ≤ k ∧ jv = .int .i64 i ∧ Hid (VAt wr Pv (sums rs (k + 1))) ∧ Hid (Chg (fun x => x = Pv) w8 wr)) (fun jv _ => k - (intOf jv).toNat)
              case atStart => exact ⟨0, Nat.zero_le _, rfl, HV3, HC2⟩
              case round =>
                obtain ⟨i, hi, rfl, HV4, HC4⟩ := hrel
                by_cases hik : i < k
                · have hi1 : (i : Int) < (k : Int) := by omega
                  have hi0 : (0 : Int) ≤ (i : Int) := by omega
                  have hi2 : (i : Int) < (m : Int) := by omega
                  obtain ⟨q, hq⟩ : ∃ q, rs[i]? = some q := ⟨rs[i]'(by have := HM6.out; omega), List.getElem?_eq_getElem (by have := HM6.out; omega)⟩
                  have HNK := Lib.hid (HKY.out i k q p hq HPK.out hik)
                  have cq0 : wr.cell? ⟨G, i * 8, none⟩ = some (.int .i64 q.job) := HGC.out wr i 0 q _ HC4.out hq rfl
                  have cq1 : wr.cell? ⟨G, i * 8 + 1, none⟩ = some (.int .i64 q.att) := HGC.out wr i 1 q _ HC4.out hq rfl
                  have cp0 : wr.cell? ⟨G, k * 8, none⟩ = some (.int .i64 p.job) := HGC.out wr k 0 p _ HC4.out HPK.out rfl
                  have cp1 : wr.cell? ⟨G, k * 8 + 1, none⟩ = some (.int .i64 p.att) := HGC.out wr k 1 p _ HC4.out HPK.out rfl
                  clear hq
                  by_cases hjob : q.job = p.job
                  · have hatt : ¬ q.att = p.att := fun e => HNK.out ⟨hjob, e⟩
                    have HQJ := Lib.hid hjob
                    rw [hjob] at cq0
                    clear hjob HNK
                    go_wp2_with fail
                    go_quiet (fail)
                    go_wp2_with fail
                    go_roundw
                    case rel => exact ⟨i + 1, by omega, by go_num, Lib.hid (HV4.out.drewN nq), Lib.hid (chg_drewN HC4.out nq)⟩
                    case measure => simp [intOf]; omega
                  · clear HNK
                    go_wp2_with fail
                    go_quiet (fail)
                    go_wp2_with fail
                    go_roundw
                    case rel => exact ⟨i + 1, by omega, by go_num, Lib.hid (HV4.out.drewN nq), Lib.hid (chg_drewN HC4.out nq)⟩
                    case measure => simp [intOf]; omega
                · obtain rfl : i = k := by omega
                  go_wp2_with fail
                  go_roundw
                  case rel => exact ⟨i + 1, by omega, by go_num, HV4, HC4⟩
                  case measure => simp [intOf]; omega
        · obtain rfl : k = m := by omega
          have HN9 : Hid (wr.heap[P]? = some (.cells #[.int .i64 nd, .int .i64 (g 0), .int .i64 (g 1), .int .i64 (g 2), .int .i64 (g 3), .slice A n c] 42 (0, 0))) := Lib.hid ((HC.out.block P (by have := HL8.out.bel.size; have := HPS.out; omega) (fun e => by have e : P = Pv := e; have := HPV.out; have := HPS.out; omega)).trans ((HL8.out.bel.block P HPS.out).trans HN1.out))
          have HM9 : Hid (wr.rangeAt P 1 [.int .i64 (g 0), .int .i64 (g 1), .int .i64 (g 2), .int .i64 (g 3)]) := Lib.hid (mid_of [.int .i64 nd] [.int .i64 (g 0), .int .i64 (g 1), .int .i64 (g 2), .int .i64 (g 3)] [.slice A n c] HN9.out rfl)
          have hfit : fitB (sums rs k) g = true := fitB_of (fun d hd => (HBD.out k d hd).2)
          have HL9 : Hid (Lives w1 wr A4 L6 s6) := Lib.hid ⟨HL8.out.at_.chg HC.out (fun x hx ho => by have hx : x = Pv := hx; have := HOW.out x ho; omega), HL8.out.low, HL8.out.bel.trans (HC.out.below HL8.out.bel.size (fun x hx e => by have e : x = Pv := e; have := HPV.out; omega))⟩
          go_wp2_with (first | (refine wpList_load_row rfl 26 (.tmp 14) rfl Pv rfl 26 _ (0, 0) _ HV.out Try.underlying26 rfl (by kernel_rfl) ?_) | (refine wpList_load_mid rfl 26 (.tmp 126) rfl P 1 rfl [.int .i64 (g 0), .int .i64 (g 1), .int .i64 (g 2), .int .i64 (g 3)] _ HM9.out Try.underlying26 rfl (by kernel_rfl) ?_) | (go_at_call 17; refine (rfits_any (sums rs k) g wr).mono ?_; rintro e w9 ⟨rfl, hb⟩; rw [hfit]; have HL10 := Lib.hid (HL9.out.below hb); clear hb))
          go_roundw
          case rel => exact ⟨j + 1, t2, L6, s6, by omega, by go_num, rfl, HL10, HF6, HI6, HG6, ht20, ht21⟩
          case measure => simp [intOf]; omega
    · obtain rfl : j = len := by omega
      go_wp2_with fail
      go_ret
      exact ⟨rfl, HB1.out.trans (HLv.out.bel.mono HB1.out.size)⟩

theorem law_fits (w : World) (nd : Int) (g : Nat → Int) (A : Option Addr) (n c : Nat) (l : List Int) (hn : n = l.length) (hc : CellsIn w w.heap.size 1 A n (ints l)) (hnil : A = none → n = 0 ∧ c = 0) (B0 : Option Addr) (len cap : Nat) (gs : List Ac) (hlen : len = gs.length) (hp : ActsIn w w.heap.size B0 gs) (later : Int) :
    Calls Try.prog 4 #[.agg #[.int .i64 nd, .int .i64 (g 0), .int .i64 (g 1), .int .i64 (g 2), .int .i64 (g 3), .slice A n c], .slice B0 len cap, .int .i64 later] w fun e w' => e = .returned (.bool true) ∧ Below w.heap.size w w' := by
  by_cases h0 : 0 ≤ nd
  · by_cases h16 : nd < 16
    · cases hr : rightB g
      · exact fits_no w nd g A n c l hn hc hnil B0 len cap gs hlen hp later (.inr (.inr hr))
      · exact fits_yes w nd g A n c l hn hc hnil B0 len cap gs hlen hp later h0 h16 hr
    · exact fits_no w nd g A n c l hn hc hnil B0 len cap gs hlen hp later (.inr (.inl (by omega)))
  · exact fits_no w nd g A n c l hn hc hnil B0 len cap gs hlen hp later (.inl (by omega))
end Go.Proofs.Ytoeamofemepgpaa
