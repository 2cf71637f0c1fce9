/- The law CodeBack: the walk. -/
import Derived.Test.YtjhjhklidofhgaaBack01
import Derived.Deep.RegionHeld3
import Derived.Deep.DrawnRows
import Derived.Deep.Cut
namespace Go.Proofs.Ytjhjhklidofhgaa
open Go.RowKit
attribute [local go_sem ↓] Go.wp_at_zero Go.wp_at_succ

theorem WdsIn.take {w : World} {B : Nat} {A : Option Addr} {ds : List Wd} (h : WdsIn w B A ds) (n : Nat) : WdsIn w B A (ds.take n) := by
  rcases h with e | ⟨bb, off, e, h⟩
  · exact .inl (by rw [e]; simp)
  · refine .inr ⟨bb, off, e, fun i d hi => h i d ?_⟩
    rw [List.getElem?_take] at hi
    split at hi
    · exact hi
    · cases hi
theorem below_of_drew {B : Nat} {a w : World} (h : Below B a.drew w) : Below B a w := ⟨h.os, h.tape, h.output, h.size, h.block⟩
theorem WdOk.belowOf {w wr w' : World} {d : Wd} (h : WdOk wr w.heap.size d) (h1 : Below w.heap.size w wr) (h2 : Below w.heap.size w w') : CellsIn w' w.heap.size 1 d.A d.xs.length (cellsI d.xs) := by
  refine ⟨h.r.len, ?_⟩
  rcases h.r.rd with e | ⟨b, off, e, hb', hc⟩
  · exact .inl e
  · refine .inr ⟨b, off, e, hb', fun j u hu => ?_⟩
    rw [h2.cell (p := ⟨b, off + j, none⟩) (by show b < w.heap.size; omega), ← h1.cell (p := ⟨b, off + j, none⟩) (by show b < w.heap.size; omega)]
    exact hc j u hu
theorem WdOk.fine {w : World} {B : Nat} {d : Wd} (h : WdOk w B d) : fineW d := ⟨h.n, h.i, h.x⟩

set_option maxHeartbeats 8000000 in
set_option maxRecDepth 100000 in
/-- The law from the loops on. -/
theorem law_back (A : Option Addr) (c n : Nat) (ds : List Wd) (w : World) (hd : WdsIn w w.heap.size A ds) (hn : n = ds.length) (hnc : n ≤ c) (hc : c ≤ 9223372036854775807) :
    Calls Try.prog 7 #[.slice A n c] w fun e w' => e = .returned (.bool true) ∧ Below w.heap.size w w' := by
  have HD := Lib.hid hd
  have HN := Lib.hid hn
  clear hd hn
  go_enter Try.func7, Try.ntmps7
  go_wp2_with fail
  refine (awake_any w).mono ?_
  rintro e w1 ⟨rfl, hb1⟩
  have HB1 := Lib.hid hb1
  have hs1 : w.heap.size ≤ w1.heap.size := hb1.size
  clear hb1
  by_cases hbig : 100 < n
  · have q100 : decide (100 < (n : Int)) = true := by rw [decide_eq_true_eq]; omega
    obtain ⟨es, hes⟩ : ∃ es, es = ds.take 100 := ⟨_, rfl⟩
    have HE : Hid (WdsIn w w.heap.size A es) := Lib.hid (by rw [hes]; exact HD.out.take 100)
    have HL : Hid (100 = es.length) := Lib.hid (by rw [hes, List.length_take, ← HN.out]; omega)
    have h100 : 100 ≤ c := by omega
    clear hes
    obtain ⟨m, hm⟩ : ∃ m : Nat, m = 100 := ⟨_, rfl⟩
    rw [← hm] at HL
    have hm100 : m ≤ 100 := by omega
    have hmc : m ≤ c := by omega
    have hmi : (100 : Int) = (m : Int) := by omega
    have HMM := Lib.hid hm
    clear hm hmi
    go_upto_region 6 with (fail)
    rw [← HMM.out]
    clear HMM
    go_wp2_with fail
    have hz0 : ∀ s : List UInt8, (str s).size = s.length := fun s => str_size s
    go_loopw [4, 5] (fun v i wr => ∃ (k L : Nat) (A' : Option Addr) (c' : Nat), i = .int .i64 k ∧ k ≤ m ∧ v = .slice A' L c' ∧ L ≤ 11040 * k ∧ Hid (wr.ownsRow w.heap.size 5 1 (.slice A' L c') L (cells8 (encs (es.take k)))) ∧ Hid (∀ d ∈ es.take k, small d ∧ fineW d) ∧ Hid (Below w.heap.size w wr)) (fun _ i _ => m - (intOf i).toNat)
    case atStart => exact ⟨0, 0, none, 0, rfl, by omega, rfl, by omega, Lib.hid (World.ownsRow_nil _ _ _ _), Lib.hid (by simp), HB1⟩
    case round =>
      obtain ⟨k, L, A', c', rfl, hkm, rfl, hL, HO, HSM, HBw⟩ := hrel
      have hsw : w.heap.size ≤ wr.heap.size := HBw.out.size
      by_cases hk : k < m
      · have hke : k < es.length := by rw [← HL.out]; exact hk
        obtain ⟨bb, off, rfl, hat⟩ := HE.out.at_ hke
        have hat2 := hat.below HBw.out
        have HTK := Lib.hid (encs_take es k hke)
        have htk2 : es.take (k + 1) = es.take k ++ [es[k]] := List.take_succ_eq_append_getElem hke
        have HT2 := Lib.hid htk2
        generalize es[k] = d at hat hat2 HTK HT2
        obtain ⟨N, I, s, Ai, ci, xs⟩ := d
        have k0 := hat2.k0
        have k1 := hat2.k1
        have k2 := hat2.k2
        have k3 := hat2.k3
        simp only at k0 k1 k2 k3
        have HW := Lib.hid hat2.ok
        have hbb := hat.lt
        obtain ⟨q, hq⟩ : ∃ q, q = xs.length := ⟨_, rfl⟩
        rw [← hq] at k3
        have HQ := Lib.hid hq
        have hq63 : q ≤ 9223372036854775807 := by rw [hq]; exact hat.ok.m
        have hs63 : s.length ≤ 9223372036854775807 := hat.ok.s
        have hz := hz0 s
        have hkz : (0 : Int) ≤ (k : Int) := by omega
        have hkmI : (k : Int) < (m : Int) := by omega
        clear hat hat2 htk2 hq hz0
        by_cases hbs : 1000 < s.length
        · go_wp2_with fail
          go_ret
          exact ⟨rfl, HBw.out⟩
        by_cases hbm : 1000 < q
        · go_wp2_with fail
          go_ret
          exact ⟨rfl, HBw.out⟩
        have HSD : Hid (small ⟨N, I, s, Ai, ci, xs⟩) := Lib.hid ⟨by simp only; omega, by simp only; rw [← HQ.out]; omega⟩
        have HFD : Hid (fineW ⟨N, I, s, Ai, ci, xs⟩) := Lib.hid HW.out.fine
        go_wp2_with fail
        have hv1 := vb_len10 N HFD.out.1
        have hv2 := vb_len10 (zz I) (zz_lt I HFD.out.2.1.1 HFD.out.2.1.2)
        have hv3 := vb_len10 s.length (by omega)
        have hew := encW_len _ HSD.out HFD.out
        unfold encW at hew
        simp only [List.length_append] at hew
        obtain ⟨n1, hn1⟩ : ∃ n1, n1 = (vb N).length := ⟨_, rfl⟩
        obtain ⟨n2, hn2⟩ : ∃ n2, n2 = (vb (zz I)).length := ⟨_, rfl⟩
        obtain ⟨n3, hn3⟩ : ∃ n3, n3 = (vtext s).length := ⟨_, rfl⟩
        obtain ⟨n4, hn4⟩ : ∃ n4, n4 = (vints xs).length := ⟨_, rfl⟩
        rw [← hn1, ← hn2, ← hn3, ← hn4] at hew
        have HN1 := Lib.hid hn1
        have HN2 := Lib.hid hn2
        have HN3 := Lib.hid hn3
        have HN4 := Lib.hid hn4
        obtain ⟨E0, hE0⟩ : ∃ E0, E0 = encs (es.take k) := ⟨_, rfl⟩
        rw [← hE0] at HO HTK
        have HBI := Lib.hid (bytesIn_of_own HO.out)
        have kd0 : wr.drew.cell? ⟨bb, off + k * 4, none⟩ = some (.int .u64 (N : Int)) := k0
        have kd1 : wr.drew.cell? ⟨bb, off + k * 4 + 1, none⟩ = some (.int .i64 I) := k1
        have kd2 : wr.drew.cell? ⟨bb, off + k * 4 + 2, none⟩ = some (.string (str s)) := k2
        have kd3 : wr.drew.cell? ⟨bb, off + k * 4 + 3, none⟩ = some (.slice Ai q ci) := k3
        have hbr : bb < wr.heap.size := by omega
        have hLk : L ≤ 1104000 := by omega
        clear hv1 hv2 hv3 hn1 hn2 hn3 hn4 hE0
        go_region_held3 (fun w' => w'.cell? ⟨bb, off + k * 4, none⟩ = some (.int .u64 (N : Int)) ∧ w'.cell? ⟨bb, off + k * 4 + 1, none⟩ = some (.int .i64 I) ∧ w'.cell? ⟨bb, off + k * 4 + 2, none⟩ = some (.string (str s)) ∧ w'.cell? ⟨bb, off + k * 4 + 3, none⟩ = some (.slice Ai q ci))
          (refine ⟨?_, ?_, ?_, ?_⟩ <;> (first | with_reducible assumption | with_reducible exact kd0 | with_reducible exact kd1 | with_reducible exact kd2 | with_reducible exact kd3))
          (first
            | (go_at_call 14; refine (eu_any A' c' L E0 N _ HBI.out.2.drew HBI.out.1 (by omega) HFD.out.1).mono ?_; rw [← HN1.out]; rintro e w3 ⟨A3, c3, rfl, ho3, hb3⟩; have HB3 := Lib.hid (HBw.out.trans ((below_of_drew hb3).mono hsw)); have q0 := (hb3.cell (p := ⟨bb, off + k * 4, none⟩) hbr).trans kd0; have q1 := (hb3.cell (p := ⟨bb, off + k * 4 + 1, none⟩) hbr).trans kd1; have q2 := (hb3.cell (p := ⟨bb, off + k * 4 + 2, none⟩) hbr).trans kd2; have q3 := (hb3.cell (p := ⟨bb, off + k * 4 + 3, none⟩) hbr).trans kd3; have hs3 : wr.heap.size ≤ w3.heap.size := hb3.size; have HY3 := Lib.hid (bytesIn_of_own ho3); clear ho3 hb3)
            | (go_at_call 16; refine (ei_any A3 c3 (L + n1) (E0 ++ vb N) I w3 HY3.out.2 HY3.out.1 (by omega) HFD.out.2.1).mono ?_; rw [← HN2.out]; rintro e w4 ⟨A4, c4, rfl, ho4, hb4⟩; have HB4 := Lib.hid (HB3.out.trans (hb4.mono (by omega))); have q0' := (hb4.cell (p := ⟨bb, off + k * 4, none⟩) (by show bb < w3.heap.size; omega)).trans q0; have q1' := (hb4.cell (p := ⟨bb, off + k * 4 + 1, none⟩) (by show bb < w3.heap.size; omega)).trans q1; have q2' := (hb4.cell (p := ⟨bb, off + k * 4 + 2, none⟩) (by show bb < w3.heap.size; omega)).trans q2; have q3' := (hb4.cell (p := ⟨bb, off + k * 4 + 3, none⟩) (by show bb < w3.heap.size; omega)).trans q3; have hs4 : w3.heap.size ≤ w4.heap.size := hb4.size; have HY4 := Lib.hid (bytesIn_of_own ho4); clear ho4 hb4)
            | (go_at_call 19; refine (et_any A4 c4 (L + n1 + n2) (E0 ++ vb N ++ vb (zz I)) s w4 HY4.out.2 HY4.out.1 (by omega) (by omega)).mono ?_; rw [← HN3.out]; rintro e w5 ⟨A5, c5, rfl, ho5, hb5⟩; have HB5 := Lib.hid (HB4.out.trans (hb5.mono (by omega))); have r0 := (hb5.cell (p := ⟨bb, off + k * 4, none⟩) (by show bb < w4.heap.size; omega)).trans q0'; have r1 := (hb5.cell (p := ⟨bb, off + k * 4 + 1, none⟩) (by show bb < w4.heap.size; omega)).trans q1'; have r2 := (hb5.cell (p := ⟨bb, off + k * 4 + 2, none⟩) (by show bb < w4.heap.size; omega)).trans q2'; have r3 := (hb5.cell (p := ⟨bb, off + k * 4 + 3, none⟩) (by show bb < w4.heap.size; omega)).trans q3'; have hs5 : w4.heap.size ≤ w5.heap.size := hb5.size; have HY5 := Lib.hid (bytesIn_of_own ho5); clear ho5 hb5)
            | (go_at_call 21; refine (el_any A5 Ai c5 (L + n1 + n2 + n3) ci q w.heap.size (E0 ++ vb N ++ vb (zz I) ++ vtext s) xs w5 HY5.out.2 HY5.out.1 (by omega) (by rw [HQ.out]; exact (HW.out.belowOf HBw.out HB5.out)) (by omega) HQ.out HFD.out.2.2).mono ?_; rw [← HN4.out]; rintro e w6 ⟨A6, c6, rfl, ho6, hb6⟩; have HB6 := Lib.hid (HB5.out.trans (hb6.mono (by omega))); have r0' := (hb6.cell (p := ⟨bb, off + k * 4, none⟩) (by show bb < w5.heap.size; omega)).trans r0; have r1' := (hb6.cell (p := ⟨bb, off + k * 4 + 1, none⟩) (by show bb < w5.heap.size; omega)).trans r1; have r2' := (hb6.cell (p := ⟨bb, off + k * 4 + 2, none⟩) (by show bb < w5.heap.size; omega)).trans r2; have r3' := (hb6.cell (p := ⟨bb, off + k * 4 + 3, none⟩) (by show bb < w5.heap.size; omega)).trans r3; have hs6 : w5.heap.size ≤ w6.heap.size := hb6.size; have HO6 := Lib.hid (own_low ho6 (show w.heap.size ≤ w5.heap.size by omega)); clear ho6 hb6))
        all_goals
          have HO7 : Hid (w6.ownsRow w.heap.size 5 1 (.slice A6 (L + n1 + n2 + n3 + n4) c6) (L + n1 + n2 + n3 + n4) (cells8 (encs (es.take (k + 1))))) := Lib.hid (by
            rw [HTK.out]; unfold encW; simp only [← List.append_assoc]; exact HO6.out)
          have HSM2 : Hid (∀ d ∈ es.take (k + 1), small d ∧ fineW d) := Lib.hid (by
            rw [HT2.out]
            intro d hd
            rcases List.mem_append.1 hd with h | h
            · exact HSM.out d h
            · have := List.mem_singleton.1 h
              subst this
              exact ⟨HSD.out, HFD.out⟩)
          have hL2 : L + n1 + n2 + n3 + n4 ≤ 11040 * (k + 1) := by omega
          clear q0 q1 q2 q3 q0' q1' q2' q3' r0 r1 r2 r3 r0' r1' r2' r3' k0 k1 k2 k3 kd0 kd1 kd2 kd3
          go_wp2_with fail
          go_roundw
          case rel => exact ⟨k + 1, L + n1 + n2 + n3 + n4, A6, c6, by go_num, by omega, rfl, hL2, HO7, HSM2, HB6⟩
          case measure => simp [intOf]; omega
      · have hkm' : k = m := by omega
        have htk : es.take k = es := List.take_of_length_le (by rw [← HL.out]; omega)
        rw [htk] at HO HSM
        have HLE := Lib.hid (encs_len es HSM.out)
        have hLb : L ≤ 1104000 := by omega
        have HBI := Lib.hid (bytesIn_of_own HO.out)
        clear htk hkm'
        go_wp2_with fail
        refine (read_any A' c' L wr.heap.size (encs es) wr HBI.out.2 HBI.out.1 (Nat.le_refl _)).mono ?_
        rintro e w3 ⟨rfl, hr3, hw3⟩
        have HC3 : Hid (Chg NoBlk wr w3) := by rw [← hw3]; exact (Chg.refl _ _).alloc _
        obtain ⟨g, hg⟩ : ∃ g, g = wr.heap.size := ⟨_, rfl⟩
        rw [← hg] at hr3 ⊢
        have HR3 := Lib.hid hr3
        have hgw : w.heap.size ≤ g := by omega
        have HB3 : Hid (Below w.heap.size w w3) := Lib.hid (HBw.out.trans (HC3.out.below hsw (fun _ _ h => h)))
        have hlen : (encs es).length ≤ 1104000 := by rw [← HBI.out.1]; exact hLb
        have HLEN := Lib.hid hlen
        clear hw3 hr3 hg HO HBI hlen
        go_wp2_with fail
        go_loopw [7] (fun i wr => ∃ (k : Nat) (A1 : Option Addr) (c1 : Nat), i = .int .i64 k ∧ k ≤ m ∧ Hid (RdAt 60 wr g g ⟨encs (es.drop k), 0⟩ A1 c1) ∧ Hid ((encs (es.drop k)).length ≤ 1104000) ∧ Hid (Below w.heap.size w wr)) (fun i _ => m - (intOf i).toNat)
        case atStart => exact ⟨0, A', c', rfl, by omega, HR3, HLEN, HB3⟩
        case round =>
          clear HR3 HB3 HC3 HBw hsw HLEN
          obtain ⟨k, A1, c1, rfl, hkm, HR, HLEN, HBw⟩ := hrel
          have hg1 := HR.out.glt
          by_cases hk : k < m
          · have hke : k < es.length := by rw [← HL.out]; exact hk
            obtain ⟨bb, off, rfl, hat⟩ := HE.out.at_ hke
            have hat2 := hat.below HBw.out
            have hsd := HSM.out es[k] (List.getElem_mem hke)
            have hdr := encs_drop es k hke
            obtain ⟨s1, s2, s3, e1, e2, e3, e4, e5, e6, e7, e8⟩ := enc_read es[k] (encs (es.drop (k + 1))) hsd.1 hsd.2
            rw [← hdr] at e1 e2
            generalize es[k] = d at hat hat2 e1 e3 e5 e7 hsd
            obtain ⟨N, I, s, Ai, ci, xs⟩ := d
            have k0 := hat2.k0
            have k1 := hat2.k1
            have k2 := hat2.k2
            have k3 := hat2.k3
            simp only at k0 k1 k2 k3 e1 e3 e5 e7
            have HW := Lib.hid hat2.ok
            have hbb := hat.lt
            obtain ⟨q, hq⟩ : ∃ q, q = xs.length := ⟨_, rfl⟩
            rw [← hq] at k3
            have HQ := Lib.hid hq
            have hq1000 : q ≤ 1000 := by rw [hq]; exact hsd.1.2
            have hl2 : (encs (es.drop (k + 1))).length ≤ 1104000 := by
              have h1 := HLEN.out
              rw [hdr, List.length_append] at h1
              omega
            have h3l : s3.l.length ≤ 1104000 := by
              rw [← e6]
              refine Nat.le_trans (rtS_le s2 1000) ?_
              rw [← e4]
              refine Nat.le_trans (ruS_len s1) ?_
              rw [← e2]
              exact Nat.le_trans (ruS_len _) HLEN.out
            have HL2 := Lib.hid hl2
            have E1 := Lib.hid e1
            have E2 := Lib.hid e2
            have E3 := Lib.hid e3
            have E4 := Lib.hid e4
            have E5 := Lib.hid e5
            have E6 := Lib.hid e6
            have E7 := Lib.hid e7
            have E8 := Lib.hid e8
            have hkz : (0 : Int) ≤ (k : Int) := by omega
            have hkmI : (k : Int) < (m : Int) := by omega
            have hbg : bb < g := by omega
            clear hat hat2 hq hsd hdr e1 e2 e3 e4 e5 e6 e7 e8 hl2
            go_wp2_with fail
            have HRd := Lib.hid (HR.out.chg0 ((Chg.refl NoBlk wr).drew))
            have HBd : Hid (Below w.heap.size w (wr).drew) := Lib.hid ⟨HBw.out.os, HBw.out.tape, HBw.out.output, HBw.out.size, HBw.out.block⟩
            have kd0 : (wr).drew.cell? ⟨bb, off + k * 4, none⟩ = some (.int .u64 (N : Int)) := k0
            have kd1 : (wr).drew.cell? ⟨bb, off + k * 4 + 1, none⟩ = some (.int .i64 I) := k1
            have kd2 : (wr).drew.cell? ⟨bb, off + k * 4 + 2, none⟩ = some (.string (str s)) := k2
            have kd3 : (wr).drew.cell? ⟨bb, off + k * 4 + 3, none⟩ = some (.slice Ai q ci) := k3
            have hbd : w.heap.size ≤ (wr).drew.heap.size := by show w.heap.size ≤ (wr).heap.size; omega
            go_region_held3 (fun w' => w'.cell? ⟨bb, off + k * 4, none⟩ = some (.int .u64 (N : Int)) ∧ w'.cell? ⟨bb, off + k * 4 + 1, none⟩ = some (.int .i64 I) ∧ w'.cell? ⟨bb, off + k * 4 + 2, none⟩ = some (.string (str s)) ∧ w'.cell? ⟨bb, off + k * 4 + 3, none⟩ = some (.slice Ai q ci))
              (refine ⟨?_, ?_, ?_, ?_⟩ <;> (first | with_reducible assumption | with_reducible exact kd0 | with_reducible exact kd1 | with_reducible exact kd2 | with_reducible exact kd3))
              (first
                | (go_at_call 11; refine (ru_any g g _ A1 c1 _ HRd.out).mono ?_; rw [E1.out, E2.out]; rintro e w3 ⟨rfl, hr⟩; have HB3 := Lib.hid (HBd.out.trans (hr.chg.below (B := w.heap.size) hbd (fun k hk e => by omega))); have q0 := hr.chg.cell kd0 (by simp only; omega); have q1 := hr.chg.cell kd1 (by simp only; omega); have q2 := hr.chg.cell kd2 (by simp only; omega); have q3 := hr.chg.cell kd3 (by simp only; omega); obtain ⟨A3, c3, hr'⟩ := hr.open_; have HR3 := Lib.hid hr'; have hg3 := hr'.glt; clear hr hr')
                | (go_at_call 15; refine (ri_any g g s1 A3 c3 w3 HR3.out).mono ?_; rw [E3.out, E4.out]; rintro e w4 ⟨rfl, hr⟩; have HB4 := Lib.hid (HB3.out.trans (hr.chg.below (B := w.heap.size) (by omega) (fun k hk e => by omega))); have q0' := hr.chg.cell q0 (by simp only; omega); have q1' := hr.chg.cell q1 (by simp only; omega); have q2' := hr.chg.cell q2 (by simp only; omega); have q3' := hr.chg.cell q3 (by simp only; omega); obtain ⟨A4, c4, hr'⟩ := hr.open_; have HR4 := Lib.hid hr'; have hg4 := hr'.glt; clear hr hr')
                | (go_at_call 25; refine (rt_any g g s2 A4 c4 1000 (by omega) w4 HR4.out).mono ?_; rw [E5.out, E6.out]; rintro e w5 ⟨rfl, hr⟩; have HB5 := Lib.hid (HB4.out.trans (hr.chg.below (B := w.heap.size) (by omega) (fun k hk e => by omega))); have r0 := hr.chg.cell q0' (by simp only; omega); have r1 := hr.chg.cell q1' (by simp only; omega); have r2 := hr.chg.cell q2' (by simp only; omega); have r3 := hr.chg.cell q3' (by simp only; omega); obtain ⟨A5, c5, hr'⟩ := hr.open_; have HR5 := Lib.hid hr'; have hg5 := hr'.glt; clear hr hr')
                | (go_at_call 28; refine (rl_any g g s3 A5 c5 1000 (by omega) w5 HR5.out (by omega)).mono ?_; rw [E7.out, E8.out, ← HQ.out]; rintro e w6 ⟨Ao, co, rfl, ho, hr⟩; have HB6 := Lib.hid (HB5.out.trans (hr.chg.below (B := w.heap.size) (by omega) (fun k hk e => by omega))); have r0' := hr.chg.cell r0 (by simp only; omega); have r1' := hr.chg.cell r1 (by simp only; omega); have r2' := hr.chg.cell r2 (by simp only; omega); have r3' := hr.chg.cell r3 (by simp only; omega); obtain ⟨A6, c6, hr'⟩ := hr.open_; have HR6 := Lib.hid hr'; have hg6 := hr'.glt; have HO6 := Lib.hid ho; clear hr hr' ho)
                | (go_at_call 27; refine (same_any Ao Ai co ci q q _ _ xs xs w6 (cellsIn_of_own HO6.out) (by rw [HQ.out]; exact HW.out.belowOf HBw.out HB6.out) HQ.out HQ.out (by omega) (by omega)).mono ?_; rintro e w7 ⟨rfl, kk, rfl⟩; have t0 : (w6.drewN kk).cell? ⟨bb, off + k * 4, none⟩ = some (.int .u64 (N : Int)) := r0'; have t1 : (w6.drewN kk).cell? ⟨bb, off + k * 4 + 1, none⟩ = some (.int .i64 I) := r1'; have t2 : (w6.drewN kk).cell? ⟨bb, off + k * 4 + 2, none⟩ = some (.string (str s)) := r2'; have t3 : (w6.drewN kk).cell? ⟨bb, off + k * 4 + 3, none⟩ = some (.slice Ai q ci) := r3'))
            all_goals
              have HR7 := Lib.hid (HR6.out.drewN kk)
              have HB7 := Lib.hid (below_dn (n := kk) HB6.out)
              clear q0 q1 q2 q3 q0' q1' q2' q3' r0 r1 r2 r3 r0' r1' r2' r3' t0 t1 t2 t3 k0 k1 k2 k3 kd0 kd1 kd2 kd3
              generalize w6.drewN kk = w7 at HR7 HB7 ⊢
              go_wp2_with fail
              go_roundw
              case rel => exact ⟨k + 1, A6, c6, by go_num, by omega, HR7, HL2, HB7⟩
              case measure => simp [intOf]; omega
          · have htk : es.drop k = [] := List.drop_eq_nil_of_le (by rw [← HL.out]; omega)
            rw [htk] at HR
            clear htk
            go_wp2_with fail
            refine (left_any g g ⟨encs [], 0⟩ A1 c1 0 _ HR.out rfl).mono ?_
            rintro e w' ⟨rfl, rfl⟩
            go_wp2_with fail
            refine (end_any g g ⟨encs [], 0⟩ A1 c1 _ HR.out).mono ?_
            rw [show rendS ⟨encs [], 0⟩ = ⟨[], 0⟩ from rfl]
            rintro e w4 ⟨rfl, hr⟩
            have HB4 := Lib.hid (HBw.out.trans (hr.chg.below (B := w.heap.size) (by omega) (fun k hk e => by omega)))
            clear hr
            go_wp2_with fail
            go_ret
            exact ⟨rfl, HB4.out⟩
  · have q100 : decide (100 < (n : Int)) = false := by rw [decide_eq_false_iff_not]; omega
    obtain ⟨es, hes⟩ : ∃ es, es = ds := ⟨_, rfl⟩
    have HE : Hid (WdsIn w w.heap.size A es) := Lib.hid (by rw [hes]; exact HD.out)
    obtain ⟨m, hm⟩ : ∃ m : Nat, m = n := ⟨_, rfl⟩
    have HL : Hid (m = es.length) := Lib.hid (by rw [hes, hm]; exact HN.out)
    have hm100 : m ≤ 100 := by omega
    have hmc : m ≤ c := by omega
    rw [hm] at HL hm100 hmc
    clear hes hm
    go_wp2_with fail
    have hz0 : ∀ s : List UInt8, (str s).size = s.length := fun s => str_size s
    go_loopw [4, 5] (fun v i wr => ∃ (k L : Nat) (A' : Option Addr) (c' : Nat), i = .int .i64 k ∧ k ≤ n ∧ v = .slice A' L c' ∧ L ≤ 11040 * k ∧ Hid (wr.ownsRow w.heap.size 5 1 (.slice A' L c') L (cells8 (encs (es.take k)))) ∧ Hid (∀ d ∈ es.take k, small d ∧ fineW d) ∧ Hid (Below w.heap.size w wr)) (fun _ i _ => n - (intOf i).toNat)
    case atStart => exact ⟨0, 0, none, 0, rfl, by omega, rfl, by omega, Lib.hid (World.ownsRow_nil _ _ _ _), Lib.hid (by simp), HB1⟩
    case round =>
      obtain ⟨k, L, A', c', rfl, hkm, rfl, hL, HO, HSM, HBw⟩ := hrel
      have hsw : w.heap.size ≤ wr.heap.size := HBw.out.size
      by_cases hk : k < n
      · have hke : k < es.length := by rw [← HL.out]; exact hk
        obtain ⟨bb, off, rfl, hat⟩ := HE.out.at_ hke
        have hat2 := hat.below HBw.out
        have HTK := Lib.hid (encs_take es k hke)
        have htk2 : es.take (k + 1) = es.take k ++ [es[k]] := List.take_succ_eq_append_getElem hke
        have HT2 := Lib.hid htk2
        generalize es[k] = d at hat hat2 HTK HT2
        obtain ⟨N, I, s, Ai, ci, xs⟩ := d
        have k0 := hat2.k0
        have k1 := hat2.k1
        have k2 := hat2.k2
        have k3 := hat2.k3
        simp only at k0 k1 k2 k3
        have HW := Lib.hid hat2.ok
        have hbb := hat.lt
        obtain ⟨q, hq⟩ : ∃ q, q = xs.length := ⟨_, rfl⟩
        rw [← hq] at k3
        have HQ := Lib.hid hq
        have hq63 : q ≤ 9223372036854775807 := by rw [hq]; exact hat.ok.m
        have hs63 : s.length ≤ 9223372036854775807 := hat.ok.s
        have hz := hz0 s
        have hkz : (0 : Int) ≤ (k : Int) := by omega
        have hkmI : (k : Int) < (n : Int) := by omega
        clear hat hat2 htk2 hq hz0
        by_cases hbs : 1000 < s.length
        · go_wp2_with fail
          go_ret
          exact ⟨rfl, HBw.out⟩
        by_cases hbm : 1000 < q
        · go_wp2_with fail
          go_ret
          exact ⟨rfl, HBw.out⟩
        have HSD : Hid (small ⟨N, I, s, Ai, ci, xs⟩) := Lib.hid ⟨by simp only; omega, by simp only; rw [← HQ.out]; omega⟩
        have HFD : Hid (fineW ⟨N, I, s, Ai, ci, xs⟩) := Lib.hid HW.out.fine
        go_wp2_with fail
        have hv1 := vb_len10 N HFD.out.1
        have hv2 := vb_len10 (zz I) (zz_lt I HFD.out.2.1.1 HFD.out.2.1.2)
        have hv3 := vb_len10 s.length (by omega)
        have hew := encW_len _ HSD.out HFD.out
        unfold encW at hew
        simp only [List.length_append] at hew
        obtain ⟨n1, hn1⟩ : ∃ n1, n1 = (vb N).length := ⟨_, rfl⟩
        obtain ⟨n2, hn2⟩ : ∃ n2, n2 = (vb (zz I)).length := ⟨_, rfl⟩
        obtain ⟨n3, hn3⟩ : ∃ n3, n3 = (vtext s).length := ⟨_, rfl⟩
        obtain ⟨n4, hn4⟩ : ∃ n4, n4 = (vints xs).length := ⟨_, rfl⟩
        rw [← hn1, ← hn2, ← hn3, ← hn4] at hew
        have HN1 := Lib.hid hn1
        have HN2 := Lib.hid hn2
        have HN3 := Lib.hid hn3
        have HN4 := Lib.hid hn4
        obtain ⟨E0, hE0⟩ : ∃ E0, E0 = encs (es.take k) := ⟨_, rfl⟩
        rw [← hE0] at HO HTK
        have HBI := Lib.hid (bytesIn_of_own HO.out)
        have kd0 : wr.drew.cell? ⟨bb, off + k * 4, none⟩ = some (.int .u64 (N : Int)) := k0
        have kd1 : wr.drew.cell? ⟨bb, off + k * 4 + 1, none⟩ = some (.int .i64 I) := k1
        have kd2 : wr.drew.cell? ⟨bb, off + k * 4 + 2, none⟩ = some (.string (str s)) := k2
        have kd3 : wr.drew.cell? ⟨bb, off + k * 4 + 3, none⟩ = some (.slice Ai q ci) := k3
        have hbr : bb < wr.heap.size := by omega
        have hLk : L ≤ 1104000 := by omega
        clear hv1 hv2 hv3 hn1 hn2 hn3 hn4 hE0
        go_region_held3 (fun w' => w'.cell? ⟨bb, off + k * 4, none⟩ = some (.int .u64 (N : Int)) ∧ w'.cell? ⟨bb, off + k * 4 + 1, none⟩ = some (.int .i64 I) ∧ w'.cell? ⟨bb, off + k * 4 + 2, none⟩ = some (.string (str s)) ∧ w'.cell? ⟨bb, off + k * 4 + 3, none⟩ = some (.slice Ai q ci))
          (refine ⟨?_, ?_, ?_, ?_⟩ <;> (first | with_reducible assumption | with_reducible exact kd0 | with_reducible exact kd1 | with_reducible exact kd2 | with_reducible exact kd3))
          (first
            | (go_at_call 14; refine (eu_any A' c' L E0 N _ HBI.out.2.drew HBI.out.1 (by omega) HFD.out.1).mono ?_; rw [← HN1.out]; rintro e w3 ⟨A3, c3, rfl, ho3, hb3⟩; have HB3 := Lib.hid (HBw.out.trans ((below_of_drew hb3).mono hsw)); have q0 := (hb3.cell (p := ⟨bb, off + k * 4, none⟩) hbr).trans kd0; have q1 := (hb3.cell (p := ⟨bb, off + k * 4 + 1, none⟩) hbr).trans kd1; have q2 := (hb3.cell (p := ⟨bb, off + k * 4 + 2, none⟩) hbr).trans kd2; have q3 := (hb3.cell (p := ⟨bb, off + k * 4 + 3, none⟩) hbr).trans kd3; have hs3 : wr.heap.size ≤ w3.heap.size := hb3.size; have HY3 := Lib.hid (bytesIn_of_own ho3); clear ho3 hb3)
            | (go_at_call 16; refine (ei_any A3 c3 (L + n1) (E0 ++ vb N) I w3 HY3.out.2 HY3.out.1 (by omega) HFD.out.2.1).mono ?_; rw [← HN2.out]; rintro e w4 ⟨A4, c4, rfl, ho4, hb4⟩; have HB4 := Lib.hid (HB3.out.trans (hb4.mono (by omega))); have q0' := (hb4.cell (p := ⟨bb, off + k * 4, none⟩) (by show bb < w3.heap.size; omega)).trans q0; have q1' := (hb4.cell (p := ⟨bb, off + k * 4 + 1, none⟩) (by show bb < w3.heap.size; omega)).trans q1; have q2' := (hb4.cell (p := ⟨bb, off + k * 4 + 2, none⟩) (by show bb < w3.heap.size; omega)).trans q2; have q3' := (hb4.cell (p := ⟨bb, off + k * 4 + 3, none⟩) (by show bb < w3.heap.size; omega)).trans q3; have hs4 : w3.heap.size ≤ w4.heap.size := hb4.size; have HY4 := Lib.hid (bytesIn_of_own ho4); clear ho4 hb4)
            | (go_at_call 19; refine (et_any A4 c4 (L + n1 + n2) (E0 ++ vb N ++ vb (zz I)) s w4 HY4.out.2 HY4.out.1 (by omega) (by omega)).mono ?_; rw [← HN3.out]; rintro e w5 ⟨A5, c5, rfl, ho5, hb5⟩; have HB5 := Lib.hid (HB4.out.trans (hb5.mono (by omega))); have r0 := (hb5.cell (p := ⟨bb, off + k * 4, none⟩) (by show bb < w4.heap.size; omega)).trans q0'; have r1 := (hb5.cell (p := ⟨bb, off + k * 4 + 1, none⟩) (by show bb < w4.heap.size; omega)).trans q1'; have r2 := (hb5.cell (p := ⟨bb, off + k * 4 + 2, none⟩) (by show bb < w4.heap.size; omega)).trans q2'; have r3 := (hb5.cell (p := ⟨bb, off + k * 4 + 3, none⟩) (by show bb < w4.heap.size; omega)).trans q3'; have hs5 : w4.heap.size ≤ w5.heap.size := hb5.size; have HY5 := Lib.hid (bytesIn_of_own ho5); clear ho5 hb5)
            | (go_at_call 21; refine (el_any A5 Ai c5 (L + n1 + n2 + n3) ci q w.heap.size (E0 ++ vb N ++ vb (zz I) ++ vtext s) xs w5 HY5.out.2 HY5.out.1 (by omega) (by rw [HQ.out]; exact (HW.out.belowOf HBw.out HB5.out)) (by omega) HQ.out HFD.out.2.2).mono ?_; rw [← HN4.out]; rintro e w6 ⟨A6, c6, rfl, ho6, hb6⟩; have HB6 := Lib.hid (HB5.out.trans (hb6.mono (by omega))); have r0' := (hb6.cell (p := ⟨bb, off + k * 4, none⟩) (by show bb < w5.heap.size; omega)).trans r0; have r1' := (hb6.cell (p := ⟨bb, off + k * 4 + 1, none⟩) (by show bb < w5.heap.size; omega)).trans r1; have r2' := (hb6.cell (p := ⟨bb, off + k * 4 + 2, none⟩) (by show bb < w5.heap.size; omega)).trans r2; have r3' := (hb6.cell (p := ⟨bb, off + k * 4 + 3, none⟩) (by show bb < w5.heap.size; omega)).trans r3; have hs6 : w5.heap.size ≤ w6.heap.size := hb6.size; have HO6 := Lib.hid (own_low ho6 (show w.heap.size ≤ w5.heap.size by omega)); clear ho6 hb6))
        all_goals
          have HO7 : Hid (w6.ownsRow w.heap.size 5 1 (.slice A6 (L + n1 + n2 + n3 + n4) c6) (L + n1 + n2 + n3 + n4) (cells8 (encs (es.take (k + 1))))) := Lib.hid (by
            rw [HTK.out]; unfold encW; simp only [← List.append_assoc]; exact HO6.out)
          have HSM2 : Hid (∀ d ∈ es.take (k + 1), small d ∧ fineW d) := Lib.hid (by
            rw [HT2.out]
            intro d hd
            rcases List.mem_append.1 hd with h | h
            · exact HSM.out d h
            · have := List.mem_singleton.1 h
              subst this
              exact ⟨HSD.out, HFD.out⟩)
          have hL2 : L + n1 + n2 + n3 + n4 ≤ 11040 * (k + 1) := by omega
          clear q0 q1 q2 q3 q0' q1' q2' q3' r0 r1 r2 r3 r0' r1' r2' r3' k0 k1 k2 k3 kd0 kd1 kd2 kd3
          go_wp2_with fail
          go_roundw
          case rel => exact ⟨k + 1, L + n1 + n2 + n3 + n4, A6, c6, by go_num, by omega, rfl, hL2, HO7, HSM2, HB6⟩
          case measure => simp [intOf]; omega
      · have hkm' : k = n := by omega
        have htk : es.take k = es := List.take_of_length_le (by rw [← HL.out]; omega)
        rw [htk] at HO HSM
        have HLE := Lib.hid (encs_len es HSM.out)
        have hLb : L ≤ 1104000 := by omega
        have HBI := Lib.hid (bytesIn_of_own HO.out)
        clear htk hkm'
        go_wp2_with fail
        refine (read_any A' c' L wr.heap.size (encs es) wr HBI.out.2 HBI.out.1 (Nat.le_refl _)).mono ?_
        rintro e w3 ⟨rfl, hr3, hw3⟩
        have HC3 : Hid (Chg NoBlk wr w3) := by rw [← hw3]; exact (Chg.refl _ _).alloc _
        obtain ⟨g, hg⟩ : ∃ g, g = wr.heap.size := ⟨_, rfl⟩
        rw [← hg] at hr3 ⊢
        have HR3 := Lib.hid hr3
        have hgw : w.heap.size ≤ g := by omega
        have HB3 : Hid (Below w.heap.size w w3) := Lib.hid (HBw.out.trans (HC3.out.below hsw (fun _ _ h => h)))
        have hlen : (encs es).length ≤ 1104000 := by rw [← HBI.out.1]; exact hLb
        have HLEN := Lib.hid hlen
        clear hw3 hr3 hg HO HBI hlen
        go_wp2_with fail
        go_loopw [7] (fun i wr => ∃ (k : Nat) (A1 : Option Addr) (c1 : Nat), i = .int .i64 k ∧ k ≤ n ∧ Hid (RdAt 60 wr g g ⟨encs (es.drop k), 0⟩ A1 c1) ∧ Hid ((encs (es.drop k)).length ≤ 1104000) ∧ Hid (Below w.heap.size w wr)) (fun i _ => n - (intOf i).toNat)
        case atStart => exact ⟨0, A', c', rfl, by omega, HR3, HLEN, HB3⟩
        case round =>
          clear HR3 HB3 HC3 HBw hsw HLEN
          obtain ⟨k, A1, c1, rfl, hkm, HR, HLEN, HBw⟩ := hrel
          have hg1 := HR.out.glt
          by_cases hk : k < n
          · have hke : k < es.length := by rw [← HL.out]; exact hk
            obtain ⟨bb, off, rfl, hat⟩ := HE.out.at_ hke
            have hat2 := hat.below HBw.out
            have hsd := HSM.out es[k] (List.getElem_mem hke)
            have hdr := encs_drop es k hke
            obtain ⟨s1, s2, s3, e1, e2, e3, e4, e5, e6, e7, e8⟩ := enc_read es[k] (encs (es.drop (k + 1))) hsd.1 hsd.2
            rw [← hdr] at e1 e2
            generalize es[k] = d at hat hat2 e1 e3 e5 e7 hsd
            obtain ⟨N, I, s, Ai, ci, xs⟩ := d
            have k0 := hat2.k0
            have k1 := hat2.k1
            have k2 := hat2.k2
            have k3 := hat2.k3
            simp only at k0 k1 k2 k3 e1 e3 e5 e7
            have HW := Lib.hid hat2.ok
            have hbb := hat.lt
            obtain ⟨q, hq⟩ : ∃ q, q = xs.length := ⟨_, rfl⟩
            rw [← hq] at k3
            have HQ := Lib.hid hq
            have hq1000 : q ≤ 1000 := by rw [hq]; exact hsd.1.2
            have hl2 : (encs (es.drop (k + 1))).length ≤ 1104000 := by
              have h1 := HLEN.out
              rw [hdr, List.length_append] at h1
              omega
            have h3l : s3.l.length ≤ 1104000 := by
              rw [← e6]
              refine Nat.le_trans (rtS_le s2 1000) ?_
              rw [← e4]
              refine Nat.le_trans (ruS_len s1) ?_
              rw [← e2]
              exact Nat.le_trans (ruS_len _) HLEN.out
            have HL2 := Lib.hid hl2
            have E1 := Lib.hid e1
            have E2 := Lib.hid e2
            have E3 := Lib.hid e3
            have E4 := Lib.hid e4
            have E5 := Lib.hid e5
            have E6 := Lib.hid e6
            have E7 := Lib.hid e7
            have E8 := Lib.hid e8
            have hkz : (0 : Int) ≤ (k : Int) := by omega
            have hkmI : (k : Int) < (n : Int) := by omega
            have hbg : bb < g := by omega
            clear hat hat2 hq hsd hdr e1 e2 e3 e4 e5 e6 e7 e8 hl2
            go_wp2_with fail
            have HRd := Lib.hid (HR.out.chg0 ((Chg.refl NoBlk wr).drew))
            have HBd : Hid (Below w.heap.size w (wr).drew) := Lib.hid ⟨HBw.out.os, HBw.out.tape, HBw.out.output, HBw.out.size, HBw.out.block⟩
            have kd0 : (wr).drew.cell? ⟨bb, off + k * 4, none⟩ = some (.int .u64 (N : Int)) := k0
            have kd1 : (wr).drew.cell? ⟨bb, off + k * 4 + 1, none⟩ = some (.int .i64 I) := k1
            have kd2 : (wr).drew.cell? ⟨bb, off + k * 4 + 2, none⟩ = some (.string (str s)) := k2
            have kd3 : (wr).drew.cell? ⟨bb, off + k * 4 + 3, none⟩ = some (.slice Ai q ci) := k3
            have hbd : w.heap.size ≤ (wr).drew.heap.size := by show w.heap.size ≤ (wr).heap.size; omega
            go_region_held3 (fun w' => w'.cell? ⟨bb, off + k * 4, none⟩ = some (.int .u64 (N : Int)) ∧ w'.cell? ⟨bb, off + k * 4 + 1, none⟩ = some (.int .i64 I) ∧ w'.cell? ⟨bb, off + k * 4 + 2, none⟩ = some (.string (str s)) ∧ w'.cell? ⟨bb, off + k * 4 + 3, none⟩ = some (.slice Ai q ci))
              (refine ⟨?_, ?_, ?_, ?_⟩ <;> (first | with_reducible assumption | with_reducible exact kd0 | with_reducible exact kd1 | with_reducible exact kd2 | with_reducible exact kd3))
              (first
                | (go_at_call 11; refine (ru_any g g _ A1 c1 _ HRd.out).mono ?_; rw [E1.out, E2.out]; rintro e w3 ⟨rfl, hr⟩; have HB3 := Lib.hid (HBd.out.trans (hr.chg.below (B := w.heap.size) hbd (fun k hk e => by omega))); have q0 := hr.chg.cell kd0 (by simp only; omega); have q1 := hr.chg.cell kd1 (by simp only; omega); have q2 := hr.chg.cell kd2 (by simp only; omega); have q3 := hr.chg.cell kd3 (by simp only; omega); obtain ⟨A3, c3, hr'⟩ := hr.open_; have HR3 := Lib.hid hr'; have hg3 := hr'.glt; clear hr hr')
                | (go_at_call 15; refine (ri_any g g s1 A3 c3 w3 HR3.out).mono ?_; rw [E3.out, E4.out]; rintro e w4 ⟨rfl, hr⟩; have HB4 := Lib.hid (HB3.out.trans (hr.chg.below (B := w.heap.size) (by omega) (fun k hk e => by omega))); have q0' := hr.chg.cell q0 (by simp only; omega); have q1' := hr.chg.cell q1 (by simp only; omega); have q2' := hr.chg.cell q2 (by simp only; omega); have q3' := hr.chg.cell q3 (by simp only; omega); obtain ⟨A4, c4, hr'⟩ := hr.open_; have HR4 := Lib.hid hr'; have hg4 := hr'.glt; clear hr hr')
                | (go_at_call 25; refine (rt_any g g s2 A4 c4 1000 (by omega) w4 HR4.out).mono ?_; rw [E5.out, E6.out]; rintro e w5 ⟨rfl, hr⟩; have HB5 := Lib.hid (HB4.out.trans (hr.chg.below (B := w.heap.size) (by omega) (fun k hk e => by omega))); have r0 := hr.chg.cell q0' (by simp only; omega); have r1 := hr.chg.cell q1' (by simp only; omega); have r2 := hr.chg.cell q2' (by simp only; omega); have r3 := hr.chg.cell q3' (by simp only; omega); obtain ⟨A5, c5, hr'⟩ := hr.open_; have HR5 := Lib.hid hr'; have hg5 := hr'.glt; clear hr hr')
                | (go_at_call 28; refine (rl_any g g s3 A5 c5 1000 (by omega) w5 HR5.out (by omega)).mono ?_; rw [E7.out, E8.out, ← HQ.out]; rintro e w6 ⟨Ao, co, rfl, ho, hr⟩; have HB6 := Lib.hid (HB5.out.trans (hr.chg.below (B := w.heap.size) (by omega) (fun k hk e => by omega))); have r0' := hr.chg.cell r0 (by simp only; omega); have r1' := hr.chg.cell r1 (by simp only; omega); have r2' := hr.chg.cell r2 (by simp only; omega); have r3' := hr.chg.cell r3 (by simp only; omega); obtain ⟨A6, c6, hr'⟩ := hr.open_; have HR6 := Lib.hid hr'; have hg6 := hr'.glt; have HO6 := Lib.hid ho; clear hr hr' ho)
                | (go_at_call 27; refine (same_any Ao Ai co ci q q _ _ xs xs w6 (cellsIn_of_own HO6.out) (by rw [HQ.out]; exact HW.out.belowOf HBw.out HB6.out) HQ.out HQ.out (by omega) (by omega)).mono ?_; rintro e w7 ⟨rfl, kk, rfl⟩; have t0 : (w6.drewN kk).cell? ⟨bb, off + k * 4, none⟩ = some (.int .u64 (N : Int)) := r0'; have t1 : (w6.drewN kk).cell? ⟨bb, off + k * 4 + 1, none⟩ = some (.int .i64 I) := r1'; have t2 : (w6.drewN kk).cell? ⟨bb, off + k * 4 + 2, none⟩ = some (.string (str s)) := r2'; have t3 : (w6.drewN kk).cell? ⟨bb, off + k * 4 + 3, none⟩ = some (.slice Ai q ci) := r3'))
            all_goals
              have HR7 := Lib.hid (HR6.out.drewN kk)
              have HB7 := Lib.hid (below_dn (n := kk) HB6.out)
              clear q0 q1 q2 q3 q0' q1' q2' q3' r0 r1 r2 r3 r0' r1' r2' r3' t0 t1 t2 t3 k0 k1 k2 k3 kd0 kd1 kd2 kd3
              generalize w6.drewN kk = w7 at HR7 HB7 ⊢
              go_wp2_with fail
              go_roundw
              case rel => exact ⟨k + 1, A6, c6, by go_num, by omega, HR7, HL2, HB7⟩
              case measure => simp [intOf]; omega
          · have htk : es.drop k = [] := List.drop_eq_nil_of_le (by rw [← HL.out]; omega)
            rw [htk] at HR
            clear htk
            go_wp2_with fail
            refine (left_any g g ⟨encs [], 0⟩ A1 c1 0 _ HR.out rfl).mono ?_
            rintro e w' ⟨rfl, rfl⟩
            go_wp2_with fail
            refine (end_any g g ⟨encs [], 0⟩ A1 c1 _ HR.out).mono ?_
            rw [show rendS ⟨encs [], 0⟩ = ⟨[], 0⟩ from rfl]
            rintro e w4 ⟨rfl, hr⟩
            have HB4 := Lib.hid (HBw.out.trans (hr.chg.below (B := w.heap.size) (by omega) (fun k hk e => by omega)))
            clear hr
            go_wp2_with fail
            go_ret
            exact ⟨rfl, HB4.out⟩
end Go.Proofs.Ytjhjhklidofhgaa
