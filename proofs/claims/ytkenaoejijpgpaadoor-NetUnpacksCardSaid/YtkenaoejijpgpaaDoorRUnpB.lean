/- The document unpacks bytes: the kinds 1, 2, 4. -/
import Derived.Test.YtkenaoejijpgpaaDoorRUnp0
namespace Go.Proofs.YtkenaoejijpgpaaDoor
open Go.RowKit

set_option maxRecDepth 100000 in
set_option maxHeartbeats 8000000 in
theorem runp_1 (A : Option Addr) (n c : Nat) (l : List UInt8) (w : World) (hb : BytesIn w w.heap.size A c l) (hn : n = l.length) (hE : lookE l = 0) (hr : ¬ num4 l + 8 < l.length) (hk : upK l = 1) :
    Calls Tryd.prog 16 #[.slice A n c] w fun e w' => UnpAt l w e w' := by
  have hal : Below w.heap.size w (w.alloc (.cells #[.int .i64 0, .int .i64 0, .int .i64 0, .int .i64 0, .int .i64 0, .int .i64 0, .int .i64 0, .int .i64 0, .int .i64 0, .int .i64 0, .int .i64 0, .int .i64 0, .int .i64 0, .int .i64 0, .int .i64 0, .int .i64 0, .int .i64 0, .slice none 0 0, .int .i64 0, .int .i64 0, .int .i64 0] 29)) := (Below.refl w.heap.size w).alloc (Nat.le_refl _) _
  have hres := heap_alloc_new w (.cells #[.int .i64 0, .int .i64 0, .int .i64 0, .int .i64 0, .int .i64 0, .int .i64 0, .int .i64 0, .int .i64 0, .int .i64 0, .int .i64 0, .int .i64 0, .int .i64 0, .int .i64 0, .int .i64 0, .int .i64 0, .int .i64 0, .int .i64 0, .slice none 0 0, .int .i64 0, .int .i64 0, .int .i64 0] 29)
  have HB0 := Lib.hid hal
  have HT0 := Lib.hid (hb.below hal (Nat.le_refl _))
  obtain ⟨S, hS⟩ : ∃ S, S = w.heap.size := ⟨_, rfl⟩
  have hs0 : S < (w.alloc (.cells #[.int .i64 0, .int .i64 0, .int .i64 0, .int .i64 0, .int .i64 0, .int .i64 0, .int .i64 0, .int .i64 0, .int .i64 0, .int .i64 0, .int .i64 0, .int .i64 0, .int .i64 0, .int .i64 0, .int .i64 0, .int .i64 0, .int .i64 0, .slice none 0 0, .int .i64 0, .int .i64 0, .int .i64 0] 29)).heap.size := by simp [hS]
  rw [← hS] at hres
  have HR0 := Lib.hid hres
  have HSW : Hid (w.heap.size = S) := Lib.hid hS.symm
  have HN := Lib.hid hn
  have HE := Lib.hid hE
  have HRT := Lib.hid hr
  have HRX := Lib.hid hr
  have HK : Hid (upK l = 1) := Lib.hid hk
  have he : (ruS (bodyRd l)).e = 0 := by
    by_cases he : (ruS (bodyRd l)).e = 0
    · exact he
    · have : upK l = 0 := ri_bad rfl he
      rw [hk] at this; cases this
  have HEE := Lib.hid he
  obtain ⟨p0, hp0⟩ : ∃ p, p = up0 l := ⟨_, rfl⟩
  have HP0 : Hid (p0 = (ruS (bodyRd l), fun i => if i = 0 then 1 else 0)) := Lib.hid (by rw [hp0]; unfold up0; rw [hk]; rfl)
  obtain ⟨fl, hfl⟩ : ∃ fl : List FD, fl = flK 1 := ⟨_, rfl⟩
  have HFL : Hid (fl = _) := Lib.hid (hfl.trans flK_1)
  have HUF : Hid (upF l = rdF fl p0) := Lib.hid (by unfold upF; rw [hk, ← hfl, ← hp0])
  have HTX0 : Hid (upT l = []) := Lib.hid (by unfold upT; rw [hk]; rfl)
  have HRR : Hid (upR l = (upF l).1) := Lib.hid (by unfold upR; rw [hk, if_neg (by decide)])
  clear hr hk he hp0 hfl
  clear hal hb hn hres
  go_enter Tryd.func16, Tryd.ntmps16
  go_upto_region 1 with fail
  rw [← hS]
  rw [← hS] at HB0 HT0
  clear hS
  generalize w.alloc (.cells #[.int .i64 0, .int .i64 0, .int .i64 0, .int .i64 0, .int .i64 0, .int .i64 0, .int .i64 0, .int .i64 0, .int .i64 0, .int .i64 0, .int .i64 0, .int .i64 0, .int .i64 0, .int .i64 0, .int .i64 0, .int .i64 0, .int .i64 0, .slice none 0 0, .int .i64 0, .int .i64 0, .int .i64 0] 29) = w0 at HB0 hs0 HT0 HR0 ⊢
  have hok := lookE_ok hE
  have hbl := bodyOf_length hE
  clear hE
  go_wp2_with fail
  refine (rnext_ok A c n l w0 S HT0.out HN.out HE.out).mono ?_
  rintro e w1 ⟨A1, c1, rfl, hby, k1, rfl⟩
  have HR1 : Hid ((w0.drewN k1).heap[S]? = some (.cells #[.int .i64 0, .int .i64 0, .int .i64 0, .int .i64 0, .int .i64 0, .int .i64 0, .int .i64 0, .int .i64 0, .int .i64 0, .int .i64 0, .int .i64 0, .int .i64 0, .int .i64 0, .int .i64 0, .int .i64 0, .int .i64 0, .int .i64 0, .slice none 0 0, .int .i64 0, .int .i64 0, .int .i64 0] 29 (0, 0))) := HR0
  have HB1 : Hid (Below S w (w0.drewN k1)) := Lib.hid (below_dn HB0.out)
  have hs1 : S < (w0.drewN k1).heap.size := hs0
  have HY1 := Lib.hid (hby.drewN k1)
  obtain ⟨m, hm⟩ : ∃ m, m = num4 l := ⟨_, rfl⟩
  rw [← hm] at hok hbl ⊢
  have HMN := Lib.hid hm
  have HBL : Hid (m = (bodyOf l).length) := Lib.hid hbl.symm
  have hm8 : m + 8 = n := by have h1 := HN.out; have h2 := HMN.out; have h3 := HRT.out; omega
  clear hby HT0 HR0 HB0 hs0 hm hbl HRT
  generalize w0.drewN k1 = w1 at HR1 HB1 hs1 HY1 ⊢
  subst hm8
  obtain ⟨g, hg⟩ : ∃ g, g = w1.heap.size := ⟨_, rfl⟩
  obtain ⟨w2, hw2⟩ : ∃ y, y = w1.alloc (.cells #[.slice A1 m c1, .int .i64 0] 83) := ⟨_, rfl⟩
  have hal : Below w1.heap.size w1 w2 := by rw [hw2]; exact (Below.refl _ _).alloc (Nat.le_refl _) _
  have hrd : RdAt 83 w2 S g (bodyRd l) A1 c1 := ⟨by rw [hw2, hg, HBL.out]; exact heap_alloc_new w1 _, HY1.out.below (hal.mono (Nat.le_of_lt hs1)) (Nat.le_refl _), by omega⟩
  have HD2 := Lib.hid hrd
  have HR2 := Lib.hid ((hal.block S hs1).trans HR1.out)
  have HB2 := Lib.hid (HB1.out.trans (hal.mono (Nat.le_of_lt hs1)))
  have hSg : S < g := by omega
  have hs2 : g < w2.heap.size := hrd.glt
  clear hal hrd HR1 HB1 HY1 hs1
  go_wp2_with fail
  rw [← hw2, ← hg]
  clear hw2 hg
  refine (rri_any S g (bodyRd l) _ _ w2 HD2.out).mono ?_
  rintro e w3 ⟨rfl, hto⟩
  have hch := hto.chg
  obtain ⟨A3, c3, hrd⟩ := hto.open_
  have HD3 : Hid (RdR w3 S g (ruS (bodyRd l))) := Lib.hid ⟨A3, c3, hrd⟩
  have HR3 := Lib.hid ((hch.block S (by omega) (by show ¬ S = g; omega)).trans HR2.out)
  have HB3 := Lib.hid (HB2.out.trans (hch.below (B := S) (by omega) (fun k hk e => by omega)))
  have hs3 : g < w3.heap.size := hrd.glt
  clear hto hch hrd HD2 HR2 HB2 hs2
  rw [show riN (bodyRd l) = 1 from HK.out]
  obtain ⟨mb, hmb⟩ : ∃ x, x = w3.heap.size := ⟨_, rfl⟩
  go_upto_region 8 with (refine wpList_store_row rfl 29 (.tmp 8) (.tmp 33) rfl w3.heap.size _ rfl rfl 29 _ (heap_alloc_new w3 _) (by kernel_rfl) rfl (by simp [Value.oneCell']) ?_; rw [World.setRow_alloc_new])
  obtain ⟨w4, hw4⟩ : ∃ y, y = w3.alloc (.cells #[.int .i64 (1), .int .i64 0, .int .i64 0, .int .i64 0, .int .i64 0, .int .i64 0, .int .i64 0, .int .i64 0, .int .i64 0, .int .i64 0, .int .i64 0, .int .i64 0, .int .i64 0, .int .i64 0, .int .i64 0, .int .i64 0, .int .i64 0, .slice none 0 0, .int .i64 0, .int .i64 0, .int .i64 0] 29) := ⟨_, rfl⟩
  rw [← hw4]
  have hal : Below w3.heap.size w3 w4 := by rw [hw4]; exact (Below.refl _ _).alloc (Nat.le_refl _) _
  have hm4 : MAt w4 mb (fun i => if i = 0 then 1 else 0) none 0 0 := by rw [hw4, hmb]; exact heap_alloc_new w3 _
  rw [← hmb]
  have HM := Lib.hid hm4
  have HD := Lib.hid (HD3.out.chg (Chg.of_below (S := fun _ => False) hal) (fun h => h) (fun _ _ h => h))
  have HR := Lib.hid ((hal.block S (by omega)).trans HR3.out)
  have HB := Lib.hid (HB3.out.trans (hal.mono (by omega)))
  have hgm : g < mb := by omega
  have hs : mb < w4.heap.size := ltb hm4
  clear hal hm4 hw4 hmb HD3 HR3 HB3 hs3
  obtain ⟨A5, c5, hrd⟩ := HD.out
  have c1' := hrd.c1
  have m0 : w4.cell? ⟨mb, 0, none⟩ = some (.int .i64 (1)) := cellb (i := 0) HM.out rfl
  clear hrd
  rw [HEE.out] at c1'
  obtain ⟨q, hq⟩ : ∃ q, q = rdF (fl.take 0) p0 := ⟨_, rfl⟩
  have HQ := Lib.hid hq
  have hq0 : q = p0 := hq
  have HM : Hid (MAt w4 mb q.2 none 0 0) := Lib.hid (by rw [hq0, HP0.out]; exact HM.out)
  have HD : Hid (RdR w4 S g q.1) := Lib.hid (by rw [hq0, HP0.out]; exact HD.out)
  clear hq hq0
  go_wp2_with fail
  clear c1'
  refine (within_any _ _ _ _).mono ?_
  rw [show wB 1 1 8 = true by decide]
  rintro e w' ⟨rfl, rfl⟩
  go_wp2_with fail
  clear m0
  refine (epoch_any 1 w4).mono ?_
  rw [show epB 1 = false by decide]
  rintro e w' ⟨rfl, rfl⟩
  go_wp2_with fail
  refine (node_any 1 w4).mono ?_
  rw [show wB 1 1 6 = true by decide]
  rintro e w' ⟨rfl, rfl⟩
  go_wp2_with fail
  obtain ⟨A5, c5, hrd⟩ := HD.out
  refine (rri_any S g q.1 A5 c5 w4 hrd).mono ?_
  rintro e wa ⟨rfl, hto⟩
  have hch := hto.chg
  obtain ⟨A6, c6, hrd6⟩ := hto.open_
  have HM : Hid (MAt wa mb q.2 none 0 0) := Lib.hid ((hch.block mb hs (by show ¬ mb = g; omega)).trans HM.out)
  have HD : Hid (RdR wa S g (ruS q.1)) := Lib.hid ⟨A6, c6, hrd6⟩
  have HR := Lib.hid ((hch.block S (by omega) (by show ¬ S = g; omega)).trans HR.out)
  have HB := Lib.hid (HB.out.trans (hch.below (B := S) (by omega) (fun k hk e => by omega)))
  have hs : mb < wa.heap.size := Nat.lt_of_lt_of_le hs hch.size
  clear hrd hrd6 hto hch
  have c0 : wa.cell? ⟨mb, 2, none⟩ = some (.int .i64 (q.2 2)) := HM.out.cell (by omega) (by omega)
  have f0 : wa.frozen? ⟨mb, 2, none⟩ = false := HM.out.fz 2
  go_upto_region 15 with fail
  clear c0 f0
  have hc1 := Ch.ofCell (i := 2) HM.out (.int .i64 (riN q.1))
  obtain ⟨q', hq'⟩ : ∃ q', q' = (ruS q.1, setv q.2 2 (riN q.1)) := ⟨_, rfl⟩
  have HM7 : Hid (MAt (wa.setCell ⟨mb, 2, none⟩ (.int .i64 (riN q.1))) mb q'.2 none 0 0) := Lib.hid (by rw [hq']; exact HM.out.setN (by omega) (by omega) (riN q.1))
  have HD7 : Hid (RdR (wa.setCell ⟨mb, 2, none⟩ (.int .i64 (riN q.1))) S g q'.1) := Lib.hid (by rw [hq']; exact HD.out.chg hc1.chg (fun e => by injection e with e; omega) (fun k hk e => by injection e with e; omega))
  have HR7 := Lib.hid (hc1.blkN HR.out (fun e => by injection e with e; omega))
  have HB7 := Lib.hid (HB.out.trans (hc1.chg.below (B := S) (by omega) (fun k hk e => by injection e with e; omega)))
  have hs7 : mb < (wa.setCell ⟨mb, 2, none⟩ (.int .i64 (riN q.1))).heap.size := Nat.lt_of_lt_of_le hs hc1.chg.size
  have HQ7 : Hid (q' = rdF (fl.take 1) p0) := Lib.hid (by rw [hq', HQ.out, HFL.out]; exact (rdF_next (l := [⟨2, 0, 15⟩, ⟨3, 0, 1099511627775⟩]) (j := 0) (f := ⟨2, 0, 15⟩) p0 rfl).symm)
  clear hc1 hq' HM HD HR HB hs HQ
  generalize wa.setCell ⟨mb, 2, none⟩ (.int .i64 (riN q.1)) = wb at HM7 HD7 HR7 HB7 hs7 ⊢
  obtain ⟨v1, hv1⟩ : ∃ y, y = wb := ⟨_, rfl⟩
  rw [← hv1] at HM7 HD7 HR7 HB7 hs7 ⊢
  obtain ⟨q, hqq⟩ : ∃ y, y = q' := ⟨_, rfl⟩
  rw [← hqq] at HM7 HD7 HQ7
  clear hv1 hqq
  have HM := HM7
  have HD := HD7
  have HR := HR7
  have HB := HB7
  have HQ := HQ7
  have hs := hs7
  clear HM7 HD7 HR7 HB7 HQ7 hs7
  go_wp2_with fail
  refine (job_any 1 v1).mono ?_
  rw [show wB 1 3 6 = false by decide]
  rintro e w' ⟨rfl, rfl⟩
  go_wp2_with fail
  refine (client_any 1 v1).mono ?_
  rw [show clB 1 = false by decide]
  rintro e w' ⟨rfl, rfl⟩
  go_wp2_with fail
  obtain ⟨A5, c5, hrd⟩ := HD.out
  refine (rri_any S g q.1 A5 c5 v1 hrd).mono ?_
  rintro e wa ⟨rfl, hto⟩
  have hch := hto.chg
  obtain ⟨A6, c6, hrd6⟩ := hto.open_
  have HM : Hid (MAt wa mb q.2 none 0 0) := Lib.hid ((hch.block mb hs (by show ¬ mb = g; omega)).trans HM.out)
  have HD : Hid (RdR wa S g (ruS q.1)) := Lib.hid ⟨A6, c6, hrd6⟩
  have HR := Lib.hid ((hch.block S (by omega) (by show ¬ S = g; omega)).trans HR.out)
  have HB := Lib.hid (HB.out.trans (hch.below (B := S) (by omega) (fun k hk e => by omega)))
  have hs : mb < wa.heap.size := Nat.lt_of_lt_of_le hs hch.size
  clear hrd hrd6 hto hch
  have c0 : wa.cell? ⟨mb, 3, none⟩ = some (.int .i64 (q.2 3)) := HM.out.cell (by omega) (by omega)
  have f0 : wa.frozen? ⟨mb, 3, none⟩ = false := HM.out.fz 3
  go_upto_region 42 with fail
  clear c0 f0
  have hc1 := Ch.ofCell (i := 3) HM.out (.int .i64 (riN q.1))
  obtain ⟨q', hq'⟩ : ∃ q', q' = (ruS q.1, setv q.2 3 (riN q.1)) := ⟨_, rfl⟩
  have HM7 : Hid (MAt (wa.setCell ⟨mb, 3, none⟩ (.int .i64 (riN q.1))) mb q'.2 none 0 0) := Lib.hid (by rw [hq']; exact HM.out.setN (by omega) (by omega) (riN q.1))
  have HD7 : Hid (RdR (wa.setCell ⟨mb, 3, none⟩ (.int .i64 (riN q.1))) S g q'.1) := Lib.hid (by rw [hq']; exact HD.out.chg hc1.chg (fun e => by injection e with e; omega) (fun k hk e => by injection e with e; omega))
  have HR7 := Lib.hid (hc1.blkN HR.out (fun e => by injection e with e; omega))
  have HB7 := Lib.hid (HB.out.trans (hc1.chg.below (B := S) (by omega) (fun k hk e => by injection e with e; omega)))
  have hs7 : mb < (wa.setCell ⟨mb, 3, none⟩ (.int .i64 (riN q.1))).heap.size := Nat.lt_of_lt_of_le hs hc1.chg.size
  have HQ7 : Hid (q' = rdF (fl.take 2) p0) := Lib.hid (by rw [hq', HQ.out, HFL.out]; exact (rdF_next (l := [⟨2, 0, 15⟩, ⟨3, 0, 1099511627775⟩]) (j := 1) (f := ⟨3, 0, 1099511627775⟩) p0 rfl).symm)
  clear hc1 hq' HM HD HR HB hs HQ
  generalize wa.setCell ⟨mb, 3, none⟩ (.int .i64 (riN q.1)) = wb at HM7 HD7 HR7 HB7 hs7 ⊢
  obtain ⟨v2, hv2⟩ : ∃ y, y = wb := ⟨_, rfl⟩
  rw [← hv2] at HM7 HD7 HR7 HB7 hs7 ⊢
  obtain ⟨q, hqq⟩ : ∃ y, y = q' := ⟨_, rfl⟩
  rw [← hqq] at HM7 HD7 HQ7
  clear hv2 hqq
  have HM := HM7
  have HD := HD7
  have HR := HR7
  have HB := HB7
  have HQ := HQ7
  have hs := hs7
  clear HM7 HD7 HR7 HB7 HQ7 hs7
  go_wp2_with fail
  have htk : q = upF l := by rw [HQ.out, HUF.out, HFL.out]; rfl
  rw [htk] at HM HD
  rw [← HRR.out] at HD
  clear htk HQ
  obtain ⟨At, hAt⟩ : ∃ A : Option Addr, A = none := ⟨_, rfl⟩
  obtain ⟨nt, hnt⟩ : ∃ n, n = 0 := ⟨_, rfl⟩
  obtain ⟨ct, hct⟩ : ∃ n, n = 0 := ⟨_, rfl⟩
  have HTN : Hid (∀ b o, At = some ⟨b, o, none⟩ → ¬ b = g) := Lib.hid (fun b o e h => by rw [hAt] at e; cases e)
  have HTS : Hid (∀ b o, At = some ⟨b, o, none⟩ → ¬ b = S) := Lib.hid (fun b o e h => by rw [hAt] at e; cases e)
  have HNL : Hid (nt = (upT l).length) := Lib.hid (by rw [HTX0.out, hnt]; rfl)
  have HT : Hid (BytesIn v2 v2.heap.size At ct (upT l)) := Lib.hid (by rw [HTX0.out]; exact .emp (by omega))
  have HM : Hid (MAt v2 mb (upF l).2 At nt ct) := Lib.hid (by rw [hAt, hnt, hct]; exact HM.out)
  have hsz : mb < v2.heap.size := hs
  clear hAt hnt hct hs
  obtain ⟨wz, hwz⟩ : ∃ y, y = v2 := ⟨_, rfl⟩
  rw [← hwz] at HM HD HR HB HT hsz ⊢
  clear hwz
  obtain ⟨A8, c8, hrd⟩ := HD.out
  refine (rend_any S g _ A8 c8 wz hrd (rok_upR l)).mono ?_
  rintro e w9 ⟨rfl, hto⟩
  have hch := hto.chg
  have HM9 : Hid (MAt w9 mb (upF l).2 At nt ct) := Lib.hid ((hch.block mb hsz (by show ¬ mb = g; omega)).trans HM.out)
  have HRES := Lib.hid ((hch.block S (by omega) (by show ¬ S = g; omega)).trans HR.out)
  have HB9 := Lib.hid (HB.out.trans (hch.below (B := S) (by omega) (fun k hk e => by omega)))
  have HT9 := Lib.hid ((HT.out.chgN hch HTN.out).more hch.size)
  have hs9 : mb < w9.heap.size := Nat.lt_of_lt_of_le hsz hch.size
  clear hrd hto hch HD HM HR HB HT hsz
  obtain ⟨x, hx⟩ : ∃ x, x = (rendS (upR l)).e := ⟨_, rfl⟩
  rw [← hx]
  by_cases hx0 : x = 0
  · have HXE := Lib.hid hx
    have HX0 := Lib.hid hx0
    have hq : (x != 0) = false := by rw [hx0]; rfl
    clear hx hx0
    have HMU := Lib.hid (show w9.heap[mb]? = some (.cells #[.int .i64 ((upF l).2 0), .int .i64 ((upF l).2 1), .int .i64 ((upF l).2 2), .int .i64 ((upF l).2 3), .int .i64 ((upF l).2 4), .int .i64 ((upF l).2 5), .int .i64 ((upF l).2 6), .int .i64 ((upF l).2 7), .int .i64 ((upF l).2 8), .int .i64 ((upF l).2 9), .int .i64 ((upF l).2 10), .int .i64 ((upF l).2 11), .int .i64 ((upF l).2 12), .int .i64 ((upF l).2 13), .int .i64 ((upF l).2 14), .int .i64 ((upF l).2 15), .int .i64 ((upF l).2 16), .slice At nt ct, .int .i64 ((upF l).2 18), .int .i64 ((upF l).2 19), .int .i64 ((upF l).2 20)] 29 (0, 0)) from HM9.out)
    go_wp2_with (refine wpList_load_row rfl 29 _ rfl mb rfl 29 _ (0, 0) _ HMU.out Tryd.underlying29 rfl (by kernel_rfl) ?_)
    clear hq HMU
    refine (may_any (upF l).2 At nt ct w9).mono ?_
    rintro e w10 ⟨rfl, hb⟩
    have HMX := Lib.hid (HM9.out.below hb hs9)
    have HRES := Lib.hid ((hb.block S (by omega)).trans HRES.out)
    have HBX := Lib.hid (HB9.out.trans (hb.mono (by omega)))
    have HTX := Lib.hid ((HT9.out.below hb (Nat.le_refl _)).more hb.size)
    have hsx : mb < w10.heap.size := Nat.lt_of_lt_of_le hs9 hb.size
    clear hb HM9 HB9 HT9 hs9
    have hE4 : upE l = if OkM (upF l).2 nt then 0 else 11 := by
      unfold upE
      rw [if_neg (fun h => h HE.out), if_neg HRX.out, if_neg (by rw [← HXE.out]; exact fun h => h HX0.out), ← HNL.out]
    have hmo := may_ok (upF l).2 nt
    obtain ⟨b, hbb⟩ : ∃ b, b = mayB (upF l).2 nt := ⟨_, rfl⟩
    rw [← hbb] at hmo ⊢
    clear hbb
    cases b
    · have hup : upE l = 11 := by rw [hE4, if_neg (fun h => by have := hmo.2 h; simp at this)]
      have HUP := Lib.hid hup
      clear hup hE4 hmo
      go_wp2_with (refine wpList_store_row rfl 29 (.tmp 2) (.tmp 140) rfl S _ rfl rfl 29 _ HRES.out (by kernel_rfl) rfl (by simp [Value.oneCell']) ?_)
      have HRS := Lib.hid (setRow_heap _ _ _ #[.int .i64 0, .int .i64 0, .int .i64 0, .int .i64 0, .int .i64 0, .int .i64 0, .int .i64 0, .int .i64 0, .int .i64 0, .int .i64 0, .int .i64 0, .int .i64 0, .int .i64 0, .int .i64 0, .int .i64 0, .int .i64 0, .int .i64 0, .slice none 0 0, .int .i64 0, .int .i64 0, .int .i64 0] _ _ HRES.out)
      refine bodyPost_ret (v := .tuple #[.agg #[.int .i64 0, .int .i64 0, .int .i64 0, .int .i64 0, .int .i64 0, .int .i64 0, .int .i64 0, .int .i64 0, .int .i64 0, .int .i64 0, .int .i64 0, .int .i64 0, .int .i64 0, .int .i64 0, .int .i64 0, .int .i64 0, .int .i64 0, .slice none 0 0, .int .i64 0, .int .i64 0, .int .i64 0], .int .i64 11]) (results_runp _ _ S _ rfl HRS.out rfl) rfl ?_
      exact unpAt_no (by rw [HUP.out]; decide) HUP.out rfl (by rw [HSW.out]; exact HBX.out.trans ((Ch.ofRow HRES.out #[.int .i64 0, .int .i64 0, .int .i64 0, .int .i64 0, .int .i64 0, .int .i64 0, .int .i64 0, .int .i64 0, .int .i64 0, .int .i64 0, .int .i64 0, .int .i64 0, .int .i64 0, .int .i64 0, .int .i64 0, .int .i64 0, .int .i64 0, .slice none 0 0, .int .i64 0, .int .i64 0, .int .i64 0]).chg.below (by omega) (fun k hk h => by injection h with h; omega)))
    · have hup : upE l = 0 := by rw [hE4, if_pos (hmo.1 rfl)]
      have HUP := Lib.hid hup
      clear hup hE4 hmo
      have HMU := Lib.hid (show w10.heap[mb]? = some (.cells #[.int .i64 ((upF l).2 0), .int .i64 ((upF l).2 1), .int .i64 ((upF l).2 2), .int .i64 ((upF l).2 3), .int .i64 ((upF l).2 4), .int .i64 ((upF l).2 5), .int .i64 ((upF l).2 6), .int .i64 ((upF l).2 7), .int .i64 ((upF l).2 8), .int .i64 ((upF l).2 9), .int .i64 ((upF l).2 10), .int .i64 ((upF l).2 11), .int .i64 ((upF l).2 12), .int .i64 ((upF l).2 13), .int .i64 ((upF l).2 14), .int .i64 ((upF l).2 15), .int .i64 ((upF l).2 16), .slice At nt ct, .int .i64 ((upF l).2 18), .int .i64 ((upF l).2 19), .int .i64 ((upF l).2 20)] 29 (0, 0)) from HMX.out)
      go_wp2_with (first | (refine wpList_load_row rfl 29 (.tmp 8) rfl mb rfl 29 _ (0, 0) _ HMU.out Tryd.underlying29 rfl (by kernel_rfl) ?_) | (refine wpList_store_row rfl 29 (.tmp 2) (.tmp 141) rfl S _ rfl rfl 29 _ HRES.out (by kernel_rfl) rfl (by simp [Value.oneCell']) ?_))
      have HRS := Lib.hid (setRow_heap _ _ _ #[.int .i64 ((upF l).2 0), .int .i64 ((upF l).2 1), .int .i64 ((upF l).2 2), .int .i64 ((upF l).2 3), .int .i64 ((upF l).2 4), .int .i64 ((upF l).2 5), .int .i64 ((upF l).2 6), .int .i64 ((upF l).2 7), .int .i64 ((upF l).2 8), .int .i64 ((upF l).2 9), .int .i64 ((upF l).2 10), .int .i64 ((upF l).2 11), .int .i64 ((upF l).2 12), .int .i64 ((upF l).2 13), .int .i64 ((upF l).2 14), .int .i64 ((upF l).2 15), .int .i64 ((upF l).2 16), .slice At nt ct, .int .i64 ((upF l).2 18), .int .i64 ((upF l).2 19), .int .i64 ((upF l).2 20)] _ _ HRES.out)
      refine bodyPost_ret (v := .tuple #[.agg #[.int .i64 ((upF l).2 0), .int .i64 ((upF l).2 1), .int .i64 ((upF l).2 2), .int .i64 ((upF l).2 3), .int .i64 ((upF l).2 4), .int .i64 ((upF l).2 5), .int .i64 ((upF l).2 6), .int .i64 ((upF l).2 7), .int .i64 ((upF l).2 8), .int .i64 ((upF l).2 9), .int .i64 ((upF l).2 10), .int .i64 ((upF l).2 11), .int .i64 ((upF l).2 12), .int .i64 ((upF l).2 13), .int .i64 ((upF l).2 14), .int .i64 ((upF l).2 15), .int .i64 ((upF l).2 16), .slice At nt ct, .int .i64 ((upF l).2 18), .int .i64 ((upF l).2 19), .int .i64 ((upF l).2 20)], .int .i64 0]) (results_runp _ _ S _ rfl HRS.out rfl) rfl ?_
      have hch := Ch.ofRow HRES.out #[.int .i64 ((upF l).2 0), .int .i64 ((upF l).2 1), .int .i64 ((upF l).2 2), .int .i64 ((upF l).2 3), .int .i64 ((upF l).2 4), .int .i64 ((upF l).2 5), .int .i64 ((upF l).2 6), .int .i64 ((upF l).2 7), .int .i64 ((upF l).2 8), .int .i64 ((upF l).2 9), .int .i64 ((upF l).2 10), .int .i64 ((upF l).2 11), .int .i64 ((upF l).2 12), .int .i64 ((upF l).2 13), .int .i64 ((upF l).2 14), .int .i64 ((upF l).2 15), .int .i64 ((upF l).2 16), .slice At nt ct, .int .i64 ((upF l).2 18), .int .i64 ((upF l).2 19), .int .i64 ((upF l).2 20)]
      have hov : outV l = (upF l).2 := by unfold outV; rw [if_pos HUP.out]
      have hot : outT l = upT l := by unfold outT; rw [if_pos HUP.out]
      exact ⟨At, ct, by rw [hov, hot, HUP.out, ← HNL.out], by rw [hot]; exact (HTX.out.chgN hch.chg (fun b o e h => HTS.out b o e (by injection h with h; exact h.symm))).more hch.chg.size, by rw [HSW.out]; exact HBX.out.trans (hch.chg.below (by omega) (fun k hk h => by injection h with h; omega))⟩
  · have hup : upE l = x := by
      unfold upE
      rw [if_neg (fun h => h HE.out), if_neg HRX.out, if_pos (by rw [← hx]; exact hx0), ← hx]
    have HUP := Lib.hid hup
    have HX0 := Lib.hid hx0
    have hq : (x != 0) = true := by rw [bne_iff_ne]; exact hx0
    clear hx hup hx0
    go_wp2_with (refine wpList_store_row rfl 29 (.tmp 2) (.tmp 134) rfl S _ rfl rfl 29 _ HRES.out (by kernel_rfl) rfl (by simp [Value.oneCell']) ?_)
    have HRS := Lib.hid (setRow_heap _ _ _ #[.int .i64 0, .int .i64 0, .int .i64 0, .int .i64 0, .int .i64 0, .int .i64 0, .int .i64 0, .int .i64 0, .int .i64 0, .int .i64 0, .int .i64 0, .int .i64 0, .int .i64 0, .int .i64 0, .int .i64 0, .int .i64 0, .int .i64 0, .slice none 0 0, .int .i64 0, .int .i64 0, .int .i64 0] _ _ HRES.out)
    refine bodyPost_ret (v := .tuple #[.agg #[.int .i64 0, .int .i64 0, .int .i64 0, .int .i64 0, .int .i64 0, .int .i64 0, .int .i64 0, .int .i64 0, .int .i64 0, .int .i64 0, .int .i64 0, .int .i64 0, .int .i64 0, .int .i64 0, .int .i64 0, .int .i64 0, .int .i64 0, .slice none 0 0, .int .i64 0, .int .i64 0, .int .i64 0], .int .i64 x]) (results_runp _ _ S _ rfl HRS.out rfl) rfl ?_
    exact unpAt_no (by rw [HUP.out]; exact HX0.out) HUP.out rfl (by rw [HSW.out]; exact HB9.out.trans ((Ch.ofRow HRES.out #[.int .i64 0, .int .i64 0, .int .i64 0, .int .i64 0, .int .i64 0, .int .i64 0, .int .i64 0, .int .i64 0, .int .i64 0, .int .i64 0, .int .i64 0, .int .i64 0, .int .i64 0, .int .i64 0, .int .i64 0, .int .i64 0, .int .i64 0, .slice none 0 0, .int .i64 0, .int .i64 0, .int .i64 0]).chg.below (by omega) (fun k hk h => by injection h with h; omega)))
set_option maxRecDepth 100000 in
set_option maxHeartbeats 8000000 in
theorem runp_2 (A : Option Addr) (n c : Nat) (l : List UInt8) (w : World) (hb : BytesIn w w.heap.size A c l) (hn : n = l.length) (hE : lookE l = 0) (hr : ¬ num4 l + 8 < l.length) (hk : upK l = 2) :
    Calls Tryd.prog 16 #[.slice A n c] w fun e w' => UnpAt l w e w' := by
  have hal : Below w.heap.size w (w.alloc (.cells #[.int .i64 0, .int .i64 0, .int .i64 0, .int .i64 0, .int .i64 0, .int .i64 0, .int .i64 0, .int .i64 0, .int .i64 0, .int .i64 0, .int .i64 0, .int .i64 0, .int .i64 0, .int .i64 0, .int .i64 0, .int .i64 0, .int .i64 0, .slice none 0 0, .int .i64 0, .int .i64 0, .int .i64 0] 29)) := (Below.refl w.heap.size w).alloc (Nat.le_refl _) _
  have hres := heap_alloc_new w (.cells #[.int .i64 0, .int .i64 0, .int .i64 0, .int .i64 0, .int .i64 0, .int .i64 0, .int .i64 0, .int .i64 0, .int .i64 0, .int .i64 0, .int .i64 0, .int .i64 0, .int .i64 0, .int .i64 0, .int .i64 0, .int .i64 0, .int .i64 0, .slice none 0 0, .int .i64 0, .int .i64 0, .int .i64 0] 29)
  have HB0 := Lib.hid hal
  have HT0 := Lib.hid (hb.below hal (Nat.le_refl _))
  obtain ⟨S, hS⟩ : ∃ S, S = w.heap.size := ⟨_, rfl⟩
  have hs0 : S < (w.alloc (.cells #[.int .i64 0, .int .i64 0, .int .i64 0, .int .i64 0, .int .i64 0, .int .i64 0, .int .i64 0, .int .i64 0, .int .i64 0, .int .i64 0, .int .i64 0, .int .i64 0, .int .i64 0, .int .i64 0, .int .i64 0, .int .i64 0, .int .i64 0, .slice none 0 0, .int .i64 0, .int .i64 0, .int .i64 0] 29)).heap.size := by simp [hS]
  rw [← hS] at hres
  have HR0 := Lib.hid hres
  have HSW : Hid (w.heap.size = S) := Lib.hid hS.symm
  have HN := Lib.hid hn
  have HE := Lib.hid hE
  have HRT := Lib.hid hr
  have HRX := Lib.hid hr
  have HK : Hid (upK l = 2) := Lib.hid hk
  have he : (ruS (bodyRd l)).e = 0 := by
    by_cases he : (ruS (bodyRd l)).e = 0
    · exact he
    · have : upK l = 0 := ri_bad rfl he
      rw [hk] at this; cases this
  have HEE := Lib.hid he
  obtain ⟨p0, hp0⟩ : ∃ p, p = up0 l := ⟨_, rfl⟩
  have HP0 : Hid (p0 = (ruS (bodyRd l), fun i => if i = 0 then 2 else 0)) := Lib.hid (by rw [hp0]; unfold up0; rw [hk]; rfl)
  obtain ⟨fl, hfl⟩ : ∃ fl : List FD, fl = flK 2 := ⟨_, rfl⟩
  have HFL : Hid (fl = _) := Lib.hid (hfl.trans flK_2)
  have HUF : Hid (upF l = rdF fl p0) := Lib.hid (by unfold upF; rw [hk, ← hfl, ← hp0])
  have HTX0 : Hid (upT l = []) := Lib.hid (by unfold upT; rw [hk]; rfl)
  have HRR : Hid (upR l = (upF l).1) := Lib.hid (by unfold upR; rw [hk, if_neg (by decide)])
  clear hr hk he hp0 hfl
  clear hal hb hn hres
  go_enter Tryd.func16, Tryd.ntmps16
  go_upto_region 1 with fail
  rw [← hS]
  rw [← hS] at HB0 HT0
  clear hS
  generalize w.alloc (.cells #[.int .i64 0, .int .i64 0, .int .i64 0, .int .i64 0, .int .i64 0, .int .i64 0, .int .i64 0, .int .i64 0, .int .i64 0, .int .i64 0, .int .i64 0, .int .i64 0, .int .i64 0, .int .i64 0, .int .i64 0, .int .i64 0, .int .i64 0, .slice none 0 0, .int .i64 0, .int .i64 0, .int .i64 0] 29) = w0 at HB0 hs0 HT0 HR0 ⊢
  have hok := lookE_ok hE
  have hbl := bodyOf_length hE
  clear hE
  go_wp2_with fail
  refine (rnext_ok A c n l w0 S HT0.out HN.out HE.out).mono ?_
  rintro e w1 ⟨A1, c1, rfl, hby, k1, rfl⟩
  have HR1 : Hid ((w0.drewN k1).heap[S]? = some (.cells #[.int .i64 0, .int .i64 0, .int .i64 0, .int .i64 0, .int .i64 0, .int .i64 0, .int .i64 0, .int .i64 0, .int .i64 0, .int .i64 0, .int .i64 0, .int .i64 0, .int .i64 0, .int .i64 0, .int .i64 0, .int .i64 0, .int .i64 0, .slice none 0 0, .int .i64 0, .int .i64 0, .int .i64 0] 29 (0, 0))) := HR0
  have HB1 : Hid (Below S w (w0.drewN k1)) := Lib.hid (below_dn HB0.out)
  have hs1 : S < (w0.drewN k1).heap.size := hs0
  have HY1 := Lib.hid (hby.drewN k1)
  obtain ⟨m, hm⟩ : ∃ m, m = num4 l := ⟨_, rfl⟩
  rw [← hm] at hok hbl ⊢
  have HMN := Lib.hid hm
  have HBL : Hid (m = (bodyOf l).length) := Lib.hid hbl.symm
  have hm8 : m + 8 = n := by have h1 := HN.out; have h2 := HMN.out; have h3 := HRT.out; omega
  clear hby HT0 HR0 HB0 hs0 hm hbl HRT
  generalize w0.drewN k1 = w1 at HR1 HB1 hs1 HY1 ⊢
  subst hm8
  obtain ⟨g, hg⟩ : ∃ g, g = w1.heap.size := ⟨_, rfl⟩
  obtain ⟨w2, hw2⟩ : ∃ y, y = w1.alloc (.cells #[.slice A1 m c1, .int .i64 0] 83) := ⟨_, rfl⟩
  have hal : Below w1.heap.size w1 w2 := by rw [hw2]; exact (Below.refl _ _).alloc (Nat.le_refl _) _
  have hrd : RdAt 83 w2 S g (bodyRd l) A1 c1 := ⟨by rw [hw2, hg, HBL.out]; exact heap_alloc_new w1 _, HY1.out.below (hal.mono (Nat.le_of_lt hs1)) (Nat.le_refl _), by omega⟩
  have HD2 := Lib.hid hrd
  have HR2 := Lib.hid ((hal.block S hs1).trans HR1.out)
  have HB2 := Lib.hid (HB1.out.trans (hal.mono (Nat.le_of_lt hs1)))
  have hSg : S < g := by omega
  have hs2 : g < w2.heap.size := hrd.glt
  clear hal hrd HR1 HB1 HY1 hs1
  go_wp2_with fail
  rw [← hw2, ← hg]
  clear hw2 hg
  refine (rri_any S g (bodyRd l) _ _ w2 HD2.out).mono ?_
  rintro e w3 ⟨rfl, hto⟩
  have hch := hto.chg
  obtain ⟨A3, c3, hrd⟩ := hto.open_
  have HD3 : Hid (RdR w3 S g (ruS (bodyRd l))) := Lib.hid ⟨A3, c3, hrd⟩
  have HR3 := Lib.hid ((hch.block S (by omega) (by show ¬ S = g; omega)).trans HR2.out)
  have HB3 := Lib.hid (HB2.out.trans (hch.below (B := S) (by omega) (fun k hk e => by omega)))
  have hs3 : g < w3.heap.size := hrd.glt
  clear hto hch hrd HD2 HR2 HB2 hs2
  rw [show riN (bodyRd l) = 2 from HK.out]
  obtain ⟨mb, hmb⟩ : ∃ x, x = w3.heap.size := ⟨_, rfl⟩
  go_upto_region 8 with (refine wpList_store_row rfl 29 (.tmp 8) (.tmp 33) rfl w3.heap.size _ rfl rfl 29 _ (heap_alloc_new w3 _) (by kernel_rfl) rfl (by simp [Value.oneCell']) ?_; rw [World.setRow_alloc_new])
  obtain ⟨w4, hw4⟩ : ∃ y, y = w3.alloc (.cells #[.int .i64 (2), .int .i64 0, .int .i64 0, .int .i64 0, .int .i64 0, .int .i64 0, .int .i64 0, .int .i64 0, .int .i64 0, .int .i64 0, .int .i64 0, .int .i64 0, .int .i64 0, .int .i64 0, .int .i64 0, .int .i64 0, .int .i64 0, .slice none 0 0, .int .i64 0, .int .i64 0, .int .i64 0] 29) := ⟨_, rfl⟩
  rw [← hw4]
  have hal : Below w3.heap.size w3 w4 := by rw [hw4]; exact (Below.refl _ _).alloc (Nat.le_refl _) _
  have hm4 : MAt w4 mb (fun i => if i = 0 then 2 else 0) none 0 0 := by rw [hw4, hmb]; exact heap_alloc_new w3 _
  rw [← hmb]
  have HM := Lib.hid hm4
  have HD := Lib.hid (HD3.out.chg (Chg.of_below (S := fun _ => False) hal) (fun h => h) (fun _ _ h => h))
  have HR := Lib.hid ((hal.block S (by omega)).trans HR3.out)
  have HB := Lib.hid (HB3.out.trans (hal.mono (by omega)))
  have hgm : g < mb := by omega
  have hs : mb < w4.heap.size := ltb hm4
  clear hal hm4 hw4 hmb HD3 HR3 HB3 hs3
  obtain ⟨A5, c5, hrd⟩ := HD.out
  have c1' := hrd.c1
  have m0 : w4.cell? ⟨mb, 0, none⟩ = some (.int .i64 (2)) := cellb (i := 0) HM.out rfl
  clear hrd
  rw [HEE.out] at c1'
  obtain ⟨q, hq⟩ : ∃ q, q = rdF (fl.take 0) p0 := ⟨_, rfl⟩
  have HQ := Lib.hid hq
  have hq0 : q = p0 := hq
  have HM : Hid (MAt w4 mb q.2 none 0 0) := Lib.hid (by rw [hq0, HP0.out]; exact HM.out)
  have HD : Hid (RdR w4 S g q.1) := Lib.hid (by rw [hq0, HP0.out]; exact HD.out)
  clear hq hq0
  go_wp2_with fail
  clear c1'
  refine (within_any _ _ _ _).mono ?_
  rw [show wB 2 1 8 = true by decide]
  rintro e w' ⟨rfl, rfl⟩
  go_wp2_with fail
  clear m0
  refine (epoch_any 2 w4).mono ?_
  rw [show epB 2 = true by decide]
  rintro e w' ⟨rfl, rfl⟩
  go_wp2_with fail
  obtain ⟨A5, c5, hrd⟩ := HD.out
  refine (rri_any S g q.1 A5 c5 w4 hrd).mono ?_
  rintro e wa ⟨rfl, hto⟩
  have hch := hto.chg
  obtain ⟨A6, c6, hrd6⟩ := hto.open_
  have HM : Hid (MAt wa mb q.2 none 0 0) := Lib.hid ((hch.block mb hs (by show ¬ mb = g; omega)).trans HM.out)
  have HD : Hid (RdR wa S g (ruS q.1)) := Lib.hid ⟨A6, c6, hrd6⟩
  have HR := Lib.hid ((hch.block S (by omega) (by show ¬ S = g; omega)).trans HR.out)
  have HB := Lib.hid (HB.out.trans (hch.below (B := S) (by omega) (fun k hk e => by omega)))
  have hs : mb < wa.heap.size := Nat.lt_of_lt_of_le hs hch.size
  clear hrd hrd6 hto hch
  have c0 : wa.cell? ⟨mb, 1, none⟩ = some (.int .i64 (q.2 1)) := HM.out.cell (by omega) (by omega)
  have f0 : wa.frozen? ⟨mb, 1, none⟩ = false := HM.out.fz 1
  go_upto_region 13 with fail
  clear c0 f0
  have hc1 := Ch.ofCell (i := 1) HM.out (.int .i64 (riN q.1))
  obtain ⟨q', hq'⟩ : ∃ q', q' = (ruS q.1, setv q.2 1 (riN q.1)) := ⟨_, rfl⟩
  have HM7 : Hid (MAt (wa.setCell ⟨mb, 1, none⟩ (.int .i64 (riN q.1))) mb q'.2 none 0 0) := Lib.hid (by rw [hq']; exact HM.out.setN (by omega) (by omega) (riN q.1))
  have HD7 : Hid (RdR (wa.setCell ⟨mb, 1, none⟩ (.int .i64 (riN q.1))) S g q'.1) := Lib.hid (by rw [hq']; exact HD.out.chg hc1.chg (fun e => by injection e with e; omega) (fun k hk e => by injection e with e; omega))
  have HR7 := Lib.hid (hc1.blkN HR.out (fun e => by injection e with e; omega))
  have HB7 := Lib.hid (HB.out.trans (hc1.chg.below (B := S) (by omega) (fun k hk e => by injection e with e; omega)))
  have hs7 : mb < (wa.setCell ⟨mb, 1, none⟩ (.int .i64 (riN q.1))).heap.size := Nat.lt_of_lt_of_le hs hc1.chg.size
  have HQ7 : Hid (q' = rdF (fl.take 1) p0) := Lib.hid (by rw [hq', HQ.out, HFL.out]; exact (rdF_next (l := [⟨1, 0, 1099511627776⟩, ⟨2, 0, 15⟩, ⟨4, 0, 1099511627775⟩, ⟨5, 0, 2199023255552⟩]) (j := 0) (f := ⟨1, 0, 1099511627776⟩) p0 rfl).symm)
  clear hc1 hq' HM HD HR HB hs HQ
  generalize wa.setCell ⟨mb, 1, none⟩ (.int .i64 (riN q.1)) = wb at HM7 HD7 HR7 HB7 hs7 ⊢
  obtain ⟨v1, hv1⟩ : ∃ y, y = wb := ⟨_, rfl⟩
  rw [← hv1] at HM7 HD7 HR7 HB7 hs7 ⊢
  obtain ⟨q, hqq⟩ : ∃ y, y = q' := ⟨_, rfl⟩
  rw [← hqq] at HM7 HD7 HQ7
  clear hv1 hqq
  have HM := HM7
  have HD := HD7
  have HR := HR7
  have HB := HB7
  have HQ := HQ7
  have hs := hs7
  clear HM7 HD7 HR7 HB7 HQ7 hs7
  go_wp2_with fail
  refine (node_any 2 v1).mono ?_
  rw [show wB 2 1 6 = true by decide]
  rintro e w' ⟨rfl, rfl⟩
  go_wp2_with fail
  obtain ⟨A5, c5, hrd⟩ := HD.out
  refine (rri_any S g q.1 A5 c5 v1 hrd).mono ?_
  rintro e wa ⟨rfl, hto⟩
  have hch := hto.chg
  obtain ⟨A6, c6, hrd6⟩ := hto.open_
  have HM : Hid (MAt wa mb q.2 none 0 0) := Lib.hid ((hch.block mb hs (by show ¬ mb = g; omega)).trans HM.out)
  have HD : Hid (RdR wa S g (ruS q.1)) := Lib.hid ⟨A6, c6, hrd6⟩
  have HR := Lib.hid ((hch.block S (by omega) (by show ¬ S = g; omega)).trans HR.out)
  have HB := Lib.hid (HB.out.trans (hch.below (B := S) (by omega) (fun k hk e => by omega)))
  have hs : mb < wa.heap.size := Nat.lt_of_lt_of_le hs hch.size
  clear hrd hrd6 hto hch
  have c0 : wa.cell? ⟨mb, 2, none⟩ = some (.int .i64 (q.2 2)) := HM.out.cell (by omega) (by omega)
  have f0 : wa.frozen? ⟨mb, 2, none⟩ = false := HM.out.fz 2
  go_upto_region 15 with fail
  clear c0 f0
  have hc1 := Ch.ofCell (i := 2) HM.out (.int .i64 (riN q.1))
  obtain ⟨q', hq'⟩ : ∃ q', q' = (ruS q.1, setv q.2 2 (riN q.1)) := ⟨_, rfl⟩
  have HM7 : Hid (MAt (wa.setCell ⟨mb, 2, none⟩ (.int .i64 (riN q.1))) mb q'.2 none 0 0) := Lib.hid (by rw [hq']; exact HM.out.setN (by omega) (by omega) (riN q.1))
  have HD7 : Hid (RdR (wa.setCell ⟨mb, 2, none⟩ (.int .i64 (riN q.1))) S g q'.1) := Lib.hid (by rw [hq']; exact HD.out.chg hc1.chg (fun e => by injection e with e; omega) (fun k hk e => by injection e with e; omega))
  have HR7 := Lib.hid (hc1.blkN HR.out (fun e => by injection e with e; omega))
  have HB7 := Lib.hid (HB.out.trans (hc1.chg.below (B := S) (by omega) (fun k hk e => by injection e with e; omega)))
  have hs7 : mb < (wa.setCell ⟨mb, 2, none⟩ (.int .i64 (riN q.1))).heap.size := Nat.lt_of_lt_of_le hs hc1.chg.size
  have HQ7 : Hid (q' = rdF (fl.take 2) p0) := Lib.hid (by rw [hq', HQ.out, HFL.out]; exact (rdF_next (l := [⟨1, 0, 1099511627776⟩, ⟨2, 0, 15⟩, ⟨4, 0, 1099511627775⟩, ⟨5, 0, 2199023255552⟩]) (j := 1) (f := ⟨2, 0, 15⟩) p0 rfl).symm)
  clear hc1 hq' HM HD HR HB hs HQ
  generalize wa.setCell ⟨mb, 2, none⟩ (.int .i64 (riN q.1)) = wb at HM7 HD7 HR7 HB7 hs7 ⊢
  obtain ⟨v2, hv2⟩ : ∃ y, y = wb := ⟨_, rfl⟩
  rw [← hv2] at HM7 HD7 HR7 HB7 hs7 ⊢
  obtain ⟨q, hqq⟩ : ∃ y, y = q' := ⟨_, rfl⟩
  rw [← hqq] at HM7 HD7 HQ7
  clear hv2 hqq
  have HM := HM7
  have HD := HD7
  have HR := HR7
  have HB := HB7
  have HQ := HQ7
  have hs := hs7
  clear HM7 HD7 HR7 HB7 HQ7 hs7
  go_wp2_with fail
  refine (job_any 2 v2).mono ?_
  rw [show wB 2 3 6 = false by decide]
  rintro e w' ⟨rfl, rfl⟩
  go_wp2_with fail
  refine (client_any 2 v2).mono ?_
  rw [show clB 2 = false by decide]
  rintro e w' ⟨rfl, rfl⟩
  go_wp2_with fail
  obtain ⟨A5, c5, hrd⟩ := HD.out
  refine (rri_any S g q.1 A5 c5 v2 hrd).mono ?_
  rintro e wa ⟨rfl, hto⟩
  have hch := hto.chg
  obtain ⟨A6, c6, hrd6⟩ := hto.open_
  have HM : Hid (MAt wa mb q.2 none 0 0) := Lib.hid ((hch.block mb hs (by show ¬ mb = g; omega)).trans HM.out)
  have HD : Hid (RdR wa S g (ruS q.1)) := Lib.hid ⟨A6, c6, hrd6⟩
  have HR := Lib.hid ((hch.block S (by omega) (by show ¬ S = g; omega)).trans HR.out)
  have HB := Lib.hid (HB.out.trans (hch.below (B := S) (by omega) (fun k hk e => by omega)))
  have hs : mb < wa.heap.size := Nat.lt_of_lt_of_le hs hch.size
  clear hrd hrd6 hto hch
  have c0 : wa.cell? ⟨mb, 4, none⟩ = some (.int .i64 (q.2 4)) := HM.out.cell (by omega) (by omega)
  have f0 : wa.frozen? ⟨mb, 4, none⟩ = false := HM.out.fz 4
  go_upto_region 26 with fail
  clear c0 f0
  have hc1 := Ch.ofCell (i := 4) HM.out (.int .i64 (riN q.1))
  obtain ⟨q', hq'⟩ : ∃ q', q' = (ruS q.1, setv q.2 4 (riN q.1)) := ⟨_, rfl⟩
  have HM7 : Hid (MAt (wa.setCell ⟨mb, 4, none⟩ (.int .i64 (riN q.1))) mb q'.2 none 0 0) := Lib.hid (by rw [hq']; exact HM.out.setN (by omega) (by omega) (riN q.1))
  have HD7 : Hid (RdR (wa.setCell ⟨mb, 4, none⟩ (.int .i64 (riN q.1))) S g q'.1) := Lib.hid (by rw [hq']; exact HD.out.chg hc1.chg (fun e => by injection e with e; omega) (fun k hk e => by injection e with e; omega))
  have HR7 := Lib.hid (hc1.blkN HR.out (fun e => by injection e with e; omega))
  have HB7 := Lib.hid (HB.out.trans (hc1.chg.below (B := S) (by omega) (fun k hk e => by injection e with e; omega)))
  have hs7 : mb < (wa.setCell ⟨mb, 4, none⟩ (.int .i64 (riN q.1))).heap.size := Nat.lt_of_lt_of_le hs hc1.chg.size
  have HQ7 : Hid (q' = rdF (fl.take 3) p0) := Lib.hid (by rw [hq', HQ.out, HFL.out]; exact (rdF_next (l := [⟨1, 0, 1099511627776⟩, ⟨2, 0, 15⟩, ⟨4, 0, 1099511627775⟩, ⟨5, 0, 2199023255552⟩]) (j := 2) (f := ⟨4, 0, 1099511627775⟩) p0 rfl).symm)
  clear hc1 hq' HM HD HR HB hs HQ
  generalize wa.setCell ⟨mb, 4, none⟩ (.int .i64 (riN q.1)) = wb at HM7 HD7 HR7 HB7 hs7 ⊢
  obtain ⟨v3, hv3⟩ : ∃ y, y = wb := ⟨_, rfl⟩
  rw [← hv3] at HM7 HD7 HR7 HB7 hs7 ⊢
  obtain ⟨q, hqq⟩ : ∃ y, y = q' := ⟨_, rfl⟩
  rw [← hqq] at HM7 HD7 HQ7
  clear hv3 hqq
  have HM := HM7
  have HD := HD7
  have HR := HR7
  have HB := HB7
  have HQ := HQ7
  have hs := hs7
  clear HM7 HD7 HR7 HB7 HQ7 hs7
  go_wp2_with fail
  obtain ⟨A5, c5, hrd⟩ := HD.out
  refine (rri_any S g q.1 A5 c5 v3 hrd).mono ?_
  rintro e wa ⟨rfl, hto⟩
  have hch := hto.chg
  obtain ⟨A6, c6, hrd6⟩ := hto.open_
  have HM : Hid (MAt wa mb q.2 none 0 0) := Lib.hid ((hch.block mb hs (by show ¬ mb = g; omega)).trans HM.out)
  have HD : Hid (RdR wa S g (ruS q.1)) := Lib.hid ⟨A6, c6, hrd6⟩
  have HR := Lib.hid ((hch.block S (by omega) (by show ¬ S = g; omega)).trans HR.out)
  have HB := Lib.hid (HB.out.trans (hch.below (B := S) (by omega) (fun k hk e => by omega)))
  have hs : mb < wa.heap.size := Nat.lt_of_lt_of_le hs hch.size
  clear hrd hrd6 hto hch
  have c0 : wa.cell? ⟨mb, 5, none⟩ = some (.int .i64 (q.2 5)) := HM.out.cell (by omega) (by omega)
  have f0 : wa.frozen? ⟨mb, 5, none⟩ = false := HM.out.fz 5
  go_upto_region 42 with fail
  clear c0 f0
  have hc1 := Ch.ofCell (i := 5) HM.out (.int .i64 (riN q.1))
  obtain ⟨q', hq'⟩ : ∃ q', q' = (ruS q.1, setv q.2 5 (riN q.1)) := ⟨_, rfl⟩
  have HM7 : Hid (MAt (wa.setCell ⟨mb, 5, none⟩ (.int .i64 (riN q.1))) mb q'.2 none 0 0) := Lib.hid (by rw [hq']; exact HM.out.setN (by omega) (by omega) (riN q.1))
  have HD7 : Hid (RdR (wa.setCell ⟨mb, 5, none⟩ (.int .i64 (riN q.1))) S g q'.1) := Lib.hid (by rw [hq']; exact HD.out.chg hc1.chg (fun e => by injection e with e; omega) (fun k hk e => by injection e with e; omega))
  have HR7 := Lib.hid (hc1.blkN HR.out (fun e => by injection e with e; omega))
  have HB7 := Lib.hid (HB.out.trans (hc1.chg.below (B := S) (by omega) (fun k hk e => by injection e with e; omega)))
  have hs7 : mb < (wa.setCell ⟨mb, 5, none⟩ (.int .i64 (riN q.1))).heap.size := Nat.lt_of_lt_of_le hs hc1.chg.size
  have HQ7 : Hid (q' = rdF (fl.take 4) p0) := Lib.hid (by rw [hq', HQ.out, HFL.out]; exact (rdF_next (l := [⟨1, 0, 1099511627776⟩, ⟨2, 0, 15⟩, ⟨4, 0, 1099511627775⟩, ⟨5, 0, 2199023255552⟩]) (j := 3) (f := ⟨5, 0, 2199023255552⟩) p0 rfl).symm)
  clear hc1 hq' HM HD HR HB hs HQ
  generalize wa.setCell ⟨mb, 5, none⟩ (.int .i64 (riN q.1)) = wb at HM7 HD7 HR7 HB7 hs7 ⊢
  obtain ⟨v4, hv4⟩ : ∃ y, y = wb := ⟨_, rfl⟩
  rw [← hv4] at HM7 HD7 HR7 HB7 hs7 ⊢
  obtain ⟨q, hqq⟩ : ∃ y, y = q' := ⟨_, rfl⟩
  rw [← hqq] at HM7 HD7 HQ7
  clear hv4 hqq
  have HM := HM7
  have HD := HD7
  have HR := HR7
  have HB := HB7
  have HQ := HQ7
  have hs := hs7
  clear HM7 HD7 HR7 HB7 HQ7 hs7
  go_wp2_with fail
  have htk : q = upF l := by rw [HQ.out, HUF.out, HFL.out]; rfl
  rw [htk] at HM HD
  rw [← HRR.out] at HD
  clear htk HQ
  obtain ⟨At, hAt⟩ : ∃ A : Option Addr, A = none := ⟨_, rfl⟩
  obtain ⟨nt, hnt⟩ : ∃ n, n = 0 := ⟨_, rfl⟩
  obtain ⟨ct, hct⟩ : ∃ n, n = 0 := ⟨_, rfl⟩
  have HTN : Hid (∀ b o, At = some ⟨b, o, none⟩ → ¬ b = g) := Lib.hid (fun b o e h => by rw [hAt] at e; cases e)
  have HTS : Hid (∀ b o, At = some ⟨b, o, none⟩ → ¬ b = S) := Lib.hid (fun b o e h => by rw [hAt] at e; cases e)
  have HNL : Hid (nt = (upT l).length) := Lib.hid (by rw [HTX0.out, hnt]; rfl)
  have HT : Hid (BytesIn v4 v4.heap.size At ct (upT l)) := Lib.hid (by rw [HTX0.out]; exact .emp (by omega))
  have HM : Hid (MAt v4 mb (upF l).2 At nt ct) := Lib.hid (by rw [hAt, hnt, hct]; exact HM.out)
  have hsz : mb < v4.heap.size := hs
  clear hAt hnt hct hs
  obtain ⟨wz, hwz⟩ : ∃ y, y = v4 := ⟨_, rfl⟩
  rw [← hwz] at HM HD HR HB HT hsz ⊢
  clear hwz
  obtain ⟨A8, c8, hrd⟩ := HD.out
  refine (rend_any S g _ A8 c8 wz hrd (rok_upR l)).mono ?_
  rintro e w9 ⟨rfl, hto⟩
  have hch := hto.chg
  have HM9 : Hid (MAt w9 mb (upF l).2 At nt ct) := Lib.hid ((hch.block mb hsz (by show ¬ mb = g; omega)).trans HM.out)
  have HRES := Lib.hid ((hch.block S (by omega) (by show ¬ S = g; omega)).trans HR.out)
  have HB9 := Lib.hid (HB.out.trans (hch.below (B := S) (by omega) (fun k hk e => by omega)))
  have HT9 := Lib.hid ((HT.out.chgN hch HTN.out).more hch.size)
  have hs9 : mb < w9.heap.size := Nat.lt_of_lt_of_le hsz hch.size
  clear hrd hto hch HD HM HR HB HT hsz
  obtain ⟨x, hx⟩ : ∃ x, x = (rendS (upR l)).e := ⟨_, rfl⟩
  rw [← hx]
  by_cases hx0 : x = 0
  · have HXE := Lib.hid hx
    have HX0 := Lib.hid hx0
    have hq : (x != 0) = false := by rw [hx0]; rfl
    clear hx hx0
    have HMU := Lib.hid (show w9.heap[mb]? = some (.cells #[.int .i64 ((upF l).2 0), .int .i64 ((upF l).2 1), .int .i64 ((upF l).2 2), .int .i64 ((upF l).2 3), .int .i64 ((upF l).2 4), .int .i64 ((upF l).2 5), .int .i64 ((upF l).2 6), .int .i64 ((upF l).2 7), .int .i64 ((upF l).2 8), .int .i64 ((upF l).2 9), .int .i64 ((upF l).2 10), .int .i64 ((upF l).2 11), .int .i64 ((upF l).2 12), .int .i64 ((upF l).2 13), .int .i64 ((upF l).2 14), .int .i64 ((upF l).2 15), .int .i64 ((upF l).2 16), .slice At nt ct, .int .i64 ((upF l).2 18), .int .i64 ((upF l).2 19), .int .i64 ((upF l).2 20)] 29 (0, 0)) from HM9.out)
    go_wp2_with (refine wpList_load_row rfl 29 _ rfl mb rfl 29 _ (0, 0) _ HMU.out Tryd.underlying29 rfl (by kernel_rfl) ?_)
    clear hq HMU
    refine (may_any (upF l).2 At nt ct w9).mono ?_
    rintro e w10 ⟨rfl, hb⟩
    have HMX := Lib.hid (HM9.out.below hb hs9)
    have HRES := Lib.hid ((hb.block S (by omega)).trans HRES.out)
    have HBX := Lib.hid (HB9.out.trans (hb.mono (by omega)))
    have HTX := Lib.hid ((HT9.out.below hb (Nat.le_refl _)).more hb.size)
    have hsx : mb < w10.heap.size := Nat.lt_of_lt_of_le hs9 hb.size
    clear hb HM9 HB9 HT9 hs9
    have hE4 : upE l = if OkM (upF l).2 nt then 0 else 11 := by
      unfold upE
      rw [if_neg (fun h => h HE.out), if_neg HRX.out, if_neg (by rw [← HXE.out]; exact fun h => h HX0.out), ← HNL.out]
    have hmo := may_ok (upF l).2 nt
    obtain ⟨b, hbb⟩ : ∃ b, b = mayB (upF l).2 nt := ⟨_, rfl⟩
    rw [← hbb] at hmo ⊢
    clear hbb
    cases b
    · have hup : upE l = 11 := by rw [hE4, if_neg (fun h => by have := hmo.2 h; simp at this)]
      have HUP := Lib.hid hup
      clear hup hE4 hmo
      go_wp2_with (refine wpList_store_row rfl 29 (.tmp 2) (.tmp 140) rfl S _ rfl rfl 29 _ HRES.out (by kernel_rfl) rfl (by simp [Value.oneCell']) ?_)
      have HRS := Lib.hid (setRow_heap _ _ _ #[.int .i64 0, .int .i64 0, .int .i64 0, .int .i64 0, .int .i64 0, .int .i64 0, .int .i64 0, .int .i64 0, .int .i64 0, .int .i64 0, .int .i64 0, .int .i64 0, .int .i64 0, .int .i64 0, .int .i64 0, .int .i64 0, .int .i64 0, .slice none 0 0, .int .i64 0, .int .i64 0, .int .i64 0] _ _ HRES.out)
      refine bodyPost_ret (v := .tuple #[.agg #[.int .i64 0, .int .i64 0, .int .i64 0, .int .i64 0, .int .i64 0, .int .i64 0, .int .i64 0, .int .i64 0, .int .i64 0, .int .i64 0, .int .i64 0, .int .i64 0, .int .i64 0, .int .i64 0, .int .i64 0, .int .i64 0, .int .i64 0, .slice none 0 0, .int .i64 0, .int .i64 0, .int .i64 0], .int .i64 11]) (results_runp _ _ S _ rfl HRS.out rfl) rfl ?_
      exact unpAt_no (by rw [HUP.out]; decide) HUP.out rfl (by rw [HSW.out]; exact HBX.out.trans ((Ch.ofRow HRES.out #[.int .i64 0, .int .i64 0, .int .i64 0, .int .i64 0, .int .i64 0, .int .i64 0, .int .i64 0, .int .i64 0, .int .i64 0, .int .i64 0, .int .i64 0, .int .i64 0, .int .i64 0, .int .i64 0, .int .i64 0, .int .i64 0, .int .i64 0, .slice none 0 0, .int .i64 0, .int .i64 0, .int .i64 0]).chg.below (by omega) (fun k hk h => by injection h with h; omega)))
    · have hup : upE l = 0 := by rw [hE4, if_pos (hmo.1 rfl)]
      have HUP := Lib.hid hup
      clear hup hE4 hmo
      have HMU := Lib.hid (show w10.heap[mb]? = some (.cells #[.int .i64 ((upF l).2 0), .int .i64 ((upF l).2 1), .int .i64 ((upF l).2 2), .int .i64 ((upF l).2 3), .int .i64 ((upF l).2 4), .int .i64 ((upF l).2 5), .int .i64 ((upF l).2 6), .int .i64 ((upF l).2 7), .int .i64 ((upF l).2 8), .int .i64 ((upF l).2 9), .int .i64 ((upF l).2 10), .int .i64 ((upF l).2 11), .int .i64 ((upF l).2 12), .int .i64 ((upF l).2 13), .int .i64 ((upF l).2 14), .int .i64 ((upF l).2 15), .int .i64 ((upF l).2 16), .slice At nt ct, .int .i64 ((upF l).2 18), .int .i64 ((upF l).2 19), .int .i64 ((upF l).2 20)] 29 (0, 0)) from HMX.out)
      go_wp2_with (first | (refine wpList_load_row rfl 29 (.tmp 8) rfl mb rfl 29 _ (0, 0) _ HMU.out Tryd.underlying29 rfl (by kernel_rfl) ?_) | (refine wpList_store_row rfl 29 (.tmp 2) (.tmp 141) rfl S _ rfl rfl 29 _ HRES.out (by kernel_rfl) rfl (by simp [Value.oneCell']) ?_))
      have HRS := Lib.hid (setRow_heap _ _ _ #[.int .i64 ((upF l).2 0), .int .i64 ((upF l).2 1), .int .i64 ((upF l).2 2), .int .i64 ((upF l).2 3), .int .i64 ((upF l).2 4), .int .i64 ((upF l).2 5), .int .i64 ((upF l).2 6), .int .i64 ((upF l).2 7), .int .i64 ((upF l).2 8), .int .i64 ((upF l).2 9), .int .i64 ((upF l).2 10), .int .i64 ((upF l).2 11), .int .i64 ((upF l).2 12), .int .i64 ((upF l).2 13), .int .i64 ((upF l).2 14), .int .i64 ((upF l).2 15), .int .i64 ((upF l).2 16), .slice At nt ct, .int .i64 ((upF l).2 18), .int .i64 ((upF l).2 19), .int .i64 ((upF l).2 20)] _ _ HRES.out)
      refine bodyPost_ret (v := .tuple #[.agg #[.int .i64 ((upF l).2 0), .int .i64 ((upF l).2 1), .int .i64 ((upF l).2 2), .int .i64 ((upF l).2 3), .int .i64 ((upF l).2 4), .int .i64 ((upF l).2 5), .int .i64 ((upF l).2 6), .int .i64 ((upF l).2 7), .int .i64 ((upF l).2 8), .int .i64 ((upF l).2 9), .int .i64 ((upF l).2 10), .int .i64 ((upF l).2 11), .int .i64 ((upF l).2 12), .int .i64 ((upF l).2 13), .int .i64 ((upF l).2 14), .int .i64 ((upF l).2 15), .int .i64 ((upF l).2 16), .slice At nt ct, .int .i64 ((upF l).2 18), .int .i64 ((upF l).2 19), .int .i64 ((upF l).2 20)], .int .i64 0]) (results_runp _ _ S _ rfl HRS.out rfl) rfl ?_
      have hch := Ch.ofRow HRES.out #[.int .i64 ((upF l).2 0), .int .i64 ((upF l).2 1), .int .i64 ((upF l).2 2), .int .i64 ((upF l).2 3), .int .i64 ((upF l).2 4), .int .i64 ((upF l).2 5), .int .i64 ((upF l).2 6), .int .i64 ((upF l).2 7), .int .i64 ((upF l).2 8), .int .i64 ((upF l).2 9), .int .i64 ((upF l).2 10), .int .i64 ((upF l).2 11), .int .i64 ((upF l).2 12), .int .i64 ((upF l).2 13), .int .i64 ((upF l).2 14), .int .i64 ((upF l).2 15), .int .i64 ((upF l).2 16), .slice At nt ct, .int .i64 ((upF l).2 18), .int .i64 ((upF l).2 19), .int .i64 ((upF l).2 20)]
      have hov : outV l = (upF l).2 := by unfold outV; rw [if_pos HUP.out]
      have hot : outT l = upT l := by unfold outT; rw [if_pos HUP.out]
      exact ⟨At, ct, by rw [hov, hot, HUP.out, ← HNL.out], by rw [hot]; exact (HTX.out.chgN hch.chg (fun b o e h => HTS.out b o e (by injection h with h; exact h.symm))).more hch.chg.size, by rw [HSW.out]; exact HBX.out.trans (hch.chg.below (by omega) (fun k hk h => by injection h with h; omega))⟩
  · have hup : upE l = x := by
      unfold upE
      rw [if_neg (fun h => h HE.out), if_neg HRX.out, if_pos (by rw [← hx]; exact hx0), ← hx]
    have HUP := Lib.hid hup
    have HX0 := Lib.hid hx0
    have hq : (x != 0) = true := by rw [bne_iff_ne]; exact hx0
    clear hx hup hx0
    go_wp2_with (refine wpList_store_row rfl 29 (.tmp 2) (.tmp 134) rfl S _ rfl rfl 29 _ HRES.out (by kernel_rfl) rfl (by simp [Value.oneCell']) ?_)
    have HRS := Lib.hid (setRow_heap _ _ _ #[.int .i64 0, .int .i64 0, .int .i64 0, .int .i64 0, .int .i64 0, .int .i64 0, .int .i64 0, .int .i64 0, .int .i64 0, .int .i64 0, .int .i64 0, .int .i64 0, .int .i64 0, .int .i64 0, .int .i64 0, .int .i64 0, .int .i64 0, .slice none 0 0, .int .i64 0, .int .i64 0, .int .i64 0] _ _ HRES.out)
    refine bodyPost_ret (v := .tuple #[.agg #[.int .i64 0, .int .i64 0, .int .i64 0, .int .i64 0, .int .i64 0, .int .i64 0, .int .i64 0, .int .i64 0, .int .i64 0, .int .i64 0, .int .i64 0, .int .i64 0, .int .i64 0, .int .i64 0, .int .i64 0, .int .i64 0, .int .i64 0, .slice none 0 0, .int .i64 0, .int .i64 0, .int .i64 0], .int .i64 x]) (results_runp _ _ S _ rfl HRS.out rfl) rfl ?_
    exact unpAt_no (by rw [HUP.out]; exact HX0.out) HUP.out rfl (by rw [HSW.out]; exact HB9.out.trans ((Ch.ofRow HRES.out #[.int .i64 0, .int .i64 0, .int .i64 0, .int .i64 0, .int .i64 0, .int .i64 0, .int .i64 0, .int .i64 0, .int .i64 0, .int .i64 0, .int .i64 0, .int .i64 0, .int .i64 0, .int .i64 0, .int .i64 0, .int .i64 0, .int .i64 0, .slice none 0 0, .int .i64 0, .int .i64 0, .int .i64 0]).chg.below (by omega) (fun k hk h => by injection h with h; omega)))
set_option maxRecDepth 100000 in
set_option maxHeartbeats 8000000 in
theorem runp_4 (A : Option Addr) (n c : Nat) (l : List UInt8) (w : World) (hb : BytesIn w w.heap.size A c l) (hn : n = l.length) (hE : lookE l = 0) (hr : ¬ num4 l + 8 < l.length) (hk : upK l = 4) :
    Calls Tryd.prog 16 #[.slice A n c] w fun e w' => UnpAt l w e w' := by
  have hal : Below w.heap.size w (w.alloc (.cells #[.int .i64 0, .int .i64 0, .int .i64 0, .int .i64 0, .int .i64 0, .int .i64 0, .int .i64 0, .int .i64 0, .int .i64 0, .int .i64 0, .int .i64 0, .int .i64 0, .int .i64 0, .int .i64 0, .int .i64 0, .int .i64 0, .int .i64 0, .slice none 0 0, .int .i64 0, .int .i64 0, .int .i64 0] 29)) := (Below.refl w.heap.size w).alloc (Nat.le_refl _) _
  have hres := heap_alloc_new w (.cells #[.int .i64 0, .int .i64 0, .int .i64 0, .int .i64 0, .int .i64 0, .int .i64 0, .int .i64 0, .int .i64 0, .int .i64 0, .int .i64 0, .int .i64 0, .int .i64 0, .int .i64 0, .int .i64 0, .int .i64 0, .int .i64 0, .int .i64 0, .slice none 0 0, .int .i64 0, .int .i64 0, .int .i64 0] 29)
  have HB0 := Lib.hid hal
  have HT0 := Lib.hid (hb.below hal (Nat.le_refl _))
  obtain ⟨S, hS⟩ : ∃ S, S = w.heap.size := ⟨_, rfl⟩
  have hs0 : S < (w.alloc (.cells #[.int .i64 0, .int .i64 0, .int .i64 0, .int .i64 0, .int .i64 0, .int .i64 0, .int .i64 0, .int .i64 0, .int .i64 0, .int .i64 0, .int .i64 0, .int .i64 0, .int .i64 0, .int .i64 0, .int .i64 0, .int .i64 0, .int .i64 0, .slice none 0 0, .int .i64 0, .int .i64 0, .int .i64 0] 29)).heap.size := by simp [hS]
  rw [← hS] at hres
  have HR0 := Lib.hid hres
  have HSW : Hid (w.heap.size = S) := Lib.hid hS.symm
  have HN := Lib.hid hn
  have HE := Lib.hid hE
  have HRT := Lib.hid hr
  have HRX := Lib.hid hr
  have HK : Hid (upK l = 4) := Lib.hid hk
  have he : (ruS (bodyRd l)).e = 0 := by
    by_cases he : (ruS (bodyRd l)).e = 0
    · exact he
    · have : upK l = 0 := ri_bad rfl he
      rw [hk] at this; cases this
  have HEE := Lib.hid he
  obtain ⟨p0, hp0⟩ : ∃ p, p = up0 l := ⟨_, rfl⟩
  have HP0 : Hid (p0 = (ruS (bodyRd l), fun i => if i = 0 then 4 else 0)) := Lib.hid (by rw [hp0]; unfold up0; rw [hk]; rfl)
  obtain ⟨fl, hfl⟩ : ∃ fl : List FD, fl = flK 4 := ⟨_, rfl⟩
  have HFL : Hid (fl = _) := Lib.hid (hfl.trans flK_4)
  have HUF : Hid (upF l = rdF fl p0) := Lib.hid (by unfold upF; rw [hk, ← hfl, ← hp0])
  have HTX0 : Hid (upT l = []) := Lib.hid (by unfold upT; rw [hk]; rfl)
  have HRR : Hid (upR l = (upF l).1) := Lib.hid (by unfold upR; rw [hk, if_neg (by decide)])
  clear hr hk he hp0 hfl
  clear hal hb hn hres
  go_enter Tryd.func16, Tryd.ntmps16
  go_upto_region 1 with fail
  rw [← hS]
  rw [← hS] at HB0 HT0
  clear hS
  generalize w.alloc (.cells #[.int .i64 0, .int .i64 0, .int .i64 0, .int .i64 0, .int .i64 0, .int .i64 0, .int .i64 0, .int .i64 0, .int .i64 0, .int .i64 0, .int .i64 0, .int .i64 0, .int .i64 0, .int .i64 0, .int .i64 0, .int .i64 0, .int .i64 0, .slice none 0 0, .int .i64 0, .int .i64 0, .int .i64 0] 29) = w0 at HB0 hs0 HT0 HR0 ⊢
  have hok := lookE_ok hE
  have hbl := bodyOf_length hE
  clear hE
  go_wp2_with fail
  refine (rnext_ok A c n l w0 S HT0.out HN.out HE.out).mono ?_
  rintro e w1 ⟨A1, c1, rfl, hby, k1, rfl⟩
  have HR1 : Hid ((w0.drewN k1).heap[S]? = some (.cells #[.int .i64 0, .int .i64 0, .int .i64 0, .int .i64 0, .int .i64 0, .int .i64 0, .int .i64 0, .int .i64 0, .int .i64 0, .int .i64 0, .int .i64 0, .int .i64 0, .int .i64 0, .int .i64 0, .int .i64 0, .int .i64 0, .int .i64 0, .slice none 0 0, .int .i64 0, .int .i64 0, .int .i64 0] 29 (0, 0))) := HR0
  have HB1 : Hid (Below S w (w0.drewN k1)) := Lib.hid (below_dn HB0.out)
  have hs1 : S < (w0.drewN k1).heap.size := hs0
  have HY1 := Lib.hid (hby.drewN k1)
  obtain ⟨m, hm⟩ : ∃ m, m = num4 l := ⟨_, rfl⟩
  rw [← hm] at hok hbl ⊢
  have HMN := Lib.hid hm
  have HBL : Hid (m = (bodyOf l).length) := Lib.hid hbl.symm
  have hm8 : m + 8 = n := by have h1 := HN.out; have h2 := HMN.out; have h3 := HRT.out; omega
  clear hby HT0 HR0 HB0 hs0 hm hbl HRT
  generalize w0.drewN k1 = w1 at HR1 HB1 hs1 HY1 ⊢
  subst hm8
  obtain ⟨g, hg⟩ : ∃ g, g = w1.heap.size := ⟨_, rfl⟩
  obtain ⟨w2, hw2⟩ : ∃ y, y = w1.alloc (.cells #[.slice A1 m c1, .int .i64 0] 83) := ⟨_, rfl⟩
  have hal : Below w1.heap.size w1 w2 := by rw [hw2]; exact (Below.refl _ _).alloc (Nat.le_refl _) _
  have hrd : RdAt 83 w2 S g (bodyRd l) A1 c1 := ⟨by rw [hw2, hg, HBL.out]; exact heap_alloc_new w1 _, HY1.out.below (hal.mono (Nat.le_of_lt hs1)) (Nat.le_refl _), by omega⟩
  have HD2 := Lib.hid hrd
  have HR2 := Lib.hid ((hal.block S hs1).trans HR1.out)
  have HB2 := Lib.hid (HB1.out.trans (hal.mono (Nat.le_of_lt hs1)))
  have hSg : S < g := by omega
  have hs2 : g < w2.heap.size := hrd.glt
  clear hal hrd HR1 HB1 HY1 hs1
  go_wp2_with fail
  rw [← hw2, ← hg]
  clear hw2 hg
  refine (rri_any S g (bodyRd l) _ _ w2 HD2.out).mono ?_
  rintro e w3 ⟨rfl, hto⟩
  have hch := hto.chg
  obtain ⟨A3, c3, hrd⟩ := hto.open_
  have HD3 : Hid (RdR w3 S g (ruS (bodyRd l))) := Lib.hid ⟨A3, c3, hrd⟩
  have HR3 := Lib.hid ((hch.block S (by omega) (by show ¬ S = g; omega)).trans HR2.out)
  have HB3 := Lib.hid (HB2.out.trans (hch.below (B := S) (by omega) (fun k hk e => by omega)))
  have hs3 : g < w3.heap.size := hrd.glt
  clear hto hch hrd HD2 HR2 HB2 hs2
  rw [show riN (bodyRd l) = 4 from HK.out]
  obtain ⟨mb, hmb⟩ : ∃ x, x = w3.heap.size := ⟨_, rfl⟩
  go_upto_region 8 with (refine wpList_store_row rfl 29 (.tmp 8) (.tmp 33) rfl w3.heap.size _ rfl rfl 29 _ (heap_alloc_new w3 _) (by kernel_rfl) rfl (by simp [Value.oneCell']) ?_; rw [World.setRow_alloc_new])
  obtain ⟨w4, hw4⟩ : ∃ y, y = w3.alloc (.cells #[.int .i64 (4), .int .i64 0, .int .i64 0, .int .i64 0, .int .i64 0, .int .i64 0, .int .i64 0, .int .i64 0, .int .i64 0, .int .i64 0, .int .i64 0, .int .i64 0, .int .i64 0, .int .i64 0, .int .i64 0, .int .i64 0, .int .i64 0, .slice none 0 0, .int .i64 0, .int .i64 0, .int .i64 0] 29) := ⟨_, rfl⟩
  rw [← hw4]
  have hal : Below w3.heap.size w3 w4 := by rw [hw4]; exact (Below.refl _ _).alloc (Nat.le_refl _) _
  have hm4 : MAt w4 mb (fun i => if i = 0 then 4 else 0) none 0 0 := by rw [hw4, hmb]; exact heap_alloc_new w3 _
  rw [← hmb]
  have HM := Lib.hid hm4
  have HD := Lib.hid (HD3.out.chg (Chg.of_below (S := fun _ => False) hal) (fun h => h) (fun _ _ h => h))
  have HR := Lib.hid ((hal.block S (by omega)).trans HR3.out)
  have HB := Lib.hid (HB3.out.trans (hal.mono (by omega)))
  have hgm : g < mb := by omega
  have hs : mb < w4.heap.size := ltb hm4
  clear hal hm4 hw4 hmb HD3 HR3 HB3 hs3
  obtain ⟨A5, c5, hrd⟩ := HD.out
  have c1' := hrd.c1
  have m0 : w4.cell? ⟨mb, 0, none⟩ = some (.int .i64 (4)) := cellb (i := 0) HM.out rfl
  clear hrd
  rw [HEE.out] at c1'
  obtain ⟨q, hq⟩ : ∃ q, q = rdF (fl.take 0) p0 := ⟨_, rfl⟩
  have HQ := Lib.hid hq
  have hq0 : q = p0 := hq
  have HM : Hid (MAt w4 mb q.2 none 0 0) := Lib.hid (by rw [hq0, HP0.out]; exact HM.out)
  have HD : Hid (RdR w4 S g q.1) := Lib.hid (by rw [hq0, HP0.out]; exact HD.out)
  clear hq hq0
  go_wp2_with fail
  clear c1'
  refine (within_any _ _ _ _).mono ?_
  rw [show wB 4 1 8 = true by decide]
  rintro e w' ⟨rfl, rfl⟩
  go_wp2_with fail
  clear m0
  refine (epoch_any 4 w4).mono ?_
  rw [show epB 4 = true by decide]
  rintro e w' ⟨rfl, rfl⟩
  go_wp2_with fail
  obtain ⟨A5, c5, hrd⟩ := HD.out
  refine (rri_any S g q.1 A5 c5 w4 hrd).mono ?_
  rintro e wa ⟨rfl, hto⟩
  have hch := hto.chg
  obtain ⟨A6, c6, hrd6⟩ := hto.open_
  have HM : Hid (MAt wa mb q.2 none 0 0) := Lib.hid ((hch.block mb hs (by show ¬ mb = g; omega)).trans HM.out)
  have HD : Hid (RdR wa S g (ruS q.1)) := Lib.hid ⟨A6, c6, hrd6⟩
  have HR := Lib.hid ((hch.block S (by omega) (by show ¬ S = g; omega)).trans HR.out)
  have HB := Lib.hid (HB.out.trans (hch.below (B := S) (by omega) (fun k hk e => by omega)))
  have hs : mb < wa.heap.size := Nat.lt_of_lt_of_le hs hch.size
  clear hrd hrd6 hto hch
  have c0 : wa.cell? ⟨mb, 1, none⟩ = some (.int .i64 (q.2 1)) := HM.out.cell (by omega) (by omega)
  have f0 : wa.frozen? ⟨mb, 1, none⟩ = false := HM.out.fz 1
  go_upto_region 13 with fail
  clear c0 f0
  have hc1 := Ch.ofCell (i := 1) HM.out (.int .i64 (riN q.1))
  obtain ⟨q', hq'⟩ : ∃ q', q' = (ruS q.1, setv q.2 1 (riN q.1)) := ⟨_, rfl⟩
  have HM7 : Hid (MAt (wa.setCell ⟨mb, 1, none⟩ (.int .i64 (riN q.1))) mb q'.2 none 0 0) := Lib.hid (by rw [hq']; exact HM.out.setN (by omega) (by omega) (riN q.1))
  have HD7 : Hid (RdR (wa.setCell ⟨mb, 1, none⟩ (.int .i64 (riN q.1))) S g q'.1) := Lib.hid (by rw [hq']; exact HD.out.chg hc1.chg (fun e => by injection e with e; omega) (fun k hk e => by injection e with e; omega))
  have HR7 := Lib.hid (hc1.blkN HR.out (fun e => by injection e with e; omega))
  have HB7 := Lib.hid (HB.out.trans (hc1.chg.below (B := S) (by omega) (fun k hk e => by injection e with e; omega)))
  have hs7 : mb < (wa.setCell ⟨mb, 1, none⟩ (.int .i64 (riN q.1))).heap.size := Nat.lt_of_lt_of_le hs hc1.chg.size
  have HQ7 : Hid (q' = rdF (fl.take 1) p0) := Lib.hid (by rw [hq', HQ.out, HFL.out]; exact (rdF_next (l := [⟨1, 0, 1099511627776⟩, ⟨2, 0, 15⟩, ⟨6, 1, 100⟩, ⟨7, 1, 6⟩]) (j := 0) (f := ⟨1, 0, 1099511627776⟩) p0 rfl).symm)
  clear hc1 hq' HM HD HR HB hs HQ
  generalize wa.setCell ⟨mb, 1, none⟩ (.int .i64 (riN q.1)) = wb at HM7 HD7 HR7 HB7 hs7 ⊢
  obtain ⟨v1, hv1⟩ : ∃ y, y = wb := ⟨_, rfl⟩
  rw [← hv1] at HM7 HD7 HR7 HB7 hs7 ⊢
  obtain ⟨q, hqq⟩ : ∃ y, y = q' := ⟨_, rfl⟩
  rw [← hqq] at HM7 HD7 HQ7
  clear hv1 hqq
  have HM := HM7
  have HD := HD7
  have HR := HR7
  have HB := HB7
  have HQ := HQ7
  have hs := hs7
  clear HM7 HD7 HR7 HB7 HQ7 hs7
  go_wp2_with fail
  refine (node_any 4 v1).mono ?_
  rw [show wB 4 1 6 = true by decide]
  rintro e w' ⟨rfl, rfl⟩
  go_wp2_with fail
  obtain ⟨A5, c5, hrd⟩ := HD.out
  refine (rri_any S g q.1 A5 c5 v1 hrd).mono ?_
  rintro e wa ⟨rfl, hto⟩
  have hch := hto.chg
  obtain ⟨A6, c6, hrd6⟩ := hto.open_
  have HM : Hid (MAt wa mb q.2 none 0 0) := Lib.hid ((hch.block mb hs (by show ¬ mb = g; omega)).trans HM.out)
  have HD : Hid (RdR wa S g (ruS q.1)) := Lib.hid ⟨A6, c6, hrd6⟩
  have HR := Lib.hid ((hch.block S (by omega) (by show ¬ S = g; omega)).trans HR.out)
  have HB := Lib.hid (HB.out.trans (hch.below (B := S) (by omega) (fun k hk e => by omega)))
  have hs : mb < wa.heap.size := Nat.lt_of_lt_of_le hs hch.size
  clear hrd hrd6 hto hch
  have c0 : wa.cell? ⟨mb, 2, none⟩ = some (.int .i64 (q.2 2)) := HM.out.cell (by omega) (by omega)
  have f0 : wa.frozen? ⟨mb, 2, none⟩ = false := HM.out.fz 2
  go_upto_region 15 with fail
  clear c0 f0
  have hc1 := Ch.ofCell (i := 2) HM.out (.int .i64 (riN q.1))
  obtain ⟨q', hq'⟩ : ∃ q', q' = (ruS q.1, setv q.2 2 (riN q.1)) := ⟨_, rfl⟩
  have HM7 : Hid (MAt (wa.setCell ⟨mb, 2, none⟩ (.int .i64 (riN q.1))) mb q'.2 none 0 0) := Lib.hid (by rw [hq']; exact HM.out.setN (by omega) (by omega) (riN q.1))
  have HD7 : Hid (RdR (wa.setCell ⟨mb, 2, none⟩ (.int .i64 (riN q.1))) S g q'.1) := Lib.hid (by rw [hq']; exact HD.out.chg hc1.chg (fun e => by injection e with e; omega) (fun k hk e => by injection e with e; omega))
  have HR7 := Lib.hid (hc1.blkN HR.out (fun e => by injection e with e; omega))
  have HB7 := Lib.hid (HB.out.trans (hc1.chg.below (B := S) (by omega) (fun k hk e => by injection e with e; omega)))
  have hs7 : mb < (wa.setCell ⟨mb, 2, none⟩ (.int .i64 (riN q.1))).heap.size := Nat.lt_of_lt_of_le hs hc1.chg.size
  have HQ7 : Hid (q' = rdF (fl.take 2) p0) := Lib.hid (by rw [hq', HQ.out, HFL.out]; exact (rdF_next (l := [⟨1, 0, 1099511627776⟩, ⟨2, 0, 15⟩, ⟨6, 1, 100⟩, ⟨7, 1, 6⟩]) (j := 1) (f := ⟨2, 0, 15⟩) p0 rfl).symm)
  clear hc1 hq' HM HD HR HB hs HQ
  generalize wa.setCell ⟨mb, 2, none⟩ (.int .i64 (riN q.1)) = wb at HM7 HD7 HR7 HB7 hs7 ⊢
  obtain ⟨v2, hv2⟩ : ∃ y, y = wb := ⟨_, rfl⟩
  rw [← hv2] at HM7 HD7 HR7 HB7 hs7 ⊢
  obtain ⟨q, hqq⟩ : ∃ y, y = q' := ⟨_, rfl⟩
  rw [← hqq] at HM7 HD7 HQ7
  clear hv2 hqq
  have HM := HM7
  have HD := HD7
  have HR := HR7
  have HB := HB7
  have HQ := HQ7
  have hs := hs7
  clear HM7 HD7 HR7 HB7 HQ7 hs7
  go_wp2_with fail
  refine (job_any 4 v2).mono ?_
  rw [show wB 4 3 6 = true by decide]
  rintro e w' ⟨rfl, rfl⟩
  go_wp2_with fail
  obtain ⟨A5, c5, hrd⟩ := HD.out
  refine (rri_any S g q.1 A5 c5 v2 hrd).mono ?_
  rintro e wa ⟨rfl, hto⟩
  have hch := hto.chg
  obtain ⟨A6, c6, hrd6⟩ := hto.open_
  have HM : Hid (MAt wa mb q.2 none 0 0) := Lib.hid ((hch.block mb hs (by show ¬ mb = g; omega)).trans HM.out)
  have HD : Hid (RdR wa S g (ruS q.1)) := Lib.hid ⟨A6, c6, hrd6⟩
  have HR := Lib.hid ((hch.block S (by omega) (by show ¬ S = g; omega)).trans HR.out)
  have HB := Lib.hid (HB.out.trans (hch.below (B := S) (by omega) (fun k hk e => by omega)))
  have hs : mb < wa.heap.size := Nat.lt_of_lt_of_le hs hch.size
  clear hrd hrd6 hto hch
  have c0 : wa.cell? ⟨mb, 6, none⟩ = some (.int .i64 (q.2 6)) := HM.out.cell (by omega) (by omega)
  have f0 : wa.frozen? ⟨mb, 6, none⟩ = false := HM.out.fz 6
  go_upto_region 17 with fail
  clear c0 f0
  have hc1 := Ch.ofCell (i := 6) HM.out (.int .i64 (riN q.1))
  obtain ⟨q', hq'⟩ : ∃ q', q' = (ruS q.1, setv q.2 6 (riN q.1)) := ⟨_, rfl⟩
  have HM7 : Hid (MAt (wa.setCell ⟨mb, 6, none⟩ (.int .i64 (riN q.1))) mb q'.2 none 0 0) := Lib.hid (by rw [hq']; exact HM.out.setN (by omega) (by omega) (riN q.1))
  have HD7 : Hid (RdR (wa.setCell ⟨mb, 6, none⟩ (.int .i64 (riN q.1))) S g q'.1) := Lib.hid (by rw [hq']; exact HD.out.chg hc1.chg (fun e => by injection e with e; omega) (fun k hk e => by injection e with e; omega))
  have HR7 := Lib.hid (hc1.blkN HR.out (fun e => by injection e with e; omega))
  have HB7 := Lib.hid (HB.out.trans (hc1.chg.below (B := S) (by omega) (fun k hk e => by injection e with e; omega)))
  have hs7 : mb < (wa.setCell ⟨mb, 6, none⟩ (.int .i64 (riN q.1))).heap.size := Nat.lt_of_lt_of_le hs hc1.chg.size
  have HQ7 : Hid (q' = rdF (fl.take 3) p0) := Lib.hid (by rw [hq', HQ.out, HFL.out]; exact (rdF_next (l := [⟨1, 0, 1099511627776⟩, ⟨2, 0, 15⟩, ⟨6, 1, 100⟩, ⟨7, 1, 6⟩]) (j := 2) (f := ⟨6, 1, 100⟩) p0 rfl).symm)
  clear hc1 hq' HM HD HR HB hs HQ
  generalize wa.setCell ⟨mb, 6, none⟩ (.int .i64 (riN q.1)) = wb at HM7 HD7 HR7 HB7 hs7 ⊢
  obtain ⟨v3, hv3⟩ : ∃ y, y = wb := ⟨_, rfl⟩
  rw [← hv3] at HM7 HD7 HR7 HB7 hs7 ⊢
  obtain ⟨q, hqq⟩ : ∃ y, y = q' := ⟨_, rfl⟩
  rw [← hqq] at HM7 HD7 HQ7
  clear hv3 hqq
  have HM := HM7
  have HD := HD7
  have HR := HR7
  have HB := HB7
  have HQ := HQ7
  have hs := hs7
  clear HM7 HD7 HR7 HB7 HQ7 hs7
  go_wp2_with fail
  obtain ⟨A5, c5, hrd⟩ := HD.out
  refine (rri_any S g q.1 A5 c5 v3 hrd).mono ?_
  rintro e wa ⟨rfl, hto⟩
  have hch := hto.chg
  obtain ⟨A6, c6, hrd6⟩ := hto.open_
  have HM : Hid (MAt wa mb q.2 none 0 0) := Lib.hid ((hch.block mb hs (by show ¬ mb = g; omega)).trans HM.out)
  have HD : Hid (RdR wa S g (ruS q.1)) := Lib.hid ⟨A6, c6, hrd6⟩
  have HR := Lib.hid ((hch.block S (by omega) (by show ¬ S = g; omega)).trans HR.out)
  have HB := Lib.hid (HB.out.trans (hch.below (B := S) (by omega) (fun k hk e => by omega)))
  have hs : mb < wa.heap.size := Nat.lt_of_lt_of_le hs hch.size
  clear hrd hrd6 hto hch
  have c0 : wa.cell? ⟨mb, 7, none⟩ = some (.int .i64 (q.2 7)) := HM.out.cell (by omega) (by omega)
  have f0 : wa.frozen? ⟨mb, 7, none⟩ = false := HM.out.fz 7
  go_upto_region 18 with fail
  clear c0 f0
  have hc1 := Ch.ofCell (i := 7) HM.out (.int .i64 (riN q.1))
  obtain ⟨q', hq'⟩ : ∃ q', q' = (ruS q.1, setv q.2 7 (riN q.1)) := ⟨_, rfl⟩
  have HM7 : Hid (MAt (wa.setCell ⟨mb, 7, none⟩ (.int .i64 (riN q.1))) mb q'.2 none 0 0) := Lib.hid (by rw [hq']; exact HM.out.setN (by omega) (by omega) (riN q.1))
  have HD7 : Hid (RdR (wa.setCell ⟨mb, 7, none⟩ (.int .i64 (riN q.1))) S g q'.1) := Lib.hid (by rw [hq']; exact HD.out.chg hc1.chg (fun e => by injection e with e; omega) (fun k hk e => by injection e with e; omega))
  have HR7 := Lib.hid (hc1.blkN HR.out (fun e => by injection e with e; omega))
  have HB7 := Lib.hid (HB.out.trans (hc1.chg.below (B := S) (by omega) (fun k hk e => by injection e with e; omega)))
  have hs7 : mb < (wa.setCell ⟨mb, 7, none⟩ (.int .i64 (riN q.1))).heap.size := Nat.lt_of_lt_of_le hs hc1.chg.size
  have HQ7 : Hid (q' = rdF (fl.take 4) p0) := Lib.hid (by rw [hq', HQ.out, HFL.out]; exact (rdF_next (l := [⟨1, 0, 1099511627776⟩, ⟨2, 0, 15⟩, ⟨6, 1, 100⟩, ⟨7, 1, 6⟩]) (j := 3) (f := ⟨7, 1, 6⟩) p0 rfl).symm)
  clear hc1 hq' HM HD HR HB hs HQ
  generalize wa.setCell ⟨mb, 7, none⟩ (.int .i64 (riN q.1)) = wb at HM7 HD7 HR7 HB7 hs7 ⊢
  obtain ⟨v4, hv4⟩ : ∃ y, y = wb := ⟨_, rfl⟩
  rw [← hv4] at HM7 HD7 HR7 HB7 hs7 ⊢
  obtain ⟨q, hqq⟩ : ∃ y, y = q' := ⟨_, rfl⟩
  rw [← hqq] at HM7 HD7 HQ7
  clear hv4 hqq
  have HM := HM7
  have HD := HD7
  have HR := HR7
  have HB := HB7
  have HQ := HQ7
  have hs := hs7
  clear HM7 HD7 HR7 HB7 HQ7 hs7
  go_wp2_with fail
  refine (client_any 4 v4).mono ?_
  rw [show clB 4 = false by decide]
  rintro e w' ⟨rfl, rfl⟩
  go_wp2_with fail
  have htk : q = upF l := by rw [HQ.out, HUF.out, HFL.out]; rfl
  rw [htk] at HM HD
  rw [← HRR.out] at HD
  clear htk HQ
  obtain ⟨At, hAt⟩ : ∃ A : Option Addr, A = none := ⟨_, rfl⟩
  obtain ⟨nt, hnt⟩ : ∃ n, n = 0 := ⟨_, rfl⟩
  obtain ⟨ct, hct⟩ : ∃ n, n = 0 := ⟨_, rfl⟩
  have HTN : Hid (∀ b o, At = some ⟨b, o, none⟩ → ¬ b = g) := Lib.hid (fun b o e h => by rw [hAt] at e; cases e)
  have HTS : Hid (∀ b o, At = some ⟨b, o, none⟩ → ¬ b = S) := Lib.hid (fun b o e h => by rw [hAt] at e; cases e)
  have HNL : Hid (nt = (upT l).length) := Lib.hid (by rw [HTX0.out, hnt]; rfl)
  have HT : Hid (BytesIn v4 v4.heap.size At ct (upT l)) := Lib.hid (by rw [HTX0.out]; exact .emp (by omega))
  have HM : Hid (MAt v4 mb (upF l).2 At nt ct) := Lib.hid (by rw [hAt, hnt, hct]; exact HM.out)
  have hsz : mb < v4.heap.size := hs
  clear hAt hnt hct hs
  obtain ⟨wz, hwz⟩ : ∃ y, y = v4 := ⟨_, rfl⟩
  rw [← hwz] at HM HD HR HB HT hsz ⊢
  clear hwz
  obtain ⟨A8, c8, hrd⟩ := HD.out
  refine (rend_any S g _ A8 c8 wz hrd (rok_upR l)).mono ?_
  rintro e w9 ⟨rfl, hto⟩
  have hch := hto.chg
  have HM9 : Hid (MAt w9 mb (upF l).2 At nt ct) := Lib.hid ((hch.block mb hsz (by show ¬ mb = g; omega)).trans HM.out)
  have HRES := Lib.hid ((hch.block S (by omega) (by show ¬ S = g; omega)).trans HR.out)
  have HB9 := Lib.hid (HB.out.trans (hch.below (B := S) (by omega) (fun k hk e => by omega)))
  have HT9 := Lib.hid ((HT.out.chgN hch HTN.out).more hch.size)
  have hs9 : mb < w9.heap.size := Nat.lt_of_lt_of_le hsz hch.size
  clear hrd hto hch HD HM HR HB HT hsz
  obtain ⟨x, hx⟩ : ∃ x, x = (rendS (upR l)).e := ⟨_, rfl⟩
  rw [← hx]
  by_cases hx0 : x = 0
  · have HXE := Lib.hid hx
    have HX0 := Lib.hid hx0
    have hq : (x != 0) = false := by rw [hx0]; rfl
    clear hx hx0
    have HMU := Lib.hid (show w9.heap[mb]? = some (.cells #[.int .i64 ((upF l).2 0), .int .i64 ((upF l).2 1), .int .i64 ((upF l).2 2), .int .i64 ((upF l).2 3), .int .i64 ((upF l).2 4), .int .i64 ((upF l).2 5), .int .i64 ((upF l).2 6), .int .i64 ((upF l).2 7), .int .i64 ((upF l).2 8), .int .i64 ((upF l).2 9), .int .i64 ((upF l).2 10), .int .i64 ((upF l).2 11), .int .i64 ((upF l).2 12), .int .i64 ((upF l).2 13), .int .i64 ((upF l).2 14), .int .i64 ((upF l).2 15), .int .i64 ((upF l).2 16), .slice At nt ct, .int .i64 ((upF l).2 18), .int .i64 ((upF l).2 19), .int .i64 ((upF l).2 20)] 29 (0, 0)) from HM9.out)
    go_wp2_with (refine wpList_load_row rfl 29 _ rfl mb rfl 29 _ (0, 0) _ HMU.out Tryd.underlying29 rfl (by kernel_rfl) ?_)
    clear hq HMU
    refine (may_any (upF l).2 At nt ct w9).mono ?_
    rintro e w10 ⟨rfl, hb⟩
    have HMX := Lib.hid (HM9.out.below hb hs9)
    have HRES := Lib.hid ((hb.block S (by omega)).trans HRES.out)
    have HBX := Lib.hid (HB9.out.trans (hb.mono (by omega)))
    have HTX := Lib.hid ((HT9.out.below hb (Nat.le_refl _)).more hb.size)
    have hsx : mb < w10.heap.size := Nat.lt_of_lt_of_le hs9 hb.size
    clear hb HM9 HB9 HT9 hs9
    have hE4 : upE l = if OkM (upF l).2 nt then 0 else 11 := by
      unfold upE
      rw [if_neg (fun h => h HE.out), if_neg HRX.out, if_neg (by rw [← HXE.out]; exact fun h => h HX0.out), ← HNL.out]
    have hmo := may_ok (upF l).2 nt
    obtain ⟨b, hbb⟩ : ∃ b, b = mayB (upF l).2 nt := ⟨_, rfl⟩
    rw [← hbb] at hmo ⊢
    clear hbb
    cases b
    · have hup : upE l = 11 := by rw [hE4, if_neg (fun h => by have := hmo.2 h; simp at this)]
      have HUP := Lib.hid hup
      clear hup hE4 hmo
      go_wp2_with (refine wpList_store_row rfl 29 (.tmp 2) (.tmp 140) rfl S _ rfl rfl 29 _ HRES.out (by kernel_rfl) rfl (by simp [Value.oneCell']) ?_)
      have HRS := Lib.hid (setRow_heap _ _ _ #[.int .i64 0, .int .i64 0, .int .i64 0, .int .i64 0, .int .i64 0, .int .i64 0, .int .i64 0, .int .i64 0, .int .i64 0, .int .i64 0, .int .i64 0, .int .i64 0, .int .i64 0, .int .i64 0, .int .i64 0, .int .i64 0, .int .i64 0, .slice none 0 0, .int .i64 0, .int .i64 0, .int .i64 0] _ _ HRES.out)
      refine bodyPost_ret (v := .tuple #[.agg #[.int .i64 0, .int .i64 0, .int .i64 0, .int .i64 0, .int .i64 0, .int .i64 0, .int .i64 0, .int .i64 0, .int .i64 0, .int .i64 0, .int .i64 0, .int .i64 0, .int .i64 0, .int .i64 0, .int .i64 0, .int .i64 0, .int .i64 0, .slice none 0 0, .int .i64 0, .int .i64 0, .int .i64 0], .int .i64 11]) (results_runp _ _ S _ rfl HRS.out rfl) rfl ?_
      exact unpAt_no (by rw [HUP.out]; decide) HUP.out rfl (by rw [HSW.out]; exact HBX.out.trans ((Ch.ofRow HRES.out #[.int .i64 0, .int .i64 0, .int .i64 0, .int .i64 0, .int .i64 0, .int .i64 0, .int .i64 0, .int .i64 0, .int .i64 0, .int .i64 0, .int .i64 0, .int .i64 0, .int .i64 0, .int .i64 0, .int .i64 0, .int .i64 0, .int .i64 0, .slice none 0 0, .int .i64 0, .int .i64 0, .int .i64 0]).chg.below (by omega) (fun k hk h => by injection h with h; omega)))
    · have hup : upE l = 0 := by rw [hE4, if_pos (hmo.1 rfl)]
      have HUP := Lib.hid hup
      clear hup hE4 hmo
      have HMU := Lib.hid (show w10.heap[mb]? = some (.cells #[.int .i64 ((upF l).2 0), .int .i64 ((upF l).2 1), .int .i64 ((upF l).2 2), .int .i64 ((upF l).2 3), .int .i64 ((upF l).2 4), .int .i64 ((upF l).2 5), .int .i64 ((upF l).2 6), .int .i64 ((upF l).2 7), .int .i64 ((upF l).2 8), .int .i64 ((upF l).2 9), .int .i64 ((upF l).2 10), .int .i64 ((upF l).2 11), .int .i64 ((upF l).2 12), .int .i64 ((upF l).2 13), .int .i64 ((upF l).2 14), .int .i64 ((upF l).2 15), .int .i64 ((upF l).2 16), .slice At nt ct, .int .i64 ((upF l).2 18), .int .i64 ((upF l).2 19), .int .i64 ((upF l).2 20)] 29 (0, 0)) from HMX.out)
      go_wp2_with (first | (refine wpList_load_row rfl 29 (.tmp 8) rfl mb rfl 29 _ (0, 0) _ HMU.out Tryd.underlying29 rfl (by kernel_rfl) ?_) | (refine wpList_store_row rfl 29 (.tmp 2) (.tmp 141) rfl S _ rfl rfl 29 _ HRES.out (by kernel_rfl) rfl (by simp [Value.oneCell']) ?_))
      have HRS := Lib.hid (setRow_heap _ _ _ #[.int .i64 ((upF l).2 0), .int .i64 ((upF l).2 1), .int .i64 ((upF l).2 2), .int .i64 ((upF l).2 3), .int .i64 ((upF l).2 4), .int .i64 ((upF l).2 5), .int .i64 ((upF l).2 6), .int .i64 ((upF l).2 7), .int .i64 ((upF l).2 8), .int .i64 ((upF l).2 9), .int .i64 ((upF l).2 10), .int .i64 ((upF l).2 11), .int .i64 ((upF l).2 12), .int .i64 ((upF l).2 13), .int .i64 ((upF l).2 14), .int .i64 ((upF l).2 15), .int .i64 ((upF l).2 16), .slice At nt ct, .int .i64 ((upF l).2 18), .int .i64 ((upF l).2 19), .int .i64 ((upF l).2 20)] _ _ HRES.out)
      refine bodyPost_ret (v := .tuple #[.agg #[.int .i64 ((upF l).2 0), .int .i64 ((upF l).2 1), .int .i64 ((upF l).2 2), .int .i64 ((upF l).2 3), .int .i64 ((upF l).2 4), .int .i64 ((upF l).2 5), .int .i64 ((upF l).2 6), .int .i64 ((upF l).2 7), .int .i64 ((upF l).2 8), .int .i64 ((upF l).2 9), .int .i64 ((upF l).2 10), .int .i64 ((upF l).2 11), .int .i64 ((upF l).2 12), .int .i64 ((upF l).2 13), .int .i64 ((upF l).2 14), .int .i64 ((upF l).2 15), .int .i64 ((upF l).2 16), .slice At nt ct, .int .i64 ((upF l).2 18), .int .i64 ((upF l).2 19), .int .i64 ((upF l).2 20)], .int .i64 0]) (results_runp _ _ S _ rfl HRS.out rfl) rfl ?_
      have hch := Ch.ofRow HRES.out #[.int .i64 ((upF l).2 0), .int .i64 ((upF l).2 1), .int .i64 ((upF l).2 2), .int .i64 ((upF l).2 3), .int .i64 ((upF l).2 4), .int .i64 ((upF l).2 5), .int .i64 ((upF l).2 6), .int .i64 ((upF l).2 7), .int .i64 ((upF l).2 8), .int .i64 ((upF l).2 9), .int .i64 ((upF l).2 10), .int .i64 ((upF l).2 11), .int .i64 ((upF l).2 12), .int .i64 ((upF l).2 13), .int .i64 ((upF l).2 14), .int .i64 ((upF l).2 15), .int .i64 ((upF l).2 16), .slice At nt ct, .int .i64 ((upF l).2 18), .int .i64 ((upF l).2 19), .int .i64 ((upF l).2 20)]
      have hov : outV l = (upF l).2 := by unfold outV; rw [if_pos HUP.out]
      have hot : outT l = upT l := by unfold outT; rw [if_pos HUP.out]
      exact ⟨At, ct, by rw [hov, hot, HUP.out, ← HNL.out], by rw [hot]; exact (HTX.out.chgN hch.chg (fun b o e h => HTS.out b o e (by injection h with h; exact h.symm))).more hch.chg.size, by rw [HSW.out]; exact HBX.out.trans (hch.chg.below (by omega) (fun k hk h => by injection h with h; omega))⟩
  · have hup : upE l = x := by
      unfold upE
      rw [if_neg (fun h => h HE.out), if_neg HRX.out, if_pos (by rw [← hx]; exact hx0), ← hx]
    have HUP := Lib.hid hup
    have HX0 := Lib.hid hx0
    have hq : (x != 0) = true := by rw [bne_iff_ne]; exact hx0
    clear hx hup hx0
    go_wp2_with (refine wpList_store_row rfl 29 (.tmp 2) (.tmp 134) rfl S _ rfl rfl 29 _ HRES.out (by kernel_rfl) rfl (by simp [Value.oneCell']) ?_)
    have HRS := Lib.hid (setRow_heap _ _ _ #[.int .i64 0, .int .i64 0, .int .i64 0, .int .i64 0, .int .i64 0, .int .i64 0, .int .i64 0, .int .i64 0, .int .i64 0, .int .i64 0, .int .i64 0, .int .i64 0, .int .i64 0, .int .i64 0, .int .i64 0, .int .i64 0, .int .i64 0, .slice none 0 0, .int .i64 0, .int .i64 0, .int .i64 0] _ _ HRES.out)
    refine bodyPost_ret (v := .tuple #[.agg #[.int .i64 0, .int .i64 0, .int .i64 0, .int .i64 0, .int .i64 0, .int .i64 0, .int .i64 0, .int .i64 0, .int .i64 0, .int .i64 0, .int .i64 0, .int .i64 0, .int .i64 0, .int .i64 0, .int .i64 0, .int .i64 0, .int .i64 0, .slice none 0 0, .int .i64 0, .int .i64 0, .int .i64 0], .int .i64 x]) (results_runp _ _ S _ rfl HRS.out rfl) rfl ?_
    exact unpAt_no (by rw [HUP.out]; exact HX0.out) HUP.out rfl (by rw [HSW.out]; exact HB9.out.trans ((Ch.ofRow HRES.out #[.int .i64 0, .int .i64 0, .int .i64 0, .int .i64 0, .int .i64 0, .int .i64 0, .int .i64 0, .int .i64 0, .int .i64 0, .int .i64 0, .int .i64 0, .int .i64 0, .int .i64 0, .int .i64 0, .int .i64 0, .int .i64 0, .int .i64 0, .slice none 0 0, .int .i64 0, .int .i64 0, .int .i64 0]).chg.below (by omega) (fun k hk h => by injection h with h; omega)))
end Go.Proofs.YtkenaoejijpgpaaDoor
