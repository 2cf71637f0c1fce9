/- Bytes are unpacked. -/
import Derived.Test.YtkenaoejijpgpaaDoorUnp0
import Derived.Test.YtkenaoejijpgpaaDoorHeldW
import Derived.Test.YtkenaoejijpgpaaDoorChT
import Derived.Deep.Cut
namespace Go.Proofs.YtkenaoejijpgpaaDoor
open Go.RowKit

set_option maxRecDepth 100000 in
set_option maxHeartbeats 8000000 in
theorem unpack_any (A : Option Addr) (n c : Nat) (l : List UInt8) (w : World) (hb : BytesIn w w.heap.size A c l) (hn : n = l.length) (hl : n ≤ 100000000) (hh : Hal w) (h0 : 0 < w.heap.size) :
    Calls Tryd.prog 15 #[.slice A n c] w fun e w' => UnpAt l w e w' := by
  have hal : Below w.heap.size w (w.alloc (.cells #[.int .i64 0, .int .i64 0, .int .i64 0, .int .i64 0, .int .i64 0, .int .i64 0, .int .i64 0, .int .i64 0, .int .i64 0, .int .i64 0, .int .i64 0, .int .i64 0, .int .i64 0, .int .i64 0, .int .i64 0, .int .i64 0, .int .i64 0, .slice none 0 0, .int .i64 0, .int .i64 0, .int .i64 0] 29)) := (Below.refl w.heap.size w).alloc (Nat.le_refl _) _
  have hres := heap_alloc_new w (.cells #[.int .i64 0, .int .i64 0, .int .i64 0, .int .i64 0, .int .i64 0, .int .i64 0, .int .i64 0, .int .i64 0, .int .i64 0, .int .i64 0, .int .i64 0, .int .i64 0, .int .i64 0, .int .i64 0, .int .i64 0, .int .i64 0, .int .i64 0, .slice none 0 0, .int .i64 0, .int .i64 0, .int .i64 0] 29)
  have HB0 := Lib.hid hal
  have HT0 := Lib.hid ((hb.below hal (Nat.le_refl _)).more hal.size)
  have HH0 := Lib.hid (hh.below hal h0)
  obtain ⟨S, hS⟩ : ∃ S, S = w.heap.size := ⟨_, rfl⟩
  have hs0 : S < (w.alloc (.cells #[.int .i64 0, .int .i64 0, .int .i64 0, .int .i64 0, .int .i64 0, .int .i64 0, .int .i64 0, .int .i64 0, .int .i64 0, .int .i64 0, .int .i64 0, .int .i64 0, .int .i64 0, .int .i64 0, .int .i64 0, .int .i64 0, .int .i64 0, .slice none 0 0, .int .i64 0, .int .i64 0, .int .i64 0] 29)).heap.size := by simp [hS]
  rw [← hS] at hres
  have HR0 := Lib.hid hres
  have HSW : Hid (w.heap.size = S) := Lib.hid hS.symm
  have HN := Lib.hid hn
  have hS0 : 0 < S := by omega
  clear hal hb hn hh h0 hres
  go_enter Tryd.func15, Tryd.ntmps15
  go_upto_region 1 with fail
  rw [← hS]
  rw [← hS] at HB0
  clear hS
  generalize w.alloc (.cells #[.int .i64 0, .int .i64 0, .int .i64 0, .int .i64 0, .int .i64 0, .int .i64 0, .int .i64 0, .int .i64 0, .int .i64 0, .int .i64 0, .int .i64 0, .int .i64 0, .int .i64 0, .int .i64 0, .int .i64 0, .int .i64 0, .int .i64 0, .slice none 0 0, .int .i64 0, .int .i64 0, .int .i64 0] 29) = w0 at HB0 hs0 HT0 HH0 HR0 ⊢
  by_cases hE : ¬ lookE l = 0
  · have hup : upE l = (lookE l : Int) := by unfold upE; rw [if_pos hE]
    have hq : ((lookE l : Int) != 0) = true := by rw [bne_iff_ne]; omega
    have HUP := Lib.hid hup
    have HNE : Hid (¬ upE l = 0) := Lib.hid (by rw [hup]; omega)
    have HEE := Lib.hid hE
    clear hE hup
    go_wp2_with fail
    refine (next_no A c n l w0 _ HT0.out HH0.out HN.out HEE.out).mono ?_
    rintro e w1 ⟨rfl, k1, rfl⟩
    have HRES : Hid ((w0.drewN k1).heap[S]? = some (.cells #[.int .i64 0, .int .i64 0, .int .i64 0, .int .i64 0, .int .i64 0, .int .i64 0, .int .i64 0, .int .i64 0, .int .i64 0, .int .i64 0, .int .i64 0, .int .i64 0, .int .i64 0, .int .i64 0, .int .i64 0, .int .i64 0, .int .i64 0, .slice none 0 0, .int .i64 0, .int .i64 0, .int .i64 0] 29 (0, 0))) := HR0
    have HB1 : Hid (Below S w (w0.drewN k1)) := Lib.hid (below_dn HB0.out)
    have hs1 : S < (w0.drewN k1).heap.size := hs0
    generalize w0.drewN k1 = w1 at HRES HB1 hs1 ⊢
    go_wp2_with (refine wpList_store_row rfl 29 (.tmp 2) (.tmp 22) rfl S _ rfl rfl 29 _ HRES.out (by kernel_rfl) rfl (by simp [Value.oneCell']) ?_)
    have HRS := Lib.hid (setRow_heap _ _ _ #[.int .i64 0, .int .i64 0, .int .i64 0, .int .i64 0, .int .i64 0, .int .i64 0, .int .i64 0, .int .i64 0, .int .i64 0, .int .i64 0, .int .i64 0, .int .i64 0, .int .i64 0, .int .i64 0, .int .i64 0, .int .i64 0, .int .i64 0, .slice none 0 0, .int .i64 0, .int .i64 0, .int .i64 0] _ _ HRES.out)
    refine bodyPost_ret (v := .tuple #[.agg #[.int .i64 0, .int .i64 0, .int .i64 0, .int .i64 0, .int .i64 0, .int .i64 0, .int .i64 0, .int .i64 0, .int .i64 0, .int .i64 0, .int .i64 0, .int .i64 0, .int .i64 0, .int .i64 0, .int .i64 0, .int .i64 0, .int .i64 0, .slice none 0 0, .int .i64 0, .int .i64 0, .int .i64 0], .int .i64 (lookE l : Int)]) (results_unp _ _ S _ rfl HRS.out rfl) rfl ?_
    exact unpAt_no HNE.out HUP.out rfl (by rw [HSW.out]; exact HB1.out.trans ((Ch.ofRow HRES.out #[.int .i64 0, .int .i64 0, .int .i64 0, .int .i64 0, .int .i64 0, .int .i64 0, .int .i64 0, .int .i64 0, .int .i64 0, .int .i64 0, .int .i64 0, .int .i64 0, .int .i64 0, .int .i64 0, .int .i64 0, .int .i64 0, .int .i64 0, .slice none 0 0, .int .i64 0, .int .i64 0, .int .i64 0]).chg.below (by omega) (fun k hk h => by injection h with h; omega)))
  have hE : lookE l = 0 := Classical.not_not.1 hE
  have hok := lookE_ok hE
  have hbl := bodyOf_length hE
  have HE := Lib.hid hE
  clear hE
  go_wp2_with fail
  refine (next_ok A c n l w0 HT0.out HH0.out HN.out hl HE.out).mono ?_
  rintro e w1 ⟨A1, c1, A2, c2, rfl, ho1, _, hb⟩
  have HR1 := Lib.hid ((hb.block S hs0).trans HR0.out)
  have HB1 := Lib.hid (HB0.out.trans (hb.mono (by omega)))
  have hs1 : S < w1.heap.size := Nat.lt_of_lt_of_le hs0 hb.size
  have HY1 := Lib.hid (bytesIn_of_own ho1).2
  obtain ⟨m, hm⟩ : ∃ m, m = num4 l := ⟨_, rfl⟩
  rw [← hm] at hok hbl ⊢
  have HMN := Lib.hid hm
  have HBL : Hid (m = (bodyOf l).length) := Lib.hid hbl.symm
  clear ho1 hb HT0 HH0 HR0 HB0 hs0 hm hbl
  by_cases hrest : m + 8 < n
  · have hup : upE l = 11 := by unfold upE; rw [if_neg (fun h => h HE.out), if_pos (by rw [← HMN.out, ← HN.out]; exact hrest)]
    have HUP := Lib.hid hup
    have hq : (0 : Int) < ((n - (m + 8) : Nat) : Int) := by omega
    have HRES := HR1
    clear hup
    go_wp2_with (refine wpList_store_row rfl 29 (.tmp 2) (.tmp 27) rfl S _ rfl rfl 29 _ HRES.out (by kernel_rfl) rfl (by simp [Value.oneCell']) ?_)
    have HRS := Lib.hid (setRow_heap _ _ _ #[.int .i64 0, .int .i64 0, .int .i64 0, .int .i64 0, .int .i64 0, .int .i64 0, .int .i64 0, .int .i64 0, .int .i64 0, .int .i64 0, .int .i64 0, .int .i64 0, .int .i64 0, .int .i64 0, .int .i64 0, .int .i64 0, .int .i64 0, .slice none 0 0, .int .i64 0, .int .i64 0, .int .i64 0] _ _ HRES.out)
    refine bodyPost_ret (v := .tuple #[.agg #[.int .i64 0, .int .i64 0, .int .i64 0, .int .i64 0, .int .i64 0, .int .i64 0, .int .i64 0, .int .i64 0, .int .i64 0, .int .i64 0, .int .i64 0, .int .i64 0, .int .i64 0, .int .i64 0, .int .i64 0, .int .i64 0, .int .i64 0, .slice none 0 0, .int .i64 0, .int .i64 0, .int .i64 0], .int .i64 11]) (results_unp _ _ S _ rfl HRS.out rfl) rfl ?_
    exact unpAt_no (by rw [HUP.out]; decide) HUP.out rfl (by rw [HSW.out]; exact HB1.out.trans ((Ch.ofRow HRES.out #[.int .i64 0, .int .i64 0, .int .i64 0, .int .i64 0, .int .i64 0, .int .i64 0, .int .i64 0, .int .i64 0, .int .i64 0, .int .i64 0, .int .i64 0, .int .i64 0, .int .i64 0, .int .i64 0, .int .i64 0, .int .i64 0, .int .i64 0, .slice none 0 0, .int .i64 0, .int .i64 0, .int .i64 0]).chg.below (by omega) (fun k hk h => by injection h with h; omega)))
  have hnm : n = m + 8 := by have := HN.out; omega
  have hq : ¬ (0 : Int) < ((n - (m + 8) : Nat) : Int) := by omega
  have HREST : Hid (¬ num4 l + 8 < l.length) := Lib.hid (by rw [← HMN.out, ← HN.out]; exact hrest)
  clear hrest
  go_wp2_with fail
  clear hq hnm
  refine (read_any A1 c1 m w1.heap.size (bodyOf l) w1 HY1.out HBL.out (Nat.le_refl _)).mono ?_
  rintro e w2 ⟨rfl, hrd, hw2⟩
  have hb : Below w1.heap.size w1 w2 := by rw [← hw2]; exact (Below.refl _ _).alloc (Nat.le_refl _) _
  obtain ⟨g, hg⟩ : ∃ g, g = w1.heap.size := ⟨_, rfl⟩
  rw [← hg] at hrd ⊢
  have HD2 := Lib.hid hrd
  have HR2 := Lib.hid ((hb.block S hs1).trans HR1.out)
  have HB2 := Lib.hid (HB1.out.trans (hb.mono (by omega)))
  have hSg : S < g := by omega
  have hs2 : g < w2.heap.size := hrd.glt
  clear hrd hw2 hb HR1 HB1 HY1 hs1 hg HN hl
  go_wp2_with fail
  refine (ri_any g g (bodyRd l) _ _ w2 HD2.out).mono ?_
  rintro e w3 ⟨rfl, hto⟩
  have hch := hto.chg
  obtain ⟨A3, c3, hrd⟩ := hto.open_
  have HD3 : Hid (RdW w3 g g (ruS (bodyRd l))) := Lib.hid ⟨A3, c3, hrd⟩
  have HR3 := Lib.hid ((hch.block S (by omega) (by show ¬ S = g; omega)).trans HR2.out)
  have HB3 := Lib.hid (HB2.out.trans (hch.below (B := S) (by omega) (fun k hk e => by omega)))
  have hs3 : g < w3.heap.size := hrd.glt
  clear hto hch hrd HD2 HR2 HB2 hs2
  obtain ⟨k, hk⟩ : ∃ k, k = upK l := ⟨_, rfl⟩
  rw [show riN (bodyRd l) = k from hk.symm]
  have HK := Lib.hid hk
  clear hk
  obtain ⟨mb, hmb⟩ : ∃ x, x = w3.heap.size := ⟨_, rfl⟩
  go_upto_region 8 with (refine wpList_store_row rfl 29 (.tmp 8) (.tmp 32) rfl w3.heap.size _ rfl rfl 29 _ (heap_alloc_new w3 _) (by kernel_rfl) rfl (by simp [Value.oneCell']) ?_; rw [World.setRow_alloc_new])
  obtain ⟨w4, hw4⟩ : ∃ y, y = w3.alloc (.cells #[.int .i64 (k), .int .i64 0, .int .i64 0, .int .i64 0, .int .i64 0, .int .i64 0, .int .i64 0, .int .i64 0, .int .i64 0, .int .i64 0, .int .i64 0, .int .i64 0, .int .i64 0, .int .i64 0, .int .i64 0, .int .i64 0, .int .i64 0, .slice none 0 0, .int .i64 0, .int .i64 0, .int .i64 0] 29) := ⟨_, rfl⟩
  rw [← hw4]
  have hal : Below w3.heap.size w3 w4 := by rw [hw4]; exact (Below.refl _ _).alloc (Nat.le_refl _) _
  have hm4 : MAt w4 mb (fun i => if i = 0 then k else 0) none 0 0 := by rw [hw4, hmb]; exact heap_alloc_new w3 _
  rw [← hmb]
  have HM4 := Lib.hid hm4
  have HD4 := Lib.hid (HD3.out.chg (Chg.of_below (S := fun _ => False) hal) (fun h => h) (fun _ _ h => h))
  have HR4 := Lib.hid ((hal.block S (by omega)).trans HR3.out)
  have HB4 := Lib.hid (HB3.out.trans (hal.mono (by omega)))
  have hgm : g < mb := by omega
  have hs4 : mb < w4.heap.size := ltb hm4
  clear hal hm4 hw4 hmb HD3 HR3 HB3 hs3
  cases hkb : kB k
  · have hfl := flK_none hkb
    have HFF := Lib.hid (fields_none mb w4 _ none 0 0 HM4.out (by simpa using hkb))
    have hk7 : ¬ k = 7 := by rintro rfl; simp [kB] at hkb
    have hu0 : (upR l) = rfail (ruS (bodyRd l)) 11 := by
      unfold upR upF up0
      rw [← HK.out, if_neg hk7, hfl, hkb]
      rfl
    have HU := Lib.hid hu0
    have HK7 : Hid ((k == 7) = false) := Lib.hid (by simpa using hk7)
    clear hfl hu0 hkb hk7
    go_wp2_with fail
    refine HFF.out.mono ?_
    clear HFF
    rintro e w5 ⟨rfl, hb⟩
    have HD5 := Lib.hid (HD4.out.chg (Chg.of_below (S := fun _ => False) hb) (fun h => h) (fun _ _ h => h))
    have HM5 := Lib.hid (HM4.out.below hb hs4)
    have HR5 := Lib.hid ((hb.block S (by omega)).trans HR4.out)
    have HB5 := Lib.hid (HB4.out.trans (hb.mono (by omega)))
    have hs5 : mb < w5.heap.size := Nat.lt_of_lt_of_le hs4 hb.size
    clear hb HD4 HM4 HR4 HB4 hs4
    go_wp2_with fail
    obtain ⟨A5, c5, hrd⟩ := HD5.out
    refine (fail_any g g _ A5 c5 11 w5 hrd).mono ?_
    rintro e w6 ⟨rfl, hto⟩
    have hch := hto.chg
    obtain ⟨A6, c6, hrd6⟩ := hto.open_
    rw [← HU.out] at hrd6
    have HD6 : Hid (RdW w6 g g (upR l)) := Lib.hid ⟨A6, c6, hrd6⟩
    have HM6 : Hid (MAt w6 mb (fun i => if i = 0 then k else 0) none 0 0) := Lib.hid ((hch.block mb hs5 (by show ¬ mb = g; omega)).trans HM5.out)
    have HR6 := Lib.hid ((hch.block S (by omega) (by show ¬ S = g; omega)).trans HR5.out)
    have HB6 := Lib.hid (HB5.out.trans (hch.below (B := S) (by omega) (fun k hk e => by omega)))
    have hs6 : mb < w6.heap.size := Nat.lt_of_lt_of_le hs5 hch.size
    clear hrd hrd6 hto hch HD5 HM5 HR5 HB5 hs5
    go_wp2_with fail
    go_loopw [43] (fun i wr => i = .int .i64 0 ∧ w6 = wr) (fun _ _ => 0)
    case atStart => exact ⟨rfl, rfl⟩
    case round =>
      obtain ⟨rfl, rfl⟩ := hrel
      have m0 : w6.cell? ⟨mb, 0, none⟩ = some (.int .i64 k) := cellb (i := 0) HM6.out rfl
      have k7 := HK7.out
      go_wp2_with fail
      clear m0 k7
      obtain ⟨A6, c6, hrd⟩ := HD6.out
      refine (end_any g g _ A6 c6 w6 hrd).mono ?_
      rintro e w7 ⟨rfl, hto⟩
      have hch := hto.chg
      have HRES := Lib.hid ((hch.block S (by omega) (by show ¬ S = g; omega)).trans HR6.out)
      have HB7 := Lib.hid (HB6.out.trans (hch.below (B := S) (by omega) (fun k hk e => by omega)))
      have hs7 : S < w7.heap.size := by have := hch.size; omega
      clear hrd hto hch
      obtain ⟨x, hx⟩ : ∃ x, x = (rendS (upR l)).e := ⟨_, rfl⟩
      rw [← hx]
      have hx0 : ¬ x = 0 := by
        rw [hx, HU.out]
        generalize ruS (bodyRd l) = s
        unfold rendS rfail
        by_cases h1 : s.e = 0
        · simp [h1]
        · simp [h1]
      have hup : upE l = x := by
        unfold upE
        rw [if_neg (fun h => h HE.out), if_neg HREST.out, if_pos (by rw [← hx]; exact hx0), ← hx]
      have HUP := Lib.hid hup
      have HX0 := Lib.hid hx0
      have hq : (x != 0) = true := by rw [bne_iff_ne]; exact hx0
      clear hx hup hx0
      go_wp2_with (refine wpList_store_row rfl 29 (.tmp 2) (.tmp 64) rfl S _ rfl rfl 29 _ HRES.out (by kernel_rfl) rfl (by simp [Value.oneCell']) ?_)
      have HRS := Lib.hid (setRow_heap _ _ _ #[.int .i64 0, .int .i64 0, .int .i64 0, .int .i64 0, .int .i64 0, .int .i64 0, .int .i64 0, .int .i64 0, .int .i64 0, .int .i64 0, .int .i64 0, .int .i64 0, .int .i64 0, .int .i64 0, .int .i64 0, .int .i64 0, .int .i64 0, .slice none 0 0, .int .i64 0, .int .i64 0, .int .i64 0] _ _ HRES.out)
      refine bodyPost_ret (v := .tuple #[.agg #[.int .i64 0, .int .i64 0, .int .i64 0, .int .i64 0, .int .i64 0, .int .i64 0, .int .i64 0, .int .i64 0, .int .i64 0, .int .i64 0, .int .i64 0, .int .i64 0, .int .i64 0, .int .i64 0, .int .i64 0, .int .i64 0, .int .i64 0, .slice none 0 0, .int .i64 0, .int .i64 0, .int .i64 0], .int .i64 x]) (results_unp _ _ S _ rfl HRS.out rfl) rfl ?_
      exact unpAt_no (by rw [HUP.out]; exact HX0.out) HUP.out rfl (by rw [HSW.out]; exact HB7.out.trans ((Ch.ofRow HRES.out #[.int .i64 0, .int .i64 0, .int .i64 0, .int .i64 0, .int .i64 0, .int .i64 0, .int .i64 0, .int .i64 0, .int .i64 0, .int .i64 0, .int .i64 0, .int .i64 0, .int .i64 0, .int .i64 0, .int .i64 0, .int .i64 0, .int .i64 0, .slice none 0 0, .int .i64 0, .int .i64 0, .int .i64 0]).chg.below (by omega) (fun k hk h => by injection h with h; omega)))
  have hF := fields_any mb w4 _ none 0 0 HM4.out (by simpa using hkb)
  have hoffs := flK_off k
  have hlen := flK_len k
  have hne := flK_ne hkb
  rw [show (if (0 : Nat) = 0 then k else 0) = k from rfl] at hF
  obtain ⟨p0, hp0⟩ : ∃ p, p = up0 l := ⟨_, rfl⟩
  have hp1 : p0.1 = ruS (bodyRd l) := by rw [hp0]; unfold up0; rw [← HK.out, hkb]; rfl
  have hp2 : p0.2 = fun i => if i = 0 then k else 0 := by rw [hp0]; unfold up0; rw [← HK.out]
  rw [← hp1] at HD4
  rw [← hp2] at HM4
  obtain ⟨fl, hl⟩ : ∃ fl : List FD, fl = flK k := ⟨_, rfl⟩
  have HPF : Hid (rdF fl p0 = upF l) := Lib.hid (by rw [hl, hp0]; unfold upF; rw [← HK.out])
  rw [← hl] at hF hoffs hlen hne
  obtain ⟨m', hm'⟩ : ∃ m, m = fl.length := ⟨_, rfl⟩
  rw [← hm'] at hF hlen
  have HLEN : Hid (fl.length = m') := Lib.hid hm'.symm
  have HOFF := Lib.hid hoffs
  have HNE := Lib.hid hne
  have HFF := Lib.hid hF
  have HP2 := Lib.hid hp2
  clear hF hoffs hne hl hm' hp0 hp1 hp2 hkb
  go_wp2_with fail
  refine HFF.out.mono ?_
  clear HFF
  rintro e w5 ⟨R, cR, rfl, hF, hb⟩
  have HF5 := Lib.hid hF
  have HD5 := Lib.hid (HD4.out.chg (Chg.of_below (S := fun _ => False) hb) (fun h => h) (fun _ _ h => h))
  have HM5 := Lib.hid (HM4.out.below hb hs4)
  have HR5 := Lib.hid ((hb.block S (by omega)).trans HR4.out)
  have HB5 := Lib.hid (HB4.out.trans (hb.mono (by omega)))
  have hs5 : mb < w5.heap.size := Nat.lt_of_lt_of_le hs4 hb.size
  clear hF hb HD4 HM4 HR4 HB4 hs4
  obtain ⟨BN, hBN⟩ : ∃ B, B = w5.heap.size := ⟨_, rfl⟩
  rw [← hBN] at HF5 hs5
  have hbn5 : BN ≤ w5.heap.size := by omega
  clear hBN
  go_wp2_with fail
  go_loopw [43] (fun i wr => ∃ j : Nat, j ≤ m' ∧ i = .int .i64 j ∧ BN ≤ wr.heap.size ∧ Hid (FieldsIn wr BN mb R fl) ∧ Hid (MAt wr mb (rdF (fl.take j) p0).2 none 0 0) ∧ Hid (RdW wr g g (rdF (fl.take j) p0).1) ∧ Hid (wr.heap[S]? = some (.cells #[.int .i64 0, .int .i64 0, .int .i64 0, .int .i64 0, .int .i64 0, .int .i64 0, .int .i64 0, .int .i64 0, .int .i64 0, .int .i64 0, .int .i64 0, .int .i64 0, .int .i64 0, .int .i64 0, .int .i64 0, .int .i64 0, .int .i64 0, .slice none 0 0, .int .i64 0, .int .i64 0, .int .i64 0] 29 (0, 0))) ∧ Hid (Below S w wr)) (fun i _ => m' - (intOf i).toNat)
  case atStart => exact ⟨0, by omega, rfl, hbn5, HF5, HM5, HD5, HR5, HB5⟩
  case round =>
    clear HF5 HM5 HD5 HR5 HB5 hbn5
    obtain ⟨j, hj, rfl, hbn, HF, HM, HD, HR, HB⟩ := hrel
    by_cases hjm : j < m'
    · have hj' : (j : Int) < (m' : Int) := by omega
      have hj0 : (0 : Int) ≤ (j : Int) := by omega
      have hjl : j < fl.length := by rw [HLEN.out]; exact hjm
      obtain ⟨f, hf⟩ : ∃ f, fl[j]? = some f := ⟨fl[j]'hjl, List.getElem?_eq_getElem hjl⟩
      have hmem : f ∈ fl := List.mem_of_getElem? hf
      obtain ⟨ho1, ho2, ho3⟩ := HOFF.out f hmem
      obtain ⟨sb, esb, hmsb, hsb, hrows⟩ := HF.out.resolve_left HNE.out
      subst esb
      obtain ⟨gv, sv, hc, c1, c2', c3, c4⟩ := hrows j f hf
      have hnx := rdF_next p0 hf
      obtain ⟨lo, hlo⟩ : ∃ x, x = f.lo := ⟨_, rfl⟩
      obtain ⟨hi, hhi⟩ : ∃ x, x = f.hi := ⟨_, rfl⟩
      rw [← hlo] at c3
      rw [← hhi] at c4
      obtain ⟨off, hof⟩ : ∃ x, x = f.off := ⟨_, rfl⟩
      rw [← hof] at hc hnx ho1 ho2 ho3
      obtain ⟨q, hq⟩ : ∃ q, q = rdF (fl.take j) p0 := ⟨_, rfl⟩
      rw [← hq] at hnx HM HD
      have HNX := Lib.hid hnx
      clear hnx hq hof hlo hhi hf hmem hjl hrows
      rcases hc with ⟨pb, hpm, lt, rfl, rfl, pt⟩ | ⟨e18, pb, hpm, lt, rfl, rfl, pt⟩
      · go_upto_region 14 with (fail)
        obtain ⟨Fb, hFb⟩ : ∃ x, x = wr.heap.size := ⟨_, rfl⟩
        obtain ⟨wa, hwa⟩ : ∃ y, y = wr.alloc (.cells #[.func (.func 76) #[] #[.pointer (some ⟨pb, 0, none⟩)], .func (.func 77) #[] #[.pointer (some ⟨pb, 0, none⟩)], .int .i64 lo, .int .i64 hi] 69) := ⟨_, rfl⟩
        rw [← hwa, ← hFb]
        have hal : Below wr.heap.size wr wa := by rw [hwa]; exact (Below.refl _ _).alloc (Nat.le_refl _) _
        have hbox : wa.heap[Fb]? = some (.cells #[.func (.func 76) #[] #[.pointer (some ⟨pb, 0, none⟩)], .func (.func 77) #[] #[.pointer (some ⟨pb, 0, none⟩)], .int .i64 lo, .int .i64 hi] 69 (0, 0)) := by rw [hwa, hFb]; exact heap_alloc_new wr _
        have hmr : mb < wr.heap.size := by omega
        have HX := Lib.hid hbox
        have HFa := Lib.hid (HF.out.below hal hbn)
        have HMa := Lib.hid (HM.out.below hal hmr)
        have HDa := Lib.hid (HD.out.chg (Chg.of_below (S := fun _ => False) hal) (fun h => h) (fun _ _ h => h))
        have HRa := Lib.hid ((hal.block S (by omega)).trans HR.out)
        have HBa := Lib.hid (HB.out.trans (hal.mono (by omega)))
        have hPTa := (hal.cell (p := ⟨pb, 0, none⟩) (show pb < _ by omega)).trans pt
        have hsa : Fb < wa.heap.size := ltb hbox
        have hFbn : BN ≤ Fb := by omega
        clear hal hbox hwa hFb pt c1 c2' c3 c4 HF HM HD HR HB hmr
        have HPT := Lib.hid hPTa
        clear hPTa
        have hd : Below wa.heap.size wa wa.drew := (Below.refl _ _).drew
        have HX := Lib.hid ((hd.block Fb hsa).trans HX.out)
        have HFa := Lib.hid (HFa.out.below hd (Nat.le_trans hFbn (Nat.le_of_lt hsa)))
        have HMa := Lib.hid (HMa.out.below hd (by omega))
        have HDa := Lib.hid (HDa.out.chg (Chg.of_below (S := fun _ => False) hd) (fun h => h) (fun _ _ h => h))
        have HRa := Lib.hid ((hd.block S (by omega)).trans HRa.out)
        have HBa := Lib.hid (HBa.out.trans (hd.mono (by omega)))
        have HPT := Lib.hid ((hd.cell (p := ⟨pb, 0, none⟩) (show pb < _ by omega)).trans HPT.out)
        have hsa : Fb < wa.drew.heap.size := hsa
        clear hd
        have f0 : wa.drew.cell? ⟨Fb, 1, none⟩ = some (.func (.func 77) #[] #[.pointer (some ⟨pb, 0, none⟩)]) := cellb (i := 1) HX.out rfl
        refine wp_region_noPanic ?_
        refine wp_region_held_drew (S := fun w' => w'.cell? ⟨Fb, 1, none⟩ = some (.func (.func 77) #[] #[.pointer (some ⟨pb, 0, none⟩)])) (by kernel_rfl) ?_ (fun hHeld => ?_)
        · try dsimp only
          (refine ?_ <;> (first | with_reducible assumption))
        refine wpAnyH_take (i := 0) (v := ?_) (by (simp only [List.getElem?_toArray, List.getElem?_cons_zero]; rfl)) (by kernel_rfl) (by kernel_rfl) (by kernel_rfl) (fun _ _ _ h => h) (Or.inl ⟨by rfl, ?_⟩) (by assumption) ?_
        rotate_left
        · (intro w hSw; (try dsimp only at hSw); go_simp; try with_reducible rfl)
        try simp only [Act.put, List.setIfInBounds_toArray, List.set_cons_zero, List.set_cons_succ]
        refine wpAnyH_take (i := 1) (v := ?_) (by (simp only [List.getElem?_toArray, List.getElem?_cons_succ, List.getElem?_cons_zero]; rfl)) (by kernel_rfl) (by kernel_rfl) (by kernel_rfl) (fun _ _ _ h => h) (Or.inl ⟨by rfl, ?_⟩) (by assumption) ?_
        rotate_left
        · (intro w hSw; (try dsimp only at hSw); go_simp; try with_reducible rfl)
        try simp only [Act.put, List.setIfInBounds_toArray, List.set_cons_zero, List.set_cons_succ]
        refine wpAnyH_take (i := 2) (v := ?_) (by (simp only [List.getElem?_toArray, List.getElem?_cons_succ, List.getElem?_cons_zero]; rfl)) (by kernel_rfl) (by kernel_rfl) (by kernel_rfl) (fun _ _ _ h => h) (Or.inl ⟨by rfl, ?_⟩) (by assumption) ?_
        rotate_left
        · (intro w hSw; (try dsimp only at hSw); go_simp; try with_reducible rfl)
        try simp only [Act.put, List.setIfInBounds_toArray, List.set_cons_zero, List.set_cons_succ]
        refine wpAnyH_ready (rs := [3]) (by kernel_rfl) (by simp) ?_
        refine AllReadyH.cons (by (simp only [List.getElem?_toArray, List.getElem?_cons_succ, List.getElem?_cons_zero]; rfl)) (fun K hK => ?_) AllReadyH.nil
        go_simp
        obtain ⟨A5, c5, hrd⟩ := HDa.out
        refine (ri_any g g q.1 A5 c5 wa.drew hrd).mono ?_
        rintro e wb ⟨rfl, hto⟩
        have hch := hto.chg
        obtain ⟨A6, c6, hrd6⟩ := hto.open_
        have HXb := Lib.hid ((hch.block Fb hsa (by show ¬ Fb = g; omega)).trans HX.out)
        have HFb := Lib.hid (HFa.out.kept (B' := wa.drew.heap.size) (fun k h1 h2 => hch.block k h2 (by show ¬ k = g; omega)) (Nat.le_trans hFbn (Nat.le_of_lt hsa)))
        have HMb : Hid (MAt wb mb q.2 none 0 0) := Lib.hid ((hch.block mb (by omega) (by show ¬ mb = g; omega)).trans HMa.out)
        have HDb : Hid (RdW wb g g (ruS q.1)) := Lib.hid ⟨A6, c6, hrd6⟩
        have HRb := Lib.hid ((hch.block S (by omega) (by show ¬ S = g; omega)).trans HRa.out)
        have HBb := Lib.hid (HBa.out.trans (hch.below (B := S) (by omega) (fun k hk e => by omega)))
        have HPTb := Lib.hid (hch.cell (p := ⟨pb, 0, none⟩) HPT.out (by show ¬ pb = g; omega))
        have hsb' : Fb < wb.heap.size := Nat.lt_of_lt_of_le hsa hch.size
        have f1 : wb.cell? ⟨Fb, 1, none⟩ = some (.func (.func 77) #[] #[.pointer (some ⟨pb, 0, none⟩)]) := cellb (i := 1) HXb.out rfl
        clear hch hrd hrd6 hto
        refine hK.out _ _ ?_ (fun hHeld => ?_)
        · try dsimp only
          (refine ?_ <;> (first | with_reducible assumption))
        clear hK K
        try simp only [Act.put, List.setIfInBounds_toArray, List.set_cons_zero, List.set_cons_succ]
        refine wpAnyH_ready (rs := [4]) (by kernel_rfl) (by simp) ?_
        refine AllReadyH.cons (by (simp only [List.getElem?_toArray, List.getElem?_cons_succ, List.getElem?_cons_zero]; rfl)) (fun K hK => ?_) AllReadyH.nil
        go_simp
        refine (set1 pb mb off _ (riN q.1) wb HPTb.out (HMb.out.cell (o := off) ho2 ho3) (HMb.out.fz off)).mono ?_
        rintro e w' ⟨rfl, rfl⟩
        have hc1 := Ch.ofCell (i := off) HMb.out (.int .i64 (riN q.1))
        have HX2 := Lib.hid (hc1.blkN HXb.out (fun e => by injection e with e; omega))
        have f2 : (wb.setCell ⟨mb, off, none⟩ (.int .i64 (riN q.1))).cell? ⟨Fb, 1, none⟩ = some (.func (.func 77) #[] #[.pointer (some ⟨pb, 0, none⟩)]) := cellb (i := 1) HX2.out rfl
        refine hK.out _ _ ?_ (fun hHeld => ?_)
        · try dsimp only
          (refine ?_ <;> (first | with_reducible assumption))
        clear hK K
        try simp only [Act.put, List.setIfInBounds_toArray, List.set_cons_zero, List.set_cons_succ]
        refine wpAnyH_done (by kernel_rfl) ?_ _
        refine NoPanic.normal ?_
        clear hHeld f0 f1 f2 HX HXb HX2 HFa HMa HDa HRa HBa HPT HPTb
        have HF7 := Lib.hid (HFb.out.set (o := off) (.int .i64 (riN q.1)))
        have HM7 := Lib.hid (HMb.out.setN (o := off) (by omega) (by omega) (riN q.1))
        have HD7 := Lib.hid (HDb.out.chg hc1.chg (fun e => by injection e with e; omega) (fun k hk e => by injection e with e; omega))
        have HR7 := Lib.hid (hc1.blkN HRb.out (fun e => by injection e with e; omega))
        have HB7 := Lib.hid (HBb.out.trans (hc1.chg.below (B := S) (by omega) (fun k hk e => by injection e with e; omega)))
        have hbn7 : BN ≤ (wb.setCell ⟨mb, off, none⟩ (.int .i64 (riN q.1))).heap.size := by have := hc1.chg.size; omega
        clear hc1 HFb HMb HDb HRb HBb
        generalize wb.setCell ⟨mb, off, none⟩ (.int .i64 (riN q.1)) = w7 at HF7 HM7 HD7 HR7 HB7 hbn7 ⊢
        go_wp2_with fail
        go_roundw
        case rel => exact ⟨j + 1, by omega, by go_num, hbn7, HF7, by rw [HNX.out]; exact HM7, by rw [HNX.out]; exact HD7, HR7, HB7⟩
        case measure => simp [intOf]; omega
      · subst e18
        go_upto_region 14 with (fail)
        obtain ⟨Fb, hFb⟩ : ∃ x, x = wr.heap.size := ⟨_, rfl⟩
        obtain ⟨wa, hwa⟩ : ∃ y, y = wr.alloc (.cells #[.func (.func 59) #[] #[.pointer (some ⟨pb, 0, none⟩)], .func (.func 60) #[] #[.pointer (some ⟨pb, 0, none⟩)], .int .i64 lo, .int .i64 hi] 69) := ⟨_, rfl⟩
        rw [← hwa, ← hFb]
        have hal : Below wr.heap.size wr wa := by rw [hwa]; exact (Below.refl _ _).alloc (Nat.le_refl _) _
        have hbox : wa.heap[Fb]? = some (.cells #[.func (.func 59) #[] #[.pointer (some ⟨pb, 0, none⟩)], .func (.func 60) #[] #[.pointer (some ⟨pb, 0, none⟩)], .int .i64 lo, .int .i64 hi] 69 (0, 0)) := by rw [hwa, hFb]; exact heap_alloc_new wr _
        have hmr : mb < wr.heap.size := by omega
        have HX := Lib.hid hbox
        have HFa := Lib.hid (HF.out.below hal hbn)
        have HMa := Lib.hid (HM.out.below hal hmr)
        have HDa := Lib.hid (HD.out.chg (Chg.of_below (S := fun _ => False) hal) (fun h => h) (fun _ _ h => h))
        have HRa := Lib.hid ((hal.block S (by omega)).trans HR.out)
        have HBa := Lib.hid (HB.out.trans (hal.mono (by omega)))
        have hPTa := (hal.cell (p := ⟨pb, 0, none⟩) (show pb < _ by omega)).trans pt
        have hsa : Fb < wa.heap.size := ltb hbox
        have hFbn : BN ≤ Fb := by omega
        clear hal hbox hwa hFb pt c1 c2' c3 c4 HF HM HD HR HB hmr
        have HPT := Lib.hid hPTa
        clear hPTa
        have hd : Below wa.heap.size wa wa.drew := (Below.refl _ _).drew
        have HX := Lib.hid ((hd.block Fb hsa).trans HX.out)
        have HFa := Lib.hid (HFa.out.below hd (Nat.le_trans hFbn (Nat.le_of_lt hsa)))
        have HMa := Lib.hid (HMa.out.below hd (by omega))
        have HDa := Lib.hid (HDa.out.chg (Chg.of_below (S := fun _ => False) hd) (fun h => h) (fun _ _ h => h))
        have HRa := Lib.hid ((hd.block S (by omega)).trans HRa.out)
        have HBa := Lib.hid (HBa.out.trans (hd.mono (by omega)))
        have HPT := Lib.hid ((hd.cell (p := ⟨pb, 0, none⟩) (show pb < _ by omega)).trans HPT.out)
        have hsa : Fb < wa.drew.heap.size := hsa
        clear hd
        have f0 : wa.drew.cell? ⟨Fb, 1, none⟩ = some (.func (.func 60) #[] #[.pointer (some ⟨pb, 0, none⟩)]) := cellb (i := 1) HX.out rfl
        refine wp_region_noPanic ?_
        refine wp_region_held_drew (S := fun w' => w'.cell? ⟨Fb, 1, none⟩ = some (.func (.func 60) #[] #[.pointer (some ⟨pb, 0, none⟩)])) (by kernel_rfl) ?_ (fun hHeld => ?_)
        · try dsimp only
          (refine ?_ <;> (first | with_reducible assumption))
        refine wpAnyH_take (i := 0) (v := ?_) (by (simp only [List.getElem?_toArray, List.getElem?_cons_zero]; rfl)) (by kernel_rfl) (by kernel_rfl) (by kernel_rfl) (fun _ _ _ h => h) (Or.inl ⟨by rfl, ?_⟩) (by assumption) ?_
        rotate_left
        · (intro w hSw; (try dsimp only at hSw); go_simp; try with_reducible rfl)
        try simp only [Act.put, List.setIfInBounds_toArray, List.set_cons_zero, List.set_cons_succ]
        refine wpAnyH_take (i := 1) (v := ?_) (by (simp only [List.getElem?_toArray, List.getElem?_cons_succ, List.getElem?_cons_zero]; rfl)) (by kernel_rfl) (by kernel_rfl) (by kernel_rfl) (fun _ _ _ h => h) (Or.inl ⟨by rfl, ?_⟩) (by assumption) ?_
        rotate_left
        · (intro w hSw; (try dsimp only at hSw); go_simp; try with_reducible rfl)
        try simp only [Act.put, List.setIfInBounds_toArray, List.set_cons_zero, List.set_cons_succ]
        refine wpAnyH_take (i := 2) (v := ?_) (by (simp only [List.getElem?_toArray, List.getElem?_cons_succ, List.getElem?_cons_zero]; rfl)) (by kernel_rfl) (by kernel_rfl) (by kernel_rfl) (fun _ _ _ h => h) (Or.inl ⟨by rfl, ?_⟩) (by assumption) ?_
        rotate_left
        · (intro w hSw; (try dsimp only at hSw); go_simp; try with_reducible rfl)
        try simp only [Act.put, List.setIfInBounds_toArray, List.set_cons_zero, List.set_cons_succ]
        refine wpAnyH_ready (rs := [3]) (by kernel_rfl) (by simp) ?_
        refine AllReadyH.cons (by (simp only [List.getElem?_toArray, List.getElem?_cons_succ, List.getElem?_cons_zero]; rfl)) (fun K hK => ?_) AllReadyH.nil
        go_simp
        obtain ⟨A5, c5, hrd⟩ := HDa.out
        refine (ri_any g g q.1 A5 c5 wa.drew hrd).mono ?_
        rintro e wb ⟨rfl, hto⟩
        have hch := hto.chg
        obtain ⟨A6, c6, hrd6⟩ := hto.open_
        have HXb := Lib.hid ((hch.block Fb hsa (by show ¬ Fb = g; omega)).trans HX.out)
        have HFb := Lib.hid (HFa.out.kept (B' := wa.drew.heap.size) (fun k h1 h2 => hch.block k h2 (by show ¬ k = g; omega)) (Nat.le_trans hFbn (Nat.le_of_lt hsa)))
        have HMb : Hid (MAt wb mb q.2 none 0 0) := Lib.hid ((hch.block mb (by omega) (by show ¬ mb = g; omega)).trans HMa.out)
        have HDb : Hid (RdW wb g g (ruS q.1)) := Lib.hid ⟨A6, c6, hrd6⟩
        have HRb := Lib.hid ((hch.block S (by omega) (by show ¬ S = g; omega)).trans HRa.out)
        have HBb := Lib.hid (HBa.out.trans (hch.below (B := S) (by omega) (fun k hk e => by omega)))
        have HPTb := Lib.hid (hch.cell (p := ⟨pb, 0, none⟩) HPT.out (by show ¬ pb = g; omega))
        have hsb' : Fb < wb.heap.size := Nat.lt_of_lt_of_le hsa hch.size
        have f1 : wb.cell? ⟨Fb, 1, none⟩ = some (.func (.func 60) #[] #[.pointer (some ⟨pb, 0, none⟩)]) := cellb (i := 1) HXb.out rfl
        clear hch hrd hrd6 hto
        refine hK.out _ _ ?_ (fun hHeld => ?_)
        · try dsimp only
          (refine ?_ <;> (first | with_reducible assumption))
        clear hK K
        try simp only [Act.put, List.setIfInBounds_toArray, List.set_cons_zero, List.set_cons_succ]
        refine wpAnyH_ready (rs := [4]) (by kernel_rfl) (by simp) ?_
        refine AllReadyH.cons (by (simp only [List.getElem?_toArray, List.getElem?_cons_succ, List.getElem?_cons_zero]; rfl)) (fun K hK => ?_) AllReadyH.nil
        go_simp
        refine (set2 pb mb _ (riN q.1) wb HPTb.out (HMb.out.cell (o := 18) (by omega) (by omega)) (HMb.out.fz 18)).mono ?_
        rintro e w' ⟨rfl, rfl⟩
        have hc1 := Ch.ofCell (i := 18) HMb.out (.int .i64 (riN q.1))
        have HX2 := Lib.hid (hc1.blkN HXb.out (fun e => by injection e with e; omega))
        have f2 : (wb.setCell ⟨mb, 18, none⟩ (.int .i64 (riN q.1))).cell? ⟨Fb, 1, none⟩ = some (.func (.func 60) #[] #[.pointer (some ⟨pb, 0, none⟩)]) := cellb (i := 1) HX2.out rfl
        refine hK.out _ _ ?_ (fun hHeld => ?_)
        · try dsimp only
          (refine ?_ <;> (first | with_reducible assumption))
        clear hK K
        try simp only [Act.put, List.setIfInBounds_toArray, List.set_cons_zero, List.set_cons_succ]
        refine wpAnyH_done (by kernel_rfl) ?_ _
        refine NoPanic.normal ?_
        clear hHeld f0 f1 f2 HX HXb HX2 HFa HMa HDa HRa HBa HPT HPTb
        have HF7 := Lib.hid (HFb.out.set (o := 18) (.int .i64 (riN q.1)))
        have HM7 := Lib.hid (HMb.out.setN (o := 18) (by omega) (by omega) (riN q.1))
        have HD7 := Lib.hid (HDb.out.chg hc1.chg (fun e => by injection e with e; omega) (fun k hk e => by injection e with e; omega))
        have HR7 := Lib.hid (hc1.blkN HRb.out (fun e => by injection e with e; omega))
        have HB7 := Lib.hid (HBb.out.trans (hc1.chg.below (B := S) (by omega) (fun k hk e => by injection e with e; omega)))
        have hbn7 : BN ≤ (wb.setCell ⟨mb, 18, none⟩ (.int .i64 (riN q.1))).heap.size := by have := hc1.chg.size; omega
        clear hc1 HFb HMb HDb HRb HBb
        generalize wb.setCell ⟨mb, 18, none⟩ (.int .i64 (riN q.1)) = w7 at HF7 HM7 HD7 HR7 HB7 hbn7 ⊢
        go_wp2_with fail
        go_roundw
        case rel => exact ⟨j + 1, by omega, by go_num, hbn7, HF7, by rw [HNX.out]; exact HM7, by rw [HNX.out]; exact HD7, HR7, HB7⟩
        case measure => simp [intOf]; omega
    · have hj : j = m' := by omega
      have htk : fl.take j = fl := List.take_of_length_le (by rw [HLEN.out]; omega)
      rw [htk, HPF.out] at HM HD
      have HV0 : Hid ((upF l).2 0 = k) := Lib.hid (by
        rw [← HPF.out]
        have : ∀ (fs : List FD) (p : Rd × (Nat → Int)), (∀ f ∈ fs, 1 ≤ f.off) → (rdF fs p).2 0 = p.2 0 := by
          intro fs
          induction fs with
          | nil => intro p _; rfl
          | cons f fs ih =>
            intro p h
            refine (ih _ (fun f' hf' => h f' (List.mem_cons_of_mem _ hf'))).trans ?_
            have := h f List.mem_cons_self
            simp only [setv]
            rw [if_neg (by omega)]
        rw [this fl p0 (fun f hf => (HOFF.out f hf).1), HP2.out]
        rfl)
      clear htk HF HOFF HNE hj HP2
      have m0 : wr.cell? ⟨mb, 0, none⟩ = some (.int .i64 k) := by rw [← HV0.out]; exact cellb (i := 0) HM.out rfl
      skip
      by_cases h7 : k = 7
      · have hk7 : upK l = 7 := by rw [← HK.out]; exact h7
        have hT : upT l = rtL (upF l).1 4096 := by unfold upT; rw [if_pos hk7]
        have hR : upR l = rtS (upF l).1 4096 := by unfold upR; rw [if_pos hk7]
        have HTT := Lib.hid hT
        have HRR := Lib.hid hR
        have hq : (k == 7) = true := by rw [h7]; rfl
        clear hk7 hT hR h7
        go_wp2_with fail
        clear m0 hq
        obtain ⟨A5, c5, hrd⟩ := HD.out
        refine (rt_any g g _ A5 c5 4096 (by omega) wr hrd).mono ?_
        rintro e w8 ⟨rfl, hto⟩
        rw [← HTT.out]
        rw [← HRR.out] at hto
        have hch := hto.chg
        obtain ⟨A6, c6, hrd6⟩ := hto.open_
        have hs8 : mb < w8.heap.size := Nat.lt_of_lt_of_le (by omega) hch.size
        have HM8 : Hid (MAt w8 mb (upF l).2 none 0 0) := Lib.hid ((hch.block mb (by omega) (by show ¬ mb = g; omega)).trans HM.out)
        have HD8 : Hid (RdW w8 g g (upR l)) := Lib.hid ⟨A6, c6, hrd6⟩
        have HR8 := Lib.hid ((hch.block S (by omega) (by show ¬ S = g; omega)).trans HR.out)
        have HB8 := Lib.hid (HB.out.trans (hch.below (B := S) (by omega) (fun k hk e => by omega)))
        clear hrd hrd6 hto hch HD HM HR HB HTT HRR
        obtain ⟨ct, O, hcv, hby⟩ := conv_sb (upT l) w8 (Nat.le_trans (upT_len l) (by omega))
        obtain ⟨nt, hnt⟩ : ∃ n, n = (upT l).length := ⟨_, rfl⟩
        rw [← hnt] at hcv
        have HNL := Lib.hid hnt
        clear hnt
        obtain ⟨Tb, hTb⟩ : ∃ x, x = w8.heap.size := ⟨_, rfl⟩
        rw [← hTb] at hcv hby
        have c17 : ((w8.alloc O).drew).cell? ⟨mb, 17, none⟩ = some (.slice none 0 0) := keepA (cellb (i := 17) HM8.out rfl)
        have f17 : ((w8.alloc O).drew).frozen? ⟨mb, 17, none⟩ = false := (frozen_alloc w8 O mb 17 hs8).trans (HM8.out.fz 17)
        have hc1 := Ch.ofCell (i := 17) HM8.out (.slice (some ⟨Tb, 0, none⟩) nt ct)
        have hz1 : (w8.setCell ⟨mb, 17, none⟩ (.slice (some ⟨Tb, 0, none⟩) nt ct)).heap.size = Tb := by rw [hTb]; simp [World.setCell]
        have hd : Below (w8.setCell ⟨mb, 17, none⟩ (.slice (some ⟨Tb, 0, none⟩) nt ct)).heap.size (w8.setCell ⟨mb, 17, none⟩ (.slice (some ⟨Tb, 0, none⟩) nt ct)) (((w8.setCell ⟨mb, 17, none⟩ (.slice (some ⟨Tb, 0, none⟩) nt ct)).alloc O).drew) := ((Below.refl _ _).alloc (Nat.le_refl _) _).drew
        have hTm : mb < Tb := by omega
        have HM := Lib.hid ((HM8.out.setS (some ⟨Tb, 0, none⟩) nt ct).below hd (by omega))
        have HD := Lib.hid ((HD8.out.chg hc1.chg (fun e => by injection e with e; omega) (fun k hk e => by injection e with e; omega)).chg (Chg.of_below (S := fun _ => False) hd) (fun h => h) (fun _ _ h => h))
        have HR := Lib.hid ((hd.block S (by omega)).trans (hc1.blkN HR8.out (fun e => by injection e with e; omega)))
        have HB := Lib.hid ((HB8.out.trans (hc1.chg.below (B := S) (by omega) (fun k hk e => by injection e with e; omega))).trans (hd.mono (by omega)))
        have hnewb : (((w8.setCell ⟨mb, 17, none⟩ (.slice (some ⟨Tb, 0, none⟩) nt ct)).alloc O).drew).heap[Tb]? = some O := alloc_at _ _ _ hz1
        have hnewd : (w8.drew.alloc O).heap[Tb]? = some O := alloc_at _ _ _ hTb.symm
        have hTbs : Tb + 1 ≤ (((w8.setCell ⟨mb, 17, none⟩ (.slice (some ⟨Tb, 0, none⟩) nt ct)).alloc O).drew).heap.size := ltb hnewb
        have HT : Hid (BytesIn (((w8.setCell ⟨mb, 17, none⟩ (.slice (some ⟨Tb, 0, none⟩) nt ct)).alloc O).drew) (((w8.setCell ⟨mb, 17, none⟩ (.slice (some ⟨Tb, 0, none⟩) nt ct)).alloc O).drew).heap.size (some ⟨Tb, 0, none⟩) ct (upT l)) := Lib.hid ((hby.blkEq (hnewb.trans hnewd.symm)).more hTbs)
        have hsz : mb < (((w8.setCell ⟨mb, 17, none⟩ (.slice (some ⟨Tb, 0, none⟩) nt ct)).alloc O).drew).heap.size := by omega
        clear hd hby HM8 HD8 HR8 HB8 hTb hc1 hz1 hnewb hnewd hTbs
        go_upto_region 18 with fail
        clear hcv c17 f17
        generalize (((w8.setCell ⟨mb, 17, none⟩ (.slice (some ⟨Tb, 0, none⟩) nt ct)).alloc O).drew) = wz at HM HD HR HB HT hsz ⊢
        obtain ⟨At, hAt⟩ : ∃ A : Option Addr, A = some ⟨Tb, 0, none⟩ := ⟨_, rfl⟩
        have HTN : Hid (∀ b o, At = some ⟨b, o, none⟩ → ¬ b = g) := Lib.hid (fun b o e h => by rw [hAt] at e; injection e with e; injection e with e1 e2; omega)
        have HTS : Hid (∀ b o, At = some ⟨b, o, none⟩ → ¬ b = S) := Lib.hid (fun b o e h => by rw [hAt] at e; injection e with e; injection e with e1 e2; omega)
        rw [← hAt] at HM HT ⊢
        clear hAt hTm
        go_wp2_with fail
        obtain ⟨A8, c8, hrd⟩ := HD.out
        refine (end_any g g _ A8 c8 wz hrd).mono ?_
        rintro e w9 ⟨rfl, hto⟩
        have hch := hto.chg
        have HM9 : Hid (MAt w9 mb (upF l).2 At nt ct) := Lib.hid ((hch.block mb hsz (by show ¬ mb = g; omega)).trans HM.out)
        have HRES := Lib.hid ((hch.block S (by omega) (by show ¬ S = g; omega)).trans HR.out)
        have HB9 := Lib.hid (HB.out.trans (hch.below (B := S) (by omega) (fun k hk e => by omega)))
        have HT9 := Lib.hid ((HT.out.chgN hch HTN.out).more hch.size)
        have hs9 : mb < w9.heap.size := Nat.lt_of_lt_of_le hsz hch.size
        clear hrd hto hch HD HM HR HB HT hsz
        obtain ⟨x, hx⟩ : ∃ x, x = (rendS (upR l)).e := ⟨_, rfl⟩
        rw [← hx]
        by_cases hx0 : x = 0
        · have HXE := Lib.hid hx
          have HX0 := Lib.hid hx0
          have hq : (x != 0) = false := by rw [hx0]; rfl
          clear hx hx0
          have HMU := Lib.hid (show w9.heap[mb]? = some (.cells #[.int .i64 ((upF l).2 0), .int .i64 ((upF l).2 1), .int .i64 ((upF l).2 2), .int .i64 ((upF l).2 3), .int .i64 ((upF l).2 4), .int .i64 ((upF l).2 5), .int .i64 ((upF l).2 6), .int .i64 ((upF l).2 7), .int .i64 ((upF l).2 8), .int .i64 ((upF l).2 9), .int .i64 ((upF l).2 10), .int .i64 ((upF l).2 11), .int .i64 ((upF l).2 12), .int .i64 ((upF l).2 13), .int .i64 ((upF l).2 14), .int .i64 ((upF l).2 15), .int .i64 ((upF l).2 16), .slice At nt ct, .int .i64 ((upF l).2 18), .int .i64 ((upF l).2 19), .int .i64 ((upF l).2 20)] 29 (0, 0)) from HM9.out)
          go_wp2_with (refine wpList_load_row rfl 29 _ rfl mb rfl 29 _ (0, 0) _ HMU.out Tryd.underlying29 rfl (by kernel_rfl) ?_)
          clear hq HMU
          refine (check_any (upF l).2 At nt ct w9).mono ?_
          rintro e w10 ⟨b, rfl, hbk, hb⟩
          have HMX := Lib.hid (HM9.out.below hb hs9)
          have HRES := Lib.hid ((hb.block S (by omega)).trans HRES.out)
          have HBX := Lib.hid (HB9.out.trans (hb.mono (by omega)))
          have HTX := Lib.hid ((HT9.out.below hb (Nat.le_refl _)).more hb.size)
          have hsx : mb < w10.heap.size := Nat.lt_of_lt_of_le hs9 hb.size
          clear hb HM9 HB9 HT9 hs9
          have hE4 : upE l = if OkM (upF l).2 nt then 0 else 11 := by
            unfold upE
            rw [if_neg (fun h => h HE.out), if_neg HREST.out, if_neg (by rw [← HXE.out]; exact fun h => h HX0.out), ← HNL.out]
          cases b
          · have hup : upE l = 11 := by rw [hE4, if_neg (fun h => by have := hbk.2 h; simp at this)]
            have HUP := Lib.hid hup
            clear hup hE4 hbk
            go_wp2_with (refine wpList_store_row rfl 29 (.tmp 2) (.tmp 69) rfl S _ rfl rfl 29 _ HRES.out (by kernel_rfl) rfl (by simp [Value.oneCell']) ?_)
            have HRS := Lib.hid (setRow_heap _ _ _ #[.int .i64 0, .int .i64 0, .int .i64 0, .int .i64 0, .int .i64 0, .int .i64 0, .int .i64 0, .int .i64 0, .int .i64 0, .int .i64 0, .int .i64 0, .int .i64 0, .int .i64 0, .int .i64 0, .int .i64 0, .int .i64 0, .int .i64 0, .slice none 0 0, .int .i64 0, .int .i64 0, .int .i64 0] _ _ HRES.out)
            refine bodyPost_ret (v := .tuple #[.agg #[.int .i64 0, .int .i64 0, .int .i64 0, .int .i64 0, .int .i64 0, .int .i64 0, .int .i64 0, .int .i64 0, .int .i64 0, .int .i64 0, .int .i64 0, .int .i64 0, .int .i64 0, .int .i64 0, .int .i64 0, .int .i64 0, .int .i64 0, .slice none 0 0, .int .i64 0, .int .i64 0, .int .i64 0], .int .i64 11]) (results_unp _ _ S _ rfl HRS.out rfl) rfl ?_
            exact unpAt_no (by rw [HUP.out]; decide) HUP.out rfl (by rw [HSW.out]; exact HBX.out.trans ((Ch.ofRow HRES.out #[.int .i64 0, .int .i64 0, .int .i64 0, .int .i64 0, .int .i64 0, .int .i64 0, .int .i64 0, .int .i64 0, .int .i64 0, .int .i64 0, .int .i64 0, .int .i64 0, .int .i64 0, .int .i64 0, .int .i64 0, .int .i64 0, .int .i64 0, .slice none 0 0, .int .i64 0, .int .i64 0, .int .i64 0]).chg.below (by omega) (fun k hk h => by injection h with h; omega)))
          · have hup : upE l = 0 := by rw [hE4, if_pos (hbk.1 rfl)]
            have HUP := Lib.hid hup
            clear hup hE4 hbk
            have HMU := Lib.hid (show w10.heap[mb]? = some (.cells #[.int .i64 ((upF l).2 0), .int .i64 ((upF l).2 1), .int .i64 ((upF l).2 2), .int .i64 ((upF l).2 3), .int .i64 ((upF l).2 4), .int .i64 ((upF l).2 5), .int .i64 ((upF l).2 6), .int .i64 ((upF l).2 7), .int .i64 ((upF l).2 8), .int .i64 ((upF l).2 9), .int .i64 ((upF l).2 10), .int .i64 ((upF l).2 11), .int .i64 ((upF l).2 12), .int .i64 ((upF l).2 13), .int .i64 ((upF l).2 14), .int .i64 ((upF l).2 15), .int .i64 ((upF l).2 16), .slice At nt ct, .int .i64 ((upF l).2 18), .int .i64 ((upF l).2 19), .int .i64 ((upF l).2 20)] 29 (0, 0)) from HMX.out)
            go_wp2_with (first | (refine wpList_load_row rfl 29 (.tmp 8) rfl mb rfl 29 _ (0, 0) _ HMU.out Tryd.underlying29 rfl (by kernel_rfl) ?_) | (refine wpList_store_row rfl 29 (.tmp 2) (.tmp 70) rfl S _ rfl rfl 29 _ HRES.out (by kernel_rfl) rfl (by simp [Value.oneCell']) ?_))
            have HRS := Lib.hid (setRow_heap _ _ _ #[.int .i64 ((upF l).2 0), .int .i64 ((upF l).2 1), .int .i64 ((upF l).2 2), .int .i64 ((upF l).2 3), .int .i64 ((upF l).2 4), .int .i64 ((upF l).2 5), .int .i64 ((upF l).2 6), .int .i64 ((upF l).2 7), .int .i64 ((upF l).2 8), .int .i64 ((upF l).2 9), .int .i64 ((upF l).2 10), .int .i64 ((upF l).2 11), .int .i64 ((upF l).2 12), .int .i64 ((upF l).2 13), .int .i64 ((upF l).2 14), .int .i64 ((upF l).2 15), .int .i64 ((upF l).2 16), .slice At nt ct, .int .i64 ((upF l).2 18), .int .i64 ((upF l).2 19), .int .i64 ((upF l).2 20)] _ _ HRES.out)
            refine bodyPost_ret (v := .tuple #[.agg #[.int .i64 ((upF l).2 0), .int .i64 ((upF l).2 1), .int .i64 ((upF l).2 2), .int .i64 ((upF l).2 3), .int .i64 ((upF l).2 4), .int .i64 ((upF l).2 5), .int .i64 ((upF l).2 6), .int .i64 ((upF l).2 7), .int .i64 ((upF l).2 8), .int .i64 ((upF l).2 9), .int .i64 ((upF l).2 10), .int .i64 ((upF l).2 11), .int .i64 ((upF l).2 12), .int .i64 ((upF l).2 13), .int .i64 ((upF l).2 14), .int .i64 ((upF l).2 15), .int .i64 ((upF l).2 16), .slice At nt ct, .int .i64 ((upF l).2 18), .int .i64 ((upF l).2 19), .int .i64 ((upF l).2 20)], .int .i64 0]) (results_unp _ _ S _ rfl HRS.out rfl) rfl ?_
            have hch := Ch.ofRow HRES.out #[.int .i64 ((upF l).2 0), .int .i64 ((upF l).2 1), .int .i64 ((upF l).2 2), .int .i64 ((upF l).2 3), .int .i64 ((upF l).2 4), .int .i64 ((upF l).2 5), .int .i64 ((upF l).2 6), .int .i64 ((upF l).2 7), .int .i64 ((upF l).2 8), .int .i64 ((upF l).2 9), .int .i64 ((upF l).2 10), .int .i64 ((upF l).2 11), .int .i64 ((upF l).2 12), .int .i64 ((upF l).2 13), .int .i64 ((upF l).2 14), .int .i64 ((upF l).2 15), .int .i64 ((upF l).2 16), .slice At nt ct, .int .i64 ((upF l).2 18), .int .i64 ((upF l).2 19), .int .i64 ((upF l).2 20)]
            have hov : outV l = (upF l).2 := by unfold outV; rw [if_pos HUP.out]
            have hot : outT l = upT l := by unfold outT; rw [if_pos HUP.out]
            exact ⟨At, ct, by rw [hov, hot, HUP.out, ← HNL.out], by rw [hot]; exact (HTX.out.chgN hch.chg (fun b o e h => HTS.out b o e (by injection h with h; exact h.symm))).more hch.chg.size, by rw [HSW.out]; exact HBX.out.trans (hch.chg.below (by omega) (fun k hk h => by injection h with h; omega))⟩
        · have hup : upE l = x := by
            unfold upE
            rw [if_neg (fun h => h HE.out), if_neg HREST.out, if_pos (by rw [← hx]; exact hx0), ← hx]
          have HUP := Lib.hid hup
          have HX0 := Lib.hid hx0
          have hq : (x != 0) = true := by rw [bne_iff_ne]; exact hx0
          clear hx hup hx0
          go_wp2_with (refine wpList_store_row rfl 29 (.tmp 2) (.tmp 64) rfl S _ rfl rfl 29 _ HRES.out (by kernel_rfl) rfl (by simp [Value.oneCell']) ?_)
          have HRS := Lib.hid (setRow_heap _ _ _ #[.int .i64 0, .int .i64 0, .int .i64 0, .int .i64 0, .int .i64 0, .int .i64 0, .int .i64 0, .int .i64 0, .int .i64 0, .int .i64 0, .int .i64 0, .int .i64 0, .int .i64 0, .int .i64 0, .int .i64 0, .int .i64 0, .int .i64 0, .slice none 0 0, .int .i64 0, .int .i64 0, .int .i64 0] _ _ HRES.out)
          refine bodyPost_ret (v := .tuple #[.agg #[.int .i64 0, .int .i64 0, .int .i64 0, .int .i64 0, .int .i64 0, .int .i64 0, .int .i64 0, .int .i64 0, .int .i64 0, .int .i64 0, .int .i64 0, .int .i64 0, .int .i64 0, .int .i64 0, .int .i64 0, .int .i64 0, .int .i64 0, .slice none 0 0, .int .i64 0, .int .i64 0, .int .i64 0], .int .i64 x]) (results_unp _ _ S _ rfl HRS.out rfl) rfl ?_
          exact unpAt_no (by rw [HUP.out]; exact HX0.out) HUP.out rfl (by rw [HSW.out]; exact HB9.out.trans ((Ch.ofRow HRES.out #[.int .i64 0, .int .i64 0, .int .i64 0, .int .i64 0, .int .i64 0, .int .i64 0, .int .i64 0, .int .i64 0, .int .i64 0, .int .i64 0, .int .i64 0, .int .i64 0, .int .i64 0, .int .i64 0, .int .i64 0, .int .i64 0, .int .i64 0, .slice none 0 0, .int .i64 0, .int .i64 0, .int .i64 0]).chg.below (by omega) (fun k hk h => by injection h with h; omega)))
      · have hk7 : ¬ upK l = 7 := by rw [← HK.out]; exact h7
        have hT : upT l = [] := by unfold upT; rw [if_neg hk7]
        have hR : upR l = (upF l).1 := by unfold upR; rw [if_neg hk7]
        rw [← hR] at HD
        obtain ⟨At, hAt⟩ : ∃ A : Option Addr, A = none := ⟨_, rfl⟩
        obtain ⟨nt, hnt⟩ : ∃ n, n = 0 := ⟨_, rfl⟩
        obtain ⟨ct, hct⟩ : ∃ n, n = 0 := ⟨_, rfl⟩
        have HTN : Hid (∀ b o, At = some ⟨b, o, none⟩ → ¬ b = g) := Lib.hid (fun b o e h => by rw [hAt] at e; cases e)
        have HTS : Hid (∀ b o, At = some ⟨b, o, none⟩ → ¬ b = S) := Lib.hid (fun b o e h => by rw [hAt] at e; cases e)
        have HNL : Hid (nt = (upT l).length) := Lib.hid (by rw [hT, hnt]; rfl)
        have HT : Hid (BytesIn wr wr.heap.size At ct (upT l)) := Lib.hid (by rw [hT]; exact .emp (by omega))
        have HM : Hid (MAt wr mb (upF l).2 At nt ct) := Lib.hid (by rw [hAt, hnt, hct]; exact HM.out)
        have hsz : mb < wr.heap.size := by omega
        have hq : (k == 7) = false := by simpa using h7
        clear hk7 hT hR hAt hnt hct h7
        go_wp2_with fail
        clear m0 hq
        obtain ⟨wz, hwz⟩ : ∃ y, y = wr := ⟨_, rfl⟩
        rw [← hwz] at HM HD HR HB HT hsz ⊢
        clear hwz
        obtain ⟨A8, c8, hrd⟩ := HD.out
        refine (end_any g g _ A8 c8 wz hrd).mono ?_
        rintro e w9 ⟨rfl, hto⟩
        have hch := hto.chg
        have HM9 : Hid (MAt w9 mb (upF l).2 At nt ct) := Lib.hid ((hch.block mb hsz (by show ¬ mb = g; omega)).trans HM.out)
        have HRES := Lib.hid ((hch.block S (by omega) (by show ¬ S = g; omega)).trans HR.out)
        have HB9 := Lib.hid (HB.out.trans (hch.below (B := S) (by omega) (fun k hk e => by omega)))
        have HT9 := Lib.hid ((HT.out.chgN hch HTN.out).more hch.size)
        have hs9 : mb < w9.heap.size := Nat.lt_of_lt_of_le hsz hch.size
        clear hrd hto hch HD HM HR HB HT hsz
        obtain ⟨x, hx⟩ : ∃ x, x = (rendS (upR l)).e := ⟨_, rfl⟩
        rw [← hx]
        by_cases hx0 : x = 0
        · have HXE := Lib.hid hx
          have HX0 := Lib.hid hx0
          have hq : (x != 0) = false := by rw [hx0]; rfl
          clear hx hx0
          have HMU := Lib.hid (show w9.heap[mb]? = some (.cells #[.int .i64 ((upF l).2 0), .int .i64 ((upF l).2 1), .int .i64 ((upF l).2 2), .int .i64 ((upF l).2 3), .int .i64 ((upF l).2 4), .int .i64 ((upF l).2 5), .int .i64 ((upF l).2 6), .int .i64 ((upF l).2 7), .int .i64 ((upF l).2 8), .int .i64 ((upF l).2 9), .int .i64 ((upF l).2 10), .int .i64 ((upF l).2 11), .int .i64 ((upF l).2 12), .int .i64 ((upF l).2 13), .int .i64 ((upF l).2 14), .int .i64 ((upF l).2 15), .int .i64 ((upF l).2 16), .slice At nt ct, .int .i64 ((upF l).2 18), .int .i64 ((upF l).2 19), .int .i64 ((upF l).2 20)] 29 (0, 0)) from HM9.out)
          go_wp2_with (refine wpList_load_row rfl 29 _ rfl mb rfl 29 _ (0, 0) _ HMU.out Tryd.underlying29 rfl (by kernel_rfl) ?_)
          clear hq HMU
          refine (check_any (upF l).2 At nt ct w9).mono ?_
          rintro e w10 ⟨b, rfl, hbk, hb⟩
          have HMX := Lib.hid (HM9.out.below hb hs9)
          have HRES := Lib.hid ((hb.block S (by omega)).trans HRES.out)
          have HBX := Lib.hid (HB9.out.trans (hb.mono (by omega)))
          have HTX := Lib.hid ((HT9.out.below hb (Nat.le_refl _)).more hb.size)
          have hsx : mb < w10.heap.size := Nat.lt_of_lt_of_le hs9 hb.size
          clear hb HM9 HB9 HT9 hs9
          have hE4 : upE l = if OkM (upF l).2 nt then 0 else 11 := by
            unfold upE
            rw [if_neg (fun h => h HE.out), if_neg HREST.out, if_neg (by rw [← HXE.out]; exact fun h => h HX0.out), ← HNL.out]
          cases b
          · have hup : upE l = 11 := by rw [hE4, if_neg (fun h => by have := hbk.2 h; simp at this)]
            have HUP := Lib.hid hup
            clear hup hE4 hbk
            go_wp2_with (refine wpList_store_row rfl 29 (.tmp 2) (.tmp 69) rfl S _ rfl rfl 29 _ HRES.out (by kernel_rfl) rfl (by simp [Value.oneCell']) ?_)
            have HRS := Lib.hid (setRow_heap _ _ _ #[.int .i64 0, .int .i64 0, .int .i64 0, .int .i64 0, .int .i64 0, .int .i64 0, .int .i64 0, .int .i64 0, .int .i64 0, .int .i64 0, .int .i64 0, .int .i64 0, .int .i64 0, .int .i64 0, .int .i64 0, .int .i64 0, .int .i64 0, .slice none 0 0, .int .i64 0, .int .i64 0, .int .i64 0] _ _ HRES.out)
            refine bodyPost_ret (v := .tuple #[.agg #[.int .i64 0, .int .i64 0, .int .i64 0, .int .i64 0, .int .i64 0, .int .i64 0, .int .i64 0, .int .i64 0, .int .i64 0, .int .i64 0, .int .i64 0, .int .i64 0, .int .i64 0, .int .i64 0, .int .i64 0, .int .i64 0, .int .i64 0, .slice none 0 0, .int .i64 0, .int .i64 0, .int .i64 0], .int .i64 11]) (results_unp _ _ S _ rfl HRS.out rfl) rfl ?_
            exact unpAt_no (by rw [HUP.out]; decide) HUP.out rfl (by rw [HSW.out]; exact HBX.out.trans ((Ch.ofRow HRES.out #[.int .i64 0, .int .i64 0, .int .i64 0, .int .i64 0, .int .i64 0, .int .i64 0, .int .i64 0, .int .i64 0, .int .i64 0, .int .i64 0, .int .i64 0, .int .i64 0, .int .i64 0, .int .i64 0, .int .i64 0, .int .i64 0, .int .i64 0, .slice none 0 0, .int .i64 0, .int .i64 0, .int .i64 0]).chg.below (by omega) (fun k hk h => by injection h with h; omega)))
          · have hup : upE l = 0 := by rw [hE4, if_pos (hbk.1 rfl)]
            have HUP := Lib.hid hup
            clear hup hE4 hbk
            have HMU := Lib.hid (show w10.heap[mb]? = some (.cells #[.int .i64 ((upF l).2 0), .int .i64 ((upF l).2 1), .int .i64 ((upF l).2 2), .int .i64 ((upF l).2 3), .int .i64 ((upF l).2 4), .int .i64 ((upF l).2 5), .int .i64 ((upF l).2 6), .int .i64 ((upF l).2 7), .int .i64 ((upF l).2 8), .int .i64 ((upF l).2 9), .int .i64 ((upF l).2 10), .int .i64 ((upF l).2 11), .int .i64 ((upF l).2 12), .int .i64 ((upF l).2 13), .int .i64 ((upF l).2 14), .int .i64 ((upF l).2 15), .int .i64 ((upF l).2 16), .slice At nt ct, .int .i64 ((upF l).2 18), .int .i64 ((upF l).2 19), .int .i64 ((upF l).2 20)] 29 (0, 0)) from HMX.out)
            go_wp2_with (first | (refine wpList_load_row rfl 29 (.tmp 8) rfl mb rfl 29 _ (0, 0) _ HMU.out Tryd.underlying29 rfl (by kernel_rfl) ?_) | (refine wpList_store_row rfl 29 (.tmp 2) (.tmp 70) rfl S _ rfl rfl 29 _ HRES.out (by kernel_rfl) rfl (by simp [Value.oneCell']) ?_))
            have HRS := Lib.hid (setRow_heap _ _ _ #[.int .i64 ((upF l).2 0), .int .i64 ((upF l).2 1), .int .i64 ((upF l).2 2), .int .i64 ((upF l).2 3), .int .i64 ((upF l).2 4), .int .i64 ((upF l).2 5), .int .i64 ((upF l).2 6), .int .i64 ((upF l).2 7), .int .i64 ((upF l).2 8), .int .i64 ((upF l).2 9), .int .i64 ((upF l).2 10), .int .i64 ((upF l).2 11), .int .i64 ((upF l).2 12), .int .i64 ((upF l).2 13), .int .i64 ((upF l).2 14), .int .i64 ((upF l).2 15), .int .i64 ((upF l).2 16), .slice At nt ct, .int .i64 ((upF l).2 18), .int .i64 ((upF l).2 19), .int .i64 ((upF l).2 20)] _ _ HRES.out)
            refine bodyPost_ret (v := .tuple #[.agg #[.int .i64 ((upF l).2 0), .int .i64 ((upF l).2 1), .int .i64 ((upF l).2 2), .int .i64 ((upF l).2 3), .int .i64 ((upF l).2 4), .int .i64 ((upF l).2 5), .int .i64 ((upF l).2 6), .int .i64 ((upF l).2 7), .int .i64 ((upF l).2 8), .int .i64 ((upF l).2 9), .int .i64 ((upF l).2 10), .int .i64 ((upF l).2 11), .int .i64 ((upF l).2 12), .int .i64 ((upF l).2 13), .int .i64 ((upF l).2 14), .int .i64 ((upF l).2 15), .int .i64 ((upF l).2 16), .slice At nt ct, .int .i64 ((upF l).2 18), .int .i64 ((upF l).2 19), .int .i64 ((upF l).2 20)], .int .i64 0]) (results_unp _ _ S _ rfl HRS.out rfl) rfl ?_
            have hch := Ch.ofRow HRES.out #[.int .i64 ((upF l).2 0), .int .i64 ((upF l).2 1), .int .i64 ((upF l).2 2), .int .i64 ((upF l).2 3), .int .i64 ((upF l).2 4), .int .i64 ((upF l).2 5), .int .i64 ((upF l).2 6), .int .i64 ((upF l).2 7), .int .i64 ((upF l).2 8), .int .i64 ((upF l).2 9), .int .i64 ((upF l).2 10), .int .i64 ((upF l).2 11), .int .i64 ((upF l).2 12), .int .i64 ((upF l).2 13), .int .i64 ((upF l).2 14), .int .i64 ((upF l).2 15), .int .i64 ((upF l).2 16), .slice At nt ct, .int .i64 ((upF l).2 18), .int .i64 ((upF l).2 19), .int .i64 ((upF l).2 20)]
            have hov : outV l = (upF l).2 := by unfold outV; rw [if_pos HUP.out]
            have hot : outT l = upT l := by unfold outT; rw [if_pos HUP.out]
            exact ⟨At, ct, by rw [hov, hot, HUP.out, ← HNL.out], by rw [hot]; exact (HTX.out.chgN hch.chg (fun b o e h => HTS.out b o e (by injection h with h; exact h.symm))).more hch.chg.size, by rw [HSW.out]; exact HBX.out.trans (hch.chg.below (by omega) (fun k hk h => by injection h with h; omega))⟩
        · have hup : upE l = x := by
            unfold upE
            rw [if_neg (fun h => h HE.out), if_neg HREST.out, if_pos (by rw [← hx]; exact hx0), ← hx]
          have HUP := Lib.hid hup
          have HX0 := Lib.hid hx0
          have hq : (x != 0) = true := by rw [bne_iff_ne]; exact hx0
          clear hx hup hx0
          go_wp2_with (refine wpList_store_row rfl 29 (.tmp 2) (.tmp 64) rfl S _ rfl rfl 29 _ HRES.out (by kernel_rfl) rfl (by simp [Value.oneCell']) ?_)
          have HRS := Lib.hid (setRow_heap _ _ _ #[.int .i64 0, .int .i64 0, .int .i64 0, .int .i64 0, .int .i64 0, .int .i64 0, .int .i64 0, .int .i64 0, .int .i64 0, .int .i64 0, .int .i64 0, .int .i64 0, .int .i64 0, .int .i64 0, .int .i64 0, .int .i64 0, .int .i64 0, .slice none 0 0, .int .i64 0, .int .i64 0, .int .i64 0] _ _ HRES.out)
          refine bodyPost_ret (v := .tuple #[.agg #[.int .i64 0, .int .i64 0, .int .i64 0, .int .i64 0, .int .i64 0, .int .i64 0, .int .i64 0, .int .i64 0, .int .i64 0, .int .i64 0, .int .i64 0, .int .i64 0, .int .i64 0, .int .i64 0, .int .i64 0, .int .i64 0, .int .i64 0, .slice none 0 0, .int .i64 0, .int .i64 0, .int .i64 0], .int .i64 x]) (results_unp _ _ S _ rfl HRS.out rfl) rfl ?_
          exact unpAt_no (by rw [HUP.out]; exact HX0.out) HUP.out rfl (by rw [HSW.out]; exact HB9.out.trans ((Ch.ofRow HRES.out #[.int .i64 0, .int .i64 0, .int .i64 0, .int .i64 0, .int .i64 0, .int .i64 0, .int .i64 0, .int .i64 0, .int .i64 0, .int .i64 0, .int .i64 0, .int .i64 0, .int .i64 0, .int .i64 0, .int .i64 0, .int .i64 0, .int .i64 0, .slice none 0 0, .int .i64 0, .int .i64 0, .int .i64 0]).chg.below (by omega) (fun k hk h => by injection h with h; omega)))
end Go.Proofs.YtkenaoejijpgpaaDoor
