/- The document unpacks bytes: errors of the frame, and of the kind. -/
import Derived.Test.YtkenaoejijpgpaaDoorRUnp0
namespace Go.Proofs.YtkenaoejijpgpaaDoor
open Go.RowKit

set_option maxRecDepth 100000 in
set_option maxHeartbeats 8000000 in
theorem runp_no (A : Option Addr) (n c : Nat) (l : List UInt8) (w : World) (hb : BytesIn w w.heap.size A c l) (hn : n = l.length) (hE : ¬ lookE l = 0) :
    Calls Tryd.prog 16 #[.slice A n c] w fun e w' => UnpAt l w e w' := by
  have hal : Below w.heap.size w (w.alloc (.cells #[.int .i64 0, .int .i64 0, .int .i64 0, .int .i64 0, .int .i64 0, .int .i64 0, .int .i64 0, .int .i64 0, .int .i64 0, .int .i64 0, .int .i64 0, .int .i64 0, .int .i64 0, .int .i64 0, .int .i64 0, .int .i64 0, .int .i64 0, .slice none 0 0, .int .i64 0, .int .i64 0, .int .i64 0] 29)) := (Below.refl w.heap.size w).alloc (Nat.le_refl _) _
  have hres := heap_alloc_new w (.cells #[.int .i64 0, .int .i64 0, .int .i64 0, .int .i64 0, .int .i64 0, .int .i64 0, .int .i64 0, .int .i64 0, .int .i64 0, .int .i64 0, .int .i64 0, .int .i64 0, .int .i64 0, .int .i64 0, .int .i64 0, .int .i64 0, .int .i64 0, .slice none 0 0, .int .i64 0, .int .i64 0, .int .i64 0] 29)
  have HB0 := Lib.hid hal
  have HT0 := Lib.hid (hb.below hal (Nat.le_refl _))
  obtain ⟨S, hS⟩ : ∃ S, S = w.heap.size := ⟨_, rfl⟩
  have hs0 : S < (w.alloc (.cells #[.int .i64 0, .int .i64 0, .int .i64 0, .int .i64 0, .int .i64 0, .int .i64 0, .int .i64 0, .int .i64 0, .int .i64 0, .int .i64 0, .int .i64 0, .int .i64 0, .int .i64 0, .int .i64 0, .int .i64 0, .int .i64 0, .int .i64 0, .slice none 0 0, .int .i64 0, .int .i64 0, .int .i64 0] 29)).heap.size := by simp [hS]
  rw [← hS] at hres
  have HR0 := Lib.hid hres
  have HSW : Hid (w.heap.size = S) := Lib.hid hS.symm
  have HN := Lib.hid hn
  have HE := Lib.hid hE
  clear hal hb hn hres
  go_enter Tryd.func16, Tryd.ntmps16
  go_upto_region 1 with fail
  rw [← hS]
  rw [← hS] at HB0 HT0
  clear hS
  generalize w.alloc (.cells #[.int .i64 0, .int .i64 0, .int .i64 0, .int .i64 0, .int .i64 0, .int .i64 0, .int .i64 0, .int .i64 0, .int .i64 0, .int .i64 0, .int .i64 0, .int .i64 0, .int .i64 0, .int .i64 0, .int .i64 0, .int .i64 0, .int .i64 0, .slice none 0 0, .int .i64 0, .int .i64 0, .int .i64 0] 29) = w0 at HB0 hs0 HT0 HR0 ⊢
  have hup : upE l = (lookE l : Int) := by unfold upE; rw [if_pos hE]
  have hq : ((lookE l : Int) != 0) = true := by rw [bne_iff_ne]; omega
  have HUP := Lib.hid hup
  have HNE : Hid (¬ upE l = 0) := Lib.hid (by rw [hup]; omega)
  clear hE hup
  go_wp2_with fail
  refine (rnext_no A c n l w0 _ HT0.out HN.out HE.out).mono ?_
  rintro e w1 ⟨rfl, k1, rfl⟩
  have HRES : Hid ((w0.drewN k1).heap[S]? = some (.cells #[.int .i64 0, .int .i64 0, .int .i64 0, .int .i64 0, .int .i64 0, .int .i64 0, .int .i64 0, .int .i64 0, .int .i64 0, .int .i64 0, .int .i64 0, .int .i64 0, .int .i64 0, .int .i64 0, .int .i64 0, .int .i64 0, .int .i64 0, .slice none 0 0, .int .i64 0, .int .i64 0, .int .i64 0] 29 (0, 0))) := HR0
  have HB1 : Hid (Below S w (w0.drewN k1)) := Lib.hid (below_dn HB0.out)
  have hs1 : S < (w0.drewN k1).heap.size := hs0
  generalize w0.drewN k1 = w1 at HRES HB1 hs1 ⊢
  go_wp2_with (refine wpList_store_row rfl 29 (.tmp 2) (.tmp 21) rfl S _ rfl rfl 29 _ HRES.out (by kernel_rfl) rfl (by simp [Value.oneCell']) ?_)
  have HRS := Lib.hid (setRow_heap _ _ _ #[.int .i64 0, .int .i64 0, .int .i64 0, .int .i64 0, .int .i64 0, .int .i64 0, .int .i64 0, .int .i64 0, .int .i64 0, .int .i64 0, .int .i64 0, .int .i64 0, .int .i64 0, .int .i64 0, .int .i64 0, .int .i64 0, .int .i64 0, .slice none 0 0, .int .i64 0, .int .i64 0, .int .i64 0] _ _ HRES.out)
  refine bodyPost_ret (v := .tuple #[.agg #[.int .i64 0, .int .i64 0, .int .i64 0, .int .i64 0, .int .i64 0, .int .i64 0, .int .i64 0, .int .i64 0, .int .i64 0, .int .i64 0, .int .i64 0, .int .i64 0, .int .i64 0, .int .i64 0, .int .i64 0, .int .i64 0, .int .i64 0, .slice none 0 0, .int .i64 0, .int .i64 0, .int .i64 0], .int .i64 (lookE l : Int)]) (results_runp _ _ S _ rfl HRS.out rfl) rfl ?_
  exact unpAt_no HNE.out HUP.out rfl (by rw [HSW.out]; exact HB1.out.trans ((Ch.ofRow HRES.out #[.int .i64 0, .int .i64 0, .int .i64 0, .int .i64 0, .int .i64 0, .int .i64 0, .int .i64 0, .int .i64 0, .int .i64 0, .int .i64 0, .int .i64 0, .int .i64 0, .int .i64 0, .int .i64 0, .int .i64 0, .int .i64 0, .int .i64 0, .slice none 0 0, .int .i64 0, .int .i64 0, .int .i64 0]).chg.below (by omega) (fun k hk h => by injection h with h; omega)))
set_option maxRecDepth 100000 in
set_option maxHeartbeats 8000000 in
theorem runp_rest (A : Option Addr) (n c : Nat) (l : List UInt8) (w : World) (hb : BytesIn w w.heap.size A c l) (hn : n = l.length) (hE : lookE l = 0) (hr : num4 l + 8 < l.length) :
    Calls Tryd.prog 16 #[.slice A n c] w fun e w' => UnpAt l w e w' := by
  have hal : Below w.heap.size w (w.alloc (.cells #[.int .i64 0, .int .i64 0, .int .i64 0, .int .i64 0, .int .i64 0, .int .i64 0, .int .i64 0, .int .i64 0, .int .i64 0, .int .i64 0, .int .i64 0, .int .i64 0, .int .i64 0, .int .i64 0, .int .i64 0, .int .i64 0, .int .i64 0, .slice none 0 0, .int .i64 0, .int .i64 0, .int .i64 0] 29)) := (Below.refl w.heap.size w).alloc (Nat.le_refl _) _
  have hres := heap_alloc_new w (.cells #[.int .i64 0, .int .i64 0, .int .i64 0, .int .i64 0, .int .i64 0, .int .i64 0, .int .i64 0, .int .i64 0, .int .i64 0, .int .i64 0, .int .i64 0, .int .i64 0, .int .i64 0, .int .i64 0, .int .i64 0, .int .i64 0, .int .i64 0, .slice none 0 0, .int .i64 0, .int .i64 0, .int .i64 0] 29)
  have HB0 := Lib.hid hal
  have HT0 := Lib.hid (hb.below hal (Nat.le_refl _))
  obtain ⟨S, hS⟩ : ∃ S, S = w.heap.size := ⟨_, rfl⟩
  have hs0 : S < (w.alloc (.cells #[.int .i64 0, .int .i64 0, .int .i64 0, .int .i64 0, .int .i64 0, .int .i64 0, .int .i64 0, .int .i64 0, .int .i64 0, .int .i64 0, .int .i64 0, .int .i64 0, .int .i64 0, .int .i64 0, .int .i64 0, .int .i64 0, .int .i64 0, .slice none 0 0, .int .i64 0, .int .i64 0, .int .i64 0] 29)).heap.size := by simp [hS]
  rw [← hS] at hres
  have HR0 := Lib.hid hres
  have HSW : Hid (w.heap.size = S) := Lib.hid hS.symm
  have HN := Lib.hid hn
  have HE := Lib.hid hE
  have HRT := Lib.hid hr
  have HUP : Hid (upE l = 11) := Lib.hid (by unfold upE; rw [if_neg (fun h => h hE), if_pos hr])
  clear hr
  clear hal hb hn hres
  go_enter Tryd.func16, Tryd.ntmps16
  go_upto_region 1 with fail
  rw [← hS]
  rw [← hS] at HB0 HT0
  clear hS
  generalize w.alloc (.cells #[.int .i64 0, .int .i64 0, .int .i64 0, .int .i64 0, .int .i64 0, .int .i64 0, .int .i64 0, .int .i64 0, .int .i64 0, .int .i64 0, .int .i64 0, .int .i64 0, .int .i64 0, .int .i64 0, .int .i64 0, .int .i64 0, .int .i64 0, .slice none 0 0, .int .i64 0, .int .i64 0, .int .i64 0] 29) = w0 at HB0 hs0 HT0 HR0 ⊢
  have hok := lookE_ok hE
  have hbl := bodyOf_length hE
  clear hE
  go_wp2_with fail
  refine (rnext_ok A c n l w0 S HT0.out HN.out HE.out).mono ?_
  rintro e w1 ⟨A1, c1, rfl, hby, k1, rfl⟩
  have HR1 : Hid ((w0.drewN k1).heap[S]? = some (.cells #[.int .i64 0, .int .i64 0, .int .i64 0, .int .i64 0, .int .i64 0, .int .i64 0, .int .i64 0, .int .i64 0, .int .i64 0, .int .i64 0, .int .i64 0, .int .i64 0, .int .i64 0, .int .i64 0, .int .i64 0, .int .i64 0, .int .i64 0, .slice none 0 0, .int .i64 0, .int .i64 0, .int .i64 0] 29 (0, 0))) := HR0
  have HB1 : Hid (Below S w (w0.drewN k1)) := Lib.hid (below_dn HB0.out)
  have hs1 : S < (w0.drewN k1).heap.size := hs0
  have HY1 := Lib.hid (hby.drewN k1)
  obtain ⟨m, hm⟩ : ∃ m, m = num4 l := ⟨_, rfl⟩
  rw [← hm] at hok hbl ⊢
  have HMN := Lib.hid hm
  have HBL : Hid (m = (bodyOf l).length) := Lib.hid hbl.symm
  have hm8 : m + 8 < n := by have h1 := HN.out; have h2 := HMN.out; have h3 := HRT.out; omega
  clear hby HT0 HR0 HB0 hs0 hm hbl HRT
  generalize w0.drewN k1 = w1 at HR1 HB1 hs1 HY1 ⊢
  have hq : (((m + 8 : Nat) : Int) != (n : Int)) = true := by rw [bne_iff_ne]; omega
  have HRES := HR1
  go_wp2_with (refine wpList_store_row rfl 29 (.tmp 2) (.tmp 27) rfl S _ rfl rfl 29 _ HRES.out (by kernel_rfl) rfl (by simp [Value.oneCell']) ?_)
  have HRS := Lib.hid (setRow_heap _ _ _ #[.int .i64 0, .int .i64 0, .int .i64 0, .int .i64 0, .int .i64 0, .int .i64 0, .int .i64 0, .int .i64 0, .int .i64 0, .int .i64 0, .int .i64 0, .int .i64 0, .int .i64 0, .int .i64 0, .int .i64 0, .int .i64 0, .int .i64 0, .slice none 0 0, .int .i64 0, .int .i64 0, .int .i64 0] _ _ HRES.out)
  refine bodyPost_ret (v := .tuple #[.agg #[.int .i64 0, .int .i64 0, .int .i64 0, .int .i64 0, .int .i64 0, .int .i64 0, .int .i64 0, .int .i64 0, .int .i64 0, .int .i64 0, .int .i64 0, .int .i64 0, .int .i64 0, .int .i64 0, .int .i64 0, .int .i64 0, .int .i64 0, .slice none 0 0, .int .i64 0, .int .i64 0, .int .i64 0], .int .i64 11]) (results_runp _ _ S _ rfl HRS.out rfl) rfl ?_
  exact unpAt_no (by rw [HUP.out]; decide) HUP.out rfl (by rw [HSW.out]; exact HB1.out.trans ((Ch.ofRow HRES.out #[.int .i64 0, .int .i64 0, .int .i64 0, .int .i64 0, .int .i64 0, .int .i64 0, .int .i64 0, .int .i64 0, .int .i64 0, .int .i64 0, .int .i64 0, .int .i64 0, .int .i64 0, .int .i64 0, .int .i64 0, .int .i64 0, .int .i64 0, .slice none 0 0, .int .i64 0, .int .i64 0, .int .i64 0]).chg.below (by omega) (fun k hk h => by injection h with h; omega)))
set_option maxRecDepth 100000 in
set_option maxHeartbeats 8000000 in
theorem runp_bad (A : Option Addr) (n c : Nat) (l : List UInt8) (w : World) (hb : BytesIn w w.heap.size A c l) (hn : n = l.length) (hE : lookE l = 0) (hr : ¬ num4 l + 8 < l.length) (hk : kB (upK l) = false) (he : (ruS (bodyRd l)).e = 0) :
    Calls Tryd.prog 16 #[.slice A n c] w fun e w' => UnpAt l w e w' := by
  have hal : Below w.heap.size w (w.alloc (.cells #[.int .i64 0, .int .i64 0, .int .i64 0, .int .i64 0, .int .i64 0, .int .i64 0, .int .i64 0, .int .i64 0, .int .i64 0, .int .i64 0, .int .i64 0, .int .i64 0, .int .i64 0, .int .i64 0, .int .i64 0, .int .i64 0, .int .i64 0, .slice none 0 0, .int .i64 0, .int .i64 0, .int .i64 0] 29)) := (Below.refl w.heap.size w).alloc (Nat.le_refl _) _
  have hres := heap_alloc_new w (.cells #[.int .i64 0, .int .i64 0, .int .i64 0, .int .i64 0, .int .i64 0, .int .i64 0, .int .i64 0, .int .i64 0, .int .i64 0, .int .i64 0, .int .i64 0, .int .i64 0, .int .i64 0, .int .i64 0, .int .i64 0, .int .i64 0, .int .i64 0, .slice none 0 0, .int .i64 0, .int .i64 0, .int .i64 0] 29)
  have HB0 := Lib.hid hal
  have HT0 := Lib.hid (hb.below hal (Nat.le_refl _))
  obtain ⟨S, hS⟩ : ∃ S, S = w.heap.size := ⟨_, rfl⟩
  have hs0 : S < (w.alloc (.cells #[.int .i64 0, .int .i64 0, .int .i64 0, .int .i64 0, .int .i64 0, .int .i64 0, .int .i64 0, .int .i64 0, .int .i64 0, .int .i64 0, .int .i64 0, .int .i64 0, .int .i64 0, .int .i64 0, .int .i64 0, .int .i64 0, .int .i64 0, .slice none 0 0, .int .i64 0, .int .i64 0, .int .i64 0] 29)).heap.size := by simp [hS]
  rw [← hS] at hres
  have HR0 := Lib.hid hres
  have HSW : Hid (w.heap.size = S) := Lib.hid hS.symm
  have HN := Lib.hid hn
  have HE := Lib.hid hE
  have HRT := Lib.hid hr
  have HUP : Hid (upE l = 11) := Lib.hid (by
    have h7 : ¬ upK l = 7 := by intro h; rw [h] at hk; simp [kB] at hk
    have hu : upR l = ⟨[], 11⟩ := by
      unfold upR upF up0
      rw [if_neg h7, flK_none hk, hk]
      show rfail (ruS (bodyRd l)) 11 = _
      unfold rfail
      rw [if_pos ⟨he, by decide⟩]
    unfold upE
    rw [if_neg (fun h => h hE), if_neg hr, if_pos (by rw [hu]; simp [rendS]), hu]
    simp [rendS])
  obtain ⟨kk, hkk⟩ : ∃ k, k = upK l := ⟨_, rfl⟩
  have HK : Hid (upK l = kk) := Lib.hid hkk.symm
  rw [← hkk] at hk
  have hwb : wB kk 1 8 = false := hk
  have HWB := Lib.hid hwb
  have HEE := Lib.hid he
  clear hr hk hkk he hwb
  clear hal hb hn hres
  go_enter Tryd.func16, Tryd.ntmps16
  go_upto_region 1 with fail
  rw [← hS]
  rw [← hS] at HB0 HT0
  clear hS
  generalize w.alloc (.cells #[.int .i64 0, .int .i64 0, .int .i64 0, .int .i64 0, .int .i64 0, .int .i64 0, .int .i64 0, .int .i64 0, .int .i64 0, .int .i64 0, .int .i64 0, .int .i64 0, .int .i64 0, .int .i64 0, .int .i64 0, .int .i64 0, .int .i64 0, .slice none 0 0, .int .i64 0, .int .i64 0, .int .i64 0] 29) = w0 at HB0 hs0 HT0 HR0 ⊢
  have hok := lookE_ok hE
  have hbl := bodyOf_length hE
  clear hE
  go_wp2_with fail
  refine (rnext_ok A c n l w0 S HT0.out HN.out HE.out).mono ?_
  rintro e w1 ⟨A1, c1, rfl, hby, k1, rfl⟩
  have HR1 : Hid ((w0.drewN k1).heap[S]? = some (.cells #[.int .i64 0, .int .i64 0, .int .i64 0, .int .i64 0, .int .i64 0, .int .i64 0, .int .i64 0, .int .i64 0, .int .i64 0, .int .i64 0, .int .i64 0, .int .i64 0, .int .i64 0, .int .i64 0, .int .i64 0, .int .i64 0, .int .i64 0, .slice none 0 0, .int .i64 0, .int .i64 0, .int .i64 0] 29 (0, 0))) := HR0
  have HB1 : Hid (Below S w (w0.drewN k1)) := Lib.hid (below_dn HB0.out)
  have hs1 : S < (w0.drewN k1).heap.size := hs0
  have HY1 := Lib.hid (hby.drewN k1)
  obtain ⟨m, hm⟩ : ∃ m, m = num4 l := ⟨_, rfl⟩
  rw [← hm] at hok hbl ⊢
  have HMN := Lib.hid hm
  have HBL : Hid (m = (bodyOf l).length) := Lib.hid hbl.symm
  have hm8 : m + 8 = n := by have h1 := HN.out; have h2 := HMN.out; have h3 := HRT.out; omega
  clear hby HT0 HR0 HB0 hs0 hm hbl HRT
  generalize w0.drewN k1 = w1 at HR1 HB1 hs1 HY1 ⊢
  subst hm8
  obtain ⟨g, hg⟩ : ∃ g, g = w1.heap.size := ⟨_, rfl⟩
  obtain ⟨w2, hw2⟩ : ∃ y, y = w1.alloc (.cells #[.slice A1 m c1, .int .i64 0] 83) := ⟨_, rfl⟩
  have hal : Below w1.heap.size w1 w2 := by rw [hw2]; exact (Below.refl _ _).alloc (Nat.le_refl _) _
  have hrd : RdAt 83 w2 S g (bodyRd l) A1 c1 := ⟨by rw [hw2, hg, HBL.out]; exact heap_alloc_new w1 _, HY1.out.below (hal.mono (Nat.le_of_lt hs1)) (Nat.le_refl _), by omega⟩
  have HD2 := Lib.hid hrd
  have HR2 := Lib.hid ((hal.block S hs1).trans HR1.out)
  have HB2 := Lib.hid (HB1.out.trans (hal.mono (Nat.le_of_lt hs1)))
  have hSg : S < g := by omega
  have hs2 : g < w2.heap.size := hrd.glt
  clear hal hrd HR1 HB1 HY1 hs1
  go_wp2_with fail
  rw [← hw2, ← hg]
  clear hw2 hg
  refine (rri_any S g (bodyRd l) _ _ w2 HD2.out).mono ?_
  rintro e w3 ⟨rfl, hto⟩
  have hch := hto.chg
  obtain ⟨A3, c3, hrd⟩ := hto.open_
  have HD3 : Hid (RdR w3 S g (ruS (bodyRd l))) := Lib.hid ⟨A3, c3, hrd⟩
  have HR3 := Lib.hid ((hch.block S (by omega) (by show ¬ S = g; omega)).trans HR2.out)
  have HB3 := Lib.hid (HB2.out.trans (hch.below (B := S) (by omega) (fun k hk e => by omega)))
  have hs3 : g < w3.heap.size := hrd.glt
  clear hto hch hrd HD2 HR2 HB2 hs2
  rw [show riN (bodyRd l) = kk from HK.out]
  obtain ⟨mb, hmb⟩ : ∃ x, x = w3.heap.size := ⟨_, rfl⟩
  go_upto_region 8 with (refine wpList_store_row rfl 29 (.tmp 8) (.tmp 33) rfl w3.heap.size _ rfl rfl 29 _ (heap_alloc_new w3 _) (by kernel_rfl) rfl (by simp [Value.oneCell']) ?_; rw [World.setRow_alloc_new])
  obtain ⟨w4, hw4⟩ : ∃ y, y = w3.alloc (.cells #[.int .i64 (kk), .int .i64 0, .int .i64 0, .int .i64 0, .int .i64 0, .int .i64 0, .int .i64 0, .int .i64 0, .int .i64 0, .int .i64 0, .int .i64 0, .int .i64 0, .int .i64 0, .int .i64 0, .int .i64 0, .int .i64 0, .int .i64 0, .slice none 0 0, .int .i64 0, .int .i64 0, .int .i64 0] 29) := ⟨_, rfl⟩
  rw [← hw4]
  have hal : Below w3.heap.size w3 w4 := by rw [hw4]; exact (Below.refl _ _).alloc (Nat.le_refl _) _
  have hm4 : MAt w4 mb (fun i => if i = 0 then kk else 0) none 0 0 := by rw [hw4, hmb]; exact heap_alloc_new w3 _
  rw [← hmb]
  have HM := Lib.hid hm4
  have HD := Lib.hid (HD3.out.chg (Chg.of_below (S := fun _ => False) hal) (fun h => h) (fun _ _ h => h))
  have HR := Lib.hid ((hal.block S (by omega)).trans HR3.out)
  have HB := Lib.hid (HB3.out.trans (hal.mono (by omega)))
  have hgm : g < mb := by omega
  have hs : mb < w4.heap.size := ltb hm4
  clear hal hm4 hw4 hmb HD3 HR3 HB3 hs3
  obtain ⟨A5, c5, hrd⟩ := HD.out
  have c1' := hrd.c1
  have m0 : w4.cell? ⟨mb, 0, none⟩ = some (.int .i64 (kk)) := cellb (i := 0) HM.out rfl
  clear hrd
  rw [HEE.out] at c1'
  have HRES := HR
  go_wp2_with fail
  refine (within_any _ _ _ _).mono ?_
  rw [HWB.out]
  rintro e w5 ⟨rfl, rfl⟩
  go_wp2_with (refine wpList_store_row rfl 29 (.tmp 2) (.tmp 45) rfl S _ rfl rfl 29 _ HRES.out (by kernel_rfl) rfl (by simp [Value.oneCell']) ?_)
  have HRS := Lib.hid (setRow_heap _ _ _ #[.int .i64 0, .int .i64 0, .int .i64 0, .int .i64 0, .int .i64 0, .int .i64 0, .int .i64 0, .int .i64 0, .int .i64 0, .int .i64 0, .int .i64 0, .int .i64 0, .int .i64 0, .int .i64 0, .int .i64 0, .int .i64 0, .int .i64 0, .slice none 0 0, .int .i64 0, .int .i64 0, .int .i64 0] _ _ HRES.out)
  refine bodyPost_ret (v := .tuple #[.agg #[.int .i64 0, .int .i64 0, .int .i64 0, .int .i64 0, .int .i64 0, .int .i64 0, .int .i64 0, .int .i64 0, .int .i64 0, .int .i64 0, .int .i64 0, .int .i64 0, .int .i64 0, .int .i64 0, .int .i64 0, .int .i64 0, .int .i64 0, .slice none 0 0, .int .i64 0, .int .i64 0, .int .i64 0], .int .i64 11]) (results_runp _ _ S _ rfl HRS.out rfl) rfl ?_
  exact unpAt_no (by rw [HUP.out]; decide) HUP.out rfl (by rw [HSW.out]; exact HB.out.trans ((Ch.ofRow HRES.out #[.int .i64 0, .int .i64 0, .int .i64 0, .int .i64 0, .int .i64 0, .int .i64 0, .int .i64 0, .int .i64 0, .int .i64 0, .int .i64 0, .int .i64 0, .int .i64 0, .int .i64 0, .int .i64 0, .int .i64 0, .int .i64 0, .int .i64 0, .slice none 0 0, .int .i64 0, .int .i64 0, .int .i64 0]).chg.below (by omega) (fun k hk h => by injection h with h; omega)))
set_option maxRecDepth 100000 in
set_option maxHeartbeats 8000000 in
theorem runp_err (A : Option Addr) (n c : Nat) (l : List UInt8) (w : World) (hb : BytesIn w w.heap.size A c l) (hn : n = l.length) (hE : lookE l = 0) (hr : ¬ num4 l + 8 < l.length) (he : ¬ (ruS (bodyRd l)).e = 0) :
    Calls Tryd.prog 16 #[.slice A n c] w fun e w' => UnpAt l w e w' := by
  have hal : Below w.heap.size w (w.alloc (.cells #[.int .i64 0, .int .i64 0, .int .i64 0, .int .i64 0, .int .i64 0, .int .i64 0, .int .i64 0, .int .i64 0, .int .i64 0, .int .i64 0, .int .i64 0, .int .i64 0, .int .i64 0, .int .i64 0, .int .i64 0, .int .i64 0, .int .i64 0, .slice none 0 0, .int .i64 0, .int .i64 0, .int .i64 0] 29)) := (Below.refl w.heap.size w).alloc (Nat.le_refl _) _
  have hres := heap_alloc_new w (.cells #[.int .i64 0, .int .i64 0, .int .i64 0, .int .i64 0, .int .i64 0, .int .i64 0, .int .i64 0, .int .i64 0, .int .i64 0, .int .i64 0, .int .i64 0, .int .i64 0, .int .i64 0, .int .i64 0, .int .i64 0, .int .i64 0, .int .i64 0, .slice none 0 0, .int .i64 0, .int .i64 0, .int .i64 0] 29)
  have HB0 := Lib.hid hal
  have HT0 := Lib.hid (hb.below hal (Nat.le_refl _))
  obtain ⟨S, hS⟩ : ∃ S, S = w.heap.size := ⟨_, rfl⟩
  have hs0 : S < (w.alloc (.cells #[.int .i64 0, .int .i64 0, .int .i64 0, .int .i64 0, .int .i64 0, .int .i64 0, .int .i64 0, .int .i64 0, .int .i64 0, .int .i64 0, .int .i64 0, .int .i64 0, .int .i64 0, .int .i64 0, .int .i64 0, .int .i64 0, .int .i64 0, .slice none 0 0, .int .i64 0, .int .i64 0, .int .i64 0] 29)).heap.size := by simp [hS]
  rw [← hS] at hres
  have HR0 := Lib.hid hres
  have HSW : Hid (w.heap.size = S) := Lib.hid hS.symm
  have HN := Lib.hid hn
  have HE := Lib.hid hE
  have HRT := Lib.hid hr
  have HRX := Lib.hid hr
  have hk0 : upK l = 0 := ri_bad rfl he
  have HK : Hid (upK l = 0) := Lib.hid hk0
  have HTX0 : Hid (upT l = []) := Lib.hid (by unfold upT; rw [hk0]; rfl)
  have HFX : Hid (upF l = (ruS (bodyRd l), fun i => if i = 0 then 0 else 0)) := Lib.hid (by
    unfold upF up0
    rw [hk0, flK_none (by decide)]
    show (if kB 0 = true then _ else rfail (ruS (bodyRd l)) 11, _) = _
    rw [if_neg (by decide)]
    unfold rfail
    rw [if_neg (fun h => he h.1)])
  have HRR : Hid (upR l = ruS (bodyRd l)) := Lib.hid (by unfold upR; rw [hk0, if_neg (by decide), HFX.out])
  have HEE := Lib.hid he
  clear hr he hk0
  clear hal hb hn hres
  go_enter Tryd.func16, Tryd.ntmps16
  go_upto_region 1 with fail
  rw [← hS]
  rw [← hS] at HB0 HT0
  clear hS
  generalize w.alloc (.cells #[.int .i64 0, .int .i64 0, .int .i64 0, .int .i64 0, .int .i64 0, .int .i64 0, .int .i64 0, .int .i64 0, .int .i64 0, .int .i64 0, .int .i64 0, .int .i64 0, .int .i64 0, .int .i64 0, .int .i64 0, .int .i64 0, .int .i64 0, .slice none 0 0, .int .i64 0, .int .i64 0, .int .i64 0] 29) = w0 at HB0 hs0 HT0 HR0 ⊢
  have hok := lookE_ok hE
  have hbl := bodyOf_length hE
  clear hE
  go_wp2_with fail
  refine (rnext_ok A c n l w0 S HT0.out HN.out HE.out).mono ?_
  rintro e w1 ⟨A1, c1, rfl, hby, k1, rfl⟩
  have HR1 : Hid ((w0.drewN k1).heap[S]? = some (.cells #[.int .i64 0, .int .i64 0, .int .i64 0, .int .i64 0, .int .i64 0, .int .i64 0, .int .i64 0, .int .i64 0, .int .i64 0, .int .i64 0, .int .i64 0, .int .i64 0, .int .i64 0, .int .i64 0, .int .i64 0, .int .i64 0, .int .i64 0, .slice none 0 0, .int .i64 0, .int .i64 0, .int .i64 0] 29 (0, 0))) := HR0
  have HB1 : Hid (Below S w (w0.drewN k1)) := Lib.hid (below_dn HB0.out)
  have hs1 : S < (w0.drewN k1).heap.size := hs0
  have HY1 := Lib.hid (hby.drewN k1)
  obtain ⟨m, hm⟩ : ∃ m, m = num4 l := ⟨_, rfl⟩
  rw [← hm] at hok hbl ⊢
  have HMN := Lib.hid hm
  have HBL : Hid (m = (bodyOf l).length) := Lib.hid hbl.symm
  have hm8 : m + 8 = n := by have h1 := HN.out; have h2 := HMN.out; have h3 := HRT.out; omega
  clear hby HT0 HR0 HB0 hs0 hm hbl HRT
  generalize w0.drewN k1 = w1 at HR1 HB1 hs1 HY1 ⊢
  subst hm8
  obtain ⟨g, hg⟩ : ∃ g, g = w1.heap.size := ⟨_, rfl⟩
  obtain ⟨w2, hw2⟩ : ∃ y, y = w1.alloc (.cells #[.slice A1 m c1, .int .i64 0] 83) := ⟨_, rfl⟩
  have hal : Below w1.heap.size w1 w2 := by rw [hw2]; exact (Below.refl _ _).alloc (Nat.le_refl _) _
  have hrd : RdAt 83 w2 S g (bodyRd l) A1 c1 := ⟨by rw [hw2, hg, HBL.out]; exact heap_alloc_new w1 _, HY1.out.below (hal.mono (Nat.le_of_lt hs1)) (Nat.le_refl _), by omega⟩
  have HD2 := Lib.hid hrd
  have HR2 := Lib.hid ((hal.block S hs1).trans HR1.out)
  have HB2 := Lib.hid (HB1.out.trans (hal.mono (Nat.le_of_lt hs1)))
  have hSg : S < g := by omega
  have hs2 : g < w2.heap.size := hrd.glt
  clear hal hrd HR1 HB1 HY1 hs1
  go_wp2_with fail
  rw [← hw2, ← hg]
  clear hw2 hg
  refine (rri_any S g (bodyRd l) _ _ w2 HD2.out).mono ?_
  rintro e w3 ⟨rfl, hto⟩
  have hch := hto.chg
  obtain ⟨A3, c3, hrd⟩ := hto.open_
  have HD3 : Hid (RdR w3 S g (ruS (bodyRd l))) := Lib.hid ⟨A3, c3, hrd⟩
  have HR3 := Lib.hid ((hch.block S (by omega) (by show ¬ S = g; omega)).trans HR2.out)
  have HB3 := Lib.hid (HB2.out.trans (hch.below (B := S) (by omega) (fun k hk e => by omega)))
  have hs3 : g < w3.heap.size := hrd.glt
  clear hto hch hrd HD2 HR2 HB2 hs2
  rw [show riN (bodyRd l) = 0 from HK.out]
  obtain ⟨mb, hmb⟩ : ∃ x, x = w3.heap.size := ⟨_, rfl⟩
  go_upto_region 8 with (refine wpList_store_row rfl 29 (.tmp 8) (.tmp 33) rfl w3.heap.size _ rfl rfl 29 _ (heap_alloc_new w3 _) (by kernel_rfl) rfl (by simp [Value.oneCell']) ?_; rw [World.setRow_alloc_new])
  obtain ⟨w4, hw4⟩ : ∃ y, y = w3.alloc (.cells #[.int .i64 (0), .int .i64 0, .int .i64 0, .int .i64 0, .int .i64 0, .int .i64 0, .int .i64 0, .int .i64 0, .int .i64 0, .int .i64 0, .int .i64 0, .int .i64 0, .int .i64 0, .int .i64 0, .int .i64 0, .int .i64 0, .int .i64 0, .slice none 0 0, .int .i64 0, .int .i64 0, .int .i64 0] 29) := ⟨_, rfl⟩
  rw [← hw4]
  have hal : Below w3.heap.size w3 w4 := by rw [hw4]; exact (Below.refl _ _).alloc (Nat.le_refl _) _
  have hm4 : MAt w4 mb (fun i => if i = 0 then 0 else 0) none 0 0 := by rw [hw4, hmb]; exact heap_alloc_new w3 _
  rw [← hmb]
  have HM := Lib.hid hm4
  have HD := Lib.hid (HD3.out.chg (Chg.of_below (S := fun _ => False) hal) (fun h => h) (fun _ _ h => h))
  have HR := Lib.hid ((hal.block S (by omega)).trans HR3.out)
  have HB := Lib.hid (HB3.out.trans (hal.mono (by omega)))
  have hgm : g < mb := by omega
  have hs : mb < w4.heap.size := ltb hm4
  clear hal hm4 hw4 hmb HD3 HR3 HB3 hs3
  obtain ⟨A5, c5, hrd⟩ := HD.out
  have c1' := hrd.c1
  have m0 : w4.cell? ⟨mb, 0, none⟩ = some (.int .i64 (0)) := cellb (i := 0) HM.out rfl
  clear hrd
  have hq : ((ruS (bodyRd l)).e == 0) = false := by simpa using HEE.out
  rw [← HRR.out] at HD
  have HM : Hid (MAt w4 mb (upF l).2 none 0 0) := Lib.hid (by rw [HFX.out]; exact HM.out)
  go_wp2_with fail
  refine (epoch_any 0 w4).mono ?_
  rw [show epB 0 = false by decide]
  rintro e w' ⟨rfl, rfl⟩
  go_wp2_with fail
  refine (node_any 0 w4).mono ?_
  rw [show wB 0 1 6 = false by decide]
  rintro e w' ⟨rfl, rfl⟩
  go_wp2_with fail
  refine (job_any 0 w4).mono ?_
  rw [show wB 0 3 6 = false by decide]
  rintro e w' ⟨rfl, rfl⟩
  go_wp2_with fail
  refine (client_any 0 w4).mono ?_
  rw [show clB 0 = false by decide]
  rintro e w' ⟨rfl, rfl⟩
  clear hq c1' m0
  obtain ⟨At, hAt⟩ : ∃ A : Option Addr, A = none := ⟨_, rfl⟩
  obtain ⟨nt, hnt⟩ : ∃ n, n = 0 := ⟨_, rfl⟩
  obtain ⟨ct, hct⟩ : ∃ n, n = 0 := ⟨_, rfl⟩
  have HTN : Hid (∀ b o, At = some ⟨b, o, none⟩ → ¬ b = g) := Lib.hid (fun b o e h => by rw [hAt] at e; cases e)
  have HTS : Hid (∀ b o, At = some ⟨b, o, none⟩ → ¬ b = S) := Lib.hid (fun b o e h => by rw [hAt] at e; cases e)
  have HNL : Hid (nt = (upT l).length) := Lib.hid (by rw [HTX0.out, hnt]; rfl)
  have HT : Hid (BytesIn w4 w4.heap.size At ct (upT l)) := Lib.hid (by rw [HTX0.out]; exact .emp (by omega))
  have HM : Hid (MAt w4 mb (upF l).2 At nt ct) := Lib.hid (by rw [hAt, hnt, hct]; exact HM.out)
  have hsz : mb < w4.heap.size := hs
  clear hAt hnt hct hs
  obtain ⟨wz, hwz⟩ : ∃ y, y = w4 := ⟨_, rfl⟩
  rw [← hwz] at HM HD HR HB HT hsz ⊢
  clear hwz
  go_wp2_with fail
  obtain ⟨A8, c8, hrd⟩ := HD.out
  refine (rend_any S g _ A8 c8 wz hrd (rok_upR l)).mono ?_
  rintro e w9 ⟨rfl, hto⟩
  have hch := hto.chg
  have HM9 : Hid (MAt w9 mb (upF l).2 At nt ct) := Lib.hid ((hch.block mb hsz (by show ¬ mb = g; omega)).trans HM.out)
  have HRES := Lib.hid ((hch.block S (by omega) (by show ¬ S = g; omega)).trans HR.out)
  have HB9 := Lib.hid (HB.out.trans (hch.below (B := S) (by omega) (fun k hk e => by omega)))
  have HT9 := Lib.hid ((HT.out.chgN hch HTN.out).more hch.size)
  have hs9 : mb < w9.heap.size := Nat.lt_of_lt_of_le hsz hch.size
  clear hrd hto hch HD HM HR HB HT hsz
  obtain ⟨x, hx⟩ : ∃ x, x = (rendS (upR l)).e := ⟨_, rfl⟩
  rw [← hx]
  by_cases hx0 : x = 0
  · have HXE := Lib.hid hx
    have HX0 := Lib.hid hx0
    have hq : (x != 0) = false := by rw [hx0]; rfl
    clear hx hx0
    have HMU := Lib.hid (show w9.heap[mb]? = some (.cells #[.int .i64 ((upF l).2 0), .int .i64 ((upF l).2 1), .int .i64 ((upF l).2 2), .int .i64 ((upF l).2 3), .int .i64 ((upF l).2 4), .int .i64 ((upF l).2 5), .int .i64 ((upF l).2 6), .int .i64 ((upF l).2 7), .int .i64 ((upF l).2 8), .int .i64 ((upF l).2 9), .int .i64 ((upF l).2 10), .int .i64 ((upF l).2 11), .int .i64 ((upF l).2 12), .int .i64 ((upF l).2 13), .int .i64 ((upF l).2 14), .int .i64 ((upF l).2 15), .int .i64 ((upF l).2 16), .slice At nt ct, .int .i64 ((upF l).2 18), .int .i64 ((upF l).2 19), .int .i64 ((upF l).2 20)] 29 (0, 0)) from HM9.out)
    go_wp2_with (refine wpList_load_row rfl 29 _ rfl mb rfl 29 _ (0, 0) _ HMU.out Tryd.underlying29 rfl (by kernel_rfl) ?_)
    clear hq HMU
    refine (may_any (upF l).2 At nt ct w9).mono ?_
    rintro e w10 ⟨rfl, hb⟩
    have HMX := Lib.hid (HM9.out.below hb hs9)
    have HRES := Lib.hid ((hb.block S (by omega)).trans HRES.out)
    have HBX := Lib.hid (HB9.out.trans (hb.mono (by omega)))
    have HTX := Lib.hid ((HT9.out.below hb (Nat.le_refl _)).more hb.size)
    have hsx : mb < w10.heap.size := Nat.lt_of_lt_of_le hs9 hb.size
    clear hb HM9 HB9 HT9 hs9
    have hE4 : upE l = if OkM (upF l).2 nt then 0 else 11 := by
      unfold upE
      rw [if_neg (fun h => h HE.out), if_neg HRX.out, if_neg (by rw [← HXE.out]; exact fun h => h HX0.out), ← HNL.out]
    have hmo := may_ok (upF l).2 nt
    obtain ⟨b, hbb⟩ : ∃ b, b = mayB (upF l).2 nt := ⟨_, rfl⟩
    rw [← hbb] at hmo ⊢
    clear hbb
    cases b
    · have hup : upE l = 11 := by rw [hE4, if_neg (fun h => by have := hmo.2 h; simp at this)]
      have HUP := Lib.hid hup
      clear hup hE4 hmo
      go_wp2_with (refine wpList_store_row rfl 29 (.tmp 2) (.tmp 140) rfl S _ rfl rfl 29 _ HRES.out (by kernel_rfl) rfl (by simp [Value.oneCell']) ?_)
      have HRS := Lib.hid (setRow_heap _ _ _ #[.int .i64 0, .int .i64 0, .int .i64 0, .int .i64 0, .int .i64 0, .int .i64 0, .int .i64 0, .int .i64 0, .int .i64 0, .int .i64 0, .int .i64 0, .int .i64 0, .int .i64 0, .int .i64 0, .int .i64 0, .int .i64 0, .int .i64 0, .slice none 0 0, .int .i64 0, .int .i64 0, .int .i64 0] _ _ HRES.out)
      refine bodyPost_ret (v := .tuple #[.agg #[.int .i64 0, .int .i64 0, .int .i64 0, .int .i64 0, .int .i64 0, .int .i64 0, .int .i64 0, .int .i64 0, .int .i64 0, .int .i64 0, .int .i64 0, .int .i64 0, .int .i64 0, .int .i64 0, .int .i64 0, .int .i64 0, .int .i64 0, .slice none 0 0, .int .i64 0, .int .i64 0, .int .i64 0], .int .i64 11]) (results_runp _ _ S _ rfl HRS.out rfl) rfl ?_
      exact unpAt_no (by rw [HUP.out]; decide) HUP.out rfl (by rw [HSW.out]; exact HBX.out.trans ((Ch.ofRow HRES.out #[.int .i64 0, .int .i64 0, .int .i64 0, .int .i64 0, .int .i64 0, .int .i64 0, .int .i64 0, .int .i64 0, .int .i64 0, .int .i64 0, .int .i64 0, .int .i64 0, .int .i64 0, .int .i64 0, .int .i64 0, .int .i64 0, .int .i64 0, .slice none 0 0, .int .i64 0, .int .i64 0, .int .i64 0]).chg.below (by omega) (fun k hk h => by injection h with h; omega)))
    · have hup : upE l = 0 := by rw [hE4, if_pos (hmo.1 rfl)]
      have HUP := Lib.hid hup
      clear hup hE4 hmo
      have HMU := Lib.hid (show w10.heap[mb]? = some (.cells #[.int .i64 ((upF l).2 0), .int .i64 ((upF l).2 1), .int .i64 ((upF l).2 2), .int .i64 ((upF l).2 3), .int .i64 ((upF l).2 4), .int .i64 ((upF l).2 5), .int .i64 ((upF l).2 6), .int .i64 ((upF l).2 7), .int .i64 ((upF l).2 8), .int .i64 ((upF l).2 9), .int .i64 ((upF l).2 10), .int .i64 ((upF l).2 11), .int .i64 ((upF l).2 12), .int .i64 ((upF l).2 13), .int .i64 ((upF l).2 14), .int .i64 ((upF l).2 15), .int .i64 ((upF l).2 16), .slice At nt ct, .int .i64 ((upF l).2 18), .int .i64 ((upF l).2 19), .int .i64 ((upF l).2 20)] 29 (0, 0)) from HMX.out)
      go_wp2_with (first | (refine wpList_load_row rfl 29 (.tmp 8) rfl mb rfl 29 _ (0, 0) _ HMU.out Tryd.underlying29 rfl (by kernel_rfl) ?_) | (refine wpList_store_row rfl 29 (.tmp 2) (.tmp 141) rfl S _ rfl rfl 29 _ HRES.out (by kernel_rfl) rfl (by simp [Value.oneCell']) ?_))
      have HRS := Lib.hid (setRow_heap _ _ _ #[.int .i64 ((upF l).2 0), .int .i64 ((upF l).2 1), .int .i64 ((upF l).2 2), .int .i64 ((upF l).2 3), .int .i64 ((upF l).2 4), .int .i64 ((upF l).2 5), .int .i64 ((upF l).2 6), .int .i64 ((upF l).2 7), .int .i64 ((upF l).2 8), .int .i64 ((upF l).2 9), .int .i64 ((upF l).2 10), .int .i64 ((upF l).2 11), .int .i64 ((upF l).2 12), .int .i64 ((upF l).2 13), .int .i64 ((upF l).2 14), .int .i64 ((upF l).2 15), .int .i64 ((upF l).2 16), .slice At nt ct, .int .i64 ((upF l).2 18), .int .i64 ((upF l).2 19), .int .i64 ((upF l).2 20)] _ _ HRES.out)
      refine bodyPost_ret (v := .tuple #[.agg #[.int .i64 ((upF l).2 0), .int .i64 ((upF l).2 1), .int .i64 ((upF l).2 2), .int .i64 ((upF l).2 3), .int .i64 ((upF l).2 4), .int .i64 ((upF l).2 5), .int .i64 ((upF l).2 6), .int .i64 ((upF l).2 7), .int .i64 ((upF l).2 8), .int .i64 ((upF l).2 9), .int .i64 ((upF l).2 10), .int .i64 ((upF l).2 11), .int .i64 ((upF l).2 12), .int .i64 ((upF l).2 13), .int .i64 ((upF l).2 14), .int .i64 ((upF l).2 15), .int .i64 ((upF l).2 16), .slice At nt ct, .int .i64 ((upF l).2 18), .int .i64 ((upF l).2 19), .int .i64 ((upF l).2 20)], .int .i64 0]) (results_runp _ _ S _ rfl HRS.out rfl) rfl ?_
      have hch := Ch.ofRow HRES.out #[.int .i64 ((upF l).2 0), .int .i64 ((upF l).2 1), .int .i64 ((upF l).2 2), .int .i64 ((upF l).2 3), .int .i64 ((upF l).2 4), .int .i64 ((upF l).2 5), .int .i64 ((upF l).2 6), .int .i64 ((upF l).2 7), .int .i64 ((upF l).2 8), .int .i64 ((upF l).2 9), .int .i64 ((upF l).2 10), .int .i64 ((upF l).2 11), .int .i64 ((upF l).2 12), .int .i64 ((upF l).2 13), .int .i64 ((upF l).2 14), .int .i64 ((upF l).2 15), .int .i64 ((upF l).2 16), .slice At nt ct, .int .i64 ((upF l).2 18), .int .i64 ((upF l).2 19), .int .i64 ((upF l).2 20)]
      have hov : outV l = (upF l).2 := by unfold outV; rw [if_pos HUP.out]
      have hot : outT l = upT l := by unfold outT; rw [if_pos HUP.out]
      exact ⟨At, ct, by rw [hov, hot, HUP.out, ← HNL.out], by rw [hot]; exact (HTX.out.chgN hch.chg (fun b o e h => HTS.out b o e (by injection h with h; exact h.symm))).more hch.chg.size, by rw [HSW.out]; exact HBX.out.trans (hch.chg.below (by omega) (fun k hk h => by injection h with h; omega))⟩
  · have hup : upE l = x := by
      unfold upE
      rw [if_neg (fun h => h HE.out), if_neg HRX.out, if_pos (by rw [← hx]; exact hx0), ← hx]
    have HUP := Lib.hid hup
    have HX0 := Lib.hid hx0
    have hq : (x != 0) = true := by rw [bne_iff_ne]; exact hx0
    clear hx hup hx0
    go_wp2_with (refine wpList_store_row rfl 29 (.tmp 2) (.tmp 134) rfl S _ rfl rfl 29 _ HRES.out (by kernel_rfl) rfl (by simp [Value.oneCell']) ?_)
    have HRS := Lib.hid (setRow_heap _ _ _ #[.int .i64 0, .int .i64 0, .int .i64 0, .int .i64 0, .int .i64 0, .int .i64 0, .int .i64 0, .int .i64 0, .int .i64 0, .int .i64 0, .int .i64 0, .int .i64 0, .int .i64 0, .int .i64 0, .int .i64 0, .int .i64 0, .int .i64 0, .slice none 0 0, .int .i64 0, .int .i64 0, .int .i64 0] _ _ HRES.out)
    refine bodyPost_ret (v := .tuple #[.agg #[.int .i64 0, .int .i64 0, .int .i64 0, .int .i64 0, .int .i64 0, .int .i64 0, .int .i64 0, .int .i64 0, .int .i64 0, .int .i64 0, .int .i64 0, .int .i64 0, .int .i64 0, .int .i64 0, .int .i64 0, .int .i64 0, .int .i64 0, .slice none 0 0, .int .i64 0, .int .i64 0, .int .i64 0], .int .i64 x]) (results_runp _ _ S _ rfl HRS.out rfl) rfl ?_
    exact unpAt_no (by rw [HUP.out]; exact HX0.out) HUP.out rfl (by rw [HSW.out]; exact HB9.out.trans ((Ch.ofRow HRES.out #[.int .i64 0, .int .i64 0, .int .i64 0, .int .i64 0, .int .i64 0, .int .i64 0, .int .i64 0, .int .i64 0, .int .i64 0, .int .i64 0, .int .i64 0, .int .i64 0, .int .i64 0, .int .i64 0, .int .i64 0, .int .i64 0, .int .i64 0, .slice none 0 0, .int .i64 0, .int .i64 0, .int .i64 0]).chg.below (by omega) (fun k hk h => by injection h with h; omega)))
end Go.Proofs.YtkenaoejijpgpaaDoor
