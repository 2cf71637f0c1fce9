/- A disk behind a script. -/
import Derived.Test.YtpkefkoimlecjaaDoorDone
import Derived.Deep.RegionHeld3
import Derived.Deep.LoopGhost
import Derived.Deep.RegionWith
import Derived.Deep.DrawnRows
namespace Go.Proofs.YtpkefkoimlecjaaDoor
open Go.RowKit
attribute [local go_sem ↓] Go.wp_at_zero Go.wp_at_succ

set_option maxRecDepth 100000 in
set_option maxHeartbeats 4000000 in
theorem behind_any (r : Int) (a : Option Addr) (len cap : Nat) (gs : List Ac) (w : World) (hl : len = gs.length) (hp : ActsIn w w.heap.size a gs) (hh : Hal w) (h0w : 0 < w.heap.size) (g : Nat) (hg : g = w.heap.size) :
    Calls Tryd.prog 21 #[.int .i64 r, .slice a len cap] w fun e w' => ∃ d y, e = .returned (.pointer (some ⟨g, 0, none⟩)) ∧ DiskAt w' g d y ∧ Below w.heap.size w w' := by
  have HL := Lib.hid hl
  have HP := Lib.hid hp
  have HH := Lib.hid hh
  have hnew := new_any r w
  have hgw : w.heap.size ≤ g := by omega
  have hnew2 : Calls Tryd.prog 8 #[.int .i64 r] w fun e w' => e = .returned (.pointer (some ⟨g, 0, none⟩)) ∧ DiskAt w' g (fresh r) Lay.none ∧ Below w.heap.size w w' := by rw [hg]; exact hnew
  clear hnew
  have hnew := hnew2
  clear hnew2 hg
  have HN := Lib.hid hnew
  clear hl hp hh hnew
  go_enter Tryd.func21, Tryd.ntmps21
  go_wp2_with fail
  refine HN.out.mono ?_
  clear HN
  rintro e w1 ⟨rfl, hd1, hb1⟩
  have HD1 := Lib.hid hd1
  have HB1 := Lib.hid hb1
  have hs1 := hb1.size
  clear hd1 hb1
  go_wp2_with fail
  refine (rnew_any r w1).mono ?_
  rintro e w2 ⟨rfl, hb2⟩
  obtain ⟨p, hpp⟩ : ∃ p, p = w2.heap.size := ⟨_, rfl⟩
  have hgl := HD1.out.glt
  have hs2 := hb2.size
  have hgp : g < p := by omega
  have HD2 := Lib.hid (HD1.out.chg0 (Chg.of_below (S := NoBlk) hb2))
  have HB2 := Lib.hid (HB1.out.trans (hb2.mono (by have := HB1.out.size; omega)))
  clear HD1 HB1 hb2 hgl
  obtain ⟨d, hd⟩ : ∃ d, d = fresh r := ⟨_, rfl⟩
  rw [← hd] at HD2 ⊢
  clear hd
  simp only [rv]
  go_wp2_with fail
  have hbx : BoxAt (w2.alloc (.cells #[.int .i64 (d.room : Int), .int .i64 d.c.e, .int .i64 d.c.h, .int .i64 d.c.u, .string (str d.log), .string (str d.snap), .string (str d.staged), .bool d.cut, .int .i64 d.at_] 43)) p d := by rw [hpp]; exact heap_alloc_new w2 _
  have HX3 := Lib.hid hbx
  have HD3 := Lib.hid (HD2.out.chg0 ((Chg.refl NoBlk w2).alloc (.cells #[.int .i64 (d.room : Int), .int .i64 d.c.e, .int .i64 d.c.h, .int .i64 d.c.u, .string (str d.log), .string (str d.snap), .string (str d.staged), .bool d.cut, .int .i64 d.at_] 43)))
  have HB3 := Lib.hid (HB2.out.trans (((Below.refl w2.heap.size w2).alloc (Nat.le_refl _) (.cells #[.int .i64 (d.room : Int), .int .i64 d.c.e, .int .i64 d.c.h, .int .i64 d.c.u, .string (str d.log), .string (str d.snap), .string (str d.staged), .bool d.cut, .int .i64 d.at_] 43)).mono (by omega)))
  rw [← hpp]
  generalize w2.alloc (.cells #[.int .i64 (d.room : Int), .int .i64 d.c.e, .int .i64 d.c.h, .int .i64 d.c.u, .string (str d.log), .string (str d.snap), .string (str d.staged), .bool d.cut, .int .i64 d.at_] 43) = w3 at HX3 HD3 HB3 ⊢
  clear hbx HD2 HB2 hpp hs2
  go_loopg [7] len (fun gk s7 wr => ∃ (j : Nat) (d : Dk) (y : Lay), j ≤ len ∧ j ≤ 40 ∧ gk = len - j ∧ s7 = .int .i64 j ∧ Hid (DiskAt wr g d y) ∧ Hid (BoxAt wr p d) ∧ Hid (Below w.heap.size w wr))
  case atStart => exact ⟨0, _, _, Nat.zero_le _, Nat.zero_le _, rfl, rfl, HD3, HX3, HB3⟩
  case round =>
    clear HX3 HD3 HB3
    obtain ⟨j, d, y, hj, hj40, rfl, rfl, HD, HX, HB⟩ := hrel
    by_cases hend : j < len ∧ j < 40
    · obtain ⟨hlt, hlt40⟩ := hend
      obtain ⟨bb, off, s, rfl, _, hact⟩ := HP.out.at_ (i := j) (by rw [← HL.out]; exact hlt)
      have hact2 := hact.below HB.out
      have hj1 : (0 : Int) ≤ (j : Int) := by omega
      have hj2 : (j : Int) < (len : Int) := by omega
      have hbw : bb < w.heap.size := hact.lt
      obtain ⟨N, hN⟩ : ∃ N, N = s.b.length := ⟨_, rfl⟩
      have k4 := hact2.k4
      rw [← hN] at k4
      have HA := Lib.hid hact2
      clear hact hact2
      by_cases hbig : N ≤ 2000
      · have hdn : ∀ W, Chg NoBlk wr W → Calls Tryd.prog 19 #[.pointer (some ⟨g, 0, none⟩), .agg #[.int .i64 (d.room : Int), .int .i64 d.c.e, .int .i64 d.c.h, .int .i64 d.c.u, .string (str d.log), .string (str d.snap), .string (str d.staged), .bool d.cut, .int .i64 d.at_], .agg #[.int .i64 s.kind, .bool s.near, .int .i64 s.ep, .int .i64 s.at_, .slice s.ba N s.bc, .int .u32 s.sum, .int .i64 s.o.e, .int .i64 s.o.h, .int .i64 s.o.u, .int .i64 s.c.e, .int .i64 s.c.h, .int .i64 s.c.u]] W (DonePost g y W) := fun W hW => by
          rw [hN]
          exact done_any g w.heap.size d y s W (HD.out.chg0 hW) (HA.out.by_.below (hW.below HB.out.size (fun _ _ h => h)) (Nat.le_refl _)) hgw (by omega) (HH.out.below (HB.out.trans (hW.below HB.out.size (fun _ _ h => h))) h0w)
        have HDN := Lib.hid hdn
        clear hdn hN
        have x0 := cellb (i := 0) HX.out rfl
        have x1 := cellb (i := 1) HX.out rfl
        have x2 := cellb (i := 2) HX.out rfl
        have x3 := cellb (i := 3) HX.out rfl
        have x4 := cellb (i := 4) HX.out rfl
        have x5 := cellb (i := 5) HX.out rfl
        have x6 := cellb (i := 6) HX.out rfl
        have x7 := cellb (i := 7) HX.out rfl
        have x8 := cellb (i := 8) HX.out rfl
        obtain ⟨k0, k1, k2, _, _, k5, o0, o1, o2, c0, c1, c2, _, _, _, _⟩ := HA.out
        have k3 := HA.out.k3
        go_wp2_with fail
        have hpl := HX.out.glt
        have hwr := HB.out.size
        have hbl : bb < wr.heap.size := by omega
        have HXd : Hid (BoxAt wr.drew p d) := HX
        have HDd : Hid (DiskAt wr.drew g d y) := Lib.hid (HD.out.chg0 (Chg.refl NoBlk wr).drew)
        go_region_with (first
          | (go_at_call 19; refine (HDN.out _ (Chg.refl NoBlk wr).drew).mono ?_; rintro e w5 ⟨d', y', rfl, hd5, F5⟩; simp only [rv]; have hb5 := HXd.out.foot HDd.out (by omega) F5; obtain ⟨b0, b1, b2, b3, b4, b5, b6, b7, b8, fzb5⟩ := hb5.cellsA; have HX5 := Lib.hid hb5; have HD5 := Lib.hid hd5; have hs5 := F5.ch.size; have HF5 := Lib.hid (F5.below hgw HDd.out); clear hd5 F5 hb5)
          | (go_at_call 19; refine (HDN.out _ ((Chg.refl NoBlk wr).drew.alloc (.cells #[.int .i64 0, .int .i64 0, .int .i64 0, .int .i64 0, .string ⟨#[]⟩, .string ⟨#[]⟩, .string ⟨#[]⟩, .bool false, .int .i64 0] 43))).mono ?_; rintro e w5 ⟨d', y', rfl, hd5, F5⟩; simp only [rv]; obtain ⟨z0, z1, z2, z3, z4, z5, z6, z7, z8, fz5⟩ := newbox HD.out F5; have hb5 := (HXd.out.below ((Below.refl wr.heap.size wr.drew).alloc (Nat.le_refl _) (.cells #[.int .i64 0, .int .i64 0, .int .i64 0, .int .i64 0, .string ⟨#[]⟩, .string ⟨#[]⟩, .string ⟨#[]⟩, .bool false, .int .i64 0] 43)) hpl).foot (HDd.out.chg0 ((Chg.refl NoBlk wr.drew).alloc (.cells #[.int .i64 0, .int .i64 0, .int .i64 0, .int .i64 0, .string ⟨#[]⟩, .string ⟨#[]⟩, .string ⟨#[]⟩, .bool false, .int .i64 0] 43))) (by omega) F5; obtain ⟨b0, b1, b2, b3, b4, b5, b6, b7, b8, fzb5⟩ := hb5.cells; have HX5 := Lib.hid hb5; have HD5 := Lib.hid hd5; have HN5 := Lib.hid (newboxH HD.out F5); have HF5 := Lib.hid (F5.below hgw (HDd.out.chg0 ((Chg.refl NoBlk wr.drew).alloc (.cells #[.int .i64 0, .int .i64 0, .int .i64 0, .int .i64 0, .string ⟨#[]⟩, .string ⟨#[]⟩, .string ⟨#[]⟩, .bool false, .int .i64 0] 43)))); clear hd5 F5 hb5))
        all_goals clear HDN HL HP HH k0 k1 k2 k3 k5 o0 o1 o2 c0 c1 c2 x0 x1 x2 x3 x4 x5 x6 x7 x8
        all_goals go_wp2_with fail
        all_goals first
          | (have HN := HN5
             have HE := Lib.hid (end2 HD5.out HX5.out HN.out hgp (by omega) (by omega))
             have hs6 : w.heap.size ≤ w5.heap.size := by have h := HF5.out.size; simp at h; omega
             have HG := Lib.hid (HB.out.drew.trans (((Below.refl wr.heap.size wr.drew).alloc (Nat.le_refl _) (.cells #[.int .i64 0, .int .i64 0, .int .i64 0, .int .i64 0, .string ⟨#[]⟩, .string ⟨#[]⟩, .string ⟨#[]⟩, .bool false, .int .i64 0] 43)).mono hwr |>.trans HF5.out |>.trans ((st9_below (p := wr.heap.size) (w := w5) d' hwr hs6).trans (st9_below (p := p) d' (by omega) (by have := (st9_chg w5 wr.heap.size d').size; omega)))))
             clear HD5 HX5 HN HN5 HF5 HB HX HD HXd HDd
             go_roundg (len - (j + 1))
             case measure => omega
             case rel => exact ⟨j + 1, d', y', by omega, by omega, rfl, by go_num, Lib.hid HE.out.1, Lib.hid HE.out.2, HG⟩)
          | (have HE := Lib.hid (end1 (HD5.out.chg0 ((Chg.refl NoBlk w5).alloc (.cells #[.int .i64 (d'.room : Int), .int .i64 d'.c.e, .int .i64 d'.c.h, .int .i64 d'.c.u, .string (str d'.log), .string (str d'.snap), .string (str d'.staged), .bool d'.cut, .int .i64 d'.at_] 43))) (HX5.out.below ((Below.refl w5.heap.size w5).alloc (Nat.le_refl _) (.cells #[.int .i64 (d'.room : Int), .int .i64 d'.c.e, .int .i64 d'.c.h, .int .i64 d'.c.u, .string (str d'.log), .string (str d'.snap), .string (str d'.staged), .bool d'.cut, .int .i64 d'.at_] 43)) HX5.out.glt) hgp)
             have hs6 : w.heap.size ≤ w5.heap.size := by have h := HF5.out.size; simp at h; omega
             have HG := Lib.hid (HB.out.drew.trans (HF5.out.trans ((((Below.refl w5.heap.size w5).alloc (Nat.le_refl _) (.cells #[.int .i64 (d'.room : Int), .int .i64 d'.c.e, .int .i64 d'.c.h, .int .i64 d'.c.u, .string (str d'.log), .string (str d'.snap), .string (str d'.staged), .bool d'.cut, .int .i64 d'.at_] 43)).mono hs6).trans (st9_below (p := p) (w := (w5.alloc (.cells #[.int .i64 (d'.room : Int), .int .i64 d'.c.e, .int .i64 d'.c.h, .int .i64 d'.c.u, .string (str d'.log), .string (str d'.snap), .string (str d'.staged), .bool d'.cut, .int .i64 d'.at_] 43))) d' (by omega) (by simp; omega)))))
             clear HD5 HX5 HF5 HB HX HD HXd HDd
             go_roundg (len - (j + 1))
             case measure => omega
             case rel => exact ⟨j + 1, d', y', by omega, by omega, rfl, by go_num, Lib.hid HE.out.1, Lib.hid HE.out.2, HG⟩)

      · clear hN
        go_wp2_with fail
        go_roundg (len - (j + 1))
        case measure => omega
        case rel => exact ⟨j + 1, d, y, by omega, by omega, rfl, by go_num, HD, HX, HB⟩
    · have hend2 : ¬ j < len ∨ (j < len ∧ ¬ j < 40) := by omega
      rcases hend2 with hend2 | ⟨hend1, hend2⟩
      all_goals
        go_wp2_with fail
        go_ret
        exact ⟨d, y, rfl, HD.out, HB.out⟩
end Go.Proofs.YtpkefkoimlecjaaDoor
