/- The law DiskPlays: the walk. -/
import Derived.Test.YtpkefkoimlecjaaDoorDone
import Derived.Test.YtpkefkoimlecjaaDoorAwake
import Derived.Test.YtpkefkoimlecjaaDoorSnapPre
import Derived.Test.YtpkefkoimlecjaaDoorHeldW
import Derived.Deep.RegionHeld3
import Derived.Deep.LoopGhost
import Derived.Deep.RegionWith
import Derived.Deep.DrawnRows
namespace Go.Proofs.YtpkefkoimlecjaaDoor
open Go.RowKit
attribute [local go_sem ↓] Go.wp_at_zero Go.wp_at_succ

set_option maxRecDepth 100000 in
set_option maxHeartbeats 40000000 in
theorem law_plays (r : Int) (a : Option Addr) (len cap : Nat) (gs : List Ac) (w : World) (hl : len = gs.length) (hp : ActsIn w w.heap.size a gs) (hh : Hal w) (h0w : 0 < w.heap.size) :
    Calls Tryd.prog 4 #[.int .i64 r, .slice a len cap] w fun e w' => e = .returned (.bool true) ∧ Below w.heap.size w w' := by
  have HL := Lib.hid hl
  have HP := Lib.hid hp
  have HH := Lib.hid hh
  clear hl hp hh
  go_enter Tryd.func4, Tryd.ntmps4
  go_wp2_with fail
  refine (awake_any _).mono ?_
  rintro e w0 ⟨rfl, hb0⟩
  have HB0 := Lib.hid hb0
  have hs0 := hb0.size
  clear hb0
  obtain ⟨g, hg⟩ : ∃ g, g = w0.heap.size := ⟨_, rfl⟩
  have hgw : w.heap.size ≤ g := by omega
  have hnew : Calls Tryd.prog 8 #[.int .i64 r] w0 fun e w' => e = .returned (.pointer (some ⟨g, 0, none⟩)) ∧ DiskAt w' g (fresh r) Lay.none ∧ Below w0.heap.size w0 w' := by rw [hg]; exact new_any r w0
  have HN := Lib.hid hnew
  clear hnew hg
  go_wp2_with fail
  refine HN.out.mono ?_
  clear HN
  rintro e w1 ⟨rfl, hd1, hb1⟩
  have HD1 := Lib.hid hd1
  have HB1 := Lib.hid (HB0.out.trans (hb1.mono hs0))
  have hs1 := HB1.out.size
  clear hd1 hb1 HB0
  go_wp2_with fail
  refine (rnew_any r w1).mono ?_
  rintro e w2 ⟨rfl, hb2⟩
  obtain ⟨p, hpp⟩ : ∃ p, p = w2.heap.size := ⟨_, rfl⟩
  have hgl := HD1.out.glt
  have hs2 := hb2.size
  have hgp : g < p := by omega
  have HD2 := Lib.hid (HD1.out.chg0 (Chg.of_below (S := NoBlk) hb2))
  have HB2 := Lib.hid (HB1.out.trans (hb2.mono (by have := HB1.out.size; omega)))
  clear HD1 HB1 hb2 hgl
  obtain ⟨d, hd⟩ : ∃ d, d = fresh r := ⟨_, rfl⟩
  rw [← hd] at HD2 ⊢
  clear hd
  simp only [rv]
  go_wp2_with fail
  have hbx : BoxAt (w2.alloc (.cells #[.int .i64 (d.room : Int), .int .i64 d.c.e, .int .i64 d.c.h, .int .i64 d.c.u, .string (str d.log), .string (str d.snap), .string (str d.staged), .bool d.cut, .int .i64 d.at_] 43)) p d := by rw [hpp]; exact heap_alloc_new w2 _
  have HX3 := Lib.hid hbx
  have HD3 := Lib.hid (HD2.out.chg0 ((Chg.refl NoBlk w2).alloc (.cells #[.int .i64 (d.room : Int), .int .i64 d.c.e, .int .i64 d.c.h, .int .i64 d.c.u, .string (str d.log), .string (str d.snap), .string (str d.staged), .bool d.cut, .int .i64 d.at_] 43)))
  have HB3 := Lib.hid (HB2.out.trans (((Below.refl w2.heap.size w2).alloc (Nat.le_refl _) (.cells #[.int .i64 (d.room : Int), .int .i64 d.c.e, .int .i64 d.c.h, .int .i64 d.c.u, .string (str d.log), .string (str d.snap), .string (str d.staged), .bool d.cut, .int .i64 d.at_] 43)).mono (by omega)))
  rw [← hpp]
  generalize w2.alloc (.cells #[.int .i64 (d.room : Int), .int .i64 d.c.e, .int .i64 d.c.h, .int .i64 d.c.u, .string (str d.log), .string (str d.snap), .string (str d.staged), .bool d.cut, .int .i64 d.at_] 43) = w3 at HX3 HD3 HB3 ⊢
  clear hbx HD2 HB2 hpp hs2
  have j0 : w3.drew.cell? ⟨p, 0, none⟩ = some (.int .i64 (d.room : Int)) := cellb (i := 0) HX3.out rfl
  refine wp_region_noPanic ?_
  refine wp_region_held_drew (S := fun w' => w'.cell? ⟨p, 0, none⟩ = some (.int .i64 (d.room : Int))) (by kernel_rfl) ?_ (fun hHeld => ?_)
  · try dsimp only
    (refine ?_ <;> (first | with_reducible assumption))
  refine wpAnyH_take (i := 0) (v := ?_) (by (simp only [List.getElem?_toArray, List.getElem?_cons_zero]; rfl)) (by kernel_rfl) (by kernel_rfl) (by kernel_rfl) (fun _ _ _ h => h) (Or.inl ⟨by rfl, ?_⟩) (by assumption) ?_
  rotate_left
  · (intro w hSw; (try dsimp only at hSw); go_simp; try with_reducible rfl)
  try simp only [Act.put, List.setIfInBounds_toArray, List.set_cons_zero, List.set_cons_succ]
  refine wpAnyH_take (i := 1) (v := ?_) (by (simp only [List.getElem?_toArray, List.getElem?_cons_succ, List.getElem?_cons_zero]; rfl)) (by kernel_rfl) (by kernel_rfl) (by kernel_rfl) (fun _ _ _ h => h) (Or.inl ⟨by rfl, ?_⟩) (by assumption) ?_
  rotate_left
  · (intro w hSw; (try dsimp only at hSw); go_simp; try with_reducible rfl)
  try simp only [Act.put, List.setIfInBounds_toArray, List.set_cons_zero, List.set_cons_succ]
  refine wpAnyH_take (i := 2) (v := ?_) (by (simp only [List.getElem?_toArray, List.getElem?_cons_succ, List.getElem?_cons_zero]; rfl)) (by kernel_rfl) (by kernel_rfl) (by kernel_rfl) (fun _ _ _ h => h) (Or.inl ⟨by rfl, ?_⟩) (by assumption) ?_
  rotate_left
  · (intro w hSw; (try dsimp only at hSw); go_simp; try with_reducible rfl)
  try simp only [Act.put, List.setIfInBounds_toArray, List.set_cons_zero, List.set_cons_succ]
  refine wpAnyH_take (i := 3) (v := ?_) (by (simp only [List.getElem?_toArray, List.getElem?_cons_succ, List.getElem?_cons_zero]; rfl)) (by kernel_rfl) (by kernel_rfl) (by kernel_rfl) (fun _ _ _ h => h) (Or.inl ⟨by rfl, ?_⟩) (by assumption) ?_
  rotate_left
  · (intro w hSw; (try dsimp only at hSw); go_simp; try with_reducible rfl)
  try simp only [Act.put, List.setIfInBounds_toArray, List.set_cons_zero, List.set_cons_succ]
  refine wpAnyH_take (i := 5) (v := ?_) (by (simp only [List.getElem?_toArray, List.getElem?_cons_succ, List.getElem?_cons_zero]; rfl)) (by kernel_rfl) (by kernel_rfl) (by kernel_rfl) (fun _ _ _ h => h) (Or.inl ⟨by rfl, ?_⟩) (by assumption) ?_
  rotate_left
  · (intro w hSw; (try dsimp only at hSw); go_simp; try with_reducible rfl)
  try simp only [Act.put, List.setIfInBounds_toArray, List.set_cons_zero, List.set_cons_succ]
  refine wpAnyH_take (i := 6) (v := ?_) (by (simp only [List.getElem?_toArray, List.getElem?_cons_succ, List.getElem?_cons_zero]; rfl)) (by kernel_rfl) (by kernel_rfl) (by kernel_rfl) (fun _ _ _ h => h) (Or.inl ⟨by rfl, ?_⟩) (by assumption) ?_
  rotate_left
  · (intro w hSw; (try dsimp only at hSw); go_simp; try with_reducible rfl)
  try simp only [Act.put, List.setIfInBounds_toArray, List.set_cons_zero, List.set_cons_succ]
  refine wpAnyH_ready (rs := [4]) (by kernel_rfl) (by simp) ?_
  refine AllReadyH.cons (by (simp only [List.getElem?_toArray, List.getElem?_cons_succ, List.getElem?_cons_zero]; rfl)) (fun K hK => ?_) AllReadyH.nil
  go_simp
  refine (room_any g d Lay.none w3.drew (HD3.out.chg0 (Chg.refl NoBlk w3).drew)).mono ?_
  rintro e w' ⟨rfl, rfl⟩
  refine hK.out _ _ ?_ (fun hHeld => ?_)
  · try dsimp only
    (refine ?_ <;> (first | with_reducible assumption))
  clear hK K
  try simp only [Act.put, List.setIfInBounds_toArray, List.set_cons_zero, List.set_cons_succ]
  refine wpAnyH_take (i := 7) (v := ?_) (by (simp only [List.getElem?_toArray, List.getElem?_cons_succ, List.getElem?_cons_zero]; rfl)) (by kernel_rfl) (by kernel_rfl) (by kernel_rfl) (fun _ _ _ h => h) (Or.inl ⟨by rfl, ?_⟩) (by assumption) ?_
  rotate_left
  · (intro w hSw; (try dsimp only at hSw); go_simp; try with_reducible rfl)
  try simp only [Act.put, List.setIfInBounds_toArray, List.set_cons_zero, List.set_cons_succ]
  refine wpAnyH_take (i := 8) (v := ?_) (by (simp only [List.getElem?_toArray, List.getElem?_cons_succ, List.getElem?_cons_zero]; rfl)) (by kernel_rfl) (by kernel_rfl) (by kernel_rfl) (fun _ _ _ h => h) (Or.inl ⟨by rfl, ?_⟩) (by assumption) ?_
  rotate_left
  · (intro w hSw; (try dsimp only at hSw); go_simp; try with_reducible rfl)
  try simp only [Act.put, List.setIfInBounds_toArray, List.set_cons_zero, List.set_cons_succ]
  refine wpAnyH_done (by kernel_rfl) ?_ _
  refine NoPanic.normal ?_
  clear hHeld j0
  have HD4 : Hid (DiskAt w3.drew g d Lay.none) := Lib.hid (HD3.out.chg0 (Chg.refl NoBlk w3).drew)
  have HX4 : Hid (BoxAt w3.drew p d) := HX3
  have HB4 : Hid (Below w.heap.size w w3.drew) := Lib.hid HB3.out.drew
  clear HD3 HX3 HB3
  generalize w3.drew = w4 at HD4 HX4 HB4 ⊢
  go_wp2_with fail
  go_loopg [8] len (fun gk s7 wr => ∃ (j : Nat) (d : Dk) (y : Lay), j ≤ len ∧ j ≤ 40 ∧ gk = len - j ∧ s7 = .int .i64 j ∧ Hid (DiskAt wr g d y) ∧ Hid (BoxAt wr p d) ∧ Hid (Below w.heap.size w wr))
  case atStart => exact ⟨0, _, _, Nat.zero_le _, Nat.zero_le _, rfl, rfl, HD4, HX4, HB4⟩
  case round =>
    clear HX4 HD4 HB4
    obtain ⟨j, d, y, hj, hj40, rfl, rfl, HD, HX, HB⟩ := hrel
    by_cases hend : j < len ∧ j < 40
    · obtain ⟨hlt, hlt40⟩ := hend
      obtain ⟨bb, off, s, rfl, _, hact⟩ := HP.out.at_ (i := j) (by rw [← HL.out]; exact hlt)
      have hact2 := hact.below HB.out
      have hj1 : (0 : Int) ≤ (j : Int) := by omega
      have hj2 : (j : Int) < (len : Int) := by omega
      have hbw : bb < w.heap.size := hact.lt
      obtain ⟨N, hN⟩ : ∃ N, N = s.b.length := ⟨_, rfl⟩
      have k4 := hact2.k4
      rw [← hN] at k4
      have HA := Lib.hid hact2
      clear hact hact2
      by_cases hbig : N ≤ 2000
      · have hdn : ∀ W, Chg NoBlk wr W → Calls Tryd.prog 19 #[.pointer (some ⟨g, 0, none⟩), .agg #[.int .i64 (d.room : Int), .int .i64 d.c.e, .int .i64 d.c.h, .int .i64 d.c.u, .string (str d.log), .string (str d.snap), .string (str d.staged), .bool d.cut, .int .i64 d.at_], .agg #[.int .i64 s.kind, .bool s.near, .int .i64 s.ep, .int .i64 s.at_, .slice s.ba N s.bc, .int .u32 s.sum, .int .i64 s.o.e, .int .i64 s.o.h, .int .i64 s.o.u, .int .i64 s.c.e, .int .i64 s.c.h, .int .i64 s.c.u]] W (DonePost g y W) := fun W hW => by
          rw [hN]
          exact done_any g w.heap.size d y s W (HD.out.chg0 hW) (HA.out.by_.below (hW.below HB.out.size (fun _ _ h => h)) (Nat.le_refl _)) hgw (by omega) (HH.out.below (HB.out.trans (hW.below HB.out.size (fun _ _ h => h))) h0w)
        have HDN := Lib.hid hdn
        clear hdn hN
        have x0 := cellb (i := 0) HX.out rfl
        have x1 := cellb (i := 1) HX.out rfl
        have x2 := cellb (i := 2) HX.out rfl
        have x3 := cellb (i := 3) HX.out rfl
        have x4 := cellb (i := 4) HX.out rfl
        have x5 := cellb (i := 5) HX.out rfl
        have x6 := cellb (i := 6) HX.out rfl
        have x7 := cellb (i := 7) HX.out rfl
        have x8 := cellb (i := 8) HX.out rfl
        obtain ⟨k0, k1, k2, _, _, k5, o0, o1, o2, c0, c1, c2, _, _, _, _⟩ := HA.out
        have k3 := HA.out.k3
        go_wp2_with fail
        have hpl := HX.out.glt
        have hwr := HB.out.size
        have hbl : bb < wr.heap.size := by omega
        have HXd : Hid (BoxAt wr.drew p d) := HX
        have HDd : Hid (DiskAt wr.drew g d y) := Lib.hid (HD.out.chg0 (Chg.refl NoBlk wr).drew)
        go_region_with (first
          | (go_at_call 19; refine (HDN.out _ (Chg.refl NoBlk wr).drew).mono ?_; rintro e w5 ⟨d', y', rfl, hd5, F5⟩; simp only [rv]; have hb5 := HXd.out.foot HDd.out (by omega) F5; obtain ⟨b0, b1, b2, b3, b4, b5, b6, b7, b8, fzb5⟩ := hb5.cellsA; have HX5 := Lib.hid hb5; have HD5 := Lib.hid hd5; have hs5 := F5.ch.size; have HF5 := Lib.hid (F5.below hgw HDd.out); clear hd5 F5 hb5)
          | (go_at_call 19; refine (HDN.out _ ((Chg.refl NoBlk wr).drew.alloc (.cells #[.int .i64 0, .int .i64 0, .int .i64 0, .int .i64 0, .string ⟨#[]⟩, .string ⟨#[]⟩, .string ⟨#[]⟩, .bool false, .int .i64 0] 43))).mono ?_; rintro e w5 ⟨d', y', rfl, hd5, F5⟩; simp only [rv]; obtain ⟨z0, z1, z2, z3, z4, z5, z6, z7, z8, fz5⟩ := newbox HD.out F5; have hb5 := (HXd.out.below ((Below.refl wr.heap.size wr.drew).alloc (Nat.le_refl _) (.cells #[.int .i64 0, .int .i64 0, .int .i64 0, .int .i64 0, .string ⟨#[]⟩, .string ⟨#[]⟩, .string ⟨#[]⟩, .bool false, .int .i64 0] 43)) hpl).foot (HDd.out.chg0 ((Chg.refl NoBlk wr.drew).alloc (.cells #[.int .i64 0, .int .i64 0, .int .i64 0, .int .i64 0, .string ⟨#[]⟩, .string ⟨#[]⟩, .string ⟨#[]⟩, .bool false, .int .i64 0] 43))) (by omega) F5; obtain ⟨b0, b1, b2, b3, b4, b5, b6, b7, b8, fzb5⟩ := hb5.cells; have HX5 := Lib.hid hb5; have HD5 := Lib.hid hd5; have HN5 := Lib.hid (newboxH HD.out F5); have HF5 := Lib.hid (F5.below hgw (HDd.out.chg0 ((Chg.refl NoBlk wr.drew).alloc (.cells #[.int .i64 0, .int .i64 0, .int .i64 0, .int .i64 0, .string ⟨#[]⟩, .string ⟨#[]⟩, .string ⟨#[]⟩, .bool false, .int .i64 0] 43)))); clear hd5 F5 hb5))
        all_goals clear HDN HL HP HH k0 k1 k2 k3 k5 o0 o1 o2 c0 c1 c2 x0 x1 x2 x3 x4 x5 x6 x7 x8
        all_goals go_wp2_with fail
        all_goals first
          | (have HN := HN5
             have HE := Lib.hid (end2 HD5.out HX5.out HN.out hgp (by omega) (by omega))
             have hs6 : w.heap.size ≤ w5.heap.size := by have h := HF5.out.size; simp at h; omega
             have HG := Lib.hid (HB.out.drew.trans (((Below.refl wr.heap.size wr.drew).alloc (Nat.le_refl _) (.cells #[.int .i64 0, .int .i64 0, .int .i64 0, .int .i64 0, .string ⟨#[]⟩, .string ⟨#[]⟩, .string ⟨#[]⟩, .bool false, .int .i64 0] 43)).mono hwr |>.trans HF5.out |>.trans ((st9_below (p := wr.heap.size) (w := w5) d' hwr hs6).trans (st9_below (p := p) d' (by omega) (by have := (st9_chg w5 wr.heap.size d').size; omega)))))
             clear HD5 HX5 HN HN5 HF5 HB HX HD HXd HDd
             have HD6 : Hid (DiskAt ((((((((((((((((((w5.setCell ⟨wr.heap.size, 0, none⟩ (.int .i64 (d'.room : Int))).setCell ⟨wr.heap.size, 1, none⟩ (.int .i64 d'.c.e)).setCell ⟨wr.heap.size, 2, none⟩ (.int .i64 d'.c.h)).setCell ⟨wr.heap.size, 3, none⟩ (.int .i64 d'.c.u)).setCell ⟨wr.heap.size, 4, none⟩ (.string (str d'.log))).setCell ⟨wr.heap.size, 5, none⟩ (.string (str d'.snap))).setCell ⟨wr.heap.size, 6, none⟩ (.string (str d'.staged))).setCell ⟨wr.heap.size, 7, none⟩ (.bool d'.cut)).setCell ⟨wr.heap.size, 8, none⟩ (.int .i64 d'.at_)).setCell ⟨p, 0, none⟩ (.int .i64 (d'.room : Int))).setCell ⟨p, 1, none⟩ (.int .i64 d'.c.e)).setCell ⟨p, 2, none⟩ (.int .i64 d'.c.h)).setCell ⟨p, 3, none⟩ (.int .i64 d'.c.u)).setCell ⟨p, 4, none⟩ (.string (str d'.log))).setCell ⟨p, 5, none⟩ (.string (str d'.snap))).setCell ⟨p, 6, none⟩ (.string (str d'.staged))).setCell ⟨p, 7, none⟩ (.bool d'.cut)).setCell ⟨p, 8, none⟩ (.int .i64 d'.at_)) g d' y') := Lib.hid HE.out.1
             have HX6 : Hid (BoxAt ((((((((((((((((((w5.setCell ⟨wr.heap.size, 0, none⟩ (.int .i64 (d'.room : Int))).setCell ⟨wr.heap.size, 1, none⟩ (.int .i64 d'.c.e)).setCell ⟨wr.heap.size, 2, none⟩ (.int .i64 d'.c.h)).setCell ⟨wr.heap.size, 3, none⟩ (.int .i64 d'.c.u)).setCell ⟨wr.heap.size, 4, none⟩ (.string (str d'.log))).setCell ⟨wr.heap.size, 5, none⟩ (.string (str d'.snap))).setCell ⟨wr.heap.size, 6, none⟩ (.string (str d'.staged))).setCell ⟨wr.heap.size, 7, none⟩ (.bool d'.cut)).setCell ⟨wr.heap.size, 8, none⟩ (.int .i64 d'.at_)).setCell ⟨p, 0, none⟩ (.int .i64 (d'.room : Int))).setCell ⟨p, 1, none⟩ (.int .i64 d'.c.e)).setCell ⟨p, 2, none⟩ (.int .i64 d'.c.h)).setCell ⟨p, 3, none⟩ (.int .i64 d'.c.u)).setCell ⟨p, 4, none⟩ (.string (str d'.log))).setCell ⟨p, 5, none⟩ (.string (str d'.snap))).setCell ⟨p, 6, none⟩ (.string (str d'.staged))).setCell ⟨p, 7, none⟩ (.bool d'.cut)).setCell ⟨p, 8, none⟩ (.int .i64 d'.at_)) p d') := Lib.hid HE.out.2
             have HB6 : Hid (Below w.heap.size w ((((((((((((((((((w5.setCell ⟨wr.heap.size, 0, none⟩ (.int .i64 (d'.room : Int))).setCell ⟨wr.heap.size, 1, none⟩ (.int .i64 d'.c.e)).setCell ⟨wr.heap.size, 2, none⟩ (.int .i64 d'.c.h)).setCell ⟨wr.heap.size, 3, none⟩ (.int .i64 d'.c.u)).setCell ⟨wr.heap.size, 4, none⟩ (.string (str d'.log))).setCell ⟨wr.heap.size, 5, none⟩ (.string (str d'.snap))).setCell ⟨wr.heap.size, 6, none⟩ (.string (str d'.staged))).setCell ⟨wr.heap.size, 7, none⟩ (.bool d'.cut)).setCell ⟨wr.heap.size, 8, none⟩ (.int .i64 d'.at_)).setCell ⟨p, 0, none⟩ (.int .i64 (d'.room : Int))).setCell ⟨p, 1, none⟩ (.int .i64 d'.c.e)).setCell ⟨p, 2, none⟩ (.int .i64 d'.c.h)).setCell ⟨p, 3, none⟩ (.int .i64 d'.c.u)).setCell ⟨p, 4, none⟩ (.string (str d'.log))).setCell ⟨p, 5, none⟩ (.string (str d'.snap))).setCell ⟨p, 6, none⟩ (.string (str d'.staged))).setCell ⟨p, 7, none⟩ (.bool d'.cut)).setCell ⟨p, 8, none⟩ (.int .i64 d'.at_))) := HG
             clear HE HG
             generalize ((((((((((((((((((w5.setCell ⟨wr.heap.size, 0, none⟩ (.int .i64 (d'.room : Int))).setCell ⟨wr.heap.size, 1, none⟩ (.int .i64 d'.c.e)).setCell ⟨wr.heap.size, 2, none⟩ (.int .i64 d'.c.h)).setCell ⟨wr.heap.size, 3, none⟩ (.int .i64 d'.c.u)).setCell ⟨wr.heap.size, 4, none⟩ (.string (str d'.log))).setCell ⟨wr.heap.size, 5, none⟩ (.string (str d'.snap))).setCell ⟨wr.heap.size, 6, none⟩ (.string (str d'.staged))).setCell ⟨wr.heap.size, 7, none⟩ (.bool d'.cut)).setCell ⟨wr.heap.size, 8, none⟩ (.int .i64 d'.at_)).setCell ⟨p, 0, none⟩ (.int .i64 (d'.room : Int))).setCell ⟨p, 1, none⟩ (.int .i64 d'.c.e)).setCell ⟨p, 2, none⟩ (.int .i64 d'.c.h)).setCell ⟨p, 3, none⟩ (.int .i64 d'.c.u)).setCell ⟨p, 4, none⟩ (.string (str d'.log))).setCell ⟨p, 5, none⟩ (.string (str d'.snap))).setCell ⟨p, 6, none⟩ (.string (str d'.staged))).setCell ⟨p, 7, none⟩ (.bool d'.cut)).setCell ⟨p, 8, none⟩ (.int .i64 d'.at_)) = w6 at HD6 HX6 HB6 ⊢)
          | (have HE := Lib.hid (end1 (HD5.out.chg0 ((Chg.refl NoBlk w5).alloc (.cells #[.int .i64 (d'.room : Int), .int .i64 d'.c.e, .int .i64 d'.c.h, .int .i64 d'.c.u, .string (str d'.log), .string (str d'.snap), .string (str d'.staged), .bool d'.cut, .int .i64 d'.at_] 43))) (HX5.out.below ((Below.refl w5.heap.size w5).alloc (Nat.le_refl _) (.cells #[.int .i64 (d'.room : Int), .int .i64 d'.c.e, .int .i64 d'.c.h, .int .i64 d'.c.u, .string (str d'.log), .string (str d'.snap), .string (str d'.staged), .bool d'.cut, .int .i64 d'.at_] 43)) HX5.out.glt) hgp)
             have hs6 : w.heap.size ≤ w5.heap.size := by have h := HF5.out.size; simp at h; omega
             have HG := Lib.hid (HB.out.drew.trans (HF5.out.trans ((((Below.refl w5.heap.size w5).alloc (Nat.le_refl _) (.cells #[.int .i64 (d'.room : Int), .int .i64 d'.c.e, .int .i64 d'.c.h, .int .i64 d'.c.u, .string (str d'.log), .string (str d'.snap), .string (str d'.staged), .bool d'.cut, .int .i64 d'.at_] 43)).mono hs6).trans (st9_below (p := p) (w := (w5.alloc (.cells #[.int .i64 (d'.room : Int), .int .i64 d'.c.e, .int .i64 d'.c.h, .int .i64 d'.c.u, .string (str d'.log), .string (str d'.snap), .string (str d'.staged), .bool d'.cut, .int .i64 d'.at_] 43))) d' (by omega) (by simp; omega)))))
             clear HD5 HX5 HF5 HB HX HD HXd HDd
             have HD6 : Hid (DiskAt ((((((((((w5.alloc (.cells #[.int .i64 (d'.room : Int), .int .i64 d'.c.e, .int .i64 d'.c.h, .int .i64 d'.c.u, .string (str d'.log), .string (str d'.snap), .string (str d'.staged), .bool d'.cut, .int .i64 d'.at_] 43)).setCell ⟨p, 0, none⟩ (.int .i64 (d'.room : Int))).setCell ⟨p, 1, none⟩ (.int .i64 d'.c.e)).setCell ⟨p, 2, none⟩ (.int .i64 d'.c.h)).setCell ⟨p, 3, none⟩ (.int .i64 d'.c.u)).setCell ⟨p, 4, none⟩ (.string (str d'.log))).setCell ⟨p, 5, none⟩ (.string (str d'.snap))).setCell ⟨p, 6, none⟩ (.string (str d'.staged))).setCell ⟨p, 7, none⟩ (.bool d'.cut)).setCell ⟨p, 8, none⟩ (.int .i64 d'.at_)) g d' y') := Lib.hid HE.out.1
             have HX6 : Hid (BoxAt ((((((((((w5.alloc (.cells #[.int .i64 (d'.room : Int), .int .i64 d'.c.e, .int .i64 d'.c.h, .int .i64 d'.c.u, .string (str d'.log), .string (str d'.snap), .string (str d'.staged), .bool d'.cut, .int .i64 d'.at_] 43)).setCell ⟨p, 0, none⟩ (.int .i64 (d'.room : Int))).setCell ⟨p, 1, none⟩ (.int .i64 d'.c.e)).setCell ⟨p, 2, none⟩ (.int .i64 d'.c.h)).setCell ⟨p, 3, none⟩ (.int .i64 d'.c.u)).setCell ⟨p, 4, none⟩ (.string (str d'.log))).setCell ⟨p, 5, none⟩ (.string (str d'.snap))).setCell ⟨p, 6, none⟩ (.string (str d'.staged))).setCell ⟨p, 7, none⟩ (.bool d'.cut)).setCell ⟨p, 8, none⟩ (.int .i64 d'.at_)) p d') := Lib.hid HE.out.2
             have HB6 : Hid (Below w.heap.size w ((((((((((w5.alloc (.cells #[.int .i64 (d'.room : Int), .int .i64 d'.c.e, .int .i64 d'.c.h, .int .i64 d'.c.u, .string (str d'.log), .string (str d'.snap), .string (str d'.staged), .bool d'.cut, .int .i64 d'.at_] 43)).setCell ⟨p, 0, none⟩ (.int .i64 (d'.room : Int))).setCell ⟨p, 1, none⟩ (.int .i64 d'.c.e)).setCell ⟨p, 2, none⟩ (.int .i64 d'.c.h)).setCell ⟨p, 3, none⟩ (.int .i64 d'.c.u)).setCell ⟨p, 4, none⟩ (.string (str d'.log))).setCell ⟨p, 5, none⟩ (.string (str d'.snap))).setCell ⟨p, 6, none⟩ (.string (str d'.staged))).setCell ⟨p, 7, none⟩ (.bool d'.cut)).setCell ⟨p, 8, none⟩ (.int .i64 d'.at_))) := HG
             clear HE HG
             generalize ((((((((((w5.alloc (.cells #[.int .i64 (d'.room : Int), .int .i64 d'.c.e, .int .i64 d'.c.h, .int .i64 d'.c.u, .string (str d'.log), .string (str d'.snap), .string (str d'.staged), .bool d'.cut, .int .i64 d'.at_] 43)).setCell ⟨p, 0, none⟩ (.int .i64 (d'.room : Int))).setCell ⟨p, 1, none⟩ (.int .i64 d'.c.e)).setCell ⟨p, 2, none⟩ (.int .i64 d'.c.h)).setCell ⟨p, 3, none⟩ (.int .i64 d'.c.u)).setCell ⟨p, 4, none⟩ (.string (str d'.log))).setCell ⟨p, 5, none⟩ (.string (str d'.snap))).setCell ⟨p, 6, none⟩ (.string (str d'.staged))).setCell ⟨p, 7, none⟩ (.bool d'.cut)).setCell ⟨p, 8, none⟩ (.int .i64 d'.at_)) = w6 at HD6 HX6 HB6 ⊢)
        all_goals
          have hs6 := HB6.out.size
          have HD6d : Hid (DiskAt w6.drew g d' y') := Lib.hid (HD6.out.chg0 (Chg.refl NoBlk w6).drew)
          have HX6d : Hid (BoxAt w6.drew p d') := HX6
          have HB6d : Hid (Below w.heap.size w w6.drew) := Lib.hid HB6.out.drew
          have hs6d := HB6d.out.size
          have j1_6 : w6.drew.cell? ⟨p, 1, none⟩ = some (.int .i64 d'.c.e) := cellb (i := 1) HX6d.out rfl
          have j2_6 : w6.drew.cell? ⟨p, 2, none⟩ = some (.int .i64 d'.c.h) := cellb (i := 2) HX6d.out rfl
          have j3_6 : w6.drew.cell? ⟨p, 3, none⟩ = some (.int .i64 d'.c.u) := cellb (i := 3) HX6d.out rfl
          have j4_6 : w6.drew.cell? ⟨p, 4, none⟩ = some (.string (str d'.log)) := cellb (i := 4) HX6d.out rfl
          have j5_6 : w6.drew.cell? ⟨p, 5, none⟩ = some (.string (str d'.snap)) := cellb (i := 5) HX6d.out rfl
          clear HD6 HX6 HB6
          refine wp_region_noPanic ?_
          refine wp_region_held_drew (S := fun w' => w'.cell? ⟨p, 1, none⟩ = some (.int .i64 d'.c.e) ∧ w'.cell? ⟨p, 2, none⟩ = some (.int .i64 d'.c.h) ∧ w'.cell? ⟨p, 3, none⟩ = some (.int .i64 d'.c.u) ∧ w'.cell? ⟨p, 4, none⟩ = some (.string (str d'.log)) ∧ w'.cell? ⟨p, 5, none⟩ = some (.string (str d'.snap))) (by kernel_rfl) ?_ (fun hHeld => ?_)
          · try dsimp only
            (refine ⟨?_, ?_, ?_, ?_, ?_⟩ <;> (first | with_reducible assumption))
          refine wpAnyH_take (i := 0) (v := ?_) (by (simp only [List.getElem?_toArray, List.getElem?_cons_zero]; rfl)) (by kernel_rfl) (by kernel_rfl) (by kernel_rfl) (fun _ _ _ h => h) (Or.inl ⟨by rfl, ?_⟩) (by assumption) ?_
          rotate_left
          · (intro w hSw; (try dsimp only at hSw); go_simp; try with_reducible rfl)
          try simp only [Act.put, List.setIfInBounds_toArray, List.set_cons_zero, List.set_cons_succ]
          refine wpAnyH_take (i := 1) (v := ?_) (by (simp only [List.getElem?_toArray, List.getElem?_cons_succ, List.getElem?_cons_zero]; rfl)) (by kernel_rfl) (by kernel_rfl) (by kernel_rfl) (fun _ _ _ h => h) (Or.inl ⟨by rfl, ?_⟩) (by assumption) ?_
          rotate_left
          · (intro w hSw; (try dsimp only at hSw); go_simp; try with_reducible rfl)
          try simp only [Act.put, List.setIfInBounds_toArray, List.set_cons_zero, List.set_cons_succ]
          refine wpAnyH_take (i := 2) (v := ?_) (by (simp only [List.getElem?_toArray, List.getElem?_cons_succ, List.getElem?_cons_zero]; rfl)) (by kernel_rfl) (by kernel_rfl) (by kernel_rfl) (fun _ _ _ h => h) (Or.inl ⟨by rfl, ?_⟩) (by assumption) ?_
          rotate_left
          · (intro w hSw; (try dsimp only at hSw); go_simp; try with_reducible rfl)
          try simp only [Act.put, List.setIfInBounds_toArray, List.set_cons_zero, List.set_cons_succ]
          refine wpAnyH_take (i := 3) (v := ?_) (by (simp only [List.getElem?_toArray, List.getElem?_cons_succ, List.getElem?_cons_zero]; rfl)) (by kernel_rfl) (by kernel_rfl) (by kernel_rfl) (fun _ _ _ h => h) (Or.inl ⟨by rfl, ?_⟩) (by assumption) ?_
          rotate_left
          · (intro w hSw; (try dsimp only at hSw); go_simp; try with_reducible rfl)
          try simp only [Act.put, List.setIfInBounds_toArray, List.set_cons_zero, List.set_cons_succ]
          refine wpAnyH_take (i := 6) (v := ?_) (by (simp only [List.getElem?_toArray, List.getElem?_cons_succ, List.getElem?_cons_zero]; rfl)) (by kernel_rfl) (by kernel_rfl) (by kernel_rfl) (fun _ _ _ h => h) (Or.inl ⟨by rfl, ?_⟩) (by assumption) ?_
          rotate_left
          · (intro w hSw; (try dsimp only at hSw); go_simp; try with_reducible rfl)
          try simp only [Act.put, List.setIfInBounds_toArray, List.set_cons_zero, List.set_cons_succ]
          refine wpAnyH_take (i := 7) (v := ?_) (by (simp only [List.getElem?_toArray, List.getElem?_cons_succ, List.getElem?_cons_zero]; rfl)) (by kernel_rfl) (by kernel_rfl) (by kernel_rfl) (fun _ _ _ h => h) (Or.inl ⟨by rfl, ?_⟩) (by assumption) ?_
          rotate_left
          · (intro w hSw; (try dsimp only at hSw); go_simp; try with_reducible rfl)
          try simp only [Act.put, List.setIfInBounds_toArray, List.set_cons_zero, List.set_cons_succ]
          refine wpAnyH_ready (rs := [4]) (by kernel_rfl) (by simp) ?_
          refine AllReadyH.cons (by (simp only [List.getElem?_toArray, List.getElem?_cons_succ, List.getElem?_cons_zero]; rfl)) (fun K hK => ?_) AllReadyH.nil
          go_simp
          refine (log_any g d' y' w6.drew HD6d.out).mono ?_
          rintro e w11 ⟨A7, c7, rfl, ho, hb⟩
          have HD11 := Lib.hid (HD6d.out.chg0 (Chg.of_below hb))
          have HX11 := Lib.hid (HX6d.out.below hb HX6d.out.glt)
          have HB11 := Lib.hid (HB6d.out.trans (hb.mono hs6d))
          have hs11 := HB11.out.size
          have j1_11 : w11.cell? ⟨p, 1, none⟩ = some (.int .i64 d'.c.e) := cellb (i := 1) HX11.out rfl
          have j2_11 : w11.cell? ⟨p, 2, none⟩ = some (.int .i64 d'.c.h) := cellb (i := 2) HX11.out rfl
          have j3_11 : w11.cell? ⟨p, 3, none⟩ = some (.int .i64 d'.c.u) := cellb (i := 3) HX11.out rfl
          have j4_11 : w11.cell? ⟨p, 4, none⟩ = some (.string (str d'.log)) := cellb (i := 4) HX11.out rfl
          have j5_11 : w11.cell? ⟨p, 5, none⟩ = some (.string (str d'.snap)) := cellb (i := 5) HX11.out rfl
          have z7 : (convert 22 9 (.slice A7 d'.log.length c7)).run Tryd.prog w11 = .ok (.string (str d'.log)) w11 := zc (bytesIn_of_own ho).2 (bytesIn_of_own ho).1
          have HO7 := Lib.hid ho
          clear ho hb
          refine hK.out _ _ ?_ (fun hHeld => ?_)
          · try dsimp only
            (refine ⟨?_, ?_, ?_, ?_, ?_⟩ <;> (first | with_reducible assumption))
          clear hK K
          try simp only [Act.put, List.setIfInBounds_toArray, List.set_cons_zero, List.set_cons_succ]
          refine wpAnyH_weaken (S' := fun w' => ((fun w' => w'.cell? ⟨p, 1, none⟩ = some (.int .i64 d'.c.e) ∧ w'.cell? ⟨p, 2, none⟩ = some (.int .i64 d'.c.h) ∧ w'.cell? ⟨p, 3, none⟩ = some (.int .i64 d'.c.u) ∧ w'.cell? ⟨p, 4, none⟩ = some (.string (str d'.log)) ∧ w'.cell? ⟨p, 5, none⟩ = some (.string (str d'.snap))) w') ∧ ((convert 22 9 (.slice A7 d'.log.length c7)).run Tryd.prog w' = .ok (.string (str d'.log)) w')) (fun _ h => h.1) ?_
          have hHeld := (show (fun w' => ((fun w' => w'.cell? ⟨p, 1, none⟩ = some (.int .i64 d'.c.e) ∧ w'.cell? ⟨p, 2, none⟩ = some (.int .i64 d'.c.h) ∧ w'.cell? ⟨p, 3, none⟩ = some (.int .i64 d'.c.u) ∧ w'.cell? ⟨p, 4, none⟩ = some (.string (str d'.log)) ∧ w'.cell? ⟨p, 5, none⟩ = some (.string (str d'.snap))) w') ∧ ((convert 22 9 (.slice A7 d'.log.length c7)).run Tryd.prog w' = .ok (.string (str d'.log)) w')) _ from ⟨hHeld, z7⟩)
          refine wpAnyH_take (i := 5) (v := ?_) (by (simp only [List.getElem?_toArray, List.getElem?_cons_succ, List.getElem?_cons_zero]; rfl)) (by kernel_rfl) (by kernel_rfl) (by kernel_rfl) (fun _ _ _ h => h) (Or.inl ⟨by rfl, ?_⟩) (by assumption) ?_
          rotate_left
          · (intro w hSw; (try dsimp only at hSw); go_simp; try with_reducible rfl)
          try simp only [Act.put, List.setIfInBounds_toArray, List.set_cons_zero, List.set_cons_succ]
          refine wpAnyH_take (i := 8) (v := ?_) (by (simp only [List.getElem?_toArray, List.getElem?_cons_succ, List.getElem?_cons_zero]; rfl)) (by kernel_rfl) (by kernel_rfl) (by kernel_rfl) (fun _ _ _ h => h) (Or.inl ⟨by rfl, ?_⟩) (by assumption) ?_
          rotate_left
          · (intro w hSw; (try dsimp only at hSw); go_simp; try with_reducible rfl)
          try simp only [Act.put, List.setIfInBounds_toArray, List.set_cons_zero, List.set_cons_succ]
          refine wpAnyH_take (i := 9) (v := ?_) (by (simp only [List.getElem?_toArray, List.getElem?_cons_succ, List.getElem?_cons_zero]; rfl)) (by kernel_rfl) (by kernel_rfl) (by kernel_rfl) (fun _ _ _ h => h) (Or.inl ⟨by rfl, ?_⟩) (by assumption) ?_
          rotate_left
          · (intro w hSw; (try dsimp only at hSw); go_simp; try with_reducible rfl)
          try simp only [Act.put, List.setIfInBounds_toArray, List.set_cons_zero, List.set_cons_succ]
          refine wpAnyH_take (i := 10) (v := ?_) (by (simp only [List.getElem?_toArray, List.getElem?_cons_succ, List.getElem?_cons_zero]; rfl)) (by kernel_rfl) (by kernel_rfl) (by kernel_rfl) (fun _ _ _ h => h) (Or.inl ⟨by rfl, ?_⟩) (by assumption) ?_
          rotate_left
          · (intro w hSw; (try dsimp only at hSw); go_simp; try with_reducible rfl)
          try simp only [Act.put, List.setIfInBounds_toArray, List.set_cons_zero, List.set_cons_succ]
          refine wpAnyH_take (i := 11) (v := ?_) (by (simp only [List.getElem?_toArray, List.getElem?_cons_succ, List.getElem?_cons_zero]; rfl)) (by kernel_rfl) (by kernel_rfl) (by kernel_rfl) (fun _ _ _ h => h) (Or.inl ⟨by rfl, ?_⟩) (by assumption) ?_
          rotate_left
          · (intro w hSw; (try dsimp only at hSw); go_simp; try with_reducible rfl)
          try simp only [Act.put, List.setIfInBounds_toArray, List.set_cons_zero, List.set_cons_succ]
          refine wpAnyH_take (i := 14) (v := ?_) (by (simp only [List.getElem?_toArray, List.getElem?_cons_succ, List.getElem?_cons_zero]; rfl)) (by kernel_rfl) (by kernel_rfl) (by kernel_rfl) (fun _ _ _ h => h) (Or.inl ⟨by rfl, ?_⟩) (by assumption) ?_
          rotate_left
          · (intro w hSw; (try dsimp only at hSw); go_simp; try with_reducible rfl)
          try simp only [Act.put, List.setIfInBounds_toArray, List.set_cons_zero, List.set_cons_succ]
          refine wpAnyH_take (i := 15) (v := ?_) (by (simp only [List.getElem?_toArray, List.getElem?_cons_succ, List.getElem?_cons_zero]; rfl)) (by kernel_rfl) (by kernel_rfl) (by kernel_rfl) (fun _ _ _ h => h) (Or.inl ⟨by rfl, ?_⟩) (by assumption) ?_
          rotate_left
          · (intro w hSw; (try dsimp only at hSw); go_simp; try with_reducible rfl)
          try simp only [Act.put, List.setIfInBounds_toArray, List.set_cons_zero, List.set_cons_succ]
          refine wpAnyH_ready (rs := [12]) (by kernel_rfl) (by simp) ?_
          refine AllReadyH.cons (by (simp only [List.getElem?_toArray, List.getElem?_cons_succ, List.getElem?_cons_zero]; rfl)) (fun K hK => ?_) AllReadyH.nil
          go_simp
          refine (snap_any g d' y' w11 HD11.out).mono ?_
          rintro e w12 ⟨A8, c8, rfl, ho, hb⟩
          have HD12 := Lib.hid (HD11.out.chg0 (Chg.of_below hb))
          have HX12 := Lib.hid (HX11.out.below hb HX11.out.glt)
          have HB12 := Lib.hid (HB11.out.trans (hb.mono hs11))
          have hs12 := HB12.out.size
          have j1_12 : w12.cell? ⟨p, 1, none⟩ = some (.int .i64 d'.c.e) := cellb (i := 1) HX12.out rfl
          have j2_12 : w12.cell? ⟨p, 2, none⟩ = some (.int .i64 d'.c.h) := cellb (i := 2) HX12.out rfl
          have j3_12 : w12.cell? ⟨p, 3, none⟩ = some (.int .i64 d'.c.u) := cellb (i := 3) HX12.out rfl
          have j4_12 : w12.cell? ⟨p, 4, none⟩ = some (.string (str d'.log)) := cellb (i := 4) HX12.out rfl
          have j5_12 : w12.cell? ⟨p, 5, none⟩ = some (.string (str d'.snap)) := cellb (i := 5) HX12.out rfl
          have z8 : (convert 22 9 (.slice A8 d'.snap.length c8)).run Tryd.prog w12 = .ok (.string (str d'.snap)) w12 := zc (bytesIn_of_own ho).2 (bytesIn_of_own ho).1
          have z78 : (convert 22 9 (.slice A7 d'.log.length c7)).run Tryd.prog w12 = .ok (.string (str d'.log)) w12 := zc ((bytesIn_of_own HO7.out).2.below hb (Nat.le_refl _)) rfl
          have HO8 := Lib.hid ho
          have hb78 := hb
          have hs1112 : w11.heap.size ≤ w12.heap.size := hb.size
          clear ho hb
          refine hK.out _ _ ?_ (fun hHeld => ?_)
          · try dsimp only
            (refine ⟨⟨?_, ?_, ?_, ?_, ?_⟩, ?_⟩ <;> (first | with_reducible assumption))
          clear hK K
          try simp only [Act.put, List.setIfInBounds_toArray, List.set_cons_zero, List.set_cons_succ]
          refine wpAnyH_weaken (S' := fun w' => ((fun w' => ((fun w' => w'.cell? ⟨p, 1, none⟩ = some (.int .i64 d'.c.e) ∧ w'.cell? ⟨p, 2, none⟩ = some (.int .i64 d'.c.h) ∧ w'.cell? ⟨p, 3, none⟩ = some (.int .i64 d'.c.u) ∧ w'.cell? ⟨p, 4, none⟩ = some (.string (str d'.log)) ∧ w'.cell? ⟨p, 5, none⟩ = some (.string (str d'.snap))) w') ∧ ((convert 22 9 (.slice A7 d'.log.length c7)).run Tryd.prog w' = .ok (.string (str d'.log)) w')) w') ∧ ((convert 22 9 (.slice A8 d'.snap.length c8)).run Tryd.prog w' = .ok (.string (str d'.snap)) w')) (fun _ h => h.1) ?_
          have hHeld := (show (fun w' => ((fun w' => ((fun w' => w'.cell? ⟨p, 1, none⟩ = some (.int .i64 d'.c.e) ∧ w'.cell? ⟨p, 2, none⟩ = some (.int .i64 d'.c.h) ∧ w'.cell? ⟨p, 3, none⟩ = some (.int .i64 d'.c.u) ∧ w'.cell? ⟨p, 4, none⟩ = some (.string (str d'.log)) ∧ w'.cell? ⟨p, 5, none⟩ = some (.string (str d'.snap))) w') ∧ ((convert 22 9 (.slice A7 d'.log.length c7)).run Tryd.prog w' = .ok (.string (str d'.log)) w')) w') ∧ ((convert 22 9 (.slice A8 d'.snap.length c8)).run Tryd.prog w' = .ok (.string (str d'.snap)) w')) _ from ⟨hHeld, z8⟩)
          refine wpAnyH_take (i := 13) (v := ?_) (by (simp only [List.getElem?_toArray, List.getElem?_cons_succ, List.getElem?_cons_zero]; rfl)) (by kernel_rfl) (by kernel_rfl) (by kernel_rfl) (fun _ _ _ h => h) (Or.inl ⟨by rfl, ?_⟩) (by assumption) ?_
          rotate_left
          · (intro w hSw; (try dsimp only at hSw); go_simp; try with_reducible rfl)
          try simp only [Act.put, List.setIfInBounds_toArray, List.set_cons_zero, List.set_cons_succ]
          refine wpAnyH_take (i := 16) (v := ?_) (by (simp only [List.getElem?_toArray, List.getElem?_cons_succ, List.getElem?_cons_zero]; rfl)) (by kernel_rfl) (by kernel_rfl) (by kernel_rfl) (fun _ _ _ h => h) (Or.inl ⟨by rfl, ?_⟩) (by assumption) ?_
          rotate_left
          · (intro w hSw; (try dsimp only at hSw); go_simp; try with_reducible rfl)
          try simp only [Act.put, List.setIfInBounds_toArray, List.set_cons_zero, List.set_cons_succ]
          refine wpAnyH_take (i := 17) (v := ?_) (by (simp only [List.getElem?_toArray, List.getElem?_cons_succ, List.getElem?_cons_zero]; rfl)) (by kernel_rfl) (by kernel_rfl) (by kernel_rfl) (fun _ _ _ h => h) (Or.inl ⟨by rfl, ?_⟩) (by assumption) ?_
          rotate_left
          · (intro w hSw; (try dsimp only at hSw); go_simp; try with_reducible rfl)
          try simp only [Act.put, List.setIfInBounds_toArray, List.set_cons_zero, List.set_cons_succ]
          refine wpAnyH_take (i := 18) (v := ?_) (by (simp only [List.getElem?_toArray, List.getElem?_cons_succ, List.getElem?_cons_zero]; rfl)) (by kernel_rfl) (by kernel_rfl) (by kernel_rfl) (fun _ _ _ h => h) (Or.inl ⟨by rfl, ?_⟩) (by assumption) ?_
          rotate_left
          · (intro w hSw; (try dsimp only at hSw); go_simp; try with_reducible rfl)
          try simp only [Act.put, List.setIfInBounds_toArray, List.set_cons_zero, List.set_cons_succ]
          refine wpAnyH_take (i := 19) (v := ?_) (by (simp only [List.getElem?_toArray, List.getElem?_cons_succ, List.getElem?_cons_zero]; rfl)) (by kernel_rfl) (by kernel_rfl) (by kernel_rfl) (fun _ _ _ h => h) (Or.inl ⟨by rfl, ?_⟩) (by assumption) ?_
          rotate_left
          · (intro w hSw; (try dsimp only at hSw); go_simp; try with_reducible rfl)
          try simp only [Act.put, List.setIfInBounds_toArray, List.set_cons_zero, List.set_cons_succ]
          refine wpAnyH_take (i := 21) (v := ?_) (by (simp only [List.getElem?_toArray, List.getElem?_cons_succ, List.getElem?_cons_zero]; rfl)) (by kernel_rfl) (by kernel_rfl) (by kernel_rfl) (fun _ _ _ h => h) (Or.inl ⟨by rfl, ?_⟩) (by assumption) ?_
          rotate_left
          · (intro w hSw; (try dsimp only at hSw); go_simp; try with_reducible rfl)
          try simp only [Act.put, List.setIfInBounds_toArray, List.set_cons_zero, List.set_cons_succ]
          refine wpAnyH_take (i := 22) (v := ?_) (by (simp only [List.getElem?_toArray, List.getElem?_cons_succ, List.getElem?_cons_zero]; rfl)) (by kernel_rfl) (by kernel_rfl) (by kernel_rfl) (fun _ _ _ h => h) (Or.inl ⟨by rfl, ?_⟩) (by assumption) ?_
          rotate_left
          · (intro w hSw; (try dsimp only at hSw); go_simp; try with_reducible rfl)
          try simp only [Act.put, List.setIfInBounds_toArray, List.set_cons_zero, List.set_cons_succ]
          refine wpAnyH_ready (rs := [20]) (by kernel_rfl) (by simp) ?_
          refine AllReadyH.cons (by (simp only [List.getElem?_toArray, List.getElem?_cons_succ, List.getElem?_cons_zero]; rfl)) (fun K hK => ?_) AllReadyH.nil
          go_simp
          refine (claim_any g d' y' w12 HD12.out).mono ?_
          rintro e w13 ⟨rfl, hw13⟩
          have hb : Below w12.heap.size w12 w13 := by rw [← hw13]; exact (Below.refl w12.heap.size w12).alloc (Nat.le_refl _) _
          have HD13 := Lib.hid (HD12.out.chg0 (Chg.of_below hb))
          have HX13 := Lib.hid (HX12.out.below hb HX12.out.glt)
          have HB13 := Lib.hid (HB12.out.trans (hb.mono hs12))
          have hs13 := HB13.out.size
          have j1_13 : w13.cell? ⟨p, 1, none⟩ = some (.int .i64 d'.c.e) := cellb (i := 1) HX13.out rfl
          have j2_13 : w13.cell? ⟨p, 2, none⟩ = some (.int .i64 d'.c.h) := cellb (i := 2) HX13.out rfl
          have j3_13 : w13.cell? ⟨p, 3, none⟩ = some (.int .i64 d'.c.u) := cellb (i := 3) HX13.out rfl
          have j4_13 : w13.cell? ⟨p, 4, none⟩ = some (.string (str d'.log)) := cellb (i := 4) HX13.out rfl
          have j5_13 : w13.cell? ⟨p, 5, none⟩ = some (.string (str d'.snap)) := cellb (i := 5) HX13.out rfl
          have z8c : (convert 22 9 (.slice A8 d'.snap.length c8)).run Tryd.prog w13 = .ok (.string (str d'.snap)) w13 := zc ((bytesIn_of_own HO8.out).2.below hb (Nat.le_refl _)) rfl
          have z78c : (convert 22 9 (.slice A7 d'.log.length c7)).run Tryd.prog w13 = .ok (.string (str d'.log)) w13 := zc ((bytesIn_of_own HO7.out).2.below (hb78.trans (hb.mono hs1112)) (Nat.le_refl _)) rfl
          clear hb hw13
          refine hK.out _ _ ?_ (fun hHeld => ?_)
          · try dsimp only
            (refine ⟨⟨⟨?_, ?_, ?_, ?_, ?_⟩, ?_⟩, ?_⟩ <;> (first | with_reducible assumption))
          clear hK K
          try simp only [Act.put, List.setIfInBounds_toArray, List.set_cons_zero, List.set_cons_succ]
          refine wpAnyH_take (i := 23) (v := ?_) (by (simp only [List.getElem?_toArray, List.getElem?_cons_succ, List.getElem?_cons_zero]; rfl)) (by kernel_rfl) (by kernel_rfl) (by kernel_rfl) (fun _ _ _ h => h) (Or.inl ⟨by rfl, ?_⟩) (by assumption) ?_
          rotate_left
          · (intro w hSw; (try dsimp only at hSw); go_simp; try with_reducible rfl)
          try simp only [Act.put, List.setIfInBounds_toArray, List.set_cons_zero, List.set_cons_succ]
          refine wpAnyH_take (i := 24) (v := ?_) (by (simp only [List.getElem?_toArray, List.getElem?_cons_succ, List.getElem?_cons_zero]; rfl)) (by kernel_rfl) (by kernel_rfl) (by kernel_rfl) (fun _ _ _ h => h) (Or.inl ⟨by rfl, ?_⟩) (by assumption) ?_
          rotate_left
          · (intro w hSw; (try dsimp only at hSw); go_simp; try with_reducible rfl)
          try simp only [Act.put, List.setIfInBounds_toArray, List.set_cons_zero, List.set_cons_succ]
          refine wpAnyH_done (by kernel_rfl) ?_ _
          refine NoPanic.normal ?_
          clear hHeld
          go_wp2_with fail
          go_roundg (len - (j + 1))
          case measure => omega
          case rel => exact ⟨j + 1, d', y', by omega, by omega, rfl, by go_num, HD13, HX13, HB13⟩


      · clear hN
        have k3 := HA.out.k3
        go_wp2_with fail
        go_ret
        exact ⟨rfl, HB.out⟩
    · have hend2 : ¬ j < len ∨ (j < len ∧ ¬ j < 40) := by omega
      rcases hend2 with hend2 | ⟨hend1, hend2⟩
      all_goals
        go_wp2_with fail
        go_ret
        exact ⟨rfl, HB.out⟩
end Go.Proofs.YtpkefkoimlecjaaDoor
