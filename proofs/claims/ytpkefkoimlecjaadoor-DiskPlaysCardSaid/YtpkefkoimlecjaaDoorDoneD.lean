/- An act over both. -/
import Derived.Test.YtpkefkoimlecjaaDoorDone0
namespace Go.Proofs.YtpkefkoimlecjaaDoor
open Go.RowKit

set_option maxRecDepth 100000 in
set_option maxHeartbeats 1000000 in
theorem done_3 (g B : Nat) (d : Dk) (y : Lay) (kind ep at_ sum : Int) (ba : Option Addr) (bc : Nat) (b : List UInt8) (o c : Cl) (w : World) (h : DiskAt w g d y) (hk : bits .and .i64 kind 7 = 3) (hby : BytesIn w B ba bc b) (hBg : B ≤ g) (hbl : b.length ≤ 2000) (hh : Hal w) :
    Calls Tryd.prog 19 #[.pointer (some ⟨g, 0, none⟩), rv d, av ⟨kind, false, ep, at_, ba, bc, b, sum, o, c⟩] w (DonePost g y w) := by
  have HD := Lib.hid h
  have hgl := h.glt
  have hW : ∀ X Y Z, DiskAt (((w.alloc X).alloc Y).alloc Z) g d y := fun X Y Z => h.chg0 ((((Chg.refl NoBlk w).alloc X).alloc Y).alloc Z)
  have HC : ∀ X Y Z, Hid (Foot g y y w (((w.alloc X).alloc Y).alloc Z)) := fun X Y Z => Lib.hid (Foot.of_no ((((Chg.refl NoBlk w).alloc X).alloc Y).alloc Z) g y)
  have HBW : ∀ X Y Z, Hid (Below B w (((w.alloc X).alloc Y).alloc Z)) := fun X Y Z => Lib.hid (((((Chg.refl NoBlk w).alloc X).alloc Y).alloc Z).below (by omega) (fun _ _ h => h))
  have HBY : ∀ X Y Z, Hid (BytesIn (((w.alloc X).alloc Y).alloc Z) (((w.alloc X).alloc Y).alloc Z).heap.size ba bc b) := fun X Y Z => Lib.hid ((hby.below (HBW X Y Z).out (Nat.le_refl _)).more (by have := ((((Chg.refl NoBlk w).alloc X).alloc Y).alloc Z).size; omega))
  have HH : ∀ X Y Z, Hid (Hal (((w.alloc X).alloc Y).alloc Z)) := fun X Y Z => Lib.hid (hh.below (((((Chg.refl NoBlk w).alloc X).alloc Y).alloc Z).below (Nat.le_refl _) (fun _ _ h => h)) (by omega))
  have HBy := Lib.hid hby
  have hA : b ≠ [] → ∀ ad, ba = some ad → ad.block ≠ g := hby.off hBg
  have HA := Lib.hid hA
  have HWW := Lib.hid hW
  clear h hW hby hh hA
  unfold rv av
  simp only
  go_enter Tryd.func19, Tryd.ntmps19
  go_wp2_with fail
  have hW := HWW.out
  have hA := HA.out
  refine (append_any g b.length d y ep at_ ba bc b _ (hW _ _ _) rfl (HBY _ _ _).out hA).mono ?_
  clear hW hA
  rintro e w1 ⟨rfl, y1, hd1, F⟩
  obtain ⟨hX, hY, hZ, hs1⟩ := boxes HD.out F
  have HF := Lib.hid F
  have HB1 := Lib.hid ((HBy.out.below ((HBW _ _ _).out.trans (HF.out.below hBg (HWW.out _ _ _))) (Nat.le_refl _)).more (by omega : B ≤ w1.heap.size))
  have HD1 := Lib.hid hd1
  clear hd1 F
  have x0 := cellb (i := 0) hX rfl
  have x1 := cellb (i := 1) hX rfl
  have x2 := cellb (i := 2) hX rfl
  have x3 := cellb (i := 3) hX rfl
  have x4 := cellb (i := 4) hX rfl
  have x5 := cellb (i := 5) hX rfl
  have x6 := cellb (i := 6) hX rfl
  have x7 := cellb (i := 7) hX rfl
  have x8 := cellb (i := 8) hX rfl
  have y0 := cellb (i := 0) hY rfl
  have y1 := cellb (i := 1) hY rfl
  have y2 := cellb (i := 2) hY rfl
  have y3 := cellb (i := 3) hY rfl
  have y4 := cellb (i := 4) hY rfl
  have y5 := cellb (i := 5) hY rfl
  have y6 := cellb (i := 6) hY rfl
  have y7 := cellb (i := 7) hY rfl
  have y8 := cellb (i := 8) hY rfl
  have y9 := cellb (i := 9) hY rfl
  have y10 := cellb (i := 10) hY rfl
  have y11 := cellb (i := 11) hY rfl
  have HZ := Lib.hid hZ
  have HZ1 := Lib.hid hZ
  clear hX hY hZ
  go_wp2_with fail
  refine (rappend_any d ep at_ ba bc b.length b w1 HB1.out rfl HD.out.ll HD.out.r (by omega)).mono ?_
  rintro e w2 ⟨rfl, hb2⟩
  have hZ := (hb2.block _ (by omega)).trans HZ.out
  have hs2 := hb2.size
  have hZ' : ∀ O, (w2.alloc O).heap[w.heap.size + 1 + 1]? = _ := fun O => (((Below.refl w2.heap.size w2).alloc (Nat.le_refl _) O).block _ (by omega)).trans hZ
  have fz := fun O => fzb (hZ' O)
  have z0 := fun O => cellb (i := 0) (hZ' O) rfl
  have z1 := fun O => cellb (i := 1) (hZ' O) rfl
  have z2 := fun O => cellb (i := 2) (hZ' O) rfl
  have z3 := fun O => cellb (i := 3) (hZ' O) rfl
  have z4 := fun O => cellb (i := 4) (hZ' O) rfl
  have z5 := fun O => cellb (i := 5) (hZ' O) rfl
  have z6 := fun O => cellb (i := 6) (hZ' O) rfl
  have z7 := fun O => cellb (i := 7) (hZ' O) rfl
  have z8 := fun O => cellb (i := 8) (hZ' O) rfl
  have HB2 := Lib.hid hb2
  clear hb2 hZ hZ' HZ
  obtain ⟨d', hd'⟩ : ∃ d', d' = apD d ep at_ b := ⟨_, rfl⟩
  rw [← hd'] at HD1 ⊢
  clear hd'
  simp only [rv]
  go_wp2_with fail
  refine bodyPost_ret (v := .tuple #[.agg #[.int .i64 ((d'.room : Nat) : Int), .int .i64 d'.c.e, .int .i64 d'.c.h, .int .i64 d'.c.u, .string (str d'.log), .string (str d'.snap), .string (str d'.staged), .bool d'.cut, .int .i64 d'.at_], .bool true]) (by simp [results, Tryd.results19, go_sem, z0, z1, z2, z3, z4, z5, z6, z7, z8]) rfl (donePost HD.out (HC _ _ _).out HF.out HD1.out HZ1.out (by omega) ?_)
  exact (((((((((((Chg.of_below (S := fun k => k = w.heap.size + 1 + 1) HB2.out).alloc _).setCell (.inr rfl) _).setCell (.inr rfl) _).setCell (.inr rfl) _).setCell (.inr rfl) _).setCell (.inr rfl) _).setCell (.inr rfl) _).setCell (.inr rfl) _).setCell (.inr rfl) _).setCell (.inr rfl) _)

set_option maxRecDepth 100000 in
set_option maxHeartbeats 1000000 in
theorem done_3n (g B : Nat) (d : Dk) (y : Lay) (kind ep at_ sum : Int) (ba : Option Addr) (bc : Nat) (b : List UInt8) (o c : Cl) (w : World) (h : DiskAt w g d y) (hk : bits .and .i64 kind 7 = 3) (hby : BytesIn w B ba bc b) (hBg : B ≤ g) (hbl : b.length ≤ 2000) (hh : Hal w) :
    Calls Tryd.prog 19 #[.pointer (some ⟨g, 0, none⟩), rv d, av ⟨kind, true, ep, at_, ba, bc, b, sum, o, c⟩] w (DonePost g y w) := by
  have HD := Lib.hid h
  have hgl := h.glt
  have hW : ∀ X Y Z O, DiskAt ((((w.alloc X).alloc Y).alloc Z).drew.alloc O) g d y := fun X Y Z O => h.chg0 (((((Chg.refl NoBlk w).alloc X).alloc Y).alloc Z).drew.alloc O)
  have HC : ∀ X Y Z O, Hid (Foot g y y w ((((w.alloc X).alloc Y).alloc Z).drew.alloc O)) := fun X Y Z O => Lib.hid (Foot.of_no (((((Chg.refl NoBlk w).alloc X).alloc Y).alloc Z).drew.alloc O) g y)
  have HBW : ∀ X Y Z O, Hid (Below B w ((((w.alloc X).alloc Y).alloc Z).drew.alloc O)) := fun X Y Z O => Lib.hid ((((((Chg.refl NoBlk w).alloc X).alloc Y).alloc Z).drew.alloc O).below (by omega) (fun _ _ h => h))
  have HBY : ∀ X Y Z O, Hid (BytesIn ((((w.alloc X).alloc Y).alloc Z).drew.alloc O) ((((w.alloc X).alloc Y).alloc Z).drew.alloc O).heap.size ba bc b) := fun X Y Z O => Lib.hid ((hby.below (HBW X Y Z O).out (Nat.le_refl _)).more (by have := (((((Chg.refl NoBlk w).alloc X).alloc Y).alloc Z).drew.alloc O).size; omega))
  have HH : ∀ X Y Z O, Hid (Hal ((((w.alloc X).alloc Y).alloc Z).drew.alloc O)) := fun X Y Z O => Lib.hid (hh.below ((((((Chg.refl NoBlk w).alloc X).alloc Y).alloc Z).drew.alloc O).below (Nat.le_refl _) (fun _ _ h => h)) (by omega))
  have HBy := Lib.hid hby
  have hA : b ≠ [] → ∀ ad, ba = some ad → ad.block ≠ g := hby.off hBg
  have HA := Lib.hid hA
  have HWW := Lib.hid hW
  clear h hW hby hh hA
  obtain ⟨cc, O, hc, hb⟩ := conv_sb d.staged (((w.alloc (.cells #[.int .i64 (d.room : Int), .int .i64 d.c.e, .int .i64 d.c.h, .int .i64 d.c.u, .string (str d.log), .string (str d.snap), .string (str d.staged), .bool d.cut, .int .i64 d.at_] 43)).alloc (.cells #[.int .i64 kind, .bool true, .int .i64 d.c.e, .int .i64 (d.log.length : Int), .slice ba b.length bc, .int .u32 sum, .int .i64 d.c.e, .int .i64 d.c.h, .int .i64 d.c.u, .int .i64 c.e, .int .i64 c.h, .int .i64 c.u] 47)).alloc (.cells #[.int .i64 0, .int .i64 0, .int .i64 0, .int .i64 0, .string ⟨#[]⟩, .string ⟨#[]⟩, .string ⟨#[]⟩, .bool false, .int .i64 0] 43)) (Nat.le_trans HD.out.tl HD.out.r)
  have HS := Lib.hid (rsum_n _ cc _ d.staged _ _ hb rfl)
  have hsz : ∀ X Y Z, (((w.alloc X).alloc Y).alloc Z).heap.size = w.heap.size + 1 + 1 + 1 := fun X Y Z => by simp
  have hz : (str d.log).size = d.log.length := str_size d.log
  rw [hsz] at hc HS
  clear hsz hb
  unfold rv av
  simp only
  go_enter Tryd.func19, Tryd.ntmps19
  go_wp2_with fail
  refine HS.out.mono ?_
  rintro e w' ⟨rfl, rfl⟩
  clear HS hc
  go_wp2_with fail
  have hW := HWW.out
  have hA := HA.out
  refine (append_any g b.length d y d.c.e d.log.length ba bc b _ (hW _ _ _ _) rfl (HBY _ _ _ _).out hA).mono ?_
  clear hW hA
  rintro e w1 ⟨rfl, y1, hd1, F⟩
  obtain ⟨hX, hY, hZ, hs1⟩ := boxesD HD.out F
  have HF := Lib.hid F
  have HB1 := Lib.hid ((HBy.out.below ((HBW _ _ _ _).out.trans (HF.out.below hBg (HWW.out _ _ _ _))) (Nat.le_refl _)).more (by omega : B ≤ w1.heap.size))
  have HD1 := Lib.hid hd1
  clear hd1 F
  have x0 := cellb (i := 0) hX rfl
  have x1 := cellb (i := 1) hX rfl
  have x2 := cellb (i := 2) hX rfl
  have x3 := cellb (i := 3) hX rfl
  have x4 := cellb (i := 4) hX rfl
  have x5 := cellb (i := 5) hX rfl
  have x6 := cellb (i := 6) hX rfl
  have x7 := cellb (i := 7) hX rfl
  have x8 := cellb (i := 8) hX rfl
  have y0 := cellb (i := 0) hY rfl
  have y1 := cellb (i := 1) hY rfl
  have y2 := cellb (i := 2) hY rfl
  have y3 := cellb (i := 3) hY rfl
  have y4 := cellb (i := 4) hY rfl
  have y5 := cellb (i := 5) hY rfl
  have y6 := cellb (i := 6) hY rfl
  have y7 := cellb (i := 7) hY rfl
  have y8 := cellb (i := 8) hY rfl
  have y9 := cellb (i := 9) hY rfl
  have y10 := cellb (i := 10) hY rfl
  have y11 := cellb (i := 11) hY rfl
  have HZ := Lib.hid hZ
  have HZ1 := Lib.hid hZ
  clear hX hY hZ
  go_wp2_with fail
  refine (rappend_any d d.c.e d.log.length ba bc b.length b w1 HB1.out rfl HD.out.ll HD.out.r (by omega)).mono ?_
  rintro e w2 ⟨rfl, hb2⟩
  have hZ := (hb2.block _ (by omega)).trans HZ.out
  have hs2 := hb2.size
  have hZ' : ∀ O, (w2.alloc O).heap[w.heap.size + 1 + 1]? = _ := fun O => (((Below.refl w2.heap.size w2).alloc (Nat.le_refl _) O).block _ (by omega)).trans hZ
  have fz := fun O => fzb (hZ' O)
  have z0 := fun O => cellb (i := 0) (hZ' O) rfl
  have z1 := fun O => cellb (i := 1) (hZ' O) rfl
  have z2 := fun O => cellb (i := 2) (hZ' O) rfl
  have z3 := fun O => cellb (i := 3) (hZ' O) rfl
  have z4 := fun O => cellb (i := 4) (hZ' O) rfl
  have z5 := fun O => cellb (i := 5) (hZ' O) rfl
  have z6 := fun O => cellb (i := 6) (hZ' O) rfl
  have z7 := fun O => cellb (i := 7) (hZ' O) rfl
  have z8 := fun O => cellb (i := 8) (hZ' O) rfl
  have HB2 := Lib.hid hb2
  clear hb2 hZ hZ' HZ
  obtain ⟨d', hd'⟩ : ∃ d', d' = apD d d.c.e d.log.length b := ⟨_, rfl⟩
  rw [← hd'] at HD1 ⊢
  clear hd'
  simp only [rv]
  go_wp2_with fail
  refine bodyPost_ret (v := .tuple #[.agg #[.int .i64 ((d'.room : Nat) : Int), .int .i64 d'.c.e, .int .i64 d'.c.h, .int .i64 d'.c.u, .string (str d'.log), .string (str d'.snap), .string (str d'.staged), .bool d'.cut, .int .i64 d'.at_], .bool true]) (by simp [results, Tryd.results19, go_sem, z0, z1, z2, z3, z4, z5, z6, z7, z8]) rfl (donePost HD.out (HC _ _ _ _).out HF.out HD1.out HZ1.out (by omega) ?_)
  exact (((((((((((Chg.of_below (S := fun k => k = w.heap.size + 1 + 1) HB2.out).alloc _).setCell (.inr rfl) _).setCell (.inr rfl) _).setCell (.inr rfl) _).setCell (.inr rfl) _).setCell (.inr rfl) _).setCell (.inr rfl) _).setCell (.inr rfl) _).setCell (.inr rfl) _).setCell (.inr rfl) _)
end Go.Proofs.YtpkefkoimlecjaaDoor
