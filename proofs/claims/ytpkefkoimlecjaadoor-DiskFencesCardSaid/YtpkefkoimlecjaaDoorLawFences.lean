/- The law DiskFences: the walk. -/
import Derived.Test.YtpkefkoimlecjaaDoorBehind
import Derived.Test.YtpkefkoimlecjaaDoorXorOne
import Derived.Test.YtpkefkoimlecjaaDoorAwake
import Derived.Test.YtpkefkoimlecjaaDoorSnapPre
import Derived.Test.YtpkefkoimlecjaaDoorHeldW
import Derived.Test.YtpkefkoimlecjaaDoorFence4
import Derived.Deep.RegionHeld3
namespace Go.Proofs.YtpkefkoimlecjaaDoor
open Go.RowKit

theorem ActsIn.into {w w' : World} {B B' : Nat} {A : Option Addr} {gs : List Ac} (h : ActsIn w B A gs) (hb : Below B w w') (hB : B ≤ B') : ActsIn w' B' A gs := by
  rcases h with e | ⟨bb, off, e, h⟩
  · exact .inl e
  · refine .inr ⟨bb, off, e, fun i a ha => ?_⟩
    obtain ⟨k0, k1, k2, k3, k4, k5, o0, o1, o2, c0, c1, c2, by_, s0, s1, lt⟩ := (h i a ha).below hb
    exact ⟨k0, k1, k2, k3, k4, k5, o0, o1, o2, c0, c1, c2, by_.more hB, s0, s1, by omega⟩

/-- A box of another type that is written leaves a disk as it was. -/
theorem DiskAt.off {w w' : World} {g b : Nat} {d : Dk} {y : Lay} {cs : Array Value} {t : TypeId} {f : Nat × Nat} (h : DiskAt w g d y) (hb : w.heap[b]? = some (.cells cs t f)) (ht : t ≠ 5) (hg : b ≠ g) (hc : Chg (fun k => k = b) w w') : DiskAt w' g d y := by
  have key : ∀ {A : Option Addr} {n c : Nat} {l : List UInt8}, w.ownsRow (g + 1) 5 1 (.slice A n c) n (cells8 l) → w'.ownsRow (g + 1) 5 1 (.slice A n c) n (cells8 l) := fun ho => hc.own ho (fun k hk e => by
    obtain ⟨cur, f', h'⟩ := own_elem ho hk
    rw [e, hb] at h'
    injection h' with h'
    injection h' with _ h2 _
    exact absurd h2 ht)
  exact ⟨(hc.block g h.glt (fun e => hg e.symm)).trans h.blk, key h.l, key h.s, key h.t, h.ls, h.lt, h.r, h.ll, h.sl, h.tl⟩

set_option maxRecDepth 100000 in
set_option maxHeartbeats 4000000 in
theorem law_fences (r : Int) (a : Option Addr) (len cap : Nat) (gs : List Ac) (s : Ac) (w : World) (hl : len = gs.length) (hp : ActsIn w w.heap.size a gs) (hby : BytesIn w w.heap.size s.ba s.bc s.b) (hh : Hal w) (h0w : 0 < w.heap.size) :
    Calls Tryd.prog 5 #[.int .i64 r, .slice a len cap, av s] w fun e w' => e = .returned (.bool true) ∧ Below w.heap.size w w' := by
  have HL := Lib.hid hl
  have HP := Lib.hid hp
  have HH := Lib.hid hh
  have HBY := Lib.hid hby
  have hsz : w.heap.size + 1 ≤ (w.alloc (.cells #[.int .i64 s.kind, .bool s.near, .int .i64 s.ep, .int .i64 s.at_, .slice s.ba s.b.length s.bc, .int .u32 s.sum, .int .i64 s.o.e, .int .i64 s.o.h, .int .i64 s.o.u, .int .i64 s.c.e, .int .i64 s.c.h, .int .i64 s.c.u] 47)).heap.size := by simp
  have hbx := heap_alloc_new w (.cells #[.int .i64 s.kind, .bool s.near, .int .i64 s.ep, .int .i64 s.at_, .slice s.ba s.b.length s.bc, .int .u32 s.sum, .int .i64 s.o.e, .int .i64 s.o.h, .int .i64 s.o.u, .int .i64 s.c.e, .int .i64 s.c.h, .int .i64 s.c.u] 47)
  have HB0 := Lib.hid ((Below.refl w.heap.size w).alloc (Nat.le_refl _) (.cells #[.int .i64 s.kind, .bool s.near, .int .i64 s.ep, .int .i64 s.at_, .slice s.ba s.b.length s.bc, .int .u32 s.sum, .int .i64 s.o.e, .int .i64 s.o.h, .int .i64 s.o.u, .int .i64 s.c.e, .int .i64 s.c.h, .int .i64 s.c.u] 47))
  have HBX := Lib.hid hbx
  clear hl hp hh hby hbx
  unfold av
  go_enter Tryd.func5, Tryd.ntmps5
  go_wp2_with fail
  generalize w.alloc (.cells #[.int .i64 s.kind, .bool s.near, .int .i64 s.ep, .int .i64 s.at_, .slice s.ba s.b.length s.bc, .int .u32 s.sum, .int .i64 s.o.e, .int .i64 s.o.h, .int .i64 s.o.u, .int .i64 s.c.e, .int .i64 s.c.h, .int .i64 s.c.u] 47) = w0 at HBX HB0 hsz ⊢
  refine (awake_any _).mono ?_
  rintro e w1 ⟨rfl, hb1⟩
  have HB1 := Lib.hid (HB0.out.trans (hb1.mono (by omega)))
  have HBX1 := Lib.hid ((hb1.block _ (by omega)).trans HBX.out)
  have hs1 := hb1.size
  clear hb1 HB0 HBX
  obtain ⟨g, hg⟩ : ∃ g, g = w1.heap.size := ⟨_, rfl⟩
  have HBH := Lib.hid (behind_any r a len cap gs w1 HL.out (HP.out.into HB1.out HB1.out.size) (HH.out.below HB1.out h0w) (by omega) g hg)
  have hgw : w.heap.size < g := by omega
  clear hg
  go_wp2_with fail
  refine HBH.out.mono ?_
  rintro e w2 ⟨d, y, rfl, hd2, hb2⟩
  have HD2 := Lib.hid hd2
  have HB2 := Lib.hid (HB1.out.trans (hb2.mono HB1.out.size))
  have HBX2 := Lib.hid ((hb2.block _ (by omega)).trans HBX1.out)
  have hs2 := hb2.size
  clear hd2 hb2 HB1 HBX1 HBH HL HP
  have k4 := cellb (i := 4) HBX2.out rfl
  obtain ⟨N, hN⟩ : ∃ N, N = s.b.length := ⟨_, rfl⟩
  rw [← hN] at k4
  have HN := Lib.hid hN
  clear hN
  by_cases hbig : 2000 < N
  · go_wp2_with fail
    go_ret
    exact ⟨rfl, HB2.out⟩
  go_wp2_with fail
  refine (log_any g d y w2 HD2.out).mono ?_
  rintro e w3 ⟨A1, c1, rfl, ho1, hb3⟩
  have HD3 := Lib.hid (HD2.out.chg0 (Chg.of_below hb3))
  have HB3 := Lib.hid (HB2.out.trans (hb3.mono HB2.out.size))
  have HBX3 := Lib.hid ((hb3.block _ (by omega)).trans HBX2.out)
  have hs3 := hb3.size
  have q1 := zc (bytesIn_of_own ho1).2 (bytesIn_of_own ho1).1
  clear ho1 hb3 HD2 HB2 HBX2 k4
  go_wp2_with fail
  clear q1
  refine (snap_any g d y w3 HD3.out).mono ?_
  rintro e w4 ⟨A2, c2, rfl, ho2, hb4⟩
  have HD4 := Lib.hid (HD3.out.chg0 (Chg.of_below hb4))
  have HB4 := Lib.hid (HB3.out.trans (hb4.mono HB3.out.size))
  have HBX4 := Lib.hid ((hb4.block _ (by omega)).trans HBX3.out)
  have hs4 := hb4.size
  have q2 := zc (bytesIn_of_own ho2).2 (bytesIn_of_own ho2).1
  clear ho2 hb4 HD3 HB3 HBX3
  go_wp2_with fail
  clear q2
  have hch := ((Chg.refl NoBlk w4).alloc (.cells #[.int .i64 d.c.e, .int .i64 d.c.h, .int .i64 d.c.u] 31)).alloc (.cells #[.int .i64 d.c.e, .int .i64 d.c.h, .int .i64 d.c.u] 31)
  have HD5 := Lib.hid (HD4.out.chg0 hch)
  have HB5 := Lib.hid (HB4.out.trans (hch.below HB4.out.size (fun _ _ h => h)))
  have hx5 := (hch.block w.heap.size (by omega) (fun h => h)).trans HBX4.out
  have hq5 : ((w4.alloc (.cells #[.int .i64 d.c.e, .int .i64 d.c.h, .int .i64 d.c.u] 31)).alloc (.cells #[.int .i64 d.c.e, .int .i64 d.c.h, .int .i64 d.c.u] 31)).heap[w4.heap.size + 1]? = some (.cells #[.int .i64 d.c.e, .int .i64 d.c.h, .int .i64 d.c.u] 31 (0, 0)) := by
    have := heap_alloc_new (w4.alloc (.cells #[.int .i64 d.c.e, .int .i64 d.c.h, .int .i64 d.c.u] 31)) (.cells #[.int .i64 d.c.e, .int .i64 d.c.h, .int .i64 d.c.u] 31)
    simpa using this
  rw [← HN.out] at hx5
  have k2 := cellb (i := 2) hx5 rfl
  have k4 := cellb (i := 4) hx5 rfl
  have kf := fzb hx5
  have HX5 := Lib.hid hx5
  have HQ5 := Lib.hid hq5
  clear hch hx5 hq5 HB4 HBX4
  have hcl := claim_any g d y w4 HD4.out
  have hs4w := HB5.out.size
  have HQW : Hid (w.heap.size < w4.heap.size + 1) := Lib.hid (by omega)
  have HGQ : Hid (g < w4.heap.size + 1) := Lib.hid (by have := HD4.out.glt; omega)
  by_cases he : s.ep = d.c.e
  · have k2' := k2
    rw [he] at k2'
    clear k2
    go_wp2_with fail
    refine hcl.mono ?_
    rintro e w' ⟨rfl, rfl⟩
    go_wp2_with fail
    obtain ⟨x, hx⟩ : ∃ x, x = bits .xor .i64 d.c.e 1 := ⟨_, rfl⟩
    have hne : x ≠ d.c.e := by rw [hx]; exact xor1_ne _
    rw [← hx]
    have HC := Lib.hid ((Chg.refl (fun k => k = w.heap.size) ((w4.alloc (.cells #[.int .i64 d.c.e, .int .i64 d.c.h, .int .i64 d.c.u] 31)).alloc (.cells #[.int .i64 d.c.e, .int .i64 d.c.h, .int .i64 d.c.u] 31))).setCell (p := ⟨w.heap.size, 2, none⟩) (.inr rfl) (.int .i64 x))
    have HD6 := Lib.hid (HD5.out.off HX5.out (by decide) (by omega) HC.out)
    have HX6 : Hid ((((w4.alloc (.cells #[.int .i64 d.c.e, .int .i64 d.c.h, .int .i64 d.c.u] 31)).alloc (.cells #[.int .i64 d.c.e, .int .i64 d.c.h, .int .i64 d.c.u] 31)).setCell ⟨w.heap.size, 2, none⟩ (.int .i64 x)).heap[w.heap.size]? = some (.cells #[.int .i64 s.kind, .bool s.near, .int .i64 x, .int .i64 s.at_, .slice s.ba N s.bc, .int .u32 s.sum, .int .i64 s.o.e, .int .i64 s.o.h, .int .i64 s.o.u, .int .i64 s.c.e, .int .i64 s.c.h, .int .i64 s.c.u] 47 (0, 0))) := Lib.hid (by simp [World.setCell, Array.getElem?_modify, HX5.out])
    have HQ6 := Lib.hid ((HC.out.block (w4.heap.size + 1) (Array.getElem?_eq_some_iff.1 HQ5.out).1 (by have := HQW.out; omega)).trans HQ5.out)
    have HB6 := Lib.hid (HB5.out.trans (HC.out.below (by omega) (fun k hk e => by omega)))
    clear HC HX5 HQ5 HD5 HB5 hx k2' k4 kf hcl
    generalize ((w4.alloc (.cells #[.int .i64 d.c.e, .int .i64 d.c.h, .int .i64 d.c.u] 31)).alloc (.cells #[.int .i64 d.c.e, .int .i64 d.c.h, .int .i64 d.c.u] 31)).setCell ⟨w.heap.size, 2, none⟩ (.int .i64 x) = w6 at HD6 HX6 HQ6 HB6 ⊢
    have hqg : w4.heap.size + 1 ≠ g := by have := HGQ.out; omega
    have hs6 := HB6.out.size
    have hAny : s.b ≠ [] → ∀ ad, s.ba = some ad → ad.block ≠ g := by
      intro hb ad had
      rcases HBY.out.rd with e | ⟨b, off, e, hlt, _⟩
      · exact absurd e hb
      · rw [e] at had; injection had with had; rw [← had]; show b ≠ g; omega
    have HAN := Lib.hid hAny
    clear hAny
    refine (append_fenced g N d y x (↑(str d.log).size) s.ba s.bc s.b w6 HD6.out HN.out ((HBY.out.below HB6.out (Nat.le_refl _)).more hs6) HAN.out hne).mono ?_
    rintro e w7 ⟨rfl, y7, hd, F⟩
    have HX7 : Hid (w7.heap[w.heap.size]? = some (.cells #[.int .i64 s.kind, .bool s.near, .int .i64 x, .int .i64 s.at_, .slice s.ba N s.bc, .int .u32 s.sum, .int .i64 s.o.e, .int .i64 s.o.h, .int .i64 s.o.u, .int .i64 s.c.e, .int .i64 s.c.h, .int .i64 s.c.u] 47 (0, 0))) := Lib.hid (footKeep HX6.out (by decide) HD6.out (by omega) F)
    have HQ7 : Hid (w7.heap[w4.heap.size + 1]? = some (.cells #[.int .i64 d.c.e, .int .i64 d.c.h, .int .i64 d.c.u] 31 (0, 0))) := Lib.hid (footKeep HQ6.out (by decide) HD6.out (by omega) F)
    have HB7 := Lib.hid (HB6.out.trans (F.below (by omega) HD6.out))
    have HD7 := Lib.hid hd
    have hs7 := HB7.out.size
    have k2 := cellb (i := 2) HX7.out rfl
    have k4 := cellb (i := 4) HX7.out rfl
    clear hd F HD6 HX6 HQ6
    go_wp2_with fail
    clear k2 k4
    refine (chop_fenced g d y7 x 0 w7 HD7.out hne).mono ?_
    rintro e w8 ⟨rfl, y8, hd, F⟩
    have HX8 : Hid (w8.heap[w.heap.size]? = some (.cells #[.int .i64 s.kind, .bool s.near, .int .i64 x, .int .i64 s.at_, .slice s.ba N s.bc, .int .u32 s.sum, .int .i64 s.o.e, .int .i64 s.o.h, .int .i64 s.o.u, .int .i64 s.c.e, .int .i64 s.c.h, .int .i64 s.c.u] 47 (0, 0))) := Lib.hid (footKeep HX7.out (by decide) HD7.out (by omega) F)
    have HQ8 : Hid (w8.heap[w4.heap.size + 1]? = some (.cells #[.int .i64 d.c.e, .int .i64 d.c.h, .int .i64 d.c.u] 31 (0, 0))) := Lib.hid (footKeep HQ7.out (by decide) HD7.out (by omega) F)
    have HB8 := Lib.hid (HB7.out.trans (F.below (by omega) HD7.out))
    have HD8 := Lib.hid hd
    have hs8 := HB8.out.size
    have k2 := cellb (i := 2) HX8.out rfl
    have k4 := cellb (i := 4) HX8.out rfl
    clear hd F HD7 HX7 HQ7
    go_wp2_with fail
    clear k2 k4
    refine (stage_fenced g N d y8 x s.ba s.bc s.b w8 HD8.out HN.out ((HBY.out.below HB8.out (Nat.le_refl _)).more hs8) HAN.out hne).mono ?_
    rintro e w9 ⟨rfl, y9, hd, F⟩
    have HX9 : Hid (w9.heap[w.heap.size]? = some (.cells #[.int .i64 s.kind, .bool s.near, .int .i64 x, .int .i64 s.at_, .slice s.ba N s.bc, .int .u32 s.sum, .int .i64 s.o.e, .int .i64 s.o.h, .int .i64 s.o.u, .int .i64 s.c.e, .int .i64 s.c.h, .int .i64 s.c.u] 47 (0, 0))) := Lib.hid (footKeep HX8.out (by decide) HD8.out (by omega) F)
    have HQ9 : Hid (w9.heap[w4.heap.size + 1]? = some (.cells #[.int .i64 d.c.e, .int .i64 d.c.h, .int .i64 d.c.u] 31 (0, 0))) := Lib.hid (footKeep HQ8.out (by decide) HD8.out (by omega) F)
    have HB9 := Lib.hid (HB8.out.trans (F.below (by omega) HD8.out))
    have HD9 := Lib.hid hd
    have hs9 := HB9.out.size
    have k2 := cellb (i := 2) HX9.out rfl
    have k4 := cellb (i := 4) HX9.out rfl
    clear hd F HD8 HX8 HQ8
    go_wp2_with fail
    have k2d : w9.drew.cell? ⟨w.heap.size, 2, none⟩ = some (.int .i64 x) := k2
    have k4d : w9.drew.cell? ⟨w.heap.size, 4, none⟩ = some (.slice s.ba N s.bc) := k4
    have HD9d := Lib.hid (HD9.out.chg0 ((Chg.refl NoBlk w9).drew))
    have HX9d : Hid (w9.drew.heap[w.heap.size]? = some (.cells #[.int .i64 s.kind, .bool s.near, .int .i64 x, .int .i64 s.at_, .slice s.ba N s.bc, .int .u32 s.sum, .int .i64 s.o.e, .int .i64 s.o.h, .int .i64 s.o.u, .int .i64 s.c.e, .int .i64 s.c.h, .int .i64 s.c.u] 47 (0, 0))) := HX9
    have HQ9d : Hid (w9.drew.heap[w4.heap.size + 1]? = some (.cells #[.int .i64 d.c.e, .int .i64 d.c.h, .int .i64 d.c.u] 31 (0, 0))) := HQ9
    refine wp_region_noPanic ?_
    refine wp_region_held_drew (S := fun w' => w'.cell? ⟨w.heap.size, 2, none⟩ = some (.int .i64 x) ∧ w'.cell? ⟨w.heap.size, 4, none⟩ = some (.slice s.ba N s.bc)) (by kernel_rfl) ?_ (fun hHeld => ?_)
    · try dsimp only
      (refine ⟨?_, ?_⟩ <;> (first | with_reducible assumption))
    refine wpAnyH_take (i := 0) (v := ?_) (by (simp only [List.getElem?_toArray, List.getElem?_cons_zero]; rfl)) (by kernel_rfl) (by kernel_rfl) (by kernel_rfl) (fun _ _ _ h => h) (Or.inl ⟨by rfl, ?_⟩) (by assumption) ?_
    rotate_left
    · (intro w hSw; (try dsimp only at hSw); go_simp; try with_reducible rfl)
    try simp only [Act.put, List.setIfInBounds_toArray, List.set_cons_zero, List.set_cons_succ]
    refine wpAnyH_take (i := 1) (v := ?_) (by (simp only [List.getElem?_toArray, List.getElem?_cons_succ, List.getElem?_cons_zero]; rfl)) (by kernel_rfl) (by kernel_rfl) (by kernel_rfl) (fun _ _ _ h => h) (Or.inl ⟨by rfl, ?_⟩) (by assumption) ?_
    rotate_left
    · (intro w hSw; (try dsimp only at hSw); go_simp; try with_reducible rfl)
    try simp only [Act.put, List.setIfInBounds_toArray, List.set_cons_zero, List.set_cons_succ]
    refine wpAnyH_take (i := 2) (v := ?_) (by (simp only [List.getElem?_toArray, List.getElem?_cons_succ, List.getElem?_cons_zero]; rfl)) (by kernel_rfl) (by kernel_rfl) (by kernel_rfl) (fun _ _ _ h => h) (Or.inl ⟨by rfl, ?_⟩) (by assumption) ?_
    rotate_left
    · (intro w hSw; (try dsimp only at hSw); go_simp; try with_reducible rfl)
    try simp only [Act.put, List.setIfInBounds_toArray, List.set_cons_zero, List.set_cons_succ]
    refine wpAnyH_take (i := 3) (v := ?_) (by (simp only [List.getElem?_toArray, List.getElem?_cons_succ, List.getElem?_cons_zero]; rfl)) (by kernel_rfl) (by kernel_rfl) (by kernel_rfl) (fun _ _ _ h => h) (Or.inl ⟨by rfl, ?_⟩) (by assumption) ?_
    rotate_left
    · (intro w hSw; (try dsimp only at hSw); go_simp; try with_reducible rfl)
    try simp only [Act.put, List.setIfInBounds_toArray, List.set_cons_zero, List.set_cons_succ]
    refine wpAnyH_take (i := 4) (v := ?_) (by (simp only [List.getElem?_toArray, List.getElem?_cons_succ, List.getElem?_cons_zero]; rfl)) (by kernel_rfl) (by kernel_rfl) (by kernel_rfl) (fun _ _ _ h => h) (Or.inl ⟨by rfl, ?_⟩) (by assumption) ?_
    rotate_left
    · (intro w hSw; (try dsimp only at hSw); go_simp; try with_reducible rfl)
    try simp only [Act.put, List.setIfInBounds_toArray, List.set_cons_zero, List.set_cons_succ]
    refine wpAnyH_ready (rs := [5]) (by kernel_rfl) (by simp) ?_
    refine AllReadyH.cons (by (simp only [List.getElem?_toArray, List.getElem?_cons_succ, List.getElem?_cons_zero]; rfl)) (fun K hK => ?_) AllReadyH.nil
    go_simp
    refine (rsum_n s.ba s.bc N s.b w9.drew w9.heap.size ((HBY.out.below HB9.out (Nat.le_refl _)).more hs9).drew HN.out).mono ?_
    rintro e w' ⟨rfl, rfl⟩
    refine hK.out _ _ ?_ (fun hHeld => ?_)
    · try dsimp only
      (refine ⟨?_, ?_⟩ <;> (first | with_reducible assumption))
    clear hK K
    try simp only [Act.put, List.setIfInBounds_toArray, List.set_cons_zero, List.set_cons_succ]
    refine wpAnyH_ready (rs := [6]) (by kernel_rfl) (by simp) ?_
    refine AllReadyH.cons (by (simp only [List.getElem?_toArray, List.getElem?_cons_succ, List.getElem?_cons_zero]; rfl)) (fun K hK => ?_) AllReadyH.nil
    go_simp
    refine (commit_fenced g d y9 x (crc s.b : Int) 0 w9.drew HD9d.out (HH.out.below HB9.out.drew h0w) (by show 0 < w9.heap.size; omega) hne).mono ?_
    rintro e w10 ⟨rfl, y10, hd, F⟩
    have HX10 : Hid (w10.heap[w.heap.size]? = some (.cells #[.int .i64 s.kind, .bool s.near, .int .i64 x, .int .i64 s.at_, .slice s.ba N s.bc, .int .u32 s.sum, .int .i64 s.o.e, .int .i64 s.o.h, .int .i64 s.o.u, .int .i64 s.c.e, .int .i64 s.c.h, .int .i64 s.c.u] 47 (0, 0))) := Lib.hid (footKeep HX9d.out (by decide) HD9d.out (by omega) F)
    have HQ10 : Hid (w10.heap[w4.heap.size + 1]? = some (.cells #[.int .i64 d.c.e, .int .i64 d.c.h, .int .i64 d.c.u] 31 (0, 0))) := Lib.hid (footKeep HQ9d.out (by decide) HD9d.out (by omega) F)
    have HB10 := Lib.hid (HB9.out.drew.trans (F.below (by omega) HD9d.out))
    have HD10 := Lib.hid hd
    have hs10 := HB10.out.size
    have k2e : w10.cell? ⟨w.heap.size, 2, none⟩ = some (.int .i64 x) := cellb (i := 2) HX10.out rfl
    have k4e : w10.cell? ⟨w.heap.size, 4, none⟩ = some (.slice s.ba N s.bc) := cellb (i := 4) HX10.out rfl
    clear hd F
    refine hK.out _ _ ?_ (fun hHeld => ?_)
    · try dsimp only
      (refine ⟨?_, ?_⟩ <;> (first | with_reducible assumption))
    clear hK K
    try simp only [Act.put, List.setIfInBounds_toArray, List.set_cons_zero, List.set_cons_succ]
    refine wpAnyH_take (i := 7) (v := ?_) (by (simp only [List.getElem?_toArray, List.getElem?_cons_succ, List.getElem?_cons_zero]; rfl)) (by kernel_rfl) (by kernel_rfl) (by kernel_rfl) (fun _ _ _ h => h) (Or.inl ⟨by rfl, ?_⟩) (by assumption) ?_
    rotate_left
    · (intro w hSw; (try dsimp only at hSw); go_simp; try with_reducible rfl)
    try simp only [Act.put, List.setIfInBounds_toArray, List.set_cons_zero, List.set_cons_succ]
    refine wpAnyH_done (by kernel_rfl) ?_ _
    refine NoPanic.normal ?_
    clear k2 k4 k2d k4d k2e k4e hHeld HX9 HX9d HQ9 HQ9d HD9 HD9d HX10 HN HBY
    go_wp2_with fail
    have j0 : w10.drew.cell? ⟨w4.heap.size + 1, 0, none⟩ = some (.int .i64 d.c.e) := cellb (i := 0) HQ10.out rfl
    have j1 : w10.drew.cell? ⟨w4.heap.size + 1, 1, none⟩ = some (.int .i64 d.c.h) := cellb (i := 1) HQ10.out rfl
    have j2 : w10.drew.cell? ⟨w4.heap.size + 1, 2, none⟩ = some (.int .i64 d.c.u) := cellb (i := 2) HQ10.out rfl
    have HD10d := Lib.hid (HD10.out.chg0 ((Chg.refl NoBlk w10).drew))
    have hq10 : w4.heap.size + 1 < w10.drew.heap.size := (Array.getElem?_eq_some_iff.1 HQ10.out).1
    refine wp_region_noPanic ?_
    refine wp_region_held_drew (S := fun w' => w'.cell? ⟨w4.heap.size + 1, 0, none⟩ = some (.int .i64 d.c.e) ∧ w'.cell? ⟨w4.heap.size + 1, 1, none⟩ = some (.int .i64 d.c.h) ∧ w'.cell? ⟨w4.heap.size + 1, 2, none⟩ = some (.int .i64 d.c.u)) (by kernel_rfl) ?_ (fun hHeld => ?_)
    · try dsimp only
      (refine ⟨?_, ?_, ?_⟩ <;> (first | with_reducible assumption))
    refine wpAnyH_take (i := 0) (v := ?_) (by (simp only [List.getElem?_toArray, List.getElem?_cons_zero]; rfl)) (by kernel_rfl) (by kernel_rfl) (by kernel_rfl) (fun _ _ _ h => h) (Or.inl ⟨by rfl, ?_⟩) (by assumption) ?_
    rotate_left
    · (intro w hSw; (try dsimp only at hSw); go_simp; try with_reducible rfl)
    try simp only [Act.put, List.setIfInBounds_toArray, List.set_cons_zero, List.set_cons_succ]
    refine wpAnyH_take (i := 1) (v := ?_) (by (simp only [List.getElem?_toArray, List.getElem?_cons_succ, List.getElem?_cons_zero]; rfl)) (by kernel_rfl) (by kernel_rfl) (by kernel_rfl) (fun _ _ _ h => h) (Or.inl ⟨by rfl, ?_⟩) (by assumption) ?_
    rotate_left
    · (intro w hSw; (try dsimp only at hSw); go_simp; try with_reducible rfl)
    try simp only [Act.put, List.setIfInBounds_toArray, List.set_cons_zero, List.set_cons_succ]
    refine wpAnyH_take (i := 2) (v := ?_) (by (simp only [List.getElem?_toArray, List.getElem?_cons_succ, List.getElem?_cons_zero]; rfl)) (by kernel_rfl) (by kernel_rfl) (by kernel_rfl) (fun _ _ _ h => h) (Or.inl ⟨by rfl, ?_⟩) (by assumption) ?_
    rotate_left
    · (intro w hSw; (try dsimp only at hSw); go_simp; try with_reducible rfl)
    try simp only [Act.put, List.setIfInBounds_toArray, List.set_cons_zero, List.set_cons_succ]
    refine wpAnyH_take (i := 3) (v := ?_) (by (simp only [List.getElem?_toArray, List.getElem?_cons_succ, List.getElem?_cons_zero]; rfl)) (by kernel_rfl) (by kernel_rfl) (by kernel_rfl) (fun _ _ _ h => h) (Or.inl ⟨by rfl, ?_⟩) (by assumption) ?_
    rotate_left
    · (intro w hSw; (try dsimp only at hSw); go_simp; try with_reducible rfl)
    try simp only [Act.put, List.setIfInBounds_toArray, List.set_cons_zero, List.set_cons_succ]
    refine wpAnyH_take (i := 4) (v := ?_) (by (simp only [List.getElem?_toArray, List.getElem?_cons_succ, List.getElem?_cons_zero]; rfl)) (by kernel_rfl) (by kernel_rfl) (by kernel_rfl) (fun _ _ _ h => h) (Or.inl ⟨by rfl, ?_⟩) (by assumption) ?_
    rotate_left
    · (intro w hSw; (try dsimp only at hSw); go_simp; try with_reducible rfl)
    try simp only [Act.put, List.setIfInBounds_toArray, List.set_cons_zero, List.set_cons_succ]
    refine wpAnyH_take (i := 5) (v := ?_) (by (simp only [List.getElem?_toArray, List.getElem?_cons_succ, List.getElem?_cons_zero]; rfl)) (by kernel_rfl) (by kernel_rfl) (by kernel_rfl) (fun _ _ _ h => h) (Or.inl ⟨by rfl, ?_⟩) (by assumption) ?_
    rotate_left
    · (intro w hSw; (try dsimp only at hSw); go_simp; try with_reducible rfl)
    try simp only [Act.put, List.setIfInBounds_toArray, List.set_cons_zero, List.set_cons_succ]
    refine wpAnyH_take (i := 6) (v := ?_) (by (simp only [List.getElem?_toArray, List.getElem?_cons_succ, List.getElem?_cons_zero]; rfl)) (by kernel_rfl) (by kernel_rfl) (by kernel_rfl) (fun _ _ _ h => h) (Or.inl ⟨by rfl, ?_⟩) (by assumption) ?_
    rotate_left
    · (intro w hSw; (try dsimp only at hSw); go_simp; try with_reducible rfl)
    try simp only [Act.put, List.setIfInBounds_toArray, List.set_cons_zero, List.set_cons_succ]
    refine wpAnyH_take (i := 7) (v := ?_) (by (simp only [List.getElem?_toArray, List.getElem?_cons_succ, List.getElem?_cons_zero]; rfl)) (by kernel_rfl) (by kernel_rfl) (by kernel_rfl) (fun _ _ _ h => h) (Or.inl ⟨by rfl, ?_⟩) (by assumption) ?_
    rotate_left
    · (intro w hSw; (try dsimp only at hSw); go_simp; try with_reducible rfl)
    try simp only [Act.put, List.setIfInBounds_toArray, List.set_cons_zero, List.set_cons_succ]
    refine wpAnyH_take (i := 8) (v := ?_) (by (simp only [List.getElem?_toArray, List.getElem?_cons_succ, List.getElem?_cons_zero]; rfl)) (by kernel_rfl) (by kernel_rfl) (by kernel_rfl) (fun _ _ _ h => h) (Or.inl ⟨by rfl, ?_⟩) (by assumption) ?_
    rotate_left
    · (intro w hSw; (try dsimp only at hSw); go_simp; try with_reducible rfl)
    try simp only [Act.put, List.setIfInBounds_toArray, List.set_cons_zero, List.set_cons_succ]
    refine wpAnyH_take (i := 9) (v := ?_) (by (simp only [List.getElem?_toArray, List.getElem?_cons_succ, List.getElem?_cons_zero]; rfl)) (by kernel_rfl) (by kernel_rfl) (by kernel_rfl) (fun _ _ _ h => h) (Or.inl ⟨by rfl, ?_⟩) (by assumption) ?_
    rotate_left
    · (intro w hSw; (try dsimp only at hSw); go_simp; try with_reducible rfl)
    try simp only [Act.put, List.setIfInBounds_toArray, List.set_cons_zero, List.set_cons_succ]
    refine wpAnyH_take (i := 10) (v := ?_) (by (simp only [List.getElem?_toArray, List.getElem?_cons_succ, List.getElem?_cons_zero]; rfl)) (by kernel_rfl) (by kernel_rfl) (by kernel_rfl) (fun _ _ _ h => h) (Or.inl ⟨by rfl, ?_⟩) (by assumption) ?_
    rotate_left
    · (intro w hSw; (try dsimp only at hSw); go_simp; try with_reducible rfl)
    try simp only [Act.put, List.setIfInBounds_toArray, List.set_cons_zero, List.set_cons_succ]
    refine wpAnyH_take (i := 11) (v := ?_) (by (simp only [List.getElem?_toArray, List.getElem?_cons_succ, List.getElem?_cons_zero]; rfl)) (by kernel_rfl) (by kernel_rfl) (by kernel_rfl) (fun _ _ _ h => h) (Or.inl ⟨by rfl, ?_⟩) (by assumption) ?_
    rotate_left
    · (intro w hSw; (try dsimp only at hSw); go_simp; try with_reducible rfl)
    try simp only [Act.put, List.setIfInBounds_toArray, List.set_cons_zero, List.set_cons_succ]
    refine wpAnyH_take (i := 12) (v := ?_) (by (simp only [List.getElem?_toArray, List.getElem?_cons_succ, List.getElem?_cons_zero]; rfl)) (by kernel_rfl) (by kernel_rfl) (by kernel_rfl) (fun _ _ _ h => h) (Or.inl ⟨by rfl, ?_⟩) (by assumption) ?_
    rotate_left
    · (intro w hSw; (try dsimp only at hSw); go_simp; try with_reducible rfl)
    try simp only [Act.put, List.setIfInBounds_toArray, List.set_cons_zero, List.set_cons_succ]
    refine wpAnyH_take (i := 13) (v := ?_) (by (simp only [List.getElem?_toArray, List.getElem?_cons_succ, List.getElem?_cons_zero]; rfl)) (by kernel_rfl) (by kernel_rfl) (by kernel_rfl) (fun _ _ _ h => h) (Or.inl ⟨by rfl, ?_⟩) (by assumption) ?_
    rotate_left
    · (intro w hSw; (try dsimp only at hSw); go_simp; try with_reducible rfl)
    try simp only [Act.put, List.setIfInBounds_toArray, List.set_cons_zero, List.set_cons_succ]
    refine wpAnyH_take (i := 14) (v := ?_) (by (simp only [List.getElem?_toArray, List.getElem?_cons_succ, List.getElem?_cons_zero]; rfl)) (by kernel_rfl) (by kernel_rfl) (by kernel_rfl) (fun _ _ _ h => h) (Or.inl ⟨by rfl, ?_⟩) (by assumption) ?_
    rotate_left
    · (intro w hSw; (try dsimp only at hSw); go_simp; try with_reducible rfl)
    try simp only [Act.put, List.setIfInBounds_toArray, List.set_cons_zero, List.set_cons_succ]
    refine wpAnyH_take (i := 15) (v := ?_) (by (simp only [List.getElem?_toArray, List.getElem?_cons_succ, List.getElem?_cons_zero]; rfl)) (by kernel_rfl) (by kernel_rfl) (by kernel_rfl) (fun _ _ _ h => h) (Or.inl ⟨by rfl, ?_⟩) (by assumption) ?_
    rotate_left
    · (intro w hSw; (try dsimp only at hSw); go_simp; try with_reducible rfl)
    try simp only [Act.put, List.setIfInBounds_toArray, List.set_cons_zero, List.set_cons_succ]
    refine wpAnyH_take (i := 18) (v := ?_) (by (simp only [List.getElem?_toArray, List.getElem?_cons_succ, List.getElem?_cons_zero]; rfl)) (by kernel_rfl) (by kernel_rfl) (by kernel_rfl) (fun _ _ _ h => h) (Or.inl ⟨by rfl, ?_⟩) (by assumption) ?_
    rotate_left
    · (intro w hSw; (try dsimp only at hSw); go_simp; try with_reducible rfl)
    try simp only [Act.put, List.setIfInBounds_toArray, List.set_cons_zero, List.set_cons_succ]
    refine wpAnyH_ready (rs := [16]) (by kernel_rfl) (by simp) ?_
    refine AllReadyH.cons (by (simp only [List.getElem?_toArray, List.getElem?_cons_succ, List.getElem?_cons_zero]; rfl)) (fun K hK => ?_) AllReadyH.nil
    go_simp
    refine (log_any g d y10 w10.drew HD10d.out).mono ?_
    rintro e w11 ⟨A7, c7, rfl, ho, hb⟩
    have HD11 := Lib.hid (HD10d.out.chg0 (Chg.of_below hb))
    have HB11 := Lib.hid (HB10.out.drew.trans (hb.mono hs10))
    have hs11 := HB11.out.size
    have z7 : (convert 22 9 (.slice A7 d.log.length c7)).run Tryd.prog w11 = .ok (.string (str d.log)) w11 := zc (bytesIn_of_own ho).2 (bytesIn_of_own ho).1
    have HO7 := Lib.hid ho
    have j0a : w11.cell? ⟨w4.heap.size + 1, 0, none⟩ = some (.int .i64 d.c.e) := (hb.cell (p := ⟨w4.heap.size + 1, 0, none⟩) hq10).trans j0
    have j1a : w11.cell? ⟨w4.heap.size + 1, 1, none⟩ = some (.int .i64 d.c.h) := (hb.cell (p := ⟨w4.heap.size + 1, 1, none⟩) hq10).trans j1
    have j2a : w11.cell? ⟨w4.heap.size + 1, 2, none⟩ = some (.int .i64 d.c.u) := (hb.cell (p := ⟨w4.heap.size + 1, 2, none⟩) hq10).trans j2
    have hq11 : w10.heap.size ≤ w11.heap.size := hb.size
    clear ho hb
    refine hK.out _ _ ?_ (fun hHeld => ?_)
    · try dsimp only
      (refine ⟨?_, ?_, ?_⟩ <;> (first | with_reducible assumption))
    clear hK K
    try simp only [Act.put, List.setIfInBounds_toArray, List.set_cons_zero, List.set_cons_succ]
    refine wpAnyH_weaken (S' := fun w' => ((fun w' => w'.cell? ⟨w4.heap.size + 1, 0, none⟩ = some (.int .i64 d.c.e) ∧ w'.cell? ⟨w4.heap.size + 1, 1, none⟩ = some (.int .i64 d.c.h) ∧ w'.cell? ⟨w4.heap.size + 1, 2, none⟩ = some (.int .i64 d.c.u)) w') ∧ ((convert 22 9 (.slice A7 d.log.length c7)).run Tryd.prog w' = .ok (.string (str d.log)) w')) (fun _ h => h.1) ?_
    have hHeld := (show (fun w' => ((fun w' => w'.cell? ⟨w4.heap.size + 1, 0, none⟩ = some (.int .i64 d.c.e) ∧ w'.cell? ⟨w4.heap.size + 1, 1, none⟩ = some (.int .i64 d.c.h) ∧ w'.cell? ⟨w4.heap.size + 1, 2, none⟩ = some (.int .i64 d.c.u)) w') ∧ ((convert 22 9 (.slice A7 d.log.length c7)).run Tryd.prog w' = .ok (.string (str d.log)) w')) _ from ⟨hHeld, z7⟩)
    refine wpAnyH_take (i := 17) (v := ?_) (by (simp only [List.getElem?_toArray, List.getElem?_cons_succ, List.getElem?_cons_zero]; rfl)) (by kernel_rfl) (by kernel_rfl) (by kernel_rfl) (fun _ _ _ h => h) (Or.inl ⟨by rfl, ?_⟩) (by assumption) ?_
    rotate_left
    · (intro w hSw; (try dsimp only at hSw); go_simp; try with_reducible rfl)
    try simp only [Act.put, List.setIfInBounds_toArray, List.set_cons_zero, List.set_cons_succ]
    refine wpAnyH_take (i := 19) (v := ?_) (by (simp only [List.getElem?_toArray, List.getElem?_cons_succ, List.getElem?_cons_zero]; rfl)) (by kernel_rfl) (by kernel_rfl) (by kernel_rfl) (fun _ _ _ h => h) (Or.inl ⟨by rfl, ?_⟩) (by assumption) ?_
    rotate_left
    · (intro w hSw; (try dsimp only at hSw); go_simp; try with_reducible rfl)
    try simp only [Act.put, List.setIfInBounds_toArray, List.set_cons_zero, List.set_cons_succ]
    refine wpAnyH_take (i := 20) (v := ?_) (by (simp only [List.getElem?_toArray, List.getElem?_cons_succ, List.getElem?_cons_zero]; rfl)) (by kernel_rfl) (by kernel_rfl) (by kernel_rfl) (fun _ _ _ h => h) (Or.inl ⟨by rfl, ?_⟩) (by assumption) ?_
    rotate_left
    · (intro w hSw; (try dsimp only at hSw); go_simp; try with_reducible rfl)
    try simp only [Act.put, List.setIfInBounds_toArray, List.set_cons_zero, List.set_cons_succ]
    refine wpAnyH_take (i := 21) (v := ?_) (by (simp only [List.getElem?_toArray, List.getElem?_cons_succ, List.getElem?_cons_zero]; rfl)) (by kernel_rfl) (by kernel_rfl) (by kernel_rfl) (fun _ _ _ h => h) (Or.inl ⟨by rfl, ?_⟩) (by assumption) ?_
    rotate_left
    · (intro w hSw; (try dsimp only at hSw); go_simp; try with_reducible rfl)
    try simp only [Act.put, List.setIfInBounds_toArray, List.set_cons_zero, List.set_cons_succ]
    refine wpAnyH_take (i := 22) (v := ?_) (by (simp only [List.getElem?_toArray, List.getElem?_cons_succ, List.getElem?_cons_zero]; rfl)) (by kernel_rfl) (by kernel_rfl) (by kernel_rfl) (fun _ _ _ h => h) (Or.inl ⟨by rfl, ?_⟩) (by assumption) ?_
    rotate_left
    · (intro w hSw; (try dsimp only at hSw); go_simp; try with_reducible rfl)
    try simp only [Act.put, List.setIfInBounds_toArray, List.set_cons_zero, List.set_cons_succ]
    refine wpAnyH_take (i := 25) (v := ?_) (by (simp only [List.getElem?_toArray, List.getElem?_cons_succ, List.getElem?_cons_zero]; rfl)) (by kernel_rfl) (by kernel_rfl) (by kernel_rfl) (fun _ _ _ h => h) (Or.inl ⟨by rfl, ?_⟩) (by assumption) ?_
    rotate_left
    · (intro w hSw; (try dsimp only at hSw); go_simp; try with_reducible rfl)
    try simp only [Act.put, List.setIfInBounds_toArray, List.set_cons_zero, List.set_cons_succ]
    refine wpAnyH_ready (rs := [23]) (by kernel_rfl) (by simp) ?_
    refine AllReadyH.cons (by (simp only [List.getElem?_toArray, List.getElem?_cons_succ, List.getElem?_cons_zero]; rfl)) (fun K hK => ?_) AllReadyH.nil
    go_simp
    refine (snap_any g d y10 w11 HD11.out).mono ?_
    rintro e w12 ⟨A8, c8, rfl, ho, hb⟩
    have HD12 := Lib.hid (HD11.out.chg0 (Chg.of_below hb))
    have HB12 := Lib.hid (HB11.out.trans (hb.mono hs11))
    have z8 : (convert 22 9 (.slice A8 d.snap.length c8)).run Tryd.prog w12 = .ok (.string (str d.snap)) w12 := zc (bytesIn_of_own ho).2 (bytesIn_of_own ho).1
    have z78 : (convert 22 9 (.slice A7 d.log.length c7)).run Tryd.prog w12 = .ok (.string (str d.log)) w12 := zc ((bytesIn_of_own HO7.out).2.below hb (Nat.le_refl _)) rfl
    have j0b : w12.cell? ⟨w4.heap.size + 1, 0, none⟩ = some (.int .i64 d.c.e) := (hb.cell (p := ⟨w4.heap.size + 1, 0, none⟩) (Nat.lt_of_lt_of_le hq10 hq11)).trans j0a
    have j1b : w12.cell? ⟨w4.heap.size + 1, 1, none⟩ = some (.int .i64 d.c.h) := (hb.cell (p := ⟨w4.heap.size + 1, 1, none⟩) (Nat.lt_of_lt_of_le hq10 hq11)).trans j1a
    have j2b : w12.cell? ⟨w4.heap.size + 1, 2, none⟩ = some (.int .i64 d.c.u) := (hb.cell (p := ⟨w4.heap.size + 1, 2, none⟩) (Nat.lt_of_lt_of_le hq10 hq11)).trans j2a
    have HO8 := Lib.hid ho
    have hs12 := HB12.out.size
    have hs1112 : w11.heap.size ≤ w12.heap.size := hb.size
    have hb78 := hb
    clear ho hb
    refine hK.out _ _ ?_ (fun hHeld => ?_)
    · try dsimp only
      (refine ⟨⟨?_, ?_, ?_⟩, ?_⟩ <;> (first | with_reducible assumption))
    clear hK K
    try simp only [Act.put, List.setIfInBounds_toArray, List.set_cons_zero, List.set_cons_succ]
    refine wpAnyH_weaken (S' := fun w' => ((fun w' => ((fun w' => w'.cell? ⟨w4.heap.size + 1, 0, none⟩ = some (.int .i64 d.c.e) ∧ w'.cell? ⟨w4.heap.size + 1, 1, none⟩ = some (.int .i64 d.c.h) ∧ w'.cell? ⟨w4.heap.size + 1, 2, none⟩ = some (.int .i64 d.c.u)) w') ∧ ((convert 22 9 (.slice A7 d.log.length c7)).run Tryd.prog w' = .ok (.string (str d.log)) w')) w') ∧ ((convert 22 9 (.slice A8 d.snap.length c8)).run Tryd.prog w' = .ok (.string (str d.snap)) w')) (fun _ h => h.1) ?_
    have hHeld := (show (fun w' => ((fun w' => ((fun w' => w'.cell? ⟨w4.heap.size + 1, 0, none⟩ = some (.int .i64 d.c.e) ∧ w'.cell? ⟨w4.heap.size + 1, 1, none⟩ = some (.int .i64 d.c.h) ∧ w'.cell? ⟨w4.heap.size + 1, 2, none⟩ = some (.int .i64 d.c.u)) w') ∧ ((convert 22 9 (.slice A7 d.log.length c7)).run Tryd.prog w' = .ok (.string (str d.log)) w')) w') ∧ ((convert 22 9 (.slice A8 d.snap.length c8)).run Tryd.prog w' = .ok (.string (str d.snap)) w')) _ from ⟨hHeld, z8⟩)
    refine wpAnyH_take (i := 24) (v := ?_) (by (simp only [List.getElem?_toArray, List.getElem?_cons_succ, List.getElem?_cons_zero]; rfl)) (by kernel_rfl) (by kernel_rfl) (by kernel_rfl) (fun _ _ _ h => h) (Or.inl ⟨by rfl, ?_⟩) (by assumption) ?_
    rotate_left
    · (intro w hSw; (try dsimp only at hSw); go_simp; try with_reducible rfl)
    try simp only [Act.put, List.setIfInBounds_toArray, List.set_cons_zero, List.set_cons_succ]
    refine wpAnyH_take (i := 26) (v := ?_) (by (simp only [List.getElem?_toArray, List.getElem?_cons_succ, List.getElem?_cons_zero]; rfl)) (by kernel_rfl) (by kernel_rfl) (by kernel_rfl) (fun _ _ _ h => h) (Or.inl ⟨by rfl, ?_⟩) (by assumption) ?_
    rotate_left
    · (intro w hSw; (try dsimp only at hSw); go_simp; try with_reducible rfl)
    try simp only [Act.put, List.setIfInBounds_toArray, List.set_cons_zero, List.set_cons_succ]
    refine wpAnyH_take (i := 27) (v := ?_) (by (simp only [List.getElem?_toArray, List.getElem?_cons_succ, List.getElem?_cons_zero]; rfl)) (by kernel_rfl) (by kernel_rfl) (by kernel_rfl) (fun _ _ _ h => h) (Or.inl ⟨by rfl, ?_⟩) (by assumption) ?_
    rotate_left
    · (intro w hSw; (try dsimp only at hSw); go_simp; try with_reducible rfl)
    try simp only [Act.put, List.setIfInBounds_toArray, List.set_cons_zero, List.set_cons_succ]
    refine wpAnyH_take (i := 28) (v := ?_) (by (simp only [List.getElem?_toArray, List.getElem?_cons_succ, List.getElem?_cons_zero]; rfl)) (by kernel_rfl) (by kernel_rfl) (by kernel_rfl) (fun _ _ _ h => h) (Or.inl ⟨by rfl, ?_⟩) (by assumption) ?_
    rotate_left
    · (intro w hSw; (try dsimp only at hSw); go_simp; try with_reducible rfl)
    try simp only [Act.put, List.setIfInBounds_toArray, List.set_cons_zero, List.set_cons_succ]
    refine wpAnyH_take (i := 29) (v := ?_) (by (simp only [List.getElem?_toArray, List.getElem?_cons_succ, List.getElem?_cons_zero]; rfl)) (by kernel_rfl) (by kernel_rfl) (by kernel_rfl) (fun _ _ _ h => h) (Or.inl ⟨by rfl, ?_⟩) (by assumption) ?_
    rotate_left
    · (intro w hSw; (try dsimp only at hSw); go_simp; try with_reducible rfl)
    try simp only [Act.put, List.setIfInBounds_toArray, List.set_cons_zero, List.set_cons_succ]
    refine wpAnyH_take (i := 31) (v := ?_) (by (simp only [List.getElem?_toArray, List.getElem?_cons_succ, List.getElem?_cons_zero]; rfl)) (by kernel_rfl) (by kernel_rfl) (by kernel_rfl) (fun _ _ _ h => h) (Or.inl ⟨by rfl, ?_⟩) (by assumption) ?_
    rotate_left
    · (intro w hSw; (try dsimp only at hSw); go_simp; try with_reducible rfl)
    try simp only [Act.put, List.setIfInBounds_toArray, List.set_cons_zero, List.set_cons_succ]
    refine wpAnyH_ready (rs := [30]) (by kernel_rfl) (by simp) ?_
    refine AllReadyH.cons (by (simp only [List.getElem?_toArray, List.getElem?_cons_succ, List.getElem?_cons_zero]; rfl)) (fun K hK => ?_) AllReadyH.nil
    go_simp
    refine (claim_any g d y10 w12 HD12.out).mono ?_
    rintro e w13 ⟨rfl, hw13⟩
    have hb : Below w12.heap.size w12 w13 := by rw [← hw13]; exact (Below.refl w12.heap.size w12).alloc (Nat.le_refl _) _
    have HB13 := Lib.hid (HB12.out.trans (hb.mono hs12))
    have z8c : (convert 22 9 (.slice A8 d.snap.length c8)).run Tryd.prog w13 = .ok (.string (str d.snap)) w13 := zc ((bytesIn_of_own HO8.out).2.below hb (Nat.le_refl _)) rfl
    have z78c : (convert 22 9 (.slice A7 d.log.length c7)).run Tryd.prog w13 = .ok (.string (str d.log)) w13 := zc ((bytesIn_of_own HO7.out).2.below (hb78.trans (hb.mono hs1112)) (Nat.le_refl _)) rfl
    have j0c : w13.cell? ⟨w4.heap.size + 1, 0, none⟩ = some (.int .i64 d.c.e) := (hb.cell (p := ⟨w4.heap.size + 1, 0, none⟩) (Nat.lt_of_lt_of_le hq10 (Nat.le_trans hq11 hs1112))).trans j0b
    have j1c : w13.cell? ⟨w4.heap.size + 1, 1, none⟩ = some (.int .i64 d.c.h) := (hb.cell (p := ⟨w4.heap.size + 1, 1, none⟩) (Nat.lt_of_lt_of_le hq10 (Nat.le_trans hq11 hs1112))).trans j1b
    have j2c : w13.cell? ⟨w4.heap.size + 1, 2, none⟩ = some (.int .i64 d.c.u) := (hb.cell (p := ⟨w4.heap.size + 1, 2, none⟩) (Nat.lt_of_lt_of_le hq10 (Nat.le_trans hq11 hs1112))).trans j2b
    clear hb hw13
    refine hK.out _ _ ?_ (fun hHeld => ?_)
    · try dsimp only
      (refine ⟨⟨⟨?_, ?_, ?_⟩, ?_⟩, ?_⟩ <;> (first | with_reducible assumption))
    clear hK K
    try simp only [Act.put, List.setIfInBounds_toArray, List.set_cons_zero, List.set_cons_succ]
    refine wpAnyH_take (i := 32) (v := ?_) (by (simp only [List.getElem?_toArray, List.getElem?_cons_succ, List.getElem?_cons_zero]; rfl)) (by kernel_rfl) (by kernel_rfl) (by kernel_rfl) (fun _ _ _ h => h) (Or.inl ⟨by rfl, ?_⟩) (by assumption) ?_
    rotate_left
    · (intro w hSw; (try dsimp only at hSw); go_simp; try with_reducible rfl)
    try simp only [Act.put, List.setIfInBounds_toArray, List.set_cons_zero, List.set_cons_succ]
    refine wpAnyH_take (i := 33) (v := ?_) (by (simp only [List.getElem?_toArray, List.getElem?_cons_succ, List.getElem?_cons_zero]; rfl)) (by kernel_rfl) (by kernel_rfl) (by kernel_rfl) (fun _ _ _ h => h) (Or.inl ⟨by rfl, ?_⟩) (by assumption) ?_
    rotate_left
    · (intro w hSw; (try dsimp only at hSw); go_simp; try with_reducible rfl)
    try simp only [Act.put, List.setIfInBounds_toArray, List.set_cons_zero, List.set_cons_succ]
    refine wpAnyH_take (i := 34) (v := ?_) (by (simp only [List.getElem?_toArray, List.getElem?_cons_succ, List.getElem?_cons_zero]; rfl)) (by kernel_rfl) (by kernel_rfl) (by kernel_rfl) (fun _ _ _ h => h) (Or.inl ⟨by rfl, ?_⟩) (by assumption) ?_
    rotate_left
    · (intro w hSw; (try dsimp only at hSw); go_simp; try with_reducible rfl)
    try simp only [Act.put, List.setIfInBounds_toArray, List.set_cons_zero, List.set_cons_succ]
    refine wpAnyH_done (by kernel_rfl) ?_ _
    refine NoPanic.normal ?_
    clear hHeld
    go_wp2_with fail
    go_ret
    exact ⟨rfl, HB13.out⟩
  · have b1 : (s.ep == d.c.e) = false := by rw [beq_eq_false_iff_ne]; exact he
    go_wp2_with fail
    refine hcl.mono ?_
    rintro e w' ⟨rfl, rfl⟩
    go_wp2_with fail
    have hne : s.ep ≠ d.c.e := he
    have HX6 := HX5
    have HQ6 := HQ5
    have HD6 := HD5
    have HB6 := HB5
    clear HX5 HQ5 HD5 HB5 k2 k4 kf hcl
    generalize ((w4.alloc (.cells #[.int .i64 d.c.e, .int .i64 d.c.h, .int .i64 d.c.u] 31)).alloc (.cells #[.int .i64 d.c.e, .int .i64 d.c.h, .int .i64 d.c.u] 31)) = w6 at HD6 HX6 HQ6 HB6 ⊢
    have hqg : w4.heap.size + 1 ≠ g := by have := HGQ.out; omega
    have hs6 := HB6.out.size
    have hAny : s.b ≠ [] → ∀ ad, s.ba = some ad → ad.block ≠ g := by
      intro hb ad had
      rcases HBY.out.rd with e | ⟨b, off, e, hlt, _⟩
      · exact absurd e hb
      · rw [e] at had; injection had with had; rw [← had]; show b ≠ g; omega
    have HAN := Lib.hid hAny
    clear hAny
    refine (append_fenced g N d y s.ep (↑(str d.log).size) s.ba s.bc s.b w6 HD6.out HN.out ((HBY.out.below HB6.out (Nat.le_refl _)).more hs6) HAN.out hne).mono ?_
    rintro e w7 ⟨rfl, y7, hd, F⟩
    have HX7 : Hid (w7.heap[w.heap.size]? = some (.cells #[.int .i64 s.kind, .bool s.near, .int .i64 s.ep, .int .i64 s.at_, .slice s.ba N s.bc, .int .u32 s.sum, .int .i64 s.o.e, .int .i64 s.o.h, .int .i64 s.o.u, .int .i64 s.c.e, .int .i64 s.c.h, .int .i64 s.c.u] 47 (0, 0))) := Lib.hid (footKeep HX6.out (by decide) HD6.out (by omega) F)
    have HQ7 : Hid (w7.heap[w4.heap.size + 1]? = some (.cells #[.int .i64 d.c.e, .int .i64 d.c.h, .int .i64 d.c.u] 31 (0, 0))) := Lib.hid (footKeep HQ6.out (by decide) HD6.out (by omega) F)
    have HB7 := Lib.hid (HB6.out.trans (F.below (by omega) HD6.out))
    have HD7 := Lib.hid hd
    have hs7 := HB7.out.size
    have k2 := cellb (i := 2) HX7.out rfl
    have k4 := cellb (i := 4) HX7.out rfl
    clear hd F HD6 HX6 HQ6
    go_wp2_with fail
    clear k2 k4
    refine (chop_fenced g d y7 s.ep 0 w7 HD7.out hne).mono ?_
    rintro e w8 ⟨rfl, y8, hd, F⟩
    have HX8 : Hid (w8.heap[w.heap.size]? = some (.cells #[.int .i64 s.kind, .bool s.near, .int .i64 s.ep, .int .i64 s.at_, .slice s.ba N s.bc, .int .u32 s.sum, .int .i64 s.o.e, .int .i64 s.o.h, .int .i64 s.o.u, .int .i64 s.c.e, .int .i64 s.c.h, .int .i64 s.c.u] 47 (0, 0))) := Lib.hid (footKeep HX7.out (by decide) HD7.out (by omega) F)
    have HQ8 : Hid (w8.heap[w4.heap.size + 1]? = some (.cells #[.int .i64 d.c.e, .int .i64 d.c.h, .int .i64 d.c.u] 31 (0, 0))) := Lib.hid (footKeep HQ7.out (by decide) HD7.out (by omega) F)
    have HB8 := Lib.hid (HB7.out.trans (F.below (by omega) HD7.out))
    have HD8 := Lib.hid hd
    have hs8 := HB8.out.size
    have k2 := cellb (i := 2) HX8.out rfl
    have k4 := cellb (i := 4) HX8.out rfl
    clear hd F HD7 HX7 HQ7
    go_wp2_with fail
    clear k2 k4
    refine (stage_fenced g N d y8 s.ep s.ba s.bc s.b w8 HD8.out HN.out ((HBY.out.below HB8.out (Nat.le_refl _)).more hs8) HAN.out hne).mono ?_
    rintro e w9 ⟨rfl, y9, hd, F⟩
    have HX9 : Hid (w9.heap[w.heap.size]? = some (.cells #[.int .i64 s.kind, .bool s.near, .int .i64 s.ep, .int .i64 s.at_, .slice s.ba N s.bc, .int .u32 s.sum, .int .i64 s.o.e, .int .i64 s.o.h, .int .i64 s.o.u, .int .i64 s.c.e, .int .i64 s.c.h, .int .i64 s.c.u] 47 (0, 0))) := Lib.hid (footKeep HX8.out (by decide) HD8.out (by omega) F)
    have HQ9 : Hid (w9.heap[w4.heap.size + 1]? = some (.cells #[.int .i64 d.c.e, .int .i64 d.c.h, .int .i64 d.c.u] 31 (0, 0))) := Lib.hid (footKeep HQ8.out (by decide) HD8.out (by omega) F)
    have HB9 := Lib.hid (HB8.out.trans (F.below (by omega) HD8.out))
    have HD9 := Lib.hid hd
    have hs9 := HB9.out.size
    have k2 := cellb (i := 2) HX9.out rfl
    have k4 := cellb (i := 4) HX9.out rfl
    clear hd F HD8 HX8 HQ8
    go_wp2_with fail
    have k2d : w9.drew.cell? ⟨w.heap.size, 2, none⟩ = some (.int .i64 s.ep) := k2
    have k4d : w9.drew.cell? ⟨w.heap.size, 4, none⟩ = some (.slice s.ba N s.bc) := k4
    have HD9d := Lib.hid (HD9.out.chg0 ((Chg.refl NoBlk w9).drew))
    have HX9d : Hid (w9.drew.heap[w.heap.size]? = some (.cells #[.int .i64 s.kind, .bool s.near, .int .i64 s.ep, .int .i64 s.at_, .slice s.ba N s.bc, .int .u32 s.sum, .int .i64 s.o.e, .int .i64 s.o.h, .int .i64 s.o.u, .int .i64 s.c.e, .int .i64 s.c.h, .int .i64 s.c.u] 47 (0, 0))) := HX9
    have HQ9d : Hid (w9.drew.heap[w4.heap.size + 1]? = some (.cells #[.int .i64 d.c.e, .int .i64 d.c.h, .int .i64 d.c.u] 31 (0, 0))) := HQ9
    refine wp_region_noPanic ?_
    refine wp_region_held_drew (S := fun w' => w'.cell? ⟨w.heap.size, 2, none⟩ = some (.int .i64 s.ep) ∧ w'.cell? ⟨w.heap.size, 4, none⟩ = some (.slice s.ba N s.bc)) (by kernel_rfl) ?_ (fun hHeld => ?_)
    · try dsimp only
      (refine ⟨?_, ?_⟩ <;> (first | with_reducible assumption))
    refine wpAnyH_take (i := 0) (v := ?_) (by (simp only [List.getElem?_toArray, List.getElem?_cons_zero]; rfl)) (by kernel_rfl) (by kernel_rfl) (by kernel_rfl) (fun _ _ _ h => h) (Or.inl ⟨by rfl, ?_⟩) (by assumption) ?_
    rotate_left
    · (intro w hSw; (try dsimp only at hSw); go_simp; try with_reducible rfl)
    try simp only [Act.put, List.setIfInBounds_toArray, List.set_cons_zero, List.set_cons_succ]
    refine wpAnyH_take (i := 1) (v := ?_) (by (simp only [List.getElem?_toArray, List.getElem?_cons_succ, List.getElem?_cons_zero]; rfl)) (by kernel_rfl) (by kernel_rfl) (by kernel_rfl) (fun _ _ _ h => h) (Or.inl ⟨by rfl, ?_⟩) (by assumption) ?_
    rotate_left
    · (intro w hSw; (try dsimp only at hSw); go_simp; try with_reducible rfl)
    try simp only [Act.put, List.setIfInBounds_toArray, List.set_cons_zero, List.set_cons_succ]
    refine wpAnyH_take (i := 2) (v := ?_) (by (simp only [List.getElem?_toArray, List.getElem?_cons_succ, List.getElem?_cons_zero]; rfl)) (by kernel_rfl) (by kernel_rfl) (by kernel_rfl) (fun _ _ _ h => h) (Or.inl ⟨by rfl, ?_⟩) (by assumption) ?_
    rotate_left
    · (intro w hSw; (try dsimp only at hSw); go_simp; try with_reducible rfl)
    try simp only [Act.put, List.setIfInBounds_toArray, List.set_cons_zero, List.set_cons_succ]
    refine wpAnyH_take (i := 3) (v := ?_) (by (simp only [List.getElem?_toArray, List.getElem?_cons_succ, List.getElem?_cons_zero]; rfl)) (by kernel_rfl) (by kernel_rfl) (by kernel_rfl) (fun _ _ _ h => h) (Or.inl ⟨by rfl, ?_⟩) (by assumption) ?_
    rotate_left
    · (intro w hSw; (try dsimp only at hSw); go_simp; try with_reducible rfl)
    try simp only [Act.put, List.setIfInBounds_toArray, List.set_cons_zero, List.set_cons_succ]
    refine wpAnyH_take (i := 4) (v := ?_) (by (simp only [List.getElem?_toArray, List.getElem?_cons_succ, List.getElem?_cons_zero]; rfl)) (by kernel_rfl) (by kernel_rfl) (by kernel_rfl) (fun _ _ _ h => h) (Or.inl ⟨by rfl, ?_⟩) (by assumption) ?_
    rotate_left
    · (intro w hSw; (try dsimp only at hSw); go_simp; try with_reducible rfl)
    try simp only [Act.put, List.setIfInBounds_toArray, List.set_cons_zero, List.set_cons_succ]
    refine wpAnyH_ready (rs := [5]) (by kernel_rfl) (by simp) ?_
    refine AllReadyH.cons (by (simp only [List.getElem?_toArray, List.getElem?_cons_succ, List.getElem?_cons_zero]; rfl)) (fun K hK => ?_) AllReadyH.nil
    go_simp
    refine (rsum_n s.ba s.bc N s.b w9.drew w9.heap.size ((HBY.out.below HB9.out (Nat.le_refl _)).more hs9).drew HN.out).mono ?_
    rintro e w' ⟨rfl, rfl⟩
    refine hK.out _ _ ?_ (fun hHeld => ?_)
    · try dsimp only
      (refine ⟨?_, ?_⟩ <;> (first | with_reducible assumption))
    clear hK K
    try simp only [Act.put, List.setIfInBounds_toArray, List.set_cons_zero, List.set_cons_succ]
    refine wpAnyH_ready (rs := [6]) (by kernel_rfl) (by simp) ?_
    refine AllReadyH.cons (by (simp only [List.getElem?_toArray, List.getElem?_cons_succ, List.getElem?_cons_zero]; rfl)) (fun K hK => ?_) AllReadyH.nil
    go_simp
    refine (commit_fenced g d y9 s.ep (crc s.b : Int) 0 w9.drew HD9d.out (HH.out.below HB9.out.drew h0w) (by show 0 < w9.heap.size; omega) hne).mono ?_
    rintro e w10 ⟨rfl, y10, hd, F⟩
    have HX10 : Hid (w10.heap[w.heap.size]? = some (.cells #[.int .i64 s.kind, .bool s.near, .int .i64 s.ep, .int .i64 s.at_, .slice s.ba N s.bc, .int .u32 s.sum, .int .i64 s.o.e, .int .i64 s.o.h, .int .i64 s.o.u, .int .i64 s.c.e, .int .i64 s.c.h, .int .i64 s.c.u] 47 (0, 0))) := Lib.hid (footKeep HX9d.out (by decide) HD9d.out (by omega) F)
    have HQ10 : Hid (w10.heap[w4.heap.size + 1]? = some (.cells #[.int .i64 d.c.e, .int .i64 d.c.h, .int .i64 d.c.u] 31 (0, 0))) := Lib.hid (footKeep HQ9d.out (by decide) HD9d.out (by omega) F)
    have HB10 := Lib.hid (HB9.out.drew.trans (F.below (by omega) HD9d.out))
    have HD10 := Lib.hid hd
    have hs10 := HB10.out.size
    have k2e : w10.cell? ⟨w.heap.size, 2, none⟩ = some (.int .i64 s.ep) := cellb (i := 2) HX10.out rfl
    have k4e : w10.cell? ⟨w.heap.size, 4, none⟩ = some (.slice s.ba N s.bc) := cellb (i := 4) HX10.out rfl
    clear hd F
    refine hK.out _ _ ?_ (fun hHeld => ?_)
    · try dsimp only
      (refine ⟨?_, ?_⟩ <;> (first | with_reducible assumption))
    clear hK K
    try simp only [Act.put, List.setIfInBounds_toArray, List.set_cons_zero, List.set_cons_succ]
    refine wpAnyH_take (i := 7) (v := ?_) (by (simp only [List.getElem?_toArray, List.getElem?_cons_succ, List.getElem?_cons_zero]; rfl)) (by kernel_rfl) (by kernel_rfl) (by kernel_rfl) (fun _ _ _ h => h) (Or.inl ⟨by rfl, ?_⟩) (by assumption) ?_
    rotate_left
    · (intro w hSw; (try dsimp only at hSw); go_simp; try with_reducible rfl)
    try simp only [Act.put, List.setIfInBounds_toArray, List.set_cons_zero, List.set_cons_succ]
    refine wpAnyH_done (by kernel_rfl) ?_ _
    refine NoPanic.normal ?_
    clear k2 k4 k2d k4d k2e k4e hHeld HX9 HX9d HQ9 HQ9d HD9 HD9d HX10 HN HBY
    go_wp2_with fail
    have j0 : w10.drew.cell? ⟨w4.heap.size + 1, 0, none⟩ = some (.int .i64 d.c.e) := cellb (i := 0) HQ10.out rfl
    have j1 : w10.drew.cell? ⟨w4.heap.size + 1, 1, none⟩ = some (.int .i64 d.c.h) := cellb (i := 1) HQ10.out rfl
    have j2 : w10.drew.cell? ⟨w4.heap.size + 1, 2, none⟩ = some (.int .i64 d.c.u) := cellb (i := 2) HQ10.out rfl
    have HD10d := Lib.hid (HD10.out.chg0 ((Chg.refl NoBlk w10).drew))
    have hq10 : w4.heap.size + 1 < w10.drew.heap.size := (Array.getElem?_eq_some_iff.1 HQ10.out).1
    refine wp_region_noPanic ?_
    refine wp_region_held_drew (S := fun w' => w'.cell? ⟨w4.heap.size + 1, 0, none⟩ = some (.int .i64 d.c.e) ∧ w'.cell? ⟨w4.heap.size + 1, 1, none⟩ = some (.int .i64 d.c.h) ∧ w'.cell? ⟨w4.heap.size + 1, 2, none⟩ = some (.int .i64 d.c.u)) (by kernel_rfl) ?_ (fun hHeld => ?_)
    · try dsimp only
      (refine ⟨?_, ?_, ?_⟩ <;> (first | with_reducible assumption))
    refine wpAnyH_take (i := 0) (v := ?_) (by (simp only [List.getElem?_toArray, List.getElem?_cons_zero]; rfl)) (by kernel_rfl) (by kernel_rfl) (by kernel_rfl) (fun _ _ _ h => h) (Or.inl ⟨by rfl, ?_⟩) (by assumption) ?_
    rotate_left
    · (intro w hSw; (try dsimp only at hSw); go_simp; try with_reducible rfl)
    try simp only [Act.put, List.setIfInBounds_toArray, List.set_cons_zero, List.set_cons_succ]
    refine wpAnyH_take (i := 1) (v := ?_) (by (simp only [List.getElem?_toArray, List.getElem?_cons_succ, List.getElem?_cons_zero]; rfl)) (by kernel_rfl) (by kernel_rfl) (by kernel_rfl) (fun _ _ _ h => h) (Or.inl ⟨by rfl, ?_⟩) (by assumption) ?_
    rotate_left
    · (intro w hSw; (try dsimp only at hSw); go_simp; try with_reducible rfl)
    try simp only [Act.put, List.setIfInBounds_toArray, List.set_cons_zero, List.set_cons_succ]
    refine wpAnyH_take (i := 2) (v := ?_) (by (simp only [List.getElem?_toArray, List.getElem?_cons_succ, List.getElem?_cons_zero]; rfl)) (by kernel_rfl) (by kernel_rfl) (by kernel_rfl) (fun _ _ _ h => h) (Or.inl ⟨by rfl, ?_⟩) (by assumption) ?_
    rotate_left
    · (intro w hSw; (try dsimp only at hSw); go_simp; try with_reducible rfl)
    try simp only [Act.put, List.setIfInBounds_toArray, List.set_cons_zero, List.set_cons_succ]
    refine wpAnyH_take (i := 3) (v := ?_) (by (simp only [List.getElem?_toArray, List.getElem?_cons_succ, List.getElem?_cons_zero]; rfl)) (by kernel_rfl) (by kernel_rfl) (by kernel_rfl) (fun _ _ _ h => h) (Or.inl ⟨by rfl, ?_⟩) (by assumption) ?_
    rotate_left
    · (intro w hSw; (try dsimp only at hSw); go_simp; try with_reducible rfl)
    try simp only [Act.put, List.setIfInBounds_toArray, List.set_cons_zero, List.set_cons_succ]
    refine wpAnyH_take (i := 4) (v := ?_) (by (simp only [List.getElem?_toArray, List.getElem?_cons_succ, List.getElem?_cons_zero]; rfl)) (by kernel_rfl) (by kernel_rfl) (by kernel_rfl) (fun _ _ _ h => h) (Or.inl ⟨by rfl, ?_⟩) (by assumption) ?_
    rotate_left
    · (intro w hSw; (try dsimp only at hSw); go_simp; try with_reducible rfl)
    try simp only [Act.put, List.setIfInBounds_toArray, List.set_cons_zero, List.set_cons_succ]
    refine wpAnyH_take (i := 5) (v := ?_) (by (simp only [List.getElem?_toArray, List.getElem?_cons_succ, List.getElem?_cons_zero]; rfl)) (by kernel_rfl) (by kernel_rfl) (by kernel_rfl) (fun _ _ _ h => h) (Or.inl ⟨by rfl, ?_⟩) (by assumption) ?_
    rotate_left
    · (intro w hSw; (try dsimp only at hSw); go_simp; try with_reducible rfl)
    try simp only [Act.put, List.setIfInBounds_toArray, List.set_cons_zero, List.set_cons_succ]
    refine wpAnyH_take (i := 6) (v := ?_) (by (simp only [List.getElem?_toArray, List.getElem?_cons_succ, List.getElem?_cons_zero]; rfl)) (by kernel_rfl) (by kernel_rfl) (by kernel_rfl) (fun _ _ _ h => h) (Or.inl ⟨by rfl, ?_⟩) (by assumption) ?_
    rotate_left
    · (intro w hSw; (try dsimp only at hSw); go_simp; try with_reducible rfl)
    try simp only [Act.put, List.setIfInBounds_toArray, List.set_cons_zero, List.set_cons_succ]
    refine wpAnyH_take (i := 7) (v := ?_) (by (simp only [List.getElem?_toArray, List.getElem?_cons_succ, List.getElem?_cons_zero]; rfl)) (by kernel_rfl) (by kernel_rfl) (by kernel_rfl) (fun _ _ _ h => h) (Or.inl ⟨by rfl, ?_⟩) (by assumption) ?_
    rotate_left
    · (intro w hSw; (try dsimp only at hSw); go_simp; try with_reducible rfl)
    try simp only [Act.put, List.setIfInBounds_toArray, List.set_cons_zero, List.set_cons_succ]
    refine wpAnyH_take (i := 8) (v := ?_) (by (simp only [List.getElem?_toArray, List.getElem?_cons_succ, List.getElem?_cons_zero]; rfl)) (by kernel_rfl) (by kernel_rfl) (by kernel_rfl) (fun _ _ _ h => h) (Or.inl ⟨by rfl, ?_⟩) (by assumption) ?_
    rotate_left
    · (intro w hSw; (try dsimp only at hSw); go_simp; try with_reducible rfl)
    try simp only [Act.put, List.setIfInBounds_toArray, List.set_cons_zero, List.set_cons_succ]
    refine wpAnyH_take (i := 9) (v := ?_) (by (simp only [List.getElem?_toArray, List.getElem?_cons_succ, List.getElem?_cons_zero]; rfl)) (by kernel_rfl) (by kernel_rfl) (by kernel_rfl) (fun _ _ _ h => h) (Or.inl ⟨by rfl, ?_⟩) (by assumption) ?_
    rotate_left
    · (intro w hSw; (try dsimp only at hSw); go_simp; try with_reducible rfl)
    try simp only [Act.put, List.setIfInBounds_toArray, List.set_cons_zero, List.set_cons_succ]
    refine wpAnyH_take (i := 10) (v := ?_) (by (simp only [List.getElem?_toArray, List.getElem?_cons_succ, List.getElem?_cons_zero]; rfl)) (by kernel_rfl) (by kernel_rfl) (by kernel_rfl) (fun _ _ _ h => h) (Or.inl ⟨by rfl, ?_⟩) (by assumption) ?_
    rotate_left
    · (intro w hSw; (try dsimp only at hSw); go_simp; try with_reducible rfl)
    try simp only [Act.put, List.setIfInBounds_toArray, List.set_cons_zero, List.set_cons_succ]
    refine wpAnyH_take (i := 11) (v := ?_) (by (simp only [List.getElem?_toArray, List.getElem?_cons_succ, List.getElem?_cons_zero]; rfl)) (by kernel_rfl) (by kernel_rfl) (by kernel_rfl) (fun _ _ _ h => h) (Or.inl ⟨by rfl, ?_⟩) (by assumption) ?_
    rotate_left
    · (intro w hSw; (try dsimp only at hSw); go_simp; try with_reducible rfl)
    try simp only [Act.put, List.setIfInBounds_toArray, List.set_cons_zero, List.set_cons_succ]
    refine wpAnyH_take (i := 12) (v := ?_) (by (simp only [List.getElem?_toArray, List.getElem?_cons_succ, List.getElem?_cons_zero]; rfl)) (by kernel_rfl) (by kernel_rfl) (by kernel_rfl) (fun _ _ _ h => h) (Or.inl ⟨by rfl, ?_⟩) (by assumption) ?_
    rotate_left
    · (intro w hSw; (try dsimp only at hSw); go_simp; try with_reducible rfl)
    try simp only [Act.put, List.setIfInBounds_toArray, List.set_cons_zero, List.set_cons_succ]
    refine wpAnyH_take (i := 13) (v := ?_) (by (simp only [List.getElem?_toArray, List.getElem?_cons_succ, List.getElem?_cons_zero]; rfl)) (by kernel_rfl) (by kernel_rfl) (by kernel_rfl) (fun _ _ _ h => h) (Or.inl ⟨by rfl, ?_⟩) (by assumption) ?_
    rotate_left
    · (intro w hSw; (try dsimp only at hSw); go_simp; try with_reducible rfl)
    try simp only [Act.put, List.setIfInBounds_toArray, List.set_cons_zero, List.set_cons_succ]
    refine wpAnyH_take (i := 14) (v := ?_) (by (simp only [List.getElem?_toArray, List.getElem?_cons_succ, List.getElem?_cons_zero]; rfl)) (by kernel_rfl) (by kernel_rfl) (by kernel_rfl) (fun _ _ _ h => h) (Or.inl ⟨by rfl, ?_⟩) (by assumption) ?_
    rotate_left
    · (intro w hSw; (try dsimp only at hSw); go_simp; try with_reducible rfl)
    try simp only [Act.put, List.setIfInBounds_toArray, List.set_cons_zero, List.set_cons_succ]
    refine wpAnyH_take (i := 15) (v := ?_) (by (simp only [List.getElem?_toArray, List.getElem?_cons_succ, List.getElem?_cons_zero]; rfl)) (by kernel_rfl) (by kernel_rfl) (by kernel_rfl) (fun _ _ _ h => h) (Or.inl ⟨by rfl, ?_⟩) (by assumption) ?_
    rotate_left
    · (intro w hSw; (try dsimp only at hSw); go_simp; try with_reducible rfl)
    try simp only [Act.put, List.setIfInBounds_toArray, List.set_cons_zero, List.set_cons_succ]
    refine wpAnyH_take (i := 18) (v := ?_) (by (simp only [List.getElem?_toArray, List.getElem?_cons_succ, List.getElem?_cons_zero]; rfl)) (by kernel_rfl) (by kernel_rfl) (by kernel_rfl) (fun _ _ _ h => h) (Or.inl ⟨by rfl, ?_⟩) (by assumption) ?_
    rotate_left
    · (intro w hSw; (try dsimp only at hSw); go_simp; try with_reducible rfl)
    try simp only [Act.put, List.setIfInBounds_toArray, List.set_cons_zero, List.set_cons_succ]
    refine wpAnyH_ready (rs := [16]) (by kernel_rfl) (by simp) ?_
    refine AllReadyH.cons (by (simp only [List.getElem?_toArray, List.getElem?_cons_succ, List.getElem?_cons_zero]; rfl)) (fun K hK => ?_) AllReadyH.nil
    go_simp
    refine (log_any g d y10 w10.drew HD10d.out).mono ?_
    rintro e w11 ⟨A7, c7, rfl, ho, hb⟩
    have HD11 := Lib.hid (HD10d.out.chg0 (Chg.of_below hb))
    have HB11 := Lib.hid (HB10.out.drew.trans (hb.mono hs10))
    have hs11 := HB11.out.size
    have z7 : (convert 22 9 (.slice A7 d.log.length c7)).run Tryd.prog w11 = .ok (.string (str d.log)) w11 := zc (bytesIn_of_own ho).2 (bytesIn_of_own ho).1
    have HO7 := Lib.hid ho
    have j0a : w11.cell? ⟨w4.heap.size + 1, 0, none⟩ = some (.int .i64 d.c.e) := (hb.cell (p := ⟨w4.heap.size + 1, 0, none⟩) hq10).trans j0
    have j1a : w11.cell? ⟨w4.heap.size + 1, 1, none⟩ = some (.int .i64 d.c.h) := (hb.cell (p := ⟨w4.heap.size + 1, 1, none⟩) hq10).trans j1
    have j2a : w11.cell? ⟨w4.heap.size + 1, 2, none⟩ = some (.int .i64 d.c.u) := (hb.cell (p := ⟨w4.heap.size + 1, 2, none⟩) hq10).trans j2
    have hq11 : w10.heap.size ≤ w11.heap.size := hb.size
    clear ho hb
    refine hK.out _ _ ?_ (fun hHeld => ?_)
    · try dsimp only
      (refine ⟨?_, ?_, ?_⟩ <;> (first | with_reducible assumption))
    clear hK K
    try simp only [Act.put, List.setIfInBounds_toArray, List.set_cons_zero, List.set_cons_succ]
    refine wpAnyH_weaken (S' := fun w' => ((fun w' => w'.cell? ⟨w4.heap.size + 1, 0, none⟩ = some (.int .i64 d.c.e) ∧ w'.cell? ⟨w4.heap.size + 1, 1, none⟩ = some (.int .i64 d.c.h) ∧ w'.cell? ⟨w4.heap.size + 1, 2, none⟩ = some (.int .i64 d.c.u)) w') ∧ ((convert 22 9 (.slice A7 d.log.length c7)).run Tryd.prog w' = .ok (.string (str d.log)) w')) (fun _ h => h.1) ?_
    have hHeld := (show (fun w' => ((fun w' => w'.cell? ⟨w4.heap.size + 1, 0, none⟩ = some (.int .i64 d.c.e) ∧ w'.cell? ⟨w4.heap.size + 1, 1, none⟩ = some (.int .i64 d.c.h) ∧ w'.cell? ⟨w4.heap.size + 1, 2, none⟩ = some (.int .i64 d.c.u)) w') ∧ ((convert 22 9 (.slice A7 d.log.length c7)).run Tryd.prog w' = .ok (.string (str d.log)) w')) _ from ⟨hHeld, z7⟩)
    refine wpAnyH_take (i := 17) (v := ?_) (by (simp only [List.getElem?_toArray, List.getElem?_cons_succ, List.getElem?_cons_zero]; rfl)) (by kernel_rfl) (by kernel_rfl) (by kernel_rfl) (fun _ _ _ h => h) (Or.inl ⟨by rfl, ?_⟩) (by assumption) ?_
    rotate_left
    · (intro w hSw; (try dsimp only at hSw); go_simp; try with_reducible rfl)
    try simp only [Act.put, List.setIfInBounds_toArray, List.set_cons_zero, List.set_cons_succ]
    refine wpAnyH_take (i := 19) (v := ?_) (by (simp only [List.getElem?_toArray, List.getElem?_cons_succ, List.getElem?_cons_zero]; rfl)) (by kernel_rfl) (by kernel_rfl) (by kernel_rfl) (fun _ _ _ h => h) (Or.inl ⟨by rfl, ?_⟩) (by assumption) ?_
    rotate_left
    · (intro w hSw; (try dsimp only at hSw); go_simp; try with_reducible rfl)
    try simp only [Act.put, List.setIfInBounds_toArray, List.set_cons_zero, List.set_cons_succ]
    refine wpAnyH_take (i := 20) (v := ?_) (by (simp only [List.getElem?_toArray, List.getElem?_cons_succ, List.getElem?_cons_zero]; rfl)) (by kernel_rfl) (by kernel_rfl) (by kernel_rfl) (fun _ _ _ h => h) (Or.inl ⟨by rfl, ?_⟩) (by assumption) ?_
    rotate_left
    · (intro w hSw; (try dsimp only at hSw); go_simp; try with_reducible rfl)
    try simp only [Act.put, List.setIfInBounds_toArray, List.set_cons_zero, List.set_cons_succ]
    refine wpAnyH_take (i := 21) (v := ?_) (by (simp only [List.getElem?_toArray, List.getElem?_cons_succ, List.getElem?_cons_zero]; rfl)) (by kernel_rfl) (by kernel_rfl) (by kernel_rfl) (fun _ _ _ h => h) (Or.inl ⟨by rfl, ?_⟩) (by assumption) ?_
    rotate_left
    · (intro w hSw; (try dsimp only at hSw); go_simp; try with_reducible rfl)
    try simp only [Act.put, List.setIfInBounds_toArray, List.set_cons_zero, List.set_cons_succ]
    refine wpAnyH_take (i := 22) (v := ?_) (by (simp only [List.getElem?_toArray, List.getElem?_cons_succ, List.getElem?_cons_zero]; rfl)) (by kernel_rfl) (by kernel_rfl) (by kernel_rfl) (fun _ _ _ h => h) (Or.inl ⟨by rfl, ?_⟩) (by assumption) ?_
    rotate_left
    · (intro w hSw; (try dsimp only at hSw); go_simp; try with_reducible rfl)
    try simp only [Act.put, List.setIfInBounds_toArray, List.set_cons_zero, List.set_cons_succ]
    refine wpAnyH_take (i := 25) (v := ?_) (by (simp only [List.getElem?_toArray, List.getElem?_cons_succ, List.getElem?_cons_zero]; rfl)) (by kernel_rfl) (by kernel_rfl) (by kernel_rfl) (fun _ _ _ h => h) (Or.inl ⟨by rfl, ?_⟩) (by assumption) ?_
    rotate_left
    · (intro w hSw; (try dsimp only at hSw); go_simp; try with_reducible rfl)
    try simp only [Act.put, List.setIfInBounds_toArray, List.set_cons_zero, List.set_cons_succ]
    refine wpAnyH_ready (rs := [23]) (by kernel_rfl) (by simp) ?_
    refine AllReadyH.cons (by (simp only [List.getElem?_toArray, List.getElem?_cons_succ, List.getElem?_cons_zero]; rfl)) (fun K hK => ?_) AllReadyH.nil
    go_simp
    refine (snap_any g d y10 w11 HD11.out).mono ?_
    rintro e w12 ⟨A8, c8, rfl, ho, hb⟩
    have HD12 := Lib.hid (HD11.out.chg0 (Chg.of_below hb))
    have HB12 := Lib.hid (HB11.out.trans (hb.mono hs11))
    have z8 : (convert 22 9 (.slice A8 d.snap.length c8)).run Tryd.prog w12 = .ok (.string (str d.snap)) w12 := zc (bytesIn_of_own ho).2 (bytesIn_of_own ho).1
    have z78 : (convert 22 9 (.slice A7 d.log.length c7)).run Tryd.prog w12 = .ok (.string (str d.log)) w12 := zc ((bytesIn_of_own HO7.out).2.below hb (Nat.le_refl _)) rfl
    have j0b : w12.cell? ⟨w4.heap.size + 1, 0, none⟩ = some (.int .i64 d.c.e) := (hb.cell (p := ⟨w4.heap.size + 1, 0, none⟩) (Nat.lt_of_lt_of_le hq10 hq11)).trans j0a
    have j1b : w12.cell? ⟨w4.heap.size + 1, 1, none⟩ = some (.int .i64 d.c.h) := (hb.cell (p := ⟨w4.heap.size + 1, 1, none⟩) (Nat.lt_of_lt_of_le hq10 hq11)).trans j1a
    have j2b : w12.cell? ⟨w4.heap.size + 1, 2, none⟩ = some (.int .i64 d.c.u) := (hb.cell (p := ⟨w4.heap.size + 1, 2, none⟩) (Nat.lt_of_lt_of_le hq10 hq11)).trans j2a
    have HO8 := Lib.hid ho
    have hs12 := HB12.out.size
    have hs1112 : w11.heap.size ≤ w12.heap.size := hb.size
    have hb78 := hb
    clear ho hb
    refine hK.out _ _ ?_ (fun hHeld => ?_)
    · try dsimp only
      (refine ⟨⟨?_, ?_, ?_⟩, ?_⟩ <;> (first | with_reducible assumption))
    clear hK K
    try simp only [Act.put, List.setIfInBounds_toArray, List.set_cons_zero, List.set_cons_succ]
    refine wpAnyH_weaken (S' := fun w' => ((fun w' => ((fun w' => w'.cell? ⟨w4.heap.size + 1, 0, none⟩ = some (.int .i64 d.c.e) ∧ w'.cell? ⟨w4.heap.size + 1, 1, none⟩ = some (.int .i64 d.c.h) ∧ w'.cell? ⟨w4.heap.size + 1, 2, none⟩ = some (.int .i64 d.c.u)) w') ∧ ((convert 22 9 (.slice A7 d.log.length c7)).run Tryd.prog w' = .ok (.string (str d.log)) w')) w') ∧ ((convert 22 9 (.slice A8 d.snap.length c8)).run Tryd.prog w' = .ok (.string (str d.snap)) w')) (fun _ h => h.1) ?_
    have hHeld := (show (fun w' => ((fun w' => ((fun w' => w'.cell? ⟨w4.heap.size + 1, 0, none⟩ = some (.int .i64 d.c.e) ∧ w'.cell? ⟨w4.heap.size + 1, 1, none⟩ = some (.int .i64 d.c.h) ∧ w'.cell? ⟨w4.heap.size + 1, 2, none⟩ = some (.int .i64 d.c.u)) w') ∧ ((convert 22 9 (.slice A7 d.log.length c7)).run Tryd.prog w' = .ok (.string (str d.log)) w')) w') ∧ ((convert 22 9 (.slice A8 d.snap.length c8)).run Tryd.prog w' = .ok (.string (str d.snap)) w')) _ from ⟨hHeld, z8⟩)
    refine wpAnyH_take (i := 24) (v := ?_) (by (simp only [List.getElem?_toArray, List.getElem?_cons_succ, List.getElem?_cons_zero]; rfl)) (by kernel_rfl) (by kernel_rfl) (by kernel_rfl) (fun _ _ _ h => h) (Or.inl ⟨by rfl, ?_⟩) (by assumption) ?_
    rotate_left
    · (intro w hSw; (try dsimp only at hSw); go_simp; try with_reducible rfl)
    try simp only [Act.put, List.setIfInBounds_toArray, List.set_cons_zero, List.set_cons_succ]
    refine wpAnyH_take (i := 26) (v := ?_) (by (simp only [List.getElem?_toArray, List.getElem?_cons_succ, List.getElem?_cons_zero]; rfl)) (by kernel_rfl) (by kernel_rfl) (by kernel_rfl) (fun _ _ _ h => h) (Or.inl ⟨by rfl, ?_⟩) (by assumption) ?_
    rotate_left
    · (intro w hSw; (try dsimp only at hSw); go_simp; try with_reducible rfl)
    try simp only [Act.put, List.setIfInBounds_toArray, List.set_cons_zero, List.set_cons_succ]
    refine wpAnyH_take (i := 27) (v := ?_) (by (simp only [List.getElem?_toArray, List.getElem?_cons_succ, List.getElem?_cons_zero]; rfl)) (by kernel_rfl) (by kernel_rfl) (by kernel_rfl) (fun _ _ _ h => h) (Or.inl ⟨by rfl, ?_⟩) (by assumption) ?_
    rotate_left
    · (intro w hSw; (try dsimp only at hSw); go_simp; try with_reducible rfl)
    try simp only [Act.put, List.setIfInBounds_toArray, List.set_cons_zero, List.set_cons_succ]
    refine wpAnyH_take (i := 28) (v := ?_) (by (simp only [List.getElem?_toArray, List.getElem?_cons_succ, List.getElem?_cons_zero]; rfl)) (by kernel_rfl) (by kernel_rfl) (by kernel_rfl) (fun _ _ _ h => h) (Or.inl ⟨by rfl, ?_⟩) (by assumption) ?_
    rotate_left
    · (intro w hSw; (try dsimp only at hSw); go_simp; try with_reducible rfl)
    try simp only [Act.put, List.setIfInBounds_toArray, List.set_cons_zero, List.set_cons_succ]
    refine wpAnyH_take (i := 29) (v := ?_) (by (simp only [List.getElem?_toArray, List.getElem?_cons_succ, List.getElem?_cons_zero]; rfl)) (by kernel_rfl) (by kernel_rfl) (by kernel_rfl) (fun _ _ _ h => h) (Or.inl ⟨by rfl, ?_⟩) (by assumption) ?_
    rotate_left
    · (intro w hSw; (try dsimp only at hSw); go_simp; try with_reducible rfl)
    try simp only [Act.put, List.setIfInBounds_toArray, List.set_cons_zero, List.set_cons_succ]
    refine wpAnyH_take (i := 31) (v := ?_) (by (simp only [List.getElem?_toArray, List.getElem?_cons_succ, List.getElem?_cons_zero]; rfl)) (by kernel_rfl) (by kernel_rfl) (by kernel_rfl) (fun _ _ _ h => h) (Or.inl ⟨by rfl, ?_⟩) (by assumption) ?_
    rotate_left
    · (intro w hSw; (try dsimp only at hSw); go_simp; try with_reducible rfl)
    try simp only [Act.put, List.setIfInBounds_toArray, List.set_cons_zero, List.set_cons_succ]
    refine wpAnyH_ready (rs := [30]) (by kernel_rfl) (by simp) ?_
    refine AllReadyH.cons (by (simp only [List.getElem?_toArray, List.getElem?_cons_succ, List.getElem?_cons_zero]; rfl)) (fun K hK => ?_) AllReadyH.nil
    go_simp
    refine (claim_any g d y10 w12 HD12.out).mono ?_
    rintro e w13 ⟨rfl, hw13⟩
    have hb : Below w12.heap.size w12 w13 := by rw [← hw13]; exact (Below.refl w12.heap.size w12).alloc (Nat.le_refl _) _
    have HB13 := Lib.hid (HB12.out.trans (hb.mono hs12))
    have z8c : (convert 22 9 (.slice A8 d.snap.length c8)).run Tryd.prog w13 = .ok (.string (str d.snap)) w13 := zc ((bytesIn_of_own HO8.out).2.below hb (Nat.le_refl _)) rfl
    have z78c : (convert 22 9 (.slice A7 d.log.length c7)).run Tryd.prog w13 = .ok (.string (str d.log)) w13 := zc ((bytesIn_of_own HO7.out).2.below (hb78.trans (hb.mono hs1112)) (Nat.le_refl _)) rfl
    have j0c : w13.cell? ⟨w4.heap.size + 1, 0, none⟩ = some (.int .i64 d.c.e) := (hb.cell (p := ⟨w4.heap.size + 1, 0, none⟩) (Nat.lt_of_lt_of_le hq10 (Nat.le_trans hq11 hs1112))).trans j0b
    have j1c : w13.cell? ⟨w4.heap.size + 1, 1, none⟩ = some (.int .i64 d.c.h) := (hb.cell (p := ⟨w4.heap.size + 1, 1, none⟩) (Nat.lt_of_lt_of_le hq10 (Nat.le_trans hq11 hs1112))).trans j1b
    have j2c : w13.cell? ⟨w4.heap.size + 1, 2, none⟩ = some (.int .i64 d.c.u) := (hb.cell (p := ⟨w4.heap.size + 1, 2, none⟩) (Nat.lt_of_lt_of_le hq10 (Nat.le_trans hq11 hs1112))).trans j2b
    clear hb hw13
    refine hK.out _ _ ?_ (fun hHeld => ?_)
    · try dsimp only
      (refine ⟨⟨⟨?_, ?_, ?_⟩, ?_⟩, ?_⟩ <;> (first | with_reducible assumption))
    clear hK K
    try simp only [Act.put, List.setIfInBounds_toArray, List.set_cons_zero, List.set_cons_succ]
    refine wpAnyH_take (i := 32) (v := ?_) (by (simp only [List.getElem?_toArray, List.getElem?_cons_succ, List.getElem?_cons_zero]; rfl)) (by kernel_rfl) (by kernel_rfl) (by kernel_rfl) (fun _ _ _ h => h) (Or.inl ⟨by rfl, ?_⟩) (by assumption) ?_
    rotate_left
    · (intro w hSw; (try dsimp only at hSw); go_simp; try with_reducible rfl)
    try simp only [Act.put, List.setIfInBounds_toArray, List.set_cons_zero, List.set_cons_succ]
    refine wpAnyH_take (i := 33) (v := ?_) (by (simp only [List.getElem?_toArray, List.getElem?_cons_succ, List.getElem?_cons_zero]; rfl)) (by kernel_rfl) (by kernel_rfl) (by kernel_rfl) (fun _ _ _ h => h) (Or.inl ⟨by rfl, ?_⟩) (by assumption) ?_
    rotate_left
    · (intro w hSw; (try dsimp only at hSw); go_simp; try with_reducible rfl)
    try simp only [Act.put, List.setIfInBounds_toArray, List.set_cons_zero, List.set_cons_succ]
    refine wpAnyH_take (i := 34) (v := ?_) (by (simp only [List.getElem?_toArray, List.getElem?_cons_succ, List.getElem?_cons_zero]; rfl)) (by kernel_rfl) (by kernel_rfl) (by kernel_rfl) (fun _ _ _ h => h) (Or.inl ⟨by rfl, ?_⟩) (by assumption) ?_
    rotate_left
    · (intro w hSw; (try dsimp only at hSw); go_simp; try with_reducible rfl)
    try simp only [Act.put, List.setIfInBounds_toArray, List.set_cons_zero, List.set_cons_succ]
    refine wpAnyH_done (by kernel_rfl) ?_ _
    refine NoPanic.normal ?_
    clear hHeld
    go_wp2_with fail
    go_ret
    exact ⟨rfl, HB13.out⟩
end Go.Proofs.YtpkefkoimlecjaaDoor
