/- The law DiskRises: the walk. -/
import Derived.Test.YtpkefkoimlecjaaAwake
import Derived.Test.YtpkefkoimlecjaaActs
import Derived.Deep.RegionHeld3
import Derived.Deep.LoopGhost
namespace Go.Proofs.Ytpkefkoimlecjaa
open Go.RowKit

theorem swapC_ok {x o c : Cl} (h : swapE x o c = 0) : swapC x o c = c := by unfold swapC; rw [if_pos h]
theorem swapC_no {x o c : Cl} (h : ¬ swapE x o c = 0) : swapC x o c = x := by unfold swapC; rw [if_neg h]
theorem swapE_ok {x o c : Cl} (h : swapE x o c = 0) : x = o ∧ o.e ≤ c.e := by
  unfold swapE at h
  split at h
  · cases h
  · split at h
    · rename_i h1 h2; exact ⟨h2, by omega⟩
    · cases h
theorem swap_rise (d : Cl) (o c : Cl) : (swapE d o c = 0 → o = d) ∧ (swapE (swapC d o c) d c = 0 → swapC (swapC d o c) d c = c) ∧ (¬ swapE (swapC d o c) d c = 0 → ¬ swapE d o c = 0 → swapC (swapC d o c) d c = d) ∧ d.e ≤ (swapC (swapC d o c) d c).e := by
  refine ⟨fun h => (swapE_ok h).1.symm, fun h => swapC_ok h, fun h h' => (swapC_no h).trans (swapC_no h'), ?_⟩
  by_cases hf : swapE (swapC d o c) d c = 0
  · rw [swapC_ok hf]; exact (swapE_ok hf).2
  · rw [swapC_no hf]
    by_cases he : swapE d o c = 0
    · rw [swapC_ok he]
      have := swapE_ok he
      rw [this.1]; exact this.2
    · rw [swapC_no he]; omega
theorem neq_false (c o : Cl) (w : World) (h : c = o) : (Go.binOp .neq 27 (.agg #[.int .i64 c.e, .int .i64 c.h, .int .i64 c.u]) (.agg #[.int .i64 o.e, .int .i64 o.h, .int .i64 o.u])).run Try.prog w = .ok (.bool false) w := by
  rw [neq_cl]; simp [h]
def C3 (w : World) (b : Nat) (c : Cl) : Prop := w.cell? ⟨b, 0, none⟩ = some (.int .i64 c.e) ∧ w.cell? ⟨b, 1, none⟩ = some (.int .i64 c.h) ∧ w.cell? ⟨b, 2, none⟩ = some (.int .i64 c.u)
theorem C3.new (w : World) (c : Cl) (t : TypeId) : C3 (w.alloc (.cells #[.int .i64 c.e, .int .i64 c.h, .int .i64 c.u] t)) w.heap.size c := by
  have h := heap_alloc_new w (.cells #[.int .i64 c.e, .int .i64 c.h, .int .i64 c.u] t)
  exact ⟨(cell_of_row _ _ 0 _ _ _ h).trans rfl, (cell_of_row _ _ 1 _ _ _ h).trans rfl, (cell_of_row _ _ 2 _ _ _ h).trans rfl⟩
theorem C3.chg {S : Nat → Prop} {w w' : World} {b : Nat} {c : Cl} (h : C3 w b c) (hc : Chg S w w') (hs : ¬ S b) : C3 w' b c :=
  ⟨hc.cell h.1 hs, hc.cell h.2.1 hs, hc.cell h.2.2 hs⟩

set_option maxRecDepth 10000 in
set_option maxHeartbeats 4000000 in
theorem law_rises (r : Int) (a : Option Addr) (len cap : Nat) (gs : List Ac) (w : World) (hl : len = gs.length) (hp : ActsIn w w.heap.size a gs) :
    Calls Try.prog 3 #[.int .i64 r, .slice a len cap] w fun e w' => e = .returned (.bool true) ∧ Below w.heap.size w w' := by
  have HL := Lib.hid hl
  have HP := Lib.hid hp
  clear hl hp
  go_enter Try.func3, Try.ntmps3
  go_wp2_with fail
  refine (awake_any _).mono ?_
  rintro e w1 ⟨rfl, hbel1⟩
  have HB1 := Lib.hid hbel1
  clear hbel1
  go_wp2_with fail
  refine (new_any r w1).mono ?_
  rintro e w2 ⟨rfl, hd2, hb2⟩
  obtain ⟨g, hg⟩ : ∃ g, g = w1.heap.size := ⟨_, rfl⟩
  rw [← hg] at hd2 ⊢
  have hgw : w.heap.size ≤ g := by rw [hg]; exact HB1.out.size
  have HB2 := Lib.hid (HB1.out.trans (hb2.mono (by omega)))
  have HD2 := Lib.hid hd2
  have h0 : (fresh r).c.e = 0 := rfl
  have H0 := Lib.hid h0
  clear hb2 hd2 hg h0
  go_wp2_with fail
  go_loopg [7, 8] len (fun gk s7 s8 wr => ∃ (j : Nat) (d : Dk) (y : Lay), j ≤ len ∧ j ≤ 60 ∧ gk = len - j ∧ s7 = .int .i64 d.c.e ∧ s8 = .int .i64 j ∧ Hid (DiskAt wr g d y) ∧ Hid (Below w.heap.size w wr))
  case atStart => exact ⟨0, _, _, Nat.zero_le _, Nat.zero_le _, rfl, by rw [H0.out], rfl, HD2, HB2⟩
  case round =>
    clear HB2 HD2
    obtain ⟨j, d, y, hj, hj60, rfl, rfl, rfl, HD, HB⟩ := hrel
    by_cases hend : j < len ∧ j < 60
    · obtain ⟨hlt, hlt60⟩ := hend
      obtain ⟨bb, off, s, rfl, _, hact⟩ := HP.out.at_ (i := j) (by rw [← HL.out]; exact hlt)
      have hact2 := hact.below HB.out
      have hj1 : (0 : Int) ≤ (j : Int) := by omega
      have hj2 : (j : Int) < (len : Int) := by omega
      have hgr : g < wr.heap.size := HD.out.glt
      have hbg : bb < g := Nat.lt_of_lt_of_le hact.lt hgw
      have hn2 : Chg NoBlk wr ((wr.alloc (.cells #[.int .i64 d.c.e, .int .i64 d.c.h, .int .i64 d.c.u] 27)).alloc (.cells #[.int .i64 d.c.e, .int .i64 d.c.h, .int .i64 d.c.u] 27)) := ((Chg.refl _ wr).alloc _).alloc _
      obtain ⟨p, hp⟩ : ∃ p, p = wr.heap.size + 1 := ⟨_, rfl⟩
      have hold : C3 ((wr.alloc (.cells #[.int .i64 d.c.e, .int .i64 d.c.h, .int .i64 d.c.u] 27)).alloc (.cells #[.int .i64 d.c.e, .int .i64 d.c.h, .int .i64 d.c.u] 27)) p d.c := by
        have := C3.new (wr.alloc (.cells #[.int .i64 d.c.e, .int .i64 d.c.h, .int .i64 d.c.u] 27)) d.c 27
        rw [hp]; simpa using this
      have hps : p < ((wr.alloc (.cells #[.int .i64 d.c.e, .int .i64 d.c.h, .int .i64 d.c.u] 27)).alloc (.cells #[.int .i64 d.c.e, .int .i64 d.c.h, .int .i64 d.c.u] 27)).heap.size := by rw [hp]; simp
      have hbel := Chg.below (B := w.heap.size) hn2 HB.out.size (fun k hk e => e)
      have HD3 := Lib.hid (HD.out.chg0 hn2)
      have HB3 := Lib.hid (HB.out.trans hbel)
      have HA3 := Lib.hid (hact.below (HB.out.trans hbel))
      have HO3 := Lib.hid hold
      have hgp : g < p := by omega
      have hact := hact2
      clear hold hact2 hbel hn2
      go_wp2_with fail
      refine (claim_any g d y wr HD.out).mono ?_
      rintro e w' ⟨rfl, rfl⟩
      go_wp2_with fail
      rw [← hp]
      generalize (wr.alloc (.cells #[.int .i64 d.c.e, .int .i64 d.c.h, .int .i64 d.c.u] 27)).alloc (.cells #[.int .i64 d.c.e, .int .i64 d.c.h, .int .i64 d.c.u] 27) = w3 at HD3 HB3 HA3 HO3 hps ⊢
      clear hact hp
      obtain ⟨_, _, _, _, _, _, o0, o1, o2, c0, c1, c2, _, _, _, _⟩ := HA3.out
      go_region_held3 (fun w' => w'.cell? ⟨bb, off + j * 12 + 6, none⟩ = some (.int .i64 s.o.e) ∧ w'.cell? ⟨bb, off + j * 12 + 7, none⟩ = some (.int .i64 s.o.h) ∧ w'.cell? ⟨bb, off + j * 12 + 8, none⟩ = some (.int .i64 s.o.u) ∧
          w'.cell? ⟨bb, off + j * 12 + 9, none⟩ = some (.int .i64 s.c.e) ∧ w'.cell? ⟨bb, off + j * 12 + 10, none⟩ = some (.int .i64 s.c.h) ∧ w'.cell? ⟨bb, off + j * 12 + 11, none⟩ = some (.int .i64 s.c.u))
        (refine ⟨?_, ?_, ?_, ?_, ?_, ?_⟩ <;> (first | with_reducible exact o0 | with_reducible exact o1 | with_reducible exact o2 | with_reducible exact c0 | with_reducible exact c1 | with_reducible exact c2 | with_reducible exact keepD o0 | with_reducible exact keepD o1 | with_reducible exact keepD o2 | with_reducible exact keepD c0 | with_reducible exact keepD c1 | with_reducible exact keepD c2 |
          refine Chg.cell (S := fun q => q = g) (by assumption) o0 (by simp only; omega) | refine Chg.cell (S := fun q => q = g) (by assumption) o1 (by simp only; omega) | refine Chg.cell (S := fun q => q = g) (by assumption) o2 (by simp only; omega) | refine Chg.cell (S := fun q => q = g) (by assumption) c0 (by simp only; omega) | refine Chg.cell (S := fun q => q = g) (by assumption) c1 (by simp only; omega) | refine Chg.cell (S := fun q => q = g) (by assumption) c2 (by simp only; omega)))
        ((go_at_call 8; refine (swap_any g d y s.o s.c _ (show DiskAt w3.drew g d y from HD3.out.chg0 ((Chg.refl _ w3).drew))).mono ?_; rintro e w5 ⟨rfl, hd5, hch5⟩; have hch6 : Chg (fun q => q = g) w3 w5 := (Chg.refl _ w3).drew.trans hch5; clear hch5))
      have hbel := Chg.below (B := w.heap.size) hch6 (by omega) (fun k hk e => by omega)
      have HB5 := Lib.hid (HB3.out.trans hbel)
      have HA5 := Lib.hid (HA3.out.below hbel)
      have HO5 := Lib.hid (HO3.out.chg hch6 (by omega))
      have hps5 : p < w5.heap.size := Nat.lt_of_lt_of_le hps hch6.size
      obtain ⟨E, hE⟩ : ∃ E, E = swapE d.c s.o s.c := ⟨_, rfl⟩
      obtain ⟨X, hX⟩ : ∃ X, X = swapC d.c s.o s.c := ⟨_, rfl⟩
      rw [← hX] at hd5
      rw [← hE]
      have HD5 := Lib.hid hd5
      have hrise := swap_rise d.c s.o s.c
      rw [← hX, ← hE] at hrise
      have HR := Lib.hid hrise
      clear hch6 hbel hE hX hd5 o0 o1 o2 c0 c1 c2 hrise HD3 HB3 HA3 HO3
      obtain ⟨_, _, _, _, _, _, o0, o1, o2, c0, c1, c2, _, _, _, _⟩ := HA5.out
      obtain ⟨p0, p1, p2⟩ := HO5.out
      go_wp2_with fail
      go_region_held3 (fun w' => w'.cell? ⟨p, 0, none⟩ = some (.int .i64 d.c.e) ∧ w'.cell? ⟨p, 1, none⟩ = some (.int .i64 d.c.h) ∧ w'.cell? ⟨p, 2, none⟩ = some (.int .i64 d.c.u) ∧
          w'.cell? ⟨bb, off + j * 12 + 9, none⟩ = some (.int .i64 s.c.e) ∧ w'.cell? ⟨bb, off + j * 12 + 10, none⟩ = some (.int .i64 s.c.h) ∧ w'.cell? ⟨bb, off + j * 12 + 11, none⟩ = some (.int .i64 s.c.u))
        (refine ⟨?_, ?_, ?_, ?_, ?_, ?_⟩ <;> (first | with_reducible exact p0 | with_reducible exact p1 | with_reducible exact p2 | with_reducible exact c0 | with_reducible exact c1 | with_reducible exact c2 | with_reducible exact keepD p0 | with_reducible exact keepD p1 | with_reducible exact keepD p2 | with_reducible exact keepD c0 | with_reducible exact keepD c1 | with_reducible exact keepD c2 |
          refine Chg.cell (S := fun q => q = g) (by assumption) p0 (by simp only; omega) | refine Chg.cell (S := fun q => q = g) (by assumption) p1 (by simp only; omega) | refine Chg.cell (S := fun q => q = g) (by assumption) p2 (by simp only; omega) | refine Chg.cell (S := fun q => q = g) (by assumption) c0 (by simp only; omega) | refine Chg.cell (S := fun q => q = g) (by assumption) c1 (by simp only; omega) | refine Chg.cell (S := fun q => q = g) (by assumption) c2 (by simp only; omega)))
        ((go_at_call 8; refine (swap_any g { d with c := X } y d.c s.c _ (show DiskAt w5.drew g { d with c := X } y from HD5.out.chg0 ((Chg.refl _ w5).drew))).mono ?_; rintro e w7 ⟨rfl, hd7, hch7⟩; have hch8 : Chg (fun q => q = g) w5 w7 := (Chg.refl _ w5).drew.trans hch7; clear hch7))
      have hbel := Chg.below (B := w.heap.size) hch8 (by omega) (fun k hk e => by omega)
      have HB7 := Lib.hid (HB5.out.trans hbel)
      have HA7 := Lib.hid (HA5.out.below hbel)
      have HO7 := Lib.hid (HO5.out.chg hch8 (by omega))
      have hps7 : p < w7.heap.size := Nat.lt_of_lt_of_le hps5 hch8.size
      obtain ⟨F, hF⟩ : ∃ F, F = swapE X d.c s.c := ⟨_, rfl⟩
      obtain ⟨Y, hY⟩ : ∃ Y, Y = swapC X d.c s.c := ⟨_, rfl⟩
      rw [← hY] at hd7
      rw [← hF]
      have hd7' : DiskAt w7 g { d with c := Y } y := hd7
      have HD7 := Lib.hid hd7'
      have hrise := HR.out
      rw [← hY, ← hF] at hrise
      obtain ⟨r1, r2, r3, r4⟩ := hrise
      have hcl := Lib.hid (claim_any g { d with c := Y } y w7 hd7')
      clear hch8 hbel hF hY hd7 hd7' o0 o1 o2 c0 c1 c2 p0 p1 p2 HR HD5 HB5 HA5 HO5 hps hps5
      have hn2 : Chg NoBlk w7 ((w7.alloc (.cells #[.int .i64 Y.e, .int .i64 Y.h, .int .i64 Y.u] 27)).alloc (.cells #[.int .i64 Y.e, .int .i64 Y.h, .int .i64 Y.u] 27)) := ((Chg.refl _ w7).alloc _).alloc _
      obtain ⟨q, hq⟩ : ∃ q, q = w7.heap.size + 1 := ⟨_, rfl⟩
      have hnew : C3 ((w7.alloc (.cells #[.int .i64 Y.e, .int .i64 Y.h, .int .i64 Y.u] 27)).alloc (.cells #[.int .i64 Y.e, .int .i64 Y.h, .int .i64 Y.u] 27)) q Y := by
        have := C3.new (w7.alloc (.cells #[.int .i64 Y.e, .int .i64 Y.h, .int .i64 Y.u] 27)) Y 27
        rw [hq]; simpa using this
      have hbel := Chg.below (B := w.heap.size) hn2 (by omega) (fun k hk e => e)
      have HD9 := Lib.hid (HD7.out.chg0 hn2)
      have HB9 := Lib.hid (HB7.out.trans hbel)
      have HA9 := Lib.hid (HA7.out.below hbel)
      have HO9 := Lib.hid (HO7.out.chg hn2 (fun h => h))
      have HN9 := Lib.hid hnew
      have HR1 := Lib.hid r1
      have HR2 := Lib.hid r2
      have HR3 := Lib.hid r3
      clear hnew hbel hn2 r1 r2 r3
      go_wp2_with fail
      refine hcl.out.mono ?_
      rintro e w' ⟨rfl, rfl⟩
      go_wp2_with fail
      rw [← hq]
      generalize (w7.alloc (.cells #[.int .i64 Y.e, .int .i64 Y.h, .int .i64 Y.u] 27)).alloc (.cells #[.int .i64 Y.e, .int .i64 Y.h, .int .i64 Y.u] 27) = w9 at HD9 HB9 HA9 HO9 HN9 ⊢
      obtain ⟨_, _, _, _, _, _, o0, o1, o2, c0, c1, c2, _, _, _, _⟩ := HA9.out
      obtain ⟨p0, p1, p2⟩ := HO9.out
      obtain ⟨q0, q1, q2⟩ := HN9.out
      clear hcl hq HA7 HO7 HD7 HB7 HA9 HO9 HN9
      have hlt : decide (Y.e < d.c.e) = false := by rw [decide_eq_false_iff_not]; omega
      have n1 := fun h w => neq_false s.o d.c w (HR1.out h)
      have n2 := fun h w => neq_false Y s.c w (HR2.out h)
      have n3 := fun h h' w => neq_false Y d.c w (HR3.out h h')
      have N1 := Lib.hid n1
      have N2 := Lib.hid n2
      have N3 := Lib.hid n3
      have hjn : len - (j + 1) < len - j := by omega
      clear n1 n2 n3 HR1 HR2 HR3 r4
      by_cases hE0 : E = 0
      · have m1 := N1.out hE0
        subst hE0
        by_cases hF0 : F = 0
        · have m2 := N2.out hF0
          subst hF0
          clear N1 N2 N3
          go_quiet (fail)
          go_wp2_with fail
          go_roundg (len - (j + 1))
          case measure => exact hjn
          case rel => exact ⟨j + 1, { d with c := Y }, y, by omega, by omega, rfl, rfl, by go_num, Lib.hid (HD9.out.drewN nq), Lib.hid (below_dn HB9.out)⟩
        · have b1 : (F == 0) = false := by rw [beq_eq_false_iff_ne]; exact hF0
          have b2 : (F != 0) = true := by rw [bne_iff_ne]; exact hF0
          clear N1 N2 N3 hF0
          go_quiet (fail)
          go_wp2_with fail
          go_roundg (len - (j + 1))
          case measure => exact hjn
          case rel => exact ⟨j + 1, { d with c := Y }, y, by omega, by omega, rfl, rfl, by go_num, Lib.hid (HD9.out.drewN nq), Lib.hid (below_dn HB9.out)⟩
      · have b1 : (E == 0) = false := by rw [beq_eq_false_iff_ne]; exact hE0
        have b2 : (E != 0) = true := by rw [bne_iff_ne]; exact hE0
        by_cases hF0 : F = 0
        · have m2 := N2.out hF0
          subst hF0
          clear N1 N2 N3 hE0
          go_quiet (fail)
          go_wp2_with fail
          go_roundg (len - (j + 1))
          case measure => exact hjn
          case rel => exact ⟨j + 1, { d with c := Y }, y, by omega, by omega, rfl, rfl, by go_num, Lib.hid (HD9.out.drewN nq), Lib.hid (below_dn HB9.out)⟩
        · have b3 : (F == 0) = false := by rw [beq_eq_false_iff_ne]; exact hF0
          have b4 : (F != 0) = true := by rw [bne_iff_ne]; exact hF0
          have m3 := N3.out hF0 hE0
          clear N1 N2 N3 hF0 hE0
          go_quiet (fail)
          go_wp2_with fail
          go_roundg (len - (j + 1))
          case measure => exact hjn
          case rel => exact ⟨j + 1, { d with c := Y }, y, by omega, by omega, rfl, rfl, by go_num, Lib.hid (HD9.out.drewN nq), Lib.hid (below_dn HB9.out)⟩
    · have hend2 : ¬ j < len ∨ (j < len ∧ ¬ j < 60) := by omega
      rcases hend2 with hend2 | ⟨hend1, hend2⟩
      all_goals
        go_wp2_with fail
        go_ret
        exact ⟨rfl, HB.out⟩
end Go.Proofs.Ytpkefkoimlecjaa
