/- Chapter 20: the document's example. -/
import Derived.Test.YtoeamofemepgpaaPure20
namespace Go.Proofs.Ytoeamofemepgpaa
open Go.RowKit

theorem hears_yes {s : Ag} {v : Nat → Int} {n : Nat} {now : Int} (hg : s.goes now) (hup : s.up = true) (hk : s.hark v n) : s.hears v n now = (s.heard v now).does v := by
  unfold Ag.hears; rw [if_pos hg, if_pos hup, if_pos hk]
theorem hears_no {s : Ag} {v : Nat → Int} {n : Nat} {now : Int} (hg : s.goes now) (hup : s.up = true) (hk : ¬ s.hark v n) : s.hears v n now = (s.ticks now).settle now := by
  unfold Ag.hears; rw [if_pos hg, if_pos hup, if_neg hk]
theorem hears_down {s : Ag} {v : Nat → Int} {n : Nat} {now : Int} (hg : s.goes now) (hup : s.up = false) : s.hears v n now = s.ticks now := by
  unfold Ag.hears; rw [if_pos hg, if_neg (by rw [hup]; simp)]
theorem hears_late {s : Ag} {v : Nat → Int} {n : Nat} {now : Int} (hg : ¬ s.goes now) : s.hears v n now = s := by
  unfold Ag.hears; rw [if_neg hg]
theorem stepA_up {s : Ag} {now : Int} (hg : s.goes now) (hup : s.up = true) : s.stepA now = s.steps now ∧ s.stepN now = s.told now ∧ s.stepO now = s.outs now := by
  refine ⟨?_, ?_, ?_⟩
  · unfold Ag.stepA; rw [if_pos hg, if_pos hup]
  · unfold Ag.stepN; rw [if_pos ⟨hg, hup⟩]
  · unfold Ag.stepO; rw [if_pos ⟨hg, hup⟩]
theorem stepA_down {s : Ag} {now : Int} (hg : s.goes now) (hup : s.up = false) : s.stepA now = s.ticks now ∧ s.stepN now = 0 ∧ s.stepO now = [] := by
  have h : ¬ s.up = true := by rw [hup]; simp
  refine ⟨?_, ?_, ?_⟩
  · unfold Ag.stepA; rw [if_pos hg, if_neg h]
  · unfold Ag.stepN; rw [if_neg (fun e => h e.2)]
  · unfold Ag.stepO; rw [if_neg (fun e => h e.2)]
theorem stepA_late {s : Ag} {now : Int} (hg : ¬ s.goes now) : s.stepA now = s ∧ s.stepN now = 0 ∧ s.stepO now = [] := by
  refine ⟨?_, ?_, ?_⟩
  · unfold Ag.stepA; rw [if_neg hg]
  · unfold Ag.stepN; rw [if_neg (fun e => hg e.1)]
  · unfold Ag.stepO; rw [if_neg (fun e => hg e.1)]
theorem bootA_ok {s : Ag} {now : Int} (hg : s.goes now) (hup : s.up = false) : s.bootA now = s.boots now ∧ s.bootE now = 0 := by
  refine ⟨?_, ?_⟩
  · unfold Ag.bootA; rw [if_pos ⟨hg, hup⟩]
  · unfold Ag.bootE; rw [if_pos hg, if_neg (by rw [hup]; simp)]
theorem bootA_up {s : Ag} {now : Int} (hg : s.goes now) (hup : s.up = true) : s.bootA now = s ∧ s.bootE now = 100 := by
  refine ⟨?_, ?_⟩
  · unfold Ag.bootA; rw [if_neg (fun e => by rw [hup] at e; exact absurd e.2 (by simp))]
  · unfold Ag.bootE; rw [if_pos hg, if_pos hup]
theorem bootA_late {s : Ag} {now : Int} (hg : ¬ s.goes now) : s.bootA now = s ∧ s.bootE now = 1 := by
  refine ⟨?_, ?_⟩
  · unfold Ag.bootA; rw [if_neg (fun e => hg e.1)]
  · unfold Ag.bootE; rw [if_neg hg]
/-- An agent that lies in memory made since w0. -/
structure Lives (w0 w : World) (A : Nat) (L : Lay) (s : Ag) : Prop where
  at_ : AgAt w A L s
  low : ∀ k, L.own A k → w0.heap.size ≤ k
  bel : Below w0.heap.size w0 w
theorem Lives.left {w0 w w' : World} {A : Nat} {L : Lay} {s s' : Ag} (h : Lives w0 w A L s) (hl : Left w A L s' w') : ∃ L', Lives w0 w' A L' s' ∧ Chg (L.own A) w w' ∧ Grows L L' A w := by
  obtain ⟨L', ha, hc, hg⟩ := hl
  exact ⟨L', ⟨ha, fun k hk => (hg k hk).elim (h.low k) (Nat.le_trans h.bel.size), h.bel.trans (hc.below h.bel.size (fun k hk ho => by have := h.low k ho; omega))⟩, hc, hg⟩
theorem Lives.chg {w0 w w' : World} {A : Nat} {L : Lay} {s s' : Ag} (h : Lives w0 w A L s) (ha : AgAt w' A L s') (hc : Chg (L.own A) w w') : Lives w0 w' A L s' :=
  ⟨ha, h.low, h.bel.trans (hc.below h.bel.size (fun k hk ho => by have := h.low k ho; omega))⟩
theorem Lives.below {w0 w w' : World} {A : Nat} {L : Lay} {s : Ag} (h : Lives w0 w A L s) (hb : Below w.heap.size w w') : Lives w0 w' A L s := ⟨h.at_.below hb, h.low, h.bel.trans (hb.mono h.bel.size)⟩
/-- A row that was made since is kept. -/
theorem row_kept {w w' : World} {A : Nat} {L : Lay} {B e size n : Nat} {v : Value} {xs : List Value} (hB : ∀ k, L.own A k → k < B) (ho : w.ownsRow B e size v n xs) (hc : Chg (L.own A) w w') : w'.ownsRow B e size v n xs :=
  hc.own ho (fun k hk hk2 => by have := hB k hk2; have := (ho.lt k hk).1; omega)
def gA : Nat → Int := fun k => if k = 0 then 2 else 0
def sA0 : Ag := Ag.new 0 gA [5]
def sA1 : Ag := { node := 0, g0 := 2, g1 := 0, g2 := 0, g3 := 0, work := [5], up := true, tick := 1, boot := 1, since := 0, until_ := 0, epoch := 0, beat := false, at_ := 0, ps := [] }
def sA2 : Ag := { sA1 with tick := 3, since := 2, until_ := 26, epoch := 1 }
def pA : Pt := ⟨1, 1, 1, 0, 0, 0, 6, 11, 15, 0, false, false, 0⟩
def sA3 : Ag := { sA2 with tick := 6, ps := [pA] }
def sA4 : Ag := { sA3 with tick := 11, beat := true, at_ := 11, ps := [{ pA with how := 1, rep := true, sent := true, at_ := 11 }] }
def mA1 : Nat → Int := mk 2 1 0 0 2 26 0 0 0 0 0 0 0 0 0
def mA2 : Nat → Int := mk 3 1 0 0 0 0 1 1 4 9 0 1 0 0 0
theorem aw1 : sA0.bootA 1 = sA1 := (bootA_ok ⟨by decide, by decide⟩ rfl).1
theorem aw1e : sA0.bootE 1 = 0 := (bootA_ok ⟨by decide, by decide⟩ rfl).2
theorem aw2 : sA1.hears mA1 0 3 = sA2 := hears_yes (s := sA1) ⟨by decide, by decide⟩ rfl ⟨.inl rfl, okGrant (by decide) (by decide) (by decide) (by decide), rfl, by decide⟩
theorem aw3 : sA2.hears mA2 0 6 = sA3 := hears_yes (s := sA2) ⟨by decide, by decide⟩ rfl ⟨.inr (.inl rfl), okLaunch (by decide) (by decide) (by decide) (by decide) (by decide) (by decide) (by decide) (by decide) (by decide) (by decide), rfl, by decide⟩
theorem aw3r : sA3.runsAt 10 = [pA] := rfl
theorem aw4 : sA3.stepA 11 = sA4 := (stepA_up (s := sA3) ⟨by decide, by decide⟩ rfl).1
theorem aw4n : sA3.stepN 11 = 2 := (stepA_up (s := sA3) ⟨by decide, by decide⟩ rfl).2.1
theorem aw4o : sA3.stepO 11 = beatC 0 1 ++ repC 0 { pA with how := 1, rep := true } := (stepA_up (s := sA3) ⟨by decide, by decide⟩ rfl).2.2
theorem aw4r : sA4.runsAt 11 = [] := rfl
theorem run_eq (w : World) : (Go.binOp .eql 50 (.agg #[.int .i64 1, .int .i64 1, .int .i64 1, .int .i64 0, .int .i64 0, .int .i64 0, .int .i64 6, .int .i64 11]) (.agg #[.int .i64 1, .int .i64 1, .int .i64 1, .int .i64 0, .int .i64 0, .int .i64 0, .int .i64 6, .int .i64 11])).run Try.prog w = .ok (.bool true) w := by kernel_rfl
/-- A row of one or more, by its block and its cells. -/
theorem own_cells {w : World} {B e size n c : Nat} {A : Option Addr} {xs : List Value} (h : w.ownsRow B e size (.slice A n c) n xs) (hn : 0 < n) : ∃ g, A = some ⟨g, 0, none⟩ ∧ B ≤ g ∧ ∀ j u, xs[j]? = some u → w.cell? ⟨g, j, none⟩ = some u := by
  rcases h.2 with ⟨hv, h0⟩ | ⟨g, cap, cur, hv, hb, hg, _⟩
  · omega
  · injection hv with e1
    refine ⟨g, e1, hb, fun j u hu => ?_⟩
    have := h.cells (g := g) (by rw [e1]; rfl) j u hu
    rwa [Addr.add_lit, Nat.zero_add] at this
set_option maxRecDepth 10000 in
set_option maxHeartbeats 8000000 in
theorem awake_any (w : World) : Calls Try.prog 8 #[] w fun e w' => e = .returned (.bool true) ∧ Below w.heap.size w w' := by
  obtain ⟨w1, hw1⟩ : ∃ y, y = w.alloc (.cells #[.int .i64 5] 3) := ⟨_, rfl⟩
  have hb1 : Below w.heap.size w w1 := by rw [hw1]; exact (Below.refl _ w).alloc (Nat.le_refl _) _
  have hc1 : CellsIn w1 w1.heap.size 1 (some ⟨w.heap.size, 0, none⟩) 1 (ints [5]) := by
    have := cellsIn_alloc w #[.int .i64 5] 3 (0, 0) 1 1 rfl
    rw [← hw1] at this
    rw [hw1, World.size_alloc, ← hw1]
    exact this
  have HB1 := Lib.hid hb1
  have HNEW := Lib.hid (new_ok w1 0 gA (some ⟨w.heap.size, 0, none⟩) 1 1 [5] (by decide) (by decide) rfl hc1 rfl (by decide) (fun h => by cases h))
  clear hb1 hc1
  go_enter Try.func8, Try.ntmps8
  go_upto_region 2 with (rw [← hw1]; go_at_call 9; refine HNEW.out.mono ?_; rintro e w2 ⟨A, L, rfl, ha, hb, ho⟩; have HL0 : Hid (Lives w w2 A L sA0) := Lib.hid ⟨ha, fun k hk => Nat.le_trans HB1.out.size (ho k hk), HB1.out.trans (hb.mono HB1.out.size)⟩; clear ha hb ho HNEW)
  clear hw1 HB1
  go_upto_region 4 with (go_at_call 10; refine (boot_any w2 HL0.out.at_ 1).mono ?_; rintro e w3 ⟨rfl, hl⟩; obtain ⟨L1, hl1, _, _⟩ := HL0.out.left hl; rw [aw1] at hl1; rw [aw1e]; have HL1 := Lib.hid hl1; clear hl hl1)
  have HF0 : Hid (Fine sA0 0) := Lib.hid (fine_new 0 gA [5] (by decide))
  have HF1 : Hid (Fine sA1 0) := Lib.hid (by rw [← aw1]; exact fine_boot HF0.out)
  have HF2 : Hid (Fine sA2 1) := Lib.hid (by rw [← aw2]; exact fine_hear _ _ _ HF1.out)
  have HF3 : Hid (Fine sA3 2) := Lib.hid (by rw [← aw3]; exact fine_hear _ _ _ HF2.out)
  have HF4 : Hid (Fine sA4 2) := Lib.hid (by rw [← aw4]; exact fine_step HF3.out)
  go_upto_region 5 with (go_at_call 11; refine (hear_any w3 HL1.out.at_ HF1.out (by decide) 3 mA1 none 0 0 _ rfl).mono ?_; rintro e w4 ⟨⟨r4, rfl⟩, hl⟩; rw [aw2] at hl; obtain ⟨L2, hl2, _, _⟩ := HL1.out.left hl; have HL2 := Lib.hid hl2; clear hl hl2)
  go_upto_region 6 with (go_at_call 11; refine (hear_any w4 HL2.out.at_ HF2.out (by decide) 6 mA2 none 0 0 _ rfl).mono ?_; rintro e w5 ⟨⟨r5, rfl⟩, hl⟩; rw [aw3] at hl; obtain ⟨L3, hl3, _, _⟩ := HL2.out.left hl; have HL3 := Lib.hid hl3; clear hl hl3)
  clear HL0 HL1 HL2
  go_upto_region 7 with (go_at_call 12; refine (running_ag w5 HL3.out.at_ (by decide) 10).mono ?_; rintro e w6 ⟨RA, rc, rfl, hr, hb⟩; rw [aw3r] at hr ⊢; have HR6 := Lib.hid hr; have HL6 := Lib.hid (HL3.out.below hb); have HLO : Hid (∀ k, L3.own A k → k < w5.heap.size) := Lib.hid (fun k hk => HL3.out.at_.own_lt hk); clear hr hb)
  go_upto_region 8 with (go_at_call 19; refine (lease_ag w6 HL6.out.at_).mono ?_; rintro e w7 ⟨rfl, hb⟩; have HL7 := Lib.hid (HL6.out.below hb); have HR7 := Lib.hid ((Chg.of_below (S := fun _ => False) hb).own HR6.out (fun _ _ h => h)); clear hb HL6 HR6)
  go_upto_region 9 with (go_at_call 13; refine (step_any w7 HL7.out.at_ HF3.out (by decide) 11).mono ?_; rintro e w8 ⟨SA, sc, rfl, hs, ha, hc⟩; rw [aw4n] at hs ⊢; rw [aw4o] at hs; rw [aw4] at ha; have HL8 := Lib.hid (HL7.out.chg ha hc); have HR8 := Lib.hid (row_kept HLO.out HR7.out hc); have HS8 := Lib.hid hs; clear hs ha hc HL7 HR7)
  obtain ⟨g, rfl, _, hgc⟩ := own_cells HR8.out (by decide)
  obtain ⟨h, rfl, _, hhc⟩ := own_cells HS8.out (by decide)
  have r0 : w8.cell? ⟨g, 0, none⟩ = some (.int .i64 1) := hgc 0 _ rfl
  have r1 : w8.cell? ⟨g, 1, none⟩ = some (.int .i64 1) := hgc 1 _ rfl
  have r2 : w8.cell? ⟨g, 2, none⟩ = some (.int .i64 1) := hgc 2 _ rfl
  have r3 : w8.cell? ⟨g, 3, none⟩ = some (.int .i64 0) := hgc 3 _ rfl
  have r4' : w8.cell? ⟨g, 4, none⟩ = some (.int .i64 0) := hgc 4 _ rfl
  have r5' : w8.cell? ⟨g, 5, none⟩ = some (.int .i64 0) := hgc 5 _ rfl
  have r6 : w8.cell? ⟨g, 6, none⟩ = some (.int .i64 6) := hgc 6 _ rfl
  have r7 : w8.cell? ⟨g, 7, none⟩ = some (.int .i64 11) := hgc 7 _ rfl
  have q0 : w8.cell? ⟨h, 0, none⟩ = some (.int .i64 1) := hhc 0 _ rfl
  have q3 : w8.cell? ⟨h, 3, none⟩ = some (.int .i64 1) := hhc 3 _ rfl
  have q31 : w8.cell? ⟨h, 31, none⟩ = some (.int .i64 1) := hhc 31 _ rfl
  clear hgc hhc
  have hre := run_eq
  have hlv : sA3.leaseV = (2, 26) := rfl
  have hup4 : sA4.up = true := rfl
  rw [hlv]
  clear hlv
  go_wp2_with (first | (go_at_call 18; refine (up_ag w8 HL8.out.at_).mono ?_; rintro e w' ⟨rfl, rfl⟩; rw [hup4]) | (go_at_call 12; refine (running_ag w8 HL8.out.at_ (by decide) 11).mono ?_; rintro e w9 ⟨RB, rd, rfl, hr, hb⟩; rw [aw4r]; have HB9 := Lib.hid (HL8.out.bel.trans (hb.mono HL8.out.bel.size)); clear hr hb))
  go_ret
  exact ⟨rfl, HB9.out⟩
end Go.Proofs.Ytoeamofemepgpaa
