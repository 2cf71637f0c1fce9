/- Chapter 20: AgentNone. -/
import Derived.Test.YtoeamofemepgpaaAwk20
namespace Go.Proofs.Ytoeamofemepgpaa
open Go.RowKit

def gN : Nat → Int := fun k => if k = 0 then 1 else 0
def sN0 : Ag := Ag.new 1 gN []
def sN1 : Ag := sN0.ticks 5
def sN2 : Ag := sN0.ticks 6
theorem no1 (v : Nat → Int) (n : Nat) : sN0.hears v n 5 = sN1 := hears_down (s := sN0) ⟨by decide, by decide⟩ rfl
theorem no2 : sN1.bootA 4 = sN1 ∧ sN1.bootE 4 = 1 := bootA_late (s := sN1) (fun h => absurd h.1 (by decide))
theorem no3 : sN1.stepA 6 = sN2 ∧ sN1.stepN 6 = 0 ∧ sN1.stepO 6 = [] := stepA_down (s := sN1) ⟨by decide, by decide⟩ rfl
theorem no4 {now : Int} (h : 6 ≤ now ∧ now < 1099511627776) : sN2.bootA now = sN2.boots now ∧ sN2.bootE now = 0 := bootA_ok (s := sN2) h rfl
theorem no4' {now : Int} (h : ¬ (6 ≤ now ∧ now < 1099511627776)) : sN2.bootA now = sN2 ∧ sN2.bootE now = 1 := bootA_late (s := sN2) h
theorem no5 {now : Int} (h : 6 ≤ now ∧ now < 1099511627776) : (sN2.boots now).stepN now = 1 ∧ (sN2.boots now).stepO now = beatC 1 now ∧ (sN2.boots now).stepA now = (sN2.boots now).steps now := by
  obtain ⟨h1, h2, h3⟩ := stepA_up (s := sN2.boots now) (now := now) ⟨Int.le_refl _, h.2⟩ rfl
  exact ⟨h2, h3, h1⟩
theorem no6 {now : Int} : ((sN2.boots now).steps now).stepN (now - 1) = 0 := (stepA_late (s := (sN2.boots now).steps now) (fun h => by have := h.1; have e : ((sN2.boots now).steps now).tick = now := rfl; rw [e] at this; omega)).2.1
theorem fN (s : Ag) (h : s = sN0 ∨ s = sN1 ∨ s = sN2) : Fine s 1 := by
  have f0 : Fine sN0 0 := fine_new 1 gN [] (by decide)
  have f1 : Fine sN1 0 := fine_ticks f0 ⟨by decide, by decide⟩
  have f2 : Fine sN2 0 := fine_ticks f0 ⟨by decide, by decide⟩
  rcases h with rfl | rfl | rfl
  · exact f0.mono (by decide)
  · exact f1.mono (by decide)
  · exact f2.mono (by decide)
set_option maxRecDepth 10000 in
set_option maxHeartbeats 8000000 in
theorem none_long (w : World) (v : Nat → Int) (X : Option Addr) (xn xc : Nat) (now : Int) (hl : 100 < xn) :
    Calls Try.prog 7 #[.agg #[.int .i64 (v 0), .int .i64 (v 1), .int .i64 (v 2), .int .i64 (v 3), .int .i64 (v 4), .int .i64 (v 5), .int .i64 (v 6), .int .i64 (v 7), .int .i64 (v 8), .int .i64 (v 9), .int .i64 (v 10), .int .i64 (v 11), .int .i64 (v 12), .int .i64 (v 13), .int .i64 (v 14), .int .i64 (v 15), .int .i64 (v 16), .slice X xn xc, .int .i64 (v 18), .int .i64 (v 19), .int .i64 (v 20)], .int .i64 now] w fun e w' => e = .returned (.bool true) ∧ Below w.heap.size w w' := by
  obtain ⟨S, hS⟩ : ∃ x, x = w.heap.size := ⟨_, rfl⟩
  obtain ⟨w1, hw1⟩ : ∃ y, y = w.alloc (.cells #[.int .i64 (v 0), .int .i64 (v 1), .int .i64 (v 2), .int .i64 (v 3), .int .i64 (v 4), .int .i64 (v 5), .int .i64 (v 6), .int .i64 (v 7), .int .i64 (v 8), .int .i64 (v 9), .int .i64 (v 10), .int .i64 (v 11), .int .i64 (v 12), .int .i64 (v 13), .int .i64 (v 14), .int .i64 (v 15), .int .i64 (v 16), .slice X xn xc, .int .i64 (v 18), .int .i64 (v 19), .int .i64 (v 20)] 35) := ⟨_, rfl⟩
  have hb1 : Below w.heap.size w w1 := by rw [hw1]; exact (Below.refl _ w).alloc (Nat.le_refl _) _
  have hm1 : w1.heap[S]? = some (.cells #[.int .i64 (v 0), .int .i64 (v 1), .int .i64 (v 2), .int .i64 (v 3), .int .i64 (v 4), .int .i64 (v 5), .int .i64 (v 6), .int .i64 (v 7), .int .i64 (v 8), .int .i64 (v 9), .int .i64 (v 10), .int .i64 (v 11), .int .i64 (v 12), .int .i64 (v 13), .int .i64 (v 14), .int .i64 (v 15), .int .i64 (v 16), .slice X xn xc, .int .i64 (v 18), .int .i64 (v 19), .int .i64 (v 20)] 35 (0, 0)) := by rw [hw1, hS]; exact heap_alloc_new w _
  have HB := Lib.hid hb1
  have HM := Lib.hid hm1
  have HSS := Lib.hid hS
  clear hb1 hm1
  go_enter Try.func7, Try.ntmps7
  go_upto_region 1 with fail
  rw [← hS, ← hw1]
  clear hS hw1
  go_upto_region 2 with (go_at_call 8; refine (awake_any w1).mono ?_; rintro e w2 ⟨rfl, hb⟩; have HB2 := Lib.hid (HB.out.trans (hb.mono HB.out.size)); have HM2 : Hid (w2.heap[S]? = some (.cells #[.int .i64 (v 0), .int .i64 (v 1), .int .i64 (v 2), .int .i64 (v 3), .int .i64 (v 4), .int .i64 (v 5), .int .i64 (v 6), .int .i64 (v 7), .int .i64 (v 8), .int .i64 (v 9), .int .i64 (v 10), .int .i64 (v 11), .int .i64 (v 12), .int .i64 (v 13), .int .i64 (v 14), .int .i64 (v 15), .int .i64 (v 16), .slice X xn xc, .int .i64 (v 18), .int .i64 (v 19), .int .i64 (v 20)] 35 (0, 0))) := Lib.hid ((hb.block S (ltb HM.out)).trans HM.out); clear hb HB HM)
  have m17 : w2.cell? ⟨S, 17, none⟩ = some (.slice X xn xc) := cellb (i := 17) HM2.out rfl
  have hl' : (100 : Int) < (xn : Int) := by omega
  go_wp2_with fail
  go_ret
  exact ⟨rfl, HB2.out⟩
set_option maxRecDepth 10000 in
set_option maxHeartbeats 8000000 in
theorem none_late (w : World) (v : Nat → Int) (X : Option Addr) (xn xc : Nat) (now : Int) (hl : ¬ 100 < xn) (hg : ¬ (6 ≤ now ∧ now < 1099511627776)) :
    Calls Try.prog 7 #[.agg #[.int .i64 (v 0), .int .i64 (v 1), .int .i64 (v 2), .int .i64 (v 3), .int .i64 (v 4), .int .i64 (v 5), .int .i64 (v 6), .int .i64 (v 7), .int .i64 (v 8), .int .i64 (v 9), .int .i64 (v 10), .int .i64 (v 11), .int .i64 (v 12), .int .i64 (v 13), .int .i64 (v 14), .int .i64 (v 15), .int .i64 (v 16), .slice X xn xc, .int .i64 (v 18), .int .i64 (v 19), .int .i64 (v 20)], .int .i64 now] w fun e w' => e = .returned (.bool true) ∧ Below w.heap.size w w' := by
  obtain ⟨S, hS⟩ : ∃ x, x = w.heap.size := ⟨_, rfl⟩
  obtain ⟨w1, hw1⟩ : ∃ y, y = w.alloc (.cells #[.int .i64 (v 0), .int .i64 (v 1), .int .i64 (v 2), .int .i64 (v 3), .int .i64 (v 4), .int .i64 (v 5), .int .i64 (v 6), .int .i64 (v 7), .int .i64 (v 8), .int .i64 (v 9), .int .i64 (v 10), .int .i64 (v 11), .int .i64 (v 12), .int .i64 (v 13), .int .i64 (v 14), .int .i64 (v 15), .int .i64 (v 16), .slice X xn xc, .int .i64 (v 18), .int .i64 (v 19), .int .i64 (v 20)] 35) := ⟨_, rfl⟩
  have hb1 : Below w.heap.size w w1 := by rw [hw1]; exact (Below.refl _ w).alloc (Nat.le_refl _) _
  have hm1 : w1.heap[S]? = some (.cells #[.int .i64 (v 0), .int .i64 (v 1), .int .i64 (v 2), .int .i64 (v 3), .int .i64 (v 4), .int .i64 (v 5), .int .i64 (v 6), .int .i64 (v 7), .int .i64 (v 8), .int .i64 (v 9), .int .i64 (v 10), .int .i64 (v 11), .int .i64 (v 12), .int .i64 (v 13), .int .i64 (v 14), .int .i64 (v 15), .int .i64 (v 16), .slice X xn xc, .int .i64 (v 18), .int .i64 (v 19), .int .i64 (v 20)] 35 (0, 0)) := by rw [hw1, hS]; exact heap_alloc_new w _
  have HB := Lib.hid hb1
  have HM := Lib.hid hm1
  have HSS := Lib.hid hS
  clear hb1 hm1
  go_enter Try.func7, Try.ntmps7
  go_upto_region 1 with fail
  rw [← hS, ← hw1]
  clear hS hw1
  go_upto_region 2 with (go_at_call 8; refine (awake_any w1).mono ?_; rintro e w2 ⟨rfl, hb⟩; have HB2 := Lib.hid (HB.out.trans (hb.mono HB.out.size)); have HM2 : Hid (w2.heap[S]? = some (.cells #[.int .i64 (v 0), .int .i64 (v 1), .int .i64 (v 2), .int .i64 (v 3), .int .i64 (v 4), .int .i64 (v 5), .int .i64 (v 6), .int .i64 (v 7), .int .i64 (v 8), .int .i64 (v 9), .int .i64 (v 10), .int .i64 (v 11), .int .i64 (v 12), .int .i64 (v 13), .int .i64 (v 14), .int .i64 (v 15), .int .i64 (v 16), .slice X xn xc, .int .i64 (v 18), .int .i64 (v 19), .int .i64 (v 20)] 35 (0, 0))) := Lib.hid ((hb.block S (ltb HM.out)).trans HM.out); clear hb HB HM)
  have m17 : w2.cell? ⟨S, 17, none⟩ = some (.slice X xn xc) := cellb (i := 17) HM2.out rfl
  have hl' : ¬ (100 : Int) < (xn : Int) := by omega
  go_upto_region 6 with fail
  clear m17
  go_upto_region 8 with (go_at_call 20; refine (crash_nil w2).mono ?_; rintro e w' ⟨⟨r1, rfl⟩, rfl⟩)
  go_upto_region 9 with (first | (refine wpList_load_row rfl 35 (.tmp 2) rfl S rfl 35 #[.int .i64 (v 0), .int .i64 (v 1), .int .i64 (v 2), .int .i64 (v 3), .int .i64 (v 4), .int .i64 (v 5), .int .i64 (v 6), .int .i64 (v 7), .int .i64 (v 8), .int .i64 (v 9), .int .i64 (v 10), .int .i64 (v 11), .int .i64 (v 12), .int .i64 (v 13), .int .i64 (v 14), .int .i64 (v 15), .int .i64 (v 16), .slice X xn xc, .int .i64 (v 18), .int .i64 (v 19), .int .i64 (v 20)] (0, 0) _ HM2.out Try.underlying35 rfl (by kernel_rfl) ?_) | (go_at_call 11; refine (hear_nil w2 now _ v X xn xc rfl).mono ?_; rintro e w3 ⟨⟨r3, rfl⟩, hb⟩; have HB3 := Lib.hid (HB2.out.trans (hb.mono HB2.out.size)); have HM3 : Hid (w3.heap[S]? = some (.cells #[.int .i64 (v 0), .int .i64 (v 1), .int .i64 (v 2), .int .i64 (v 3), .int .i64 (v 4), .int .i64 (v 5), .int .i64 (v 6), .int .i64 (v 7), .int .i64 (v 8), .int .i64 (v 9), .int .i64 (v 10), .int .i64 (v 11), .int .i64 (v 12), .int .i64 (v 13), .int .i64 (v 14), .int .i64 (v 15), .int .i64 (v 16), .slice X xn xc, .int .i64 (v 18), .int .i64 (v 19), .int .i64 (v 20)] 35 (0, 0))) := Lib.hid ((hb.block S (ltb HM2.out)).trans HM2.out); clear hb HB2 HM2))
  go_upto_region 10 with (go_at_call 19; refine (lease_nil w3).mono ?_; rintro e w' ⟨rfl, rfl⟩)
  have HN1 : Hid (∀ W, Calls Try.prog 9 #[.int .i64 16, .agg #[.int .i64 0, .int .i64 0, .int .i64 0, .int .i64 0], .slice none 0 0] W fun e w' => e = .returned (.pointer none) ∧ Below W.heap.size W w') := Lib.hid (fun W => new_no W 16 (fun _ => 0) none 0 0 (.inr (.inl (by decide))))
  have HN2 : Hid (∀ W, Calls Try.prog 9 #[.int .i64 0, .agg #[.int .i64 (-1), .int .i64 0, .int .i64 0, .int .i64 0], .slice none 0 0] W fun e w' => e = .returned (.pointer none) ∧ Below W.heap.size W w') := Lib.hid (fun W => new_no W 0 (fun k => if k = 0 then -1 else 0) none 0 0 (.inr (.inr rfl)))
  go_upto_region 12 with (first | (go_at_call 10; refine (Boot_nil _ now).mono ?_; rintro e w' ⟨rfl, rfl⟩) | (go_at_call 18; refine (up_nil _).mono ?_; rintro e w' ⟨rfl, rfl⟩) | (go_at_call 13; refine (Step_nil _ now).mono ?_; rintro e w' ⟨rfl, rfl⟩) | (go_at_call 12; refine (Running_nil w3 now).mono ?_; rintro e w4 ⟨rfl, hb⟩; have HB4 := Lib.hid (HB3.out.trans (hb.mono HB3.out.size)); have HM4 : Hid (w4.heap[S]? = some (.cells #[.int .i64 (v 0), .int .i64 (v 1), .int .i64 (v 2), .int .i64 (v 3), .int .i64 (v 4), .int .i64 (v 5), .int .i64 (v 6), .int .i64 (v 7), .int .i64 (v 8), .int .i64 (v 9), .int .i64 (v 10), .int .i64 (v 11), .int .i64 (v 12), .int .i64 (v 13), .int .i64 (v 14), .int .i64 (v 15), .int .i64 (v 16), .slice X xn xc, .int .i64 (v 18), .int .i64 (v 19), .int .i64 (v 20)] 35 (0, 0))) := Lib.hid ((hb.block S (ltb HM3.out)).trans HM3.out); clear hb HB3 HM3) | (go_at_call 9; refine (HN1.out w4).mono ?_; clear HN1; rintro e w5 ⟨rfl, hb⟩; have HB5 := Lib.hid (HB4.out.trans (hb.mono HB4.out.size)); have HM5 : Hid (w5.heap[S]? = some (.cells #[.int .i64 (v 0), .int .i64 (v 1), .int .i64 (v 2), .int .i64 (v 3), .int .i64 (v 4), .int .i64 (v 5), .int .i64 (v 6), .int .i64 (v 7), .int .i64 (v 8), .int .i64 (v 9), .int .i64 (v 10), .int .i64 (v 11), .int .i64 (v 12), .int .i64 (v 13), .int .i64 (v 14), .int .i64 (v 15), .int .i64 (v 16), .slice X xn xc, .int .i64 (v 18), .int .i64 (v 19), .int .i64 (v 20)] 35 (0, 0))) := Lib.hid ((hb.block S (ltb HM4.out)).trans HM4.out); clear hb HB4 HM4) | (go_at_call 9; refine (HN2.out w5).mono ?_; clear HN2; rintro e w6 ⟨rfl, hb⟩; have HB6 := Lib.hid (HB5.out.trans (hb.mono HB5.out.size)); have HM6 : Hid (w6.heap[S]? = some (.cells #[.int .i64 (v 0), .int .i64 (v 1), .int .i64 (v 2), .int .i64 (v 3), .int .i64 (v 4), .int .i64 (v 5), .int .i64 (v 6), .int .i64 (v 7), .int .i64 (v 8), .int .i64 (v 9), .int .i64 (v 10), .int .i64 (v 11), .int .i64 (v 12), .int .i64 (v 13), .int .i64 (v 14), .int .i64 (v 15), .int .i64 (v 16), .slice X xn xc, .int .i64 (v 18), .int .i64 (v 19), .int .i64 (v 20)] 35 (0, 0))) := Lib.hid ((hb.block S (ltb HM5.out)).trans HM5.out); clear hb HB5 HM5))
  have HNEW := Lib.hid (new_ok w6 1 gN none 0 0 [] (by decide) (by decide) rfl ⟨rfl, .inl rfl⟩ rfl (by decide) (fun _ => ⟨rfl, rfl⟩))
  go_upto_region 13 with (go_at_call 9; refine HNEW.out.mono ?_; clear HNEW; rintro e w7 ⟨A, L, rfl, ha, hb, ho⟩; have HL7 : Hid (Lives w w7 A L sN0) := Lib.hid ⟨ha, fun k hk => Nat.le_trans HB6.out.size (ho k hk), HB6.out.trans (hb.mono HB6.out.size)⟩; have HM7 : Hid (w7.heap[S]? = some (.cells #[.int .i64 (v 0), .int .i64 (v 1), .int .i64 (v 2), .int .i64 (v 3), .int .i64 (v 4), .int .i64 (v 5), .int .i64 (v 6), .int .i64 (v 7), .int .i64 (v 8), .int .i64 (v 9), .int .i64 (v 10), .int .i64 (v 11), .int .i64 (v 12), .int .i64 (v 13), .int .i64 (v 14), .int .i64 (v 15), .int .i64 (v 16), .slice X xn xc, .int .i64 (v 18), .int .i64 (v 19), .int .i64 (v 20)] 35 (0, 0))) := Lib.hid ((hb.block S (ltb HM6.out)).trans HM6.out); have HNS : Hid (¬ L.own A S) := Lib.hid (fun h => by have := ho S h; have := ltb HM6.out; omega); clear ha hb ho HB6 HM6)
  go_upto_region 14 with (first | (refine wpList_load_row rfl 35 (.tmp 2) rfl S rfl 35 #[.int .i64 (v 0), .int .i64 (v 1), .int .i64 (v 2), .int .i64 (v 3), .int .i64 (v 4), .int .i64 (v 5), .int .i64 (v 6), .int .i64 (v 7), .int .i64 (v 8), .int .i64 (v 9), .int .i64 (v 10), .int .i64 (v 11), .int .i64 (v 12), .int .i64 (v 13), .int .i64 (v 14), .int .i64 (v 15), .int .i64 (v 16), .slice X xn xc, .int .i64 (v 18), .int .i64 (v 19), .int .i64 (v 20)] (0, 0) _ HM7.out Try.underlying35 rfl (by kernel_rfl) ?_) | (go_at_call 11; refine (hear_any w7 HL7.out.at_ (fN sN0 (.inl rfl)) (by decide) 5 v X xn xc _ rfl).mono ?_; rintro e w8 ⟨⟨r8, rfl⟩, hl⟩; rw [no1] at hl; obtain ⟨L8, hl8, _, _⟩ := HL7.out.left hl; have HL8 := Lib.hid hl8; clear hl hl8 HL7 HM7 HNS))
  go_upto_region 15 with (go_at_call 10; refine (boot_any w8 HL8.out.at_ 4).mono ?_; rintro e w9 ⟨rfl, hl⟩; rw [no2.1] at hl; rw [no2.2]; obtain ⟨L9, hl9, _, _⟩ := HL8.out.left hl; have HL9 := Lib.hid hl9; clear hl hl9 HL8)
  go_upto_region 16 with (go_at_call 13; refine (step_any w9 HL9.out.at_ (fN sN1 (.inr (.inl rfl))) (by decide) 6).mono ?_; rintro e w10 ⟨SA, sc, rfl, hs, ha, hc⟩; rw [no3.2.1]; rw [no3.1] at ha; have HL10 := Lib.hid (HL9.out.chg ha hc); clear hs ha hc HL9)
  go_upto_region 17 with (go_at_call 10; refine (boot_any w10 HL10.out.at_ now).mono ?_; rintro e w11 ⟨rfl, hl⟩; rw [(no4' hg).1] at hl; rw [(no4' hg).2]; obtain ⟨L11, hl11, _, _⟩ := HL10.out.left hl; have HL11 := Lib.hid hl11; clear hl hl11 HL10)
  have hup : sN2.up = false := rfl
  by_cases h6 : now < 6
  · go_wp2_with (go_at_call 18; refine (up_ag w11 HL11.out.at_).mono ?_; rintro e w' ⟨rfl, rfl⟩; rw [hup])
    go_ret
    exact ⟨rfl, HL11.out.bel⟩
  · have h7 : (1099511627776 : Int) ≤ now := by omega
    go_wp2_with (go_at_call 18; refine (up_ag w11 HL11.out.at_).mono ?_; rintro e w' ⟨rfl, rfl⟩; rw [hup])
    go_ret
    exact ⟨rfl, HL11.out.bel⟩
set_option maxRecDepth 10000 in
set_option maxHeartbeats 8000000 in
theorem none_good (w : World) (v : Nat → Int) (X : Option Addr) (xn xc : Nat) (now : Int) (hl : ¬ 100 < xn) (hg : 6 ≤ now ∧ now < 1099511627776) :
    Calls Try.prog 7 #[.agg #[.int .i64 (v 0), .int .i64 (v 1), .int .i64 (v 2), .int .i64 (v 3), .int .i64 (v 4), .int .i64 (v 5), .int .i64 (v 6), .int .i64 (v 7), .int .i64 (v 8), .int .i64 (v 9), .int .i64 (v 10), .int .i64 (v 11), .int .i64 (v 12), .int .i64 (v 13), .int .i64 (v 14), .int .i64 (v 15), .int .i64 (v 16), .slice X xn xc, .int .i64 (v 18), .int .i64 (v 19), .int .i64 (v 20)], .int .i64 now] w fun e w' => e = .returned (.bool true) ∧ Below w.heap.size w w' := by
  obtain ⟨S, hS⟩ : ∃ x, x = w.heap.size := ⟨_, rfl⟩
  obtain ⟨w1, hw1⟩ : ∃ y, y = w.alloc (.cells #[.int .i64 (v 0), .int .i64 (v 1), .int .i64 (v 2), .int .i64 (v 3), .int .i64 (v 4), .int .i64 (v 5), .int .i64 (v 6), .int .i64 (v 7), .int .i64 (v 8), .int .i64 (v 9), .int .i64 (v 10), .int .i64 (v 11), .int .i64 (v 12), .int .i64 (v 13), .int .i64 (v 14), .int .i64 (v 15), .int .i64 (v 16), .slice X xn xc, .int .i64 (v 18), .int .i64 (v 19), .int .i64 (v 20)] 35) := ⟨_, rfl⟩
  have hb1 : Below w.heap.size w w1 := by rw [hw1]; exact (Below.refl _ w).alloc (Nat.le_refl _) _
  have hm1 : w1.heap[S]? = some (.cells #[.int .i64 (v 0), .int .i64 (v 1), .int .i64 (v 2), .int .i64 (v 3), .int .i64 (v 4), .int .i64 (v 5), .int .i64 (v 6), .int .i64 (v 7), .int .i64 (v 8), .int .i64 (v 9), .int .i64 (v 10), .int .i64 (v 11), .int .i64 (v 12), .int .i64 (v 13), .int .i64 (v 14), .int .i64 (v 15), .int .i64 (v 16), .slice X xn xc, .int .i64 (v 18), .int .i64 (v 19), .int .i64 (v 20)] 35 (0, 0)) := by rw [hw1, hS]; exact heap_alloc_new w _
  have HB := Lib.hid hb1
  have HM := Lib.hid hm1
  have HSS := Lib.hid hS
  clear hb1 hm1
  go_enter Try.func7, Try.ntmps7
  go_upto_region 1 with fail
  rw [← hS, ← hw1]
  clear hS hw1
  go_upto_region 2 with (go_at_call 8; refine (awake_any w1).mono ?_; rintro e w2 ⟨rfl, hb⟩; have HB2 := Lib.hid (HB.out.trans (hb.mono HB.out.size)); have HM2 : Hid (w2.heap[S]? = some (.cells #[.int .i64 (v 0), .int .i64 (v 1), .int .i64 (v 2), .int .i64 (v 3), .int .i64 (v 4), .int .i64 (v 5), .int .i64 (v 6), .int .i64 (v 7), .int .i64 (v 8), .int .i64 (v 9), .int .i64 (v 10), .int .i64 (v 11), .int .i64 (v 12), .int .i64 (v 13), .int .i64 (v 14), .int .i64 (v 15), .int .i64 (v 16), .slice X xn xc, .int .i64 (v 18), .int .i64 (v 19), .int .i64 (v 20)] 35 (0, 0))) := Lib.hid ((hb.block S (ltb HM.out)).trans HM.out); clear hb HB HM)
  have m17 : w2.cell? ⟨S, 17, none⟩ = some (.slice X xn xc) := cellb (i := 17) HM2.out rfl
  have hl' : ¬ (100 : Int) < (xn : Int) := by omega
  go_upto_region 6 with fail
  clear m17
  go_upto_region 8 with (go_at_call 20; refine (crash_nil w2).mono ?_; rintro e w' ⟨⟨r1, rfl⟩, rfl⟩)
  go_upto_region 9 with (first | (refine wpList_load_row rfl 35 (.tmp 2) rfl S rfl 35 #[.int .i64 (v 0), .int .i64 (v 1), .int .i64 (v 2), .int .i64 (v 3), .int .i64 (v 4), .int .i64 (v 5), .int .i64 (v 6), .int .i64 (v 7), .int .i64 (v 8), .int .i64 (v 9), .int .i64 (v 10), .int .i64 (v 11), .int .i64 (v 12), .int .i64 (v 13), .int .i64 (v 14), .int .i64 (v 15), .int .i64 (v 16), .slice X xn xc, .int .i64 (v 18), .int .i64 (v 19), .int .i64 (v 20)] (0, 0) _ HM2.out Try.underlying35 rfl (by kernel_rfl) ?_) | (go_at_call 11; refine (hear_nil w2 now _ v X xn xc rfl).mono ?_; rintro e w3 ⟨⟨r3, rfl⟩, hb⟩; have HB3 := Lib.hid (HB2.out.trans (hb.mono HB2.out.size)); have HM3 : Hid (w3.heap[S]? = some (.cells #[.int .i64 (v 0), .int .i64 (v 1), .int .i64 (v 2), .int .i64 (v 3), .int .i64 (v 4), .int .i64 (v 5), .int .i64 (v 6), .int .i64 (v 7), .int .i64 (v 8), .int .i64 (v 9), .int .i64 (v 10), .int .i64 (v 11), .int .i64 (v 12), .int .i64 (v 13), .int .i64 (v 14), .int .i64 (v 15), .int .i64 (v 16), .slice X xn xc, .int .i64 (v 18), .int .i64 (v 19), .int .i64 (v 20)] 35 (0, 0))) := Lib.hid ((hb.block S (ltb HM2.out)).trans HM2.out); clear hb HB2 HM2))
  go_upto_region 10 with (go_at_call 19; refine (lease_nil w3).mono ?_; rintro e w' ⟨rfl, rfl⟩)
  have HN1 : Hid (∀ W, Calls Try.prog 9 #[.int .i64 16, .agg #[.int .i64 0, .int .i64 0, .int .i64 0, .int .i64 0], .slice none 0 0] W fun e w' => e = .returned (.pointer none) ∧ Below W.heap.size W w') := Lib.hid (fun W => new_no W 16 (fun _ => 0) none 0 0 (.inr (.inl (by decide))))
  have HN2 : Hid (∀ W, Calls Try.prog 9 #[.int .i64 0, .agg #[.int .i64 (-1), .int .i64 0, .int .i64 0, .int .i64 0], .slice none 0 0] W fun e w' => e = .returned (.pointer none) ∧ Below W.heap.size W w') := Lib.hid (fun W => new_no W 0 (fun k => if k = 0 then -1 else 0) none 0 0 (.inr (.inr rfl)))
  go_upto_region 12 with (first | (go_at_call 10; refine (Boot_nil _ now).mono ?_; rintro e w' ⟨rfl, rfl⟩) | (go_at_call 18; refine (up_nil _).mono ?_; rintro e w' ⟨rfl, rfl⟩) | (go_at_call 13; refine (Step_nil _ now).mono ?_; rintro e w' ⟨rfl, rfl⟩) | (go_at_call 12; refine (Running_nil w3 now).mono ?_; rintro e w4 ⟨rfl, hb⟩; have HB4 := Lib.hid (HB3.out.trans (hb.mono HB3.out.size)); have HM4 : Hid (w4.heap[S]? = some (.cells #[.int .i64 (v 0), .int .i64 (v 1), .int .i64 (v 2), .int .i64 (v 3), .int .i64 (v 4), .int .i64 (v 5), .int .i64 (v 6), .int .i64 (v 7), .int .i64 (v 8), .int .i64 (v 9), .int .i64 (v 10), .int .i64 (v 11), .int .i64 (v 12), .int .i64 (v 13), .int .i64 (v 14), .int .i64 (v 15), .int .i64 (v 16), .slice X xn xc, .int .i64 (v 18), .int .i64 (v 19), .int .i64 (v 20)] 35 (0, 0))) := Lib.hid ((hb.block S (ltb HM3.out)).trans HM3.out); clear hb HB3 HM3) | (go_at_call 9; refine (HN1.out w4).mono ?_; clear HN1; rintro e w5 ⟨rfl, hb⟩; have HB5 := Lib.hid (HB4.out.trans (hb.mono HB4.out.size)); have HM5 : Hid (w5.heap[S]? = some (.cells #[.int .i64 (v 0), .int .i64 (v 1), .int .i64 (v 2), .int .i64 (v 3), .int .i64 (v 4), .int .i64 (v 5), .int .i64 (v 6), .int .i64 (v 7), .int .i64 (v 8), .int .i64 (v 9), .int .i64 (v 10), .int .i64 (v 11), .int .i64 (v 12), .int .i64 (v 13), .int .i64 (v 14), .int .i64 (v 15), .int .i64 (v 16), .slice X xn xc, .int .i64 (v 18), .int .i64 (v 19), .int .i64 (v 20)] 35 (0, 0))) := Lib.hid ((hb.block S (ltb HM4.out)).trans HM4.out); clear hb HB4 HM4) | (go_at_call 9; refine (HN2.out w5).mono ?_; clear HN2; rintro e w6 ⟨rfl, hb⟩; have HB6 := Lib.hid (HB5.out.trans (hb.mono HB5.out.size)); have HM6 : Hid (w6.heap[S]? = some (.cells #[.int .i64 (v 0), .int .i64 (v 1), .int .i64 (v 2), .int .i64 (v 3), .int .i64 (v 4), .int .i64 (v 5), .int .i64 (v 6), .int .i64 (v 7), .int .i64 (v 8), .int .i64 (v 9), .int .i64 (v 10), .int .i64 (v 11), .int .i64 (v 12), .int .i64 (v 13), .int .i64 (v 14), .int .i64 (v 15), .int .i64 (v 16), .slice X xn xc, .int .i64 (v 18), .int .i64 (v 19), .int .i64 (v 20)] 35 (0, 0))) := Lib.hid ((hb.block S (ltb HM5.out)).trans HM5.out); clear hb HB5 HM5))
  have HNEW := Lib.hid (new_ok w6 1 gN none 0 0 [] (by decide) (by decide) rfl ⟨rfl, .inl rfl⟩ rfl (by decide) (fun _ => ⟨rfl, rfl⟩))
  go_upto_region 13 with (go_at_call 9; refine HNEW.out.mono ?_; clear HNEW; rintro e w7 ⟨A, L, rfl, ha, hb, ho⟩; have HL7 : Hid (Lives w w7 A L sN0) := Lib.hid ⟨ha, fun k hk => Nat.le_trans HB6.out.size (ho k hk), HB6.out.trans (hb.mono HB6.out.size)⟩; have HM7 : Hid (w7.heap[S]? = some (.cells #[.int .i64 (v 0), .int .i64 (v 1), .int .i64 (v 2), .int .i64 (v 3), .int .i64 (v 4), .int .i64 (v 5), .int .i64 (v 6), .int .i64 (v 7), .int .i64 (v 8), .int .i64 (v 9), .int .i64 (v 10), .int .i64 (v 11), .int .i64 (v 12), .int .i64 (v 13), .int .i64 (v 14), .int .i64 (v 15), .int .i64 (v 16), .slice X xn xc, .int .i64 (v 18), .int .i64 (v 19), .int .i64 (v 20)] 35 (0, 0))) := Lib.hid ((hb.block S (ltb HM6.out)).trans HM6.out); have HNS : Hid (¬ L.own A S) := Lib.hid (fun h => by have := ho S h; have := ltb HM6.out; omega); clear ha hb ho HB6 HM6)
  go_upto_region 14 with (first | (refine wpList_load_row rfl 35 (.tmp 2) rfl S rfl 35 #[.int .i64 (v 0), .int .i64 (v 1), .int .i64 (v 2), .int .i64 (v 3), .int .i64 (v 4), .int .i64 (v 5), .int .i64 (v 6), .int .i64 (v 7), .int .i64 (v 8), .int .i64 (v 9), .int .i64 (v 10), .int .i64 (v 11), .int .i64 (v 12), .int .i64 (v 13), .int .i64 (v 14), .int .i64 (v 15), .int .i64 (v 16), .slice X xn xc, .int .i64 (v 18), .int .i64 (v 19), .int .i64 (v 20)] (0, 0) _ HM7.out Try.underlying35 rfl (by kernel_rfl) ?_) | (go_at_call 11; refine (hear_any w7 HL7.out.at_ (fN sN0 (.inl rfl)) (by decide) 5 v X xn xc _ rfl).mono ?_; rintro e w8 ⟨⟨r8, rfl⟩, hl⟩; rw [no1] at hl; obtain ⟨L8, hl8, _, _⟩ := HL7.out.left hl; have HL8 := Lib.hid hl8; clear hl hl8 HL7 HM7 HNS))
  go_upto_region 15 with (go_at_call 10; refine (boot_any w8 HL8.out.at_ 4).mono ?_; rintro e w9 ⟨rfl, hl⟩; rw [no2.1] at hl; rw [no2.2]; obtain ⟨L9, hl9, _, _⟩ := HL8.out.left hl; have HL9 := Lib.hid hl9; clear hl hl9 HL8)
  go_upto_region 16 with (go_at_call 13; refine (step_any w9 HL9.out.at_ (fN sN1 (.inr (.inl rfl))) (by decide) 6).mono ?_; rintro e w10 ⟨SA, sc, rfl, hs, ha, hc⟩; rw [no3.2.1]; rw [no3.1] at ha; have HL10 := Lib.hid (HL9.out.chg ha hc); clear hs ha hc HL9)
  have HG := Lib.hid hg
  have h6 : ¬ now < 6 := by omega
  have h7 : ¬ (1099511627776 : Int) ≤ now := by omega
  have hwr : IntKind.i64.wrap (now - 1) = now - 1 := IntWalk.i64_in _ (by omega)
  have HF3 : Hid (Fine (sN2.boots now) 1) := Lib.hid (by rw [← (no4 hg).1]; exact fine_boot (fN sN2 (.inr (.inr rfl))))
  have HF4 : Hid (Fine ((sN2.boots now).steps now) 1) := Lib.hid (by rw [← (no5 hg).2.2]; exact fine_step HF3.out)
  clear hg
  go_upto_region 19 with (go_at_call 10; refine (boot_any w10 HL10.out.at_ now).mono ?_; rintro e w11 ⟨rfl, hl⟩; rw [(no4 HG.out).1] at hl; rw [(no4 HG.out).2]; obtain ⟨L11, hl11, _, _⟩ := HL10.out.left hl; have HL11 := Lib.hid hl11; clear hl hl11 HL10)
  go_upto_region 20 with (go_at_call 13; refine (step_any w11 HL11.out.at_ HF3.out (by decide) now).mono ?_; rintro e w12 ⟨SA2, sc2, rfl, hs, ha, hc⟩; rw [(no5 HG.out).1] at hs ⊢; rw [(no5 HG.out).2.1] at hs; rw [(no5 HG.out).2.2] at ha; have HL12 := Lib.hid (HL11.out.chg ha hc); have HS := Lib.hid hs; clear hs ha hc HL11)
  obtain ⟨g, rfl, _, hgc⟩ := own_cells HS.out (by decide)
  have q3 : w12.cell? ⟨g, 3, none⟩ = some (.int .i64 now) := hgc 3 _ rfl
  clear hgc HS
  go_wp2_with (go_at_call 13; refine (step_any w12 HL12.out.at_ HF4.out (by decide) (now - 1)).mono ?_; rintro e w13 ⟨SA3, sc3, rfl, hs, ha, hc⟩; rw [no6]; have HL13 := Lib.hid (HL12.out.chg ha hc); clear hs ha hc HL12)
  go_ret
  exact ⟨rfl, HL13.out.bel⟩
theorem law_none20 (w : World) (v : Nat → Int) (X : Option Addr) (xn xc : Nat) (now : Int) :
    Calls Try.prog 7 #[.agg #[.int .i64 (v 0), .int .i64 (v 1), .int .i64 (v 2), .int .i64 (v 3), .int .i64 (v 4), .int .i64 (v 5), .int .i64 (v 6), .int .i64 (v 7), .int .i64 (v 8), .int .i64 (v 9), .int .i64 (v 10), .int .i64 (v 11), .int .i64 (v 12), .int .i64 (v 13), .int .i64 (v 14), .int .i64 (v 15), .int .i64 (v 16), .slice X xn xc, .int .i64 (v 18), .int .i64 (v 19), .int .i64 (v 20)], .int .i64 now] w fun e w' => e = .returned (.bool true) ∧ Below w.heap.size w w' := by
  by_cases hl : 100 < xn
  · exact none_long w v X xn xc now hl
  · by_cases hg : 6 ≤ now ∧ now < 1099511627776
    · exact none_good w v X xn xc now hl hg
    · exact none_late w v X xn xc now hl hg
end Go.Proofs.Ytoeamofemepgpaa
