/- Chapter 20: grant. -/
import Derived.Test.YtoeamofemepgpaaPut
namespace Go.Proofs.Ytoeamofemepgpaa
open Go.RowKit

def Ag.grant (s : Ag) (v : Nat → Int) : Ag :=
  if v 5 ≤ s.tick then s else if v 5 ≤ s.until_ then s else if s.until_ ≤ s.tick then { s with since := v 4, until_ := v 5 } else { s with until_ := v 5 }
set_option maxHeartbeats 2000000 in
theorem grant_any (w : World) {A : Nat} {L : Lay} {s : Ag} (h : AgAt w A L s) (v : Nat → Int) (X : Option Addr) (xn xc : Nat) :
    Calls Try.prog 31 #[.pointer (some ⟨A, 0, none⟩), .agg #[.int .i64 (v 0), .int .i64 (v 1), .int .i64 (v 2), .int .i64 (v 3), .int .i64 (v 4), .int .i64 (v 5), .int .i64 (v 6), .int .i64 (v 7), .int .i64 (v 8), .int .i64 (v 9), .int .i64 (v 10), .int .i64 (v 11), .int .i64 (v 12), .int .i64 (v 13), .int .i64 (v 14), .int .i64 (v 15), .int .i64 (v 16), .slice X xn xc, .int .i64 (v 18), .int .i64 (v 19), .int .i64 (v 20)]] w fun e w' => (∃ r, e = .returned r) ∧ AgAt w' A L (s.grant v) ∧ Chg (L.own A) w w' := by
  obtain ⟨S, hS⟩ : ∃ x, x = w.heap.size := ⟨_, rfl⟩
  obtain ⟨w1, hw1⟩ : ∃ y, y = w.alloc (.cells #[.int .i64 (v 0), .int .i64 (v 1), .int .i64 (v 2), .int .i64 (v 3), .int .i64 (v 4), .int .i64 (v 5), .int .i64 (v 6), .int .i64 (v 7), .int .i64 (v 8), .int .i64 (v 9), .int .i64 (v 10), .int .i64 (v 11), .int .i64 (v 12), .int .i64 (v 13), .int .i64 (v 14), .int .i64 (v 15), .int .i64 (v 16), .slice X xn xc, .int .i64 (v 18), .int .i64 (v 19), .int .i64 (v 20)] 35) := ⟨_, rfl⟩
  have hb1 : Below w.heap.size w w1 := by rw [hw1]; exact (Below.refl _ w).alloc (Nat.le_refl _) _
  have hm1 : w1.heap[S]? = some (.cells #[.int .i64 (v 0), .int .i64 (v 1), .int .i64 (v 2), .int .i64 (v 3), .int .i64 (v 4), .int .i64 (v 5), .int .i64 (v 6), .int .i64 (v 7), .int .i64 (v 8), .int .i64 (v 9), .int .i64 (v 10), .int .i64 (v 11), .int .i64 (v 12), .int .i64 (v 13), .int .i64 (v 14), .int .i64 (v 15), .int .i64 (v 16), .slice X xn xc, .int .i64 (v 18), .int .i64 (v 19), .int .i64 (v 20)] 35 (0, 0)) := by rw [hw1, hS]; exact heap_alloc_new w _
  have h1 := h.below hb1
  have c7 : w1.drew.cell? ⟨A, 7, none⟩ = some (.int .i64 s.tick) := cellb (i := 7) h1.blk rfl
  have c10 : w1.drew.cell? ⟨A, 10, none⟩ = some (.int .i64 s.until_) := cellb (i := 10) h1.blk rfl
  have c5 : w1.drew.cell? ⟨S, 5, none⟩ = some (.int .i64 (v 5)) := cellb (i := 5) hm1 rfl
  have HB1 : Hid (Chg (L.own A) w w1) := Lib.hid (Chg.of_below hb1)
  have H1 := Lib.hid h1
  have HM1 := Lib.hid hm1
  clear h hb1 hm1 h1
  by_cases t0 : v 5 ≤ s.tick
  · have e : s.grant v = s := by unfold Ag.grant; rw [if_pos t0]
    rw [e]
    clear e
    go_enter Try.func31, Try.ntmps31
    go_upto_region 1 with fail
    rw [← hS, ← hw1]
    clear hS hw1
    refine wp_region_noPanic ?_
    refine wp_region_held_drew (S := fun w' => w'.cell? ⟨A, 7, none⟩ = some (.int .i64 s.tick) ∧ w'.cell? ⟨A, 10, none⟩ = some (.int .i64 s.until_) ∧ w'.cell? ⟨S, 5, none⟩ = some (.int .i64 (v 5))) (by kernel_rfl) ?_ (fun hHeld => ?_)
    · try dsimp only
      (refine ⟨?_, ?_, ?_⟩ <;> (first | with_reducible assumption))
    refine tk 0 ?_
    try simp only [Act.put, p1, p2, p3]
    refine tk 1 ?_
    try simp only [Act.put, p1, p2, p3]
    refine tk 2 ?_
    try simp only [Act.put, p1, p2, p3]
    refine tk 3 ?_
    try simp only [Act.put, p1, p2, p3]
    refine tk 4 ?_
    try simp only [Act.put, p1, p2, p3]
    refine tk 5 ?_
    try simp only [Act.put, p1, p2, p3]
    refine tk 6 ?_
    try simp only [Act.put, p1, p2, p3]
    refine tk 7 ?_
    try simp only [Act.put, p1, p2, p3]
    refine sk 8 ?_
    try simp only [Act.put, p1, p2, p3]
    refine sk 9 ?_
    try simp only [Act.put, p1, p2, p3]
    refine sk 10 ?_
    try simp only [Act.put, p1, p2, p3]
    refine sk 11 ?_
    try simp only [Act.put, p1, p2, p3]
    refine sk 12 ?_
    try simp only [Act.put, p1, p2, p3]
    refine sk 13 ?_
    try simp only [Act.put, p1, p2, p3]
    refine sk 14 ?_
    try simp only [Act.put, p1, p2, p3]
    refine tk 15 ?_
    try simp only [Act.put, p1, p2, p3]
    refine wpAnyH_done (by kernel_rfl) ?_ _
    refine NoPanic.normal ?_
    clear hHeld
    clear c5 c7 c10
    go_wp2_with fail
    refine bodyPost_ret (v := .tuple #[]) (results_none rfl _ _ _) rfl ?_
    exact ⟨⟨_, rfl⟩, H1.out.drew, HB1.out.drew⟩
  · by_cases t1 : v 5 ≤ s.until_
    · have e : s.grant v = s := by unfold Ag.grant; rw [if_neg t0, if_pos t1]
      rw [e]
      clear e
      go_enter Try.func31, Try.ntmps31
      go_upto_region 1 with fail
      rw [← hS, ← hw1]
      clear hS hw1
      refine wp_region_noPanic ?_
      refine wp_region_held_drew (S := fun w' => w'.cell? ⟨A, 7, none⟩ = some (.int .i64 s.tick) ∧ w'.cell? ⟨A, 10, none⟩ = some (.int .i64 s.until_) ∧ w'.cell? ⟨S, 5, none⟩ = some (.int .i64 (v 5))) (by kernel_rfl) ?_ (fun hHeld => ?_)
      · try dsimp only
        (refine ⟨?_, ?_, ?_⟩ <;> (first | with_reducible assumption))
      refine tk 0 ?_
      try simp only [Act.put, p1, p2, p3]
      refine tk 1 ?_
      try simp only [Act.put, p1, p2, p3]
      refine tk 2 ?_
      try simp only [Act.put, p1, p2, p3]
      refine tk 3 ?_
      try simp only [Act.put, p1, p2, p3]
      refine tk 4 ?_
      try simp only [Act.put, p1, p2, p3]
      refine tk 5 ?_
      try simp only [Act.put, p1, p2, p3]
      refine tk 6 ?_
      try simp only [Act.put, p1, p2, p3]
      refine tk 7 ?_
      try simp only [Act.put, p1, p2, p3]
      refine tk 8 ?_
      try simp only [Act.put, p1, p2, p3]
      refine tk 9 ?_
      try simp only [Act.put, p1, p2, p3]
      refine tk 10 ?_
      try simp only [Act.put, p1, p2, p3]
      refine tk 11 ?_
      try simp only [Act.put, p1, p2, p3]
      refine tk 12 ?_
      try simp only [Act.put, p1, p2, p3]
      refine tk 13 ?_
      try simp only [Act.put, p1, p2, p3]
      refine tk 14 ?_
      try simp only [Act.put, p1, p2, p3]
      refine tk 15 ?_
      try simp only [Act.put, p1, p2, p3]
      refine wpAnyH_done (by kernel_rfl) ?_ _
      refine NoPanic.normal ?_
      clear hHeld
      clear c5 c7 c10
      go_wp2_with fail
      refine bodyPost_ret (v := .tuple #[]) (results_none rfl _ _ _) rfl ?_
      exact ⟨⟨_, rfl⟩, H1.out.drew, HB1.out.drew⟩
    · by_cases t2 : s.until_ ≤ s.tick
      · have e : s.grant v = { s with since := v 4, until_ := v 5 } := by unfold Ag.grant; rw [if_neg t0, if_neg t1, if_pos t2]
        rw [e]
        clear e
        go_enter Try.func31, Try.ntmps31
        go_upto_region 1 with fail
        rw [← hS, ← hw1]
        clear hS hw1
        refine wp_region_noPanic ?_
        refine wp_region_held_drew (S := fun w' => w'.cell? ⟨A, 7, none⟩ = some (.int .i64 s.tick) ∧ w'.cell? ⟨A, 10, none⟩ = some (.int .i64 s.until_) ∧ w'.cell? ⟨S, 5, none⟩ = some (.int .i64 (v 5))) (by kernel_rfl) ?_ (fun hHeld => ?_)
        · try dsimp only
          (refine ⟨?_, ?_, ?_⟩ <;> (first | with_reducible assumption))
        refine tk 0 ?_
        try simp only [Act.put, p1, p2, p3]
        refine tk 1 ?_
        try simp only [Act.put, p1, p2, p3]
        refine tk 2 ?_
        try simp only [Act.put, p1, p2, p3]
        refine tk 3 ?_
        try simp only [Act.put, p1, p2, p3]
        refine tk 4 ?_
        try simp only [Act.put, p1, p2, p3]
        refine tk 5 ?_
        try simp only [Act.put, p1, p2, p3]
        refine tk 6 ?_
        try simp only [Act.put, p1, p2, p3]
        refine tk 7 ?_
        try simp only [Act.put, p1, p2, p3]
        refine tk 8 ?_
        try simp only [Act.put, p1, p2, p3]
        refine tk 9 ?_
        try simp only [Act.put, p1, p2, p3]
        refine tk 10 ?_
        try simp only [Act.put, p1, p2, p3]
        refine tk 11 ?_
        try simp only [Act.put, p1, p2, p3]
        refine tk 12 ?_
        try simp only [Act.put, p1, p2, p3]
        refine tk 13 ?_
        try simp only [Act.put, p1, p2, p3]
        refine tk 14 ?_
        try simp only [Act.put, p1, p2, p3]
        refine tk 15 ?_
        try simp only [Act.put, p1, p2, p3]
        refine wpAnyH_done (by kernel_rfl) ?_ _
        refine NoPanic.normal ?_
        clear hHeld
        clear c5
        go_upto_region 2 with fail
        have c7 : w1.drew.drew.cell? ⟨A, 7, none⟩ = some (.int .i64 s.tick) := c7
        have c10 : w1.drew.drew.cell? ⟨A, 10, none⟩ = some (.int .i64 s.until_) := c10
        refine wp_region_noPanic ?_
        refine wp_region_held_drew (S := fun w' => w'.cell? ⟨A, 7, none⟩ = some (.int .i64 s.tick) ∧ w'.cell? ⟨A, 10, none⟩ = some (.int .i64 s.until_)) (by kernel_rfl) ?_ (fun hHeld => ?_)
        · try dsimp only
          (refine ⟨?_, ?_⟩ <;> (first | with_reducible assumption))
        refine tk 0 ?_
        try simp only [Act.put, p1, p2, p3]
        refine tk 1 ?_
        try simp only [Act.put, p1, p2, p3]
        refine tk 2 ?_
        try simp only [Act.put, p1, p2, p3]
        refine tk 3 ?_
        try simp only [Act.put, p1, p2, p3]
        refine tk 4 ?_
        try simp only [Act.put, p1, p2, p3]
        refine tk 5 ?_
        try simp only [Act.put, p1, p2, p3]
        refine tk 6 ?_
        try simp only [Act.put, p1, p2, p3]
        refine tk 7 ?_
        try simp only [Act.put, p1, p2, p3]
        refine tk 8 ?_
        try simp only [Act.put, p1, p2, p3]
        refine wpAnyH_done (by kernel_rfl) ?_ _
        refine NoPanic.normal ?_
        clear hHeld c7 c10
        have H2 : Hid (AgAt w1.drew.drew A L s) := Lib.hid H1.out.drew.drew
        have HM2 : Hid (w1.drew.drew.heap[S]? = some (.cells #[.int .i64 (v 0), .int .i64 (v 1), .int .i64 (v 2), .int .i64 (v 3), .int .i64 (v 4), .int .i64 (v 5), .int .i64 (v 6), .int .i64 (v 7), .int .i64 (v 8), .int .i64 (v 9), .int .i64 (v 10), .int .i64 (v 11), .int .i64 (v 12), .int .i64 (v 13), .int .i64 (v 14), .int .i64 (v 15), .int .i64 (v 16), .slice X xn xc, .int .i64 (v 18), .int .i64 (v 19), .int .i64 (v 20)] 35 (0, 0))) := HM1
        have HB2 : Hid (Chg (L.own A) w w1.drew.drew) := Lib.hid HB1.out.drew.drew
        clear H1 HM1 HB1
        generalize w1.drew.drew = W at *
        have hne : A ≠ S := ne_tag H2.out.blk HM2.out (by simp [otag])
        have hne2 : S ≠ A := hne.symm
        have q1 := H2.out.set (i := 9) (v := .int .i64 (v 4)) (s' := { s with since := v 4 }) (by simp) rfl rfl H2.out.booted
        have q2 := q1.1.set (i := 10) (v := .int .i64 (v 5)) (s' := { s with since := v 4, until_ := v 5 }) (by simp) rfl rfl H2.out.booted
        have HQ := Lib.hid q2.1
        have HC := Lib.hid (HB2.out.trans ((q1.2.trans q2.2).mono (fun k _ e => .inl e)))
        have m4 : W.cell? ⟨S, 4, none⟩ = some (.int .i64 (v 4)) := cellb (i := 4) HM2.out rfl
        have k9 : W.cell? ⟨A, 9, none⟩ = some (.int .i64 s.since) := cellb (i := 9) H2.out.blk rfl
        have z9 : W.frozen? ⟨A, 9, none⟩ = false := fzb H2.out.blk 9
        have m5 : W.cell? ⟨S, 5, none⟩ = some (.int .i64 (v 5)) := cellb (i := 5) HM2.out rfl
        have k10 : W.cell? ⟨A, 10, none⟩ = some (.int .i64 s.until_) := cellb (i := 10) H2.out.blk rfl
        have z10 : W.frozen? ⟨A, 10, none⟩ = false := fzb H2.out.blk 10
        have m5' : (W.setCell ⟨A, 9, none⟩ (.int .i64 (v 4))).cell? ⟨S, 5, none⟩ = some (.int .i64 (v 5)) := (World.cell?_setCell_far _ _ _ _ hne).trans m5
        have k10' : (W.setCell ⟨A, 9, none⟩ (.int .i64 (v 4))).cell? ⟨A, 10, none⟩ = some (.int .i64 s.until_) := cellb (i := 10) q1.1.blk rfl
        have z10' : (W.setCell ⟨A, 9, none⟩ (.int .i64 (v 4))).frozen? ⟨A, 10, none⟩ = false := fzb q1.1.blk 10
        clear q1 q2 HM2 H2
        go_wp2_with fail
        go_end0
        exact ⟨⟨_, rfl⟩, HQ.out, HC.out⟩
      · have e : s.grant v = { s with until_ := v 5 } := by unfold Ag.grant; rw [if_neg t0, if_neg t1, if_neg t2]
        rw [e]
        clear e
        go_enter Try.func31, Try.ntmps31
        go_upto_region 1 with fail
        rw [← hS, ← hw1]
        clear hS hw1
        refine wp_region_noPanic ?_
        refine wp_region_held_drew (S := fun w' => w'.cell? ⟨A, 7, none⟩ = some (.int .i64 s.tick) ∧ w'.cell? ⟨A, 10, none⟩ = some (.int .i64 s.until_) ∧ w'.cell? ⟨S, 5, none⟩ = some (.int .i64 (v 5))) (by kernel_rfl) ?_ (fun hHeld => ?_)
        · try dsimp only
          (refine ⟨?_, ?_, ?_⟩ <;> (first | with_reducible assumption))
        refine tk 0 ?_
        try simp only [Act.put, p1, p2, p3]
        refine tk 1 ?_
        try simp only [Act.put, p1, p2, p3]
        refine tk 2 ?_
        try simp only [Act.put, p1, p2, p3]
        refine tk 3 ?_
        try simp only [Act.put, p1, p2, p3]
        refine tk 4 ?_
        try simp only [Act.put, p1, p2, p3]
        refine tk 5 ?_
        try simp only [Act.put, p1, p2, p3]
        refine tk 6 ?_
        try simp only [Act.put, p1, p2, p3]
        refine tk 7 ?_
        try simp only [Act.put, p1, p2, p3]
        refine tk 8 ?_
        try simp only [Act.put, p1, p2, p3]
        refine tk 9 ?_
        try simp only [Act.put, p1, p2, p3]
        refine tk 10 ?_
        try simp only [Act.put, p1, p2, p3]
        refine tk 11 ?_
        try simp only [Act.put, p1, p2, p3]
        refine tk 12 ?_
        try simp only [Act.put, p1, p2, p3]
        refine tk 13 ?_
        try simp only [Act.put, p1, p2, p3]
        refine tk 14 ?_
        try simp only [Act.put, p1, p2, p3]
        refine tk 15 ?_
        try simp only [Act.put, p1, p2, p3]
        refine wpAnyH_done (by kernel_rfl) ?_ _
        refine NoPanic.normal ?_
        clear hHeld
        clear c5
        go_upto_region 2 with fail
        have c7 : w1.drew.drew.cell? ⟨A, 7, none⟩ = some (.int .i64 s.tick) := c7
        have c10 : w1.drew.drew.cell? ⟨A, 10, none⟩ = some (.int .i64 s.until_) := c10
        refine wp_region_noPanic ?_
        refine wp_region_held_drew (S := fun w' => w'.cell? ⟨A, 7, none⟩ = some (.int .i64 s.tick) ∧ w'.cell? ⟨A, 10, none⟩ = some (.int .i64 s.until_)) (by kernel_rfl) ?_ (fun hHeld => ?_)
        · try dsimp only
          (refine ⟨?_, ?_⟩ <;> (first | with_reducible assumption))
        refine tk 0 ?_
        try simp only [Act.put, p1, p2, p3]
        refine tk 1 ?_
        try simp only [Act.put, p1, p2, p3]
        refine tk 2 ?_
        try simp only [Act.put, p1, p2, p3]
        refine tk 3 ?_
        try simp only [Act.put, p1, p2, p3]
        refine tk 4 ?_
        try simp only [Act.put, p1, p2, p3]
        refine tk 5 ?_
        try simp only [Act.put, p1, p2, p3]
        refine tk 6 ?_
        try simp only [Act.put, p1, p2, p3]
        refine tk 7 ?_
        try simp only [Act.put, p1, p2, p3]
        refine tk 8 ?_
        try simp only [Act.put, p1, p2, p3]
        refine wpAnyH_done (by kernel_rfl) ?_ _
        refine NoPanic.normal ?_
        clear hHeld c7 c10
        have H2 : Hid (AgAt w1.drew.drew A L s) := Lib.hid H1.out.drew.drew
        have HM2 : Hid (w1.drew.drew.heap[S]? = some (.cells #[.int .i64 (v 0), .int .i64 (v 1), .int .i64 (v 2), .int .i64 (v 3), .int .i64 (v 4), .int .i64 (v 5), .int .i64 (v 6), .int .i64 (v 7), .int .i64 (v 8), .int .i64 (v 9), .int .i64 (v 10), .int .i64 (v 11), .int .i64 (v 12), .int .i64 (v 13), .int .i64 (v 14), .int .i64 (v 15), .int .i64 (v 16), .slice X xn xc, .int .i64 (v 18), .int .i64 (v 19), .int .i64 (v 20)] 35 (0, 0))) := HM1
        have HB2 : Hid (Chg (L.own A) w w1.drew.drew) := Lib.hid HB1.out.drew.drew
        clear H1 HM1 HB1
        generalize w1.drew.drew = W at *
        have hne : A ≠ S := ne_tag H2.out.blk HM2.out (by simp [otag])
        have hne2 : S ≠ A := hne.symm
        have q1 := H2.out.set (i := 10) (v := .int .i64 (v 5)) (s' := { s with until_ := v 5 }) (by simp) rfl rfl H2.out.booted
        have HQ := Lib.hid q1.1
        have HC := Lib.hid (HB2.out.trans (q1.2.mono (fun k _ e => .inl e)))
        have m5 : W.cell? ⟨S, 5, none⟩ = some (.int .i64 (v 5)) := cellb (i := 5) HM2.out rfl
        have k10 : W.cell? ⟨A, 10, none⟩ = some (.int .i64 s.until_) := cellb (i := 10) H2.out.blk rfl
        have z10 : W.frozen? ⟨A, 10, none⟩ = false := fzb H2.out.blk 10
        clear q1 HM2 H2
        go_wp2_with fail
        go_end0
        exact ⟨⟨_, rfl⟩, HQ.out, HC.out⟩
end Go.Proofs.Ytoeamofemepgpaa
