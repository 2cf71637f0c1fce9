/- Chapter 20: Hear, what is heard. -/
import Derived.Test.YtoeamofemepgpaaHear20
namespace Go.Proofs.Ytoeamofemepgpaa
open Go.RowKit

theorem ok3 {v : Nat → Int} {n : Nat} (h : OkM v n) (hk : v 0 = 3) : (1 ≤ v 6 ∧ v 6 ≤ 100) ∧ (1 ≤ v 7 ∧ v 7 ≤ 6) ∧ (0 ≤ v 8 ∧ v 8 ≤ 1099511627775) ∧ (1 ≤ v 9 ∧ v 9 ≤ 1000) ∧ ∀ k, 11 ≤ k → k ≤ 14 → 0 ≤ v k ∧ v k ≤ 1073741824 := by
  have h2 := h.2.2.1
  rw [hk, flK_3] at h2
  refine ⟨h2 ⟨6, 1, 100⟩ (by simp), h2 ⟨7, 1, 6⟩ (by simp), h2 ⟨8, 0, 1099511627775⟩ (by simp), h2 ⟨9, 1, 1000⟩ (by simp), fun k h1 h3 => ?_⟩
  have hk : k = 11 ∨ k = 12 ∨ k = 13 ∨ k = 14 := by omega
  rcases hk with rfl | rfl | rfl | rfl
  · exact h2 ⟨11, 0, 1073741824⟩ (by simp)
  · exact h2 ⟨12, 0, 1073741824⟩ (by simp)
  · exact h2 ⟨13, 0, 1073741824⟩ (by simp)
  · exact h2 ⟨14, 0, 1073741824⟩ (by simp)
theorem puts_on {w w6 w' : World} {A M : Nat} {L : Lay} {s' : Ag} {e : Ending} (hc : Chg (L.own A) w w6) (h : Puts w6 A M L s' e w') : Puts w A M L s' e w' := by
  obtain ⟨he, L', h1, h2, h3, h4⟩ := h
  exact ⟨he, L', h1, h2, hc.trans h3, fun k hk => (h4 k hk).imp id (Nat.le_trans hc.size)⟩
theorem settle_small {ps : List Pt} (h : Small ps) (u t : Int) : Small (ps.map fun p => p.settle u t) := by
  intro p hp
  obtain ⟨q, hq, rfl⟩ := List.mem_map.1 hp
  have := h q hq
  unfold Pt.settle Pt.over
  split <;> exact this
/-- Once it has heard. -/
def Ag.heard (s : Ag) (v : Nat → Int) (now : Int) : Ag := { (s.ticks now).settle now with epoch := v 1 }
set_option maxRecDepth 10000 in
set_option maxHeartbeats 4000000 in
theorem hear_yes (w : World) {A : Nat} {L : Lay} {s : Ag} (h : AgAt w A L s) (now : Int) (h0 : ¬ now < s.tick) (hn : ¬ (1099511627776 : Int) ≤ now) (hup : s.up = true) (hln : s.ps.length ≤ 1000000) (v : Nat → Int) (X : Option Addr) (xn xc : Nat)
    {g : Nat} (hk : doV A (v 0) = .func (.func g) #[.pointer (some ⟨A, 0, none⟩)] #[]) (eg : ∀ args w, (callFunc g args).run Try.prog w = .ok (.enter g args) w) (hok : OkM v xn) (hnode : v 2 = s.node) (hep : ¬ v 1 < s.epoch) {M : Nat} {s' : Ag}
    (hcall : ∀ w6, AgAt w6 A L (s.heard v now) → Calls Try.prog g #[.pointer (some ⟨A, 0, none⟩), .agg #[.int .i64 (v 0), .int .i64 (v 1), .int .i64 (v 2), .int .i64 (v 3), .int .i64 (v 4), .int .i64 (v 5), .int .i64 (v 6), .int .i64 (v 7), .int .i64 (v 8), .int .i64 (v 9), .int .i64 (v 10), .int .i64 (v 11), .int .i64 (v 12), .int .i64 (v 13), .int .i64 (v 14), .int .i64 (v 15), .int .i64 (v 16), .slice X xn xc, .int .i64 (v 18), .int .i64 (v 19), .int .i64 (v 20)]] w6 fun e w' => Puts w6 A M L s' e w') :
    Calls Try.prog 11 #[.pointer (some ⟨A, 0, none⟩), .agg #[.int .i64 (v 0), .int .i64 (v 1), .int .i64 (v 2), .int .i64 (v 3), .int .i64 (v 4), .int .i64 (v 5), .int .i64 (v 6), .int .i64 (v 7), .int .i64 (v 8), .int .i64 (v 9), .int .i64 (v 10), .int .i64 (v 11), .int .i64 (v 12), .int .i64 (v 13), .int .i64 (v 14), .int .i64 (v 15), .int .i64 (v 16), .slice X xn xc, .int .i64 (v 18), .int .i64 (v 19), .int .i64 (v 20)], .int .i64 now] w fun e w' => Puts w A M L s' e w' := by
  obtain ⟨S, hS⟩ : ∃ x, x = w.heap.size := ⟨_, rfl⟩
  obtain ⟨w1, hw1⟩ : ∃ y, y = w.alloc (.cells #[.int .i64 (v 0), .int .i64 (v 1), .int .i64 (v 2), .int .i64 (v 3), .int .i64 (v 4), .int .i64 (v 5), .int .i64 (v 6), .int .i64 (v 7), .int .i64 (v 8), .int .i64 (v 9), .int .i64 (v 10), .int .i64 (v 11), .int .i64 (v 12), .int .i64 (v 13), .int .i64 (v 14), .int .i64 (v 15), .int .i64 (v 16), .slice X xn xc, .int .i64 (v 18), .int .i64 (v 19), .int .i64 (v 20)] 35) := ⟨_, rfl⟩
  have hb1 : Below w.heap.size w w1 := by rw [hw1]; exact (Below.refl _ w).alloc (Nat.le_refl _) _
  have hm1 : w1.heap[S]? = some (.cells #[.int .i64 (v 0), .int .i64 (v 1), .int .i64 (v 2), .int .i64 (v 3), .int .i64 (v 4), .int .i64 (v 5), .int .i64 (v 6), .int .i64 (v 7), .int .i64 (v 8), .int .i64 (v 9), .int .i64 (v 10), .int .i64 (v 11), .int .i64 (v 12), .int .i64 (v 13), .int .i64 (v 14), .int .i64 (v 15), .int .i64 (v 16), .slice X xn xc, .int .i64 (v 18), .int .i64 (v 19), .int .i64 (v 20)] 35 (0, 0)) := by rw [hw1, hS]; exact heap_alloc_new w _
  have h1 := h.below hb1
  have HB1 : Hid (Chg (L.own A) w w1) := Lib.hid (Chg.of_below hb1)
  have H1 := Lib.hid h1
  have HM1 := Lib.hid hm1
  have hno : ¬ L.own A S := fun ho => by have := h.own_lt ho; omega
  have hlen : (s.ticks now).ps.length ≤ 100000000 := by show s.ps.length ≤ _; omega
  have c7 : w1.cell? ⟨A, 7, none⟩ = some (.int .i64 s.tick) := cellb (i := 7) h1.blk rfl
  have HCL := Lib.hid (clock_ok w1 A now s.tick c7 (fzb h1.blk 7) h0 hn)
  have q := h1.set (i := 7) (v := .int .i64 now) (s' := s.ticks now) (by simp [Ag.ticks]) rfl rfl h1.booted
  have HA2 : Hid (AgAt (w1.setCell ⟨A, 7, none⟩ (.int .i64 now)) A L (s.ticks now)) := Lib.hid q.1
  have HC2 : Hid (Chg (L.own A) w (w1.setCell ⟨A, 7, none⟩ (.int .i64 now))) := Lib.hid (HB1.out.trans (q.2.mono (fun k _ e => .inl e)))
  have HM2 : Hid ((w1.setCell ⟨A, 7, none⟩ (.int .i64 now)).heap[S]? = some (.cells #[.int .i64 (v 0), .int .i64 (v 1), .int .i64 (v 2), .int .i64 (v 3), .int .i64 (v 4), .int .i64 (v 5), .int .i64 (v 6), .int .i64 (v 7), .int .i64 (v 8), .int .i64 (v 9), .int .i64 (v 10), .int .i64 (v 11), .int .i64 (v 12), .int .i64 (v 13), .int .i64 (v 14), .int .i64 (v 15), .int .i64 (v 16), .slice X xn xc, .int .i64 (v 18), .int .i64 (v 19), .int .i64 (v 20)] 35 (0, 0))) := Lib.hid ((q.2.block S (ltb hm1) (ne_tag hm1 h1.blk (by simp [otag]))).trans hm1)
  clear q c7 h hb1 hm1 h1 HB1 H1 HM1
  have HDO := Lib.hid hk
  have HCALL := Lib.hid hcall
  clear hk hcall
  have HND := Lib.hid hnode
  clear hnode
  go_enter Try.func11, Try.ntmps11
  go_upto_region 1 with fail
  rw [← hS, ← hw1]
  clear hS hw1
  go_upto_region 2 with (go_at_call 23; refine HCL.out.mono ?_; clear HCL; rintro e w' ⟨rfl, rfl⟩; generalize w1.setCell ⟨A, 7, none⟩ (.int .i64 now) = w2 at *; have c6 : w2.cell? ⟨A, 6, none⟩ = some (.bool true) := by rw [← hup]; exact cellb (i := 6) HA2.out.blk rfl)
  clear c6
  go_upto_region 3 with (go_at_call 24; refine (settle_ag w2 HA2.out hlen now).mono ?_; rintro e w3 ⟨⟨r3, rfl⟩, ha3, hc3⟩; have HA3 := Lib.hid ha3; have HC3 := Lib.hid (HC2.out.trans hc3); have HM3 : Hid (w3.heap[S]? = some (.cells #[.int .i64 (v 0), .int .i64 (v 1), .int .i64 (v 2), .int .i64 (v 3), .int .i64 (v 4), .int .i64 (v 5), .int .i64 (v 6), .int .i64 (v 7), .int .i64 (v 8), .int .i64 (v 9), .int .i64 (v 10), .int .i64 (v 11), .int .i64 (v 12), .int .i64 (v 13), .int .i64 (v 14), .int .i64 (v 15), .int .i64 (v 16), .slice X xn xc, .int .i64 (v 18), .int .i64 (v 19), .int .i64 (v 20)] 35 (0, 0))) := Lib.hid ((hc3.block S (ltb HM2.out) (fun ho => hno ho)).trans HM2.out); clear ha3 hc3)
  have m0 : w3.cell? ⟨S, 0, none⟩ = some (.int .i64 (v 0)) := cellb (i := 0) HM3.out rfl
  go_upto_region 4 with (go_at_call 25; refine (doing_any w3 A (v 0)).mono ?_; rintro e w' ⟨rfl, rfl⟩)
  clear m0 HA2 HC2 HM2 hno
  rw [HDO.out]
  clear HDO
  have HA4 : Hid (AgAt w3.drew A L ((s.ticks now).settle now)) := Lib.hid HA3.out.drew
  have HC4 : Hid (Chg (L.own A) w w3.drew) := Lib.hid HC3.out.drew
  have g4 : w3.drew.heap[S]? = some (.cells #[.int .i64 (v 0), .int .i64 (v 1), .int .i64 (v 2), .int .i64 (v 3), .int .i64 (v 4), .int .i64 (v 5), .int .i64 (v 6), .int .i64 (v 7), .int .i64 (v 8), .int .i64 (v 9), .int .i64 (v 10), .int .i64 (v 11), .int .i64 (v 12), .int .i64 (v 13), .int .i64 (v 14), .int .i64 (v 15), .int .i64 (v 16), .slice X xn xc, .int .i64 (v 18), .int .i64 (v 19), .int .i64 (v 20)] 35 (0, 0)) := HM3.out
  have a0 : w3.drew.cell? ⟨A, 0, none⟩ = some (.int .i64 s.node) := cellb (i := 0) HA4.out.blk rfl
  have a11 : w3.drew.cell? ⟨A, 11, none⟩ = some (.int .i64 s.epoch) := cellb (i := 11) HA4.out.blk rfl
  clear HA3 HC3 HM3
  rw [← HND.out] at a0
  refine wp_region_noPanic ?_
  refine wp_region_held_drew (S := fun w' => w'.heap[S]? = some (.cells #[.int .i64 (v 0), .int .i64 (v 1), .int .i64 (v 2), .int .i64 (v 3), .int .i64 (v 4), .int .i64 (v 5), .int .i64 (v 6), .int .i64 (v 7), .int .i64 (v 8), .int .i64 (v 9), .int .i64 (v 10), .int .i64 (v 11), .int .i64 (v 12), .int .i64 (v 13), .int .i64 (v 14), .int .i64 (v 15), .int .i64 (v 16), .slice X xn xc, .int .i64 (v 18), .int .i64 (v 19), .int .i64 (v 20)] 35 (0, 0)) ∧ w'.cell? ⟨A, 0, none⟩ = some (.int .i64 (v 2)) ∧ w'.cell? ⟨A, 11, none⟩ = some (.int .i64 s.epoch)) (by kernel_rfl) ?_ (fun hHeld => ?_)
  · try dsimp only
    (refine ⟨?_, ?_, ?_⟩ <;> (first | with_reducible assumption))
  generalize w3.drew = W at *
  refine tk 0 ?_
  try simp only [Act.put, p1, p2, p3]
  refine tw 1 (v := ?_) ?_ ?_
  rotate_left
  · intro w hSw
    (try dsimp only at hSw)
    have hnn := fun f a b => fun_nil f a b w
    go_simp
    try with_reducible rfl
  try simp only [Act.put, p1, p2, p3]
  refine tk 2 ?_
  try simp only [Act.put, p1, p2, p3]
  refine tw 3 (v := ?_) ?_ ?_
  rotate_left
  · intro w hSw
    try dsimp only at hSw
    refine take_load (x := .tmp 4) (ty := 35) ?_ S ?_ 35 #[.int .i64 (v 0), .int .i64 (v 1), .int .i64 (v 2), .int .i64 (v 3), .int .i64 (v 4), .int .i64 (v 5), .int .i64 (v 6), .int .i64 (v 7), .int .i64 (v 8), .int .i64 (v 9), .int .i64 (v 10), .int .i64 (v 11), .int .i64 (v 12), .int .i64 (v 13), .int .i64 (v 14), .int .i64 (v 15), .int .i64 (v 16), .slice X xn xc, .int .i64 (v 18), .int .i64 (v 19), .int .i64 (v 20)] (0, 0) _ hSw.1 Try.underlying35 rfl (by kernel_rfl)
    all_goals rfl
  try simp only [Act.put, p1, p2, p3]
  refine rd 4 fun K hK => ?_
  go_simp
  refine (check_any v X xn xc W).mono ?_
  rintro e w4 ⟨b, he, hb, hbel⟩
  obtain rfl : b = true := hb.2 hok
  have he : e = .returned (.int .i64 0) := he
  subst he
  clear hb
  have HA5 : Hid (AgAt w4 A L ((s.ticks now).settle now)) := Lib.hid (HA4.out.below hbel)
  have HC5 : Hid (Chg (L.own A) w w4) := Lib.hid (HC4.out.trans (Chg.of_below hbel))
  have g4' : w4.heap[S]? = some (.cells #[.int .i64 (v 0), .int .i64 (v 1), .int .i64 (v 2), .int .i64 (v 3), .int .i64 (v 4), .int .i64 (v 5), .int .i64 (v 6), .int .i64 (v 7), .int .i64 (v 8), .int .i64 (v 9), .int .i64 (v 10), .int .i64 (v 11), .int .i64 (v 12), .int .i64 (v 13), .int .i64 (v 14), .int .i64 (v 15), .int .i64 (v 16), .slice X xn xc, .int .i64 (v 18), .int .i64 (v 19), .int .i64 (v 20)] 35 (0, 0)) := (hbel.block S (ltb g4)).trans g4
  have a0' : w4.cell? ⟨A, 0, none⟩ = some (.int .i64 (v 2)) := by rw [HND.out]; exact cellb (i := 0) HA5.out.blk rfl
  have a11' : w4.cell? ⟨A, 11, none⟩ = some (.int .i64 s.epoch) := cellb (i := 11) HA5.out.blk rfl
  clear HA4 HC4 g4 a0 a11 hbel
  refine hK.out _ _ ?_ (fun hHeld => ?_)
  · try dsimp only
    (refine ⟨?_, ?_, ?_⟩ <;> (first | with_reducible assumption))
  clear hK K
  try simp only [Act.put, p1, p2, p3]
  refine tk 5 ?_
  try simp only [Act.put, p1, p2, p3]
  refine tk 6 ?_
  try simp only [Act.put, p1, p2, p3]
  refine tk 7 ?_
  try simp only [Act.put, p1, p2, p3]
  refine tk 8 ?_
  try simp only [Act.put, p1, p2, p3]
  refine tw 9 (v := ?_) ?_ ?_
  rotate_left
  · intro w hSw
    (try dsimp only at hSw)
    have x0 : w.cell? ⟨S, 2, none⟩ = some (.int .i64 (v 2)) := cellb (i := 2) hSw.1 rfl
    go_simp
    try with_reducible rfl
  try simp only [Act.put, p1, p2, p3]
  refine tk 10 ?_
  try simp only [Act.put, p1, p2, p3]
  refine tk 11 ?_
  try simp only [Act.put, p1, p2, p3]
  refine tk 12 ?_
  try simp only [Act.put, p1, p2, p3]
  refine tk 13 ?_
  try simp only [Act.put, p1, p2, p3]
  refine tk 14 ?_
  try simp only [Act.put, p1, p2, p3]
  refine tk 15 ?_
  try simp only [Act.put, p1, p2, p3]
  refine tk 16 ?_
  try simp only [Act.put, p1, p2, p3]
  refine tk 17 ?_
  try simp only [Act.put, p1, p2, p3]
  refine tw 18 (v := ?_) ?_ ?_
  rotate_left
  · intro w hSw
    (try dsimp only at hSw)
    have x0 : w.cell? ⟨S, 1, none⟩ = some (.int .i64 (v 1)) := cellb (i := 1) hSw.1 rfl
    go_simp
    try with_reducible rfl
  try simp only [Act.put, p1, p2, p3]
  refine tk 19 ?_
  try simp only [Act.put, p1, p2, p3]
  refine tk 20 ?_
  try simp only [Act.put, p1, p2, p3]
  refine tk 21 ?_
  try simp only [Act.put, p1, p2, p3]
  refine tk 22 ?_
  try simp only [Act.put, p1, p2, p3]
  refine tk 23 ?_
  try simp only [Act.put, p1, p2, p3]
  refine tk 24 ?_
  try simp only [Act.put, p1, p2, p3]
  refine wpAnyH_done (by kernel_rfl) ?_ _
  refine NoPanic.normal ?_
  clear hHeld a0'
  have HM5 := Lib.hid g4'
  have m1 : w4.cell? ⟨S, 1, none⟩ = some (.int .i64 (v 1)) := cellb (i := 1) g4' rfl
  have z11 : w4.frozen? ⟨A, 11, none⟩ = false := fzb HA5.out.blk 11
  have q := HA5.out.set (i := 11) (v := .int .i64 (v 1)) (s' := s.heard v now) (by simp [Ag.heard, Ag.settle, Ag.ticks]) rfl rfl HA5.out.booted
  have HA6 := Lib.hid q.1
  have HC6 := Lib.hid (HC5.out.trans (q.2.mono (fun k _ e => .inl e)))
  have HM6 : Hid ((w4.setCell ⟨A, 11, none⟩ (.int .i64 (v 1))).heap[S]? = some (.cells #[.int .i64 (v 0), .int .i64 (v 1), .int .i64 (v 2), .int .i64 (v 3), .int .i64 (v 4), .int .i64 (v 5), .int .i64 (v 6), .int .i64 (v 7), .int .i64 (v 8), .int .i64 (v 9), .int .i64 (v 10), .int .i64 (v 11), .int .i64 (v 12), .int .i64 (v 13), .int .i64 (v 14), .int .i64 (v 15), .int .i64 (v 16), .slice X xn xc, .int .i64 (v 18), .int .i64 (v 19), .int .i64 (v 20)] 35 (0, 0))) := Lib.hid ((q.2.block S (ltb g4') (ne_tag g4' HA5.out.blk (by simp [otag]))).trans g4')
  clear q g4' HA5 HC5 HM5
  go_upto_region 6 with fail
  clear m1 z11 a11'
  generalize w4.setCell ⟨A, 11, none⟩ (.int .i64 (v 1)) = w6 at *
  have HCAL := Lib.hid (HCALL.out w6 HA6.out)
  go_wp2_with (first | (refine wpList_load_row rfl 35 (.tmp 4) rfl S rfl 35 #[.int .i64 (v 0), .int .i64 (v 1), .int .i64 (v 2), .int .i64 (v 3), .int .i64 (v 4), .int .i64 (v 5), .int .i64 (v 6), .int .i64 (v 7), .int .i64 (v 8), .int .i64 (v 9), .int .i64 (v 10), .int .i64 (v 11), .int .i64 (v 12), .int .i64 (v 13), .int .i64 (v 14), .int .i64 (v 15), .int .i64 (v 16), .slice X xn xc, .int .i64 (v 18), .int .i64 (v 19), .int .i64 (v 20)] (0, 0) _ HM6.out Try.underlying35 rfl (by kernel_rfl) ?_) | (refine HCAL.out.mono ?_; rintro e w7 hp; have HP := Lib.hid (puts_on HC6.out hp); obtain ⟨⟨r, rfl⟩, _⟩ := hp))
  go_end0
  exact ⟨⟨_, rfl⟩, HP.out.2⟩
theorem hear_grant_yes (w : World) {A : Nat} {L : Lay} {s : Ag} (h : AgAt w A L s) (now : Int) (h0 : ¬ now < s.tick) (hn : ¬ (1099511627776 : Int) ≤ now) (hup : s.up = true) (hln : s.ps.length ≤ 1000000) (v : Nat → Int) (X : Option Addr) (xn xc : Nat)
    (hk : v 0 = 2) (hok : OkM v xn) (hnode : v 2 = s.node) (hep : ¬ v 1 < s.epoch) {M : Nat} (hM : L.M = some M) :
    Calls Try.prog 11 #[.pointer (some ⟨A, 0, none⟩), .agg #[.int .i64 (v 0), .int .i64 (v 1), .int .i64 (v 2), .int .i64 (v 3), .int .i64 (v 4), .int .i64 (v 5), .int .i64 (v 6), .int .i64 (v 7), .int .i64 (v 8), .int .i64 (v 9), .int .i64 (v 10), .int .i64 (v 11), .int .i64 (v 12), .int .i64 (v 13), .int .i64 (v 14), .int .i64 (v 15), .int .i64 (v 16), .slice X xn xc, .int .i64 (v 18), .int .i64 (v 19), .int .i64 (v 20)], .int .i64 now] w fun e w' => Puts w A M L ((s.heard v now).grant v) e w' := by
  have hl5 : (s.heard v now).ps.length ≤ 1000000 := by simp only [Ag.heard, Ag.settle, Ag.ticks, List.length_map]; exact hln
  exact hear_yes w h now h0 hn hup hln v X xn xc (g := 31) (by rw [hk]; rfl) (enters_of Try.func31 (by kernel_rfl) rfl) hok hnode hep (fun w6 h6 => (grant_any w6 h6 v X xn xc).mono (fun e w' q => puts_self hM q))
theorem hear_launch_yes (w : World) {A : Nat} {L : Lay} {s : Ag} (h : AgAt w A L s) (now : Int) (h0 : ¬ now < s.tick) (hn : ¬ (1099511627776 : Int) ≤ now) (hup : s.up = true) (hln : s.ps.length ≤ 1000000) (v : Nat → Int) (X : Option Addr) (xn xc : Nat)
    (hk : v 0 = 3) (hok : OkM v xn) (hnode : v 2 = s.node) (hep : ¬ v 1 < s.epoch) {M : Nat} (hM : L.M = some M) (hs : Small s.ps) (hw : s.work.length ≤ 1000000) (hpos : 0 ≤ now) :
    Calls Try.prog 11 #[.pointer (some ⟨A, 0, none⟩), .agg #[.int .i64 (v 0), .int .i64 (v 1), .int .i64 (v 2), .int .i64 (v 3), .int .i64 (v 4), .int .i64 (v 5), .int .i64 (v 6), .int .i64 (v 7), .int .i64 (v 8), .int .i64 (v 9), .int .i64 (v 10), .int .i64 (v 11), .int .i64 (v 12), .int .i64 (v 13), .int .i64 (v 14), .int .i64 (v 15), .int .i64 (v 16), .slice X xn xc, .int .i64 (v 18), .int .i64 (v 19), .int .i64 (v 20)], .int .i64 now] w fun e w' => Puts w A M L ((s.heard v now).launch v) e w' := by
  have hl5 : (s.heard v now).ps.length ≤ 1000000 := by simp only [Ag.heard, Ag.settle, Ag.ticks, List.length_map]; exact hln
  have hK := ok3 hok hk
  have hsm : Small (s.heard v now).ps := settle_small hs _ _
  exact hear_yes w h now h0 hn hup hln v X xn xc (g := 32) (by rw [hk]; rfl) (enters_of Try.func32 (by kernel_rfl) rfl) hok hnode hep (fun w6 h6 => launch_any w6 h6 hM v X xn xc hl5 hsm hK.2.2.2.2 (by have := hK.2.2.1; omega) hw (by have := hK.1; omega) (by have := hK.2.2.2.1; omega) (by show 0 ≤ now ∧ now ≤ _; omega))
theorem hear_kill_yes (w : World) {A : Nat} {L : Lay} {s : Ag} (h : AgAt w A L s) (now : Int) (h0 : ¬ now < s.tick) (hn : ¬ (1099511627776 : Int) ≤ now) (hup : s.up = true) (hln : s.ps.length ≤ 1000000) (v : Nat → Int) (X : Option Addr) (xn xc : Nat)
    (hk : v 0 = 4) (hok : OkM v xn) (hnode : v 2 = s.node) (hep : ¬ v 1 < s.epoch) {M : Nat} (hM : L.M = some M) :
    Calls Try.prog 11 #[.pointer (some ⟨A, 0, none⟩), .agg #[.int .i64 (v 0), .int .i64 (v 1), .int .i64 (v 2), .int .i64 (v 3), .int .i64 (v 4), .int .i64 (v 5), .int .i64 (v 6), .int .i64 (v 7), .int .i64 (v 8), .int .i64 (v 9), .int .i64 (v 10), .int .i64 (v 11), .int .i64 (v 12), .int .i64 (v 13), .int .i64 (v 14), .int .i64 (v 15), .int .i64 (v 16), .slice X xn xc, .int .i64 (v 18), .int .i64 (v 19), .int .i64 (v 20)], .int .i64 now] w fun e w' => Puts w A M L ((s.heard v now).kill v) e w' := by
  have hl5 : (s.heard v now).ps.length ≤ 1000000 := by simp only [Ag.heard, Ag.settle, Ag.ticks, List.length_map]; exact hln
  exact hear_yes w h now h0 hn hup hln v X xn xc (g := 33) (by rw [hk]; rfl) (enters_of Try.func33 (by kernel_rfl) rfl) hok hnode hep (fun w6 h6 => kill_any w6 h6 hM hl5 v X xn xc)
theorem hear_ack_yes (w : World) {A : Nat} {L : Lay} {s : Ag} (h : AgAt w A L s) (now : Int) (h0 : ¬ now < s.tick) (hn : ¬ (1099511627776 : Int) ≤ now) (hup : s.up = true) (hln : s.ps.length ≤ 1000000) (v : Nat → Int) (X : Option Addr) (xn xc : Nat)
    (hk : v 0 = 6) (hok : OkM v xn) (hnode : v 2 = s.node) (hep : ¬ v 1 < s.epoch) {M : Nat} (hM : L.M = some M) :
    Calls Try.prog 11 #[.pointer (some ⟨A, 0, none⟩), .agg #[.int .i64 (v 0), .int .i64 (v 1), .int .i64 (v 2), .int .i64 (v 3), .int .i64 (v 4), .int .i64 (v 5), .int .i64 (v 6), .int .i64 (v 7), .int .i64 (v 8), .int .i64 (v 9), .int .i64 (v 10), .int .i64 (v 11), .int .i64 (v 12), .int .i64 (v 13), .int .i64 (v 14), .int .i64 (v 15), .int .i64 (v 16), .slice X xn xc, .int .i64 (v 18), .int .i64 (v 19), .int .i64 (v 20)], .int .i64 now] w fun e w' => Puts w A M L ((s.heard v now).ack v) e w' := by
  have hl5 : (s.heard v now).ps.length ≤ 1000000 := by simp only [Ag.heard, Ag.settle, Ag.ticks, List.length_map]; exact hln
  exact hear_yes w h now h0 hn hup hln v X xn xc (g := 34) (by rw [hk]; rfl) (enters_of Try.func34 (by kernel_rfl) rfl) hok hnode hep (fun w6 h6 => (ack_any w6 h6 hM v X xn xc).mono (fun e w' q => puts_self hM q))
end Go.Proofs.Ytoeamofemepgpaa
