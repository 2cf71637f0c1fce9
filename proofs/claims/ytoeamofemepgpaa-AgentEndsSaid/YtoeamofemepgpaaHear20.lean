/- Chapter 20: Hear. -/
import Derived.Test.YtoeamofemepgpaaLaunch
import Derived.Test.YtoeamofemepgpaaGrant
import Derived.Test.YtoeamofemepgpaaChk
namespace Go.Proofs.Ytoeamofemepgpaa
open Go.RowKit

theorem take_load {P : Program} {a : Act} {oi : Oper} {w : World} {ty : TypeId} {x : Operand} (ho : oi.op = .load ty x) (g : Nat) (hx : a.eval x = .pointer (some ⟨g, 0, none⟩)) (t : TypeId) (cs : Array Value) (fr : Nat × Nat) (d : TypeDesc) (hg : w.heap[g]? = some (.cells cs t fr))
    (hu : P.underlying ty = some d) (hd : (match d with | .struct _ | .array _ _ => true | _ => false) = true) (hi : (P.info? ty).map (·.size) = some cs.size) : (execOp a.eval oi).run P w = .ok (.value (.agg cs)) w := by
  unfold execOp
  simp only [ho, hx, Instr.loadAt, Instr.sureAddr, Sem.run_bind, Sem.run_pure, Result.andThen_ok, run_loadVar_row w g t ty cs fr d hg hu hd hi]

theorem nil_nil (w : World) : (Go.binOp .eql 63 .nilFunc .nilFunc).run Try.prog w = .ok (.bool true) w := by kernel_rfl
theorem fun_nil (f : Fn) (a b : Array Value) (w : World) : (Go.binOp .eql 63 (.func f a b) .nilFunc).run Try.prog w = .ok (.bool false) w := by kernel_rfl
/-- What is done with a message of a kind. -/
def doV (A : Nat) (k : Int) : Value :=
  if k = 2 then .func (.func 31) #[.pointer (some ⟨A, 0, none⟩)] #[] else if k = 3 then .func (.func 32) #[.pointer (some ⟨A, 0, none⟩)] #[]
  else if k = 4 then .func (.func 33) #[.pointer (some ⟨A, 0, none⟩)] #[] else if k = 6 then .func (.func 34) #[.pointer (some ⟨A, 0, none⟩)] #[] else .nilFunc
theorem doing_any (w : World) (A : Nat) (k : Int) : Calls Try.prog 25 #[.pointer (some ⟨A, 0, none⟩), .int .i64 k] w fun e w' => e = .returned (doV A k) ∧ w = w' := by
  by_cases h2 : k = 2
  · subst h2
    go_enter Try.func25, Try.ntmps25
    go_wp2_with fail
    go_ret
    exact ⟨rfl, rfl⟩
  · by_cases h3 : k = 3
    · subst h3
      go_enter Try.func25, Try.ntmps25
      go_wp2_with fail
      go_ret
      exact ⟨rfl, rfl⟩
    · by_cases h4 : k = 4
      · subst h4
        go_enter Try.func25, Try.ntmps25
        go_wp2_with fail
        go_ret
        exact ⟨rfl, rfl⟩
      · by_cases h6 : k = 6
        · subst h6
          go_enter Try.func25, Try.ntmps25
          go_wp2_with fail
          go_ret
          exact ⟨rfl, rfl⟩
        · have e : doV A k = .nilFunc := by simp [doV, h2, h3, h4, h6]
          rw [e]
          clear e
          go_enter Try.func25, Try.ntmps25
          go_wp2_with fail
          go_ret
          exact ⟨rfl, rfl⟩


def Ag.ticks (s : Ag) (now : Int) : Ag := { s with tick := now }
theorem hear_early (w : World) {A : Nat} {L : Lay} {s : Ag} (h : AgAt w A L s) (now : Int) (hc : now < s.tick ∨ (1099511627776 : Int) ≤ now) (v : Nat → Int) (X : Option Addr) (xn xc : Nat) :
    Calls Try.prog 11 #[.pointer (some ⟨A, 0, none⟩), .agg #[.int .i64 (v 0), .int .i64 (v 1), .int .i64 (v 2), .int .i64 (v 3), .int .i64 (v 4), .int .i64 (v 5), .int .i64 (v 6), .int .i64 (v 7), .int .i64 (v 8), .int .i64 (v 9), .int .i64 (v 10), .int .i64 (v 11), .int .i64 (v 12), .int .i64 (v 13), .int .i64 (v 14), .int .i64 (v 15), .int .i64 (v 16), .slice X xn xc, .int .i64 (v 18), .int .i64 (v 19), .int .i64 (v 20)], .int .i64 now] w fun e w' => (∃ r, e = .returned r) ∧ AgAt w' A L s ∧ Chg (L.own A) w w' := by
  obtain ⟨S, hS⟩ : ∃ x, x = w.heap.size := ⟨_, rfl⟩
  obtain ⟨w1, hw1⟩ : ∃ y, y = w.alloc (.cells #[.int .i64 (v 0), .int .i64 (v 1), .int .i64 (v 2), .int .i64 (v 3), .int .i64 (v 4), .int .i64 (v 5), .int .i64 (v 6), .int .i64 (v 7), .int .i64 (v 8), .int .i64 (v 9), .int .i64 (v 10), .int .i64 (v 11), .int .i64 (v 12), .int .i64 (v 13), .int .i64 (v 14), .int .i64 (v 15), .int .i64 (v 16), .slice X xn xc, .int .i64 (v 18), .int .i64 (v 19), .int .i64 (v 20)] 35) := ⟨_, rfl⟩
  have hb1 : Below w.heap.size w w1 := by rw [hw1]; exact (Below.refl _ w).alloc (Nat.le_refl _) _
  have hm1 : w1.heap[S]? = some (.cells #[.int .i64 (v 0), .int .i64 (v 1), .int .i64 (v 2), .int .i64 (v 3), .int .i64 (v 4), .int .i64 (v 5), .int .i64 (v 6), .int .i64 (v 7), .int .i64 (v 8), .int .i64 (v 9), .int .i64 (v 10), .int .i64 (v 11), .int .i64 (v 12), .int .i64 (v 13), .int .i64 (v 14), .int .i64 (v 15), .int .i64 (v 16), .slice X xn xc, .int .i64 (v 18), .int .i64 (v 19), .int .i64 (v 20)] 35 (0, 0)) := by rw [hw1, hS]; exact heap_alloc_new w _
  have h1 := h.below hb1
  have HB1 : Hid (Chg (L.own A) w w1) := Lib.hid (Chg.of_below hb1)
  have H1 := Lib.hid h1
  have HM1 := Lib.hid hm1
  have c7 : w1.cell? ⟨A, 7, none⟩ = some (.int .i64 s.tick) := cellb (i := 7) h1.blk rfl
  have HCL : Hid (Calls Try.prog 23 #[.pointer (some ⟨A, 0, none⟩), .int .i64 now] w1 fun e w' => e = .returned (.bool false) ∧ w1 = w') := Lib.hid (by
    by_cases h0 : now < s.tick
    · exact clock_early w1 A now s.tick c7 h0
    · exact clock_late w1 A now s.tick c7 h0 (by omega))
  clear h hb1 hm1 h1 c7
  go_enter Try.func11, Try.ntmps11
  go_upto_region 1 with fail
  rw [← hw1]
  clear hS hw1
  go_wp2_with fail
  refine HCL.out.mono ?_
  rintro e w' ⟨rfl, rfl⟩
  go_wp2_with fail
  refine bodyPost_ret (v := .tuple #[]) (results_none rfl _ _ _) rfl ?_
  exact ⟨⟨_, rfl⟩, H1.out, HB1.out⟩
theorem hear_down (w : World) {A : Nat} {L : Lay} {s : Ag} (h : AgAt w A L s) (now : Int) (h0 : ¬ now < s.tick) (hn : ¬ (1099511627776 : Int) ≤ now) (hup : s.up = false) (v : Nat → Int) (X : Option Addr) (xn xc : Nat) :
    Calls Try.prog 11 #[.pointer (some ⟨A, 0, none⟩), .agg #[.int .i64 (v 0), .int .i64 (v 1), .int .i64 (v 2), .int .i64 (v 3), .int .i64 (v 4), .int .i64 (v 5), .int .i64 (v 6), .int .i64 (v 7), .int .i64 (v 8), .int .i64 (v 9), .int .i64 (v 10), .int .i64 (v 11), .int .i64 (v 12), .int .i64 (v 13), .int .i64 (v 14), .int .i64 (v 15), .int .i64 (v 16), .slice X xn xc, .int .i64 (v 18), .int .i64 (v 19), .int .i64 (v 20)], .int .i64 now] w fun e w' => (∃ r, e = .returned r) ∧ AgAt w' A L (s.ticks now) ∧ Chg (L.own A) w w' := by
  obtain ⟨S, hS⟩ : ∃ x, x = w.heap.size := ⟨_, rfl⟩
  obtain ⟨w1, hw1⟩ : ∃ y, y = w.alloc (.cells #[.int .i64 (v 0), .int .i64 (v 1), .int .i64 (v 2), .int .i64 (v 3), .int .i64 (v 4), .int .i64 (v 5), .int .i64 (v 6), .int .i64 (v 7), .int .i64 (v 8), .int .i64 (v 9), .int .i64 (v 10), .int .i64 (v 11), .int .i64 (v 12), .int .i64 (v 13), .int .i64 (v 14), .int .i64 (v 15), .int .i64 (v 16), .slice X xn xc, .int .i64 (v 18), .int .i64 (v 19), .int .i64 (v 20)] 35) := ⟨_, rfl⟩
  have hb1 : Below w.heap.size w w1 := by rw [hw1]; exact (Below.refl _ w).alloc (Nat.le_refl _) _
  have hm1 : w1.heap[S]? = some (.cells #[.int .i64 (v 0), .int .i64 (v 1), .int .i64 (v 2), .int .i64 (v 3), .int .i64 (v 4), .int .i64 (v 5), .int .i64 (v 6), .int .i64 (v 7), .int .i64 (v 8), .int .i64 (v 9), .int .i64 (v 10), .int .i64 (v 11), .int .i64 (v 12), .int .i64 (v 13), .int .i64 (v 14), .int .i64 (v 15), .int .i64 (v 16), .slice X xn xc, .int .i64 (v 18), .int .i64 (v 19), .int .i64 (v 20)] 35 (0, 0)) := by rw [hw1, hS]; exact heap_alloc_new w _
  have h1 := h.below hb1
  have HB1 : Hid (Chg (L.own A) w w1) := Lib.hid (Chg.of_below hb1)
  have H1 := Lib.hid h1
  have HM1 := Lib.hid hm1
  have c7 : w1.cell? ⟨A, 7, none⟩ = some (.int .i64 s.tick) := cellb (i := 7) h1.blk rfl
  have HCL := Lib.hid (clock_ok w1 A now s.tick c7 (fzb h1.blk 7) h0 hn)
  have q := h1.set (i := 7) (v := .int .i64 now) (s' := s.ticks now) (by simp [Ag.ticks]) rfl rfl h1.booted
  have HA2 : Hid (AgAt (w1.setCell ⟨A, 7, none⟩ (.int .i64 now)) A L (s.ticks now)) := Lib.hid q.1
  have HC2 : Hid (Chg (L.own A) w (w1.setCell ⟨A, 7, none⟩ (.int .i64 now))) := Lib.hid (HB1.out.trans (q.2.mono (fun k _ e => .inl e)))
  have HM2 : Hid ((w1.setCell ⟨A, 7, none⟩ (.int .i64 now)).heap[S]? = some (.cells #[.int .i64 (v 0), .int .i64 (v 1), .int .i64 (v 2), .int .i64 (v 3), .int .i64 (v 4), .int .i64 (v 5), .int .i64 (v 6), .int .i64 (v 7), .int .i64 (v 8), .int .i64 (v 9), .int .i64 (v 10), .int .i64 (v 11), .int .i64 (v 12), .int .i64 (v 13), .int .i64 (v 14), .int .i64 (v 15), .int .i64 (v 16), .slice X xn xc, .int .i64 (v 18), .int .i64 (v 19), .int .i64 (v 20)] 35 (0, 0))) := Lib.hid ((q.2.block S (ltb hm1) (ne_tag hm1 h1.blk (by simp [otag]))).trans hm1)
  clear q c7 h hb1 hm1 h1 HB1 H1 HM1
  go_enter Try.func11, Try.ntmps11
  go_upto_region 1 with fail
  rw [← hw1]
  clear hS hw1
  go_wp2_with fail
  refine HCL.out.mono ?_
  clear HCL
  rintro e w' ⟨rfl, rfl⟩
  generalize w1.setCell ⟨A, 7, none⟩ (.int .i64 now) = w2 at *
  have c6 : w2.cell? ⟨A, 6, none⟩ = some (.bool false) := by rw [← hup]; exact cellb (i := 6) HA2.out.blk rfl
  go_wp2_with fail
  refine bodyPost_ret (v := .tuple #[]) (results_none rfl _ _ _) rfl ?_
  exact ⟨⟨_, rfl⟩, HA2.out, HC2.out⟩
set_option maxRecDepth 10000 in
set_option maxHeartbeats 4000000 in
theorem hear_kind (w : World) {A : Nat} {L : Lay} {s : Ag} (h : AgAt w A L s) (now : Int) (h0 : ¬ now < s.tick) (hn : ¬ (1099511627776 : Int) ≤ now) (hup : s.up = true) (hln : s.ps.length ≤ 1000000) (v : Nat → Int) (X : Option Addr) (xn xc : Nat)
    (hk : v 0 ≠ 2) (hk3 : v 0 ≠ 3) (hk4 : v 0 ≠ 4) (hk6 : v 0 ≠ 6) :
    Calls Try.prog 11 #[.pointer (some ⟨A, 0, none⟩), .agg #[.int .i64 (v 0), .int .i64 (v 1), .int .i64 (v 2), .int .i64 (v 3), .int .i64 (v 4), .int .i64 (v 5), .int .i64 (v 6), .int .i64 (v 7), .int .i64 (v 8), .int .i64 (v 9), .int .i64 (v 10), .int .i64 (v 11), .int .i64 (v 12), .int .i64 (v 13), .int .i64 (v 14), .int .i64 (v 15), .int .i64 (v 16), .slice X xn xc, .int .i64 (v 18), .int .i64 (v 19), .int .i64 (v 20)], .int .i64 now] w fun e w' => (∃ r, e = .returned r) ∧ AgAt w' A L ((s.ticks now).settle now) ∧ Chg (L.own A) w w' := by
  obtain ⟨S, hS⟩ : ∃ x, x = w.heap.size := ⟨_, rfl⟩
  obtain ⟨w1, hw1⟩ : ∃ y, y = w.alloc (.cells #[.int .i64 (v 0), .int .i64 (v 1), .int .i64 (v 2), .int .i64 (v 3), .int .i64 (v 4), .int .i64 (v 5), .int .i64 (v 6), .int .i64 (v 7), .int .i64 (v 8), .int .i64 (v 9), .int .i64 (v 10), .int .i64 (v 11), .int .i64 (v 12), .int .i64 (v 13), .int .i64 (v 14), .int .i64 (v 15), .int .i64 (v 16), .slice X xn xc, .int .i64 (v 18), .int .i64 (v 19), .int .i64 (v 20)] 35) := ⟨_, rfl⟩
  have hb1 : Below w.heap.size w w1 := by rw [hw1]; exact (Below.refl _ w).alloc (Nat.le_refl _) _
  have hm1 : w1.heap[S]? = some (.cells #[.int .i64 (v 0), .int .i64 (v 1), .int .i64 (v 2), .int .i64 (v 3), .int .i64 (v 4), .int .i64 (v 5), .int .i64 (v 6), .int .i64 (v 7), .int .i64 (v 8), .int .i64 (v 9), .int .i64 (v 10), .int .i64 (v 11), .int .i64 (v 12), .int .i64 (v 13), .int .i64 (v 14), .int .i64 (v 15), .int .i64 (v 16), .slice X xn xc, .int .i64 (v 18), .int .i64 (v 19), .int .i64 (v 20)] 35 (0, 0)) := by rw [hw1, hS]; exact heap_alloc_new w _
  have h1 := h.below hb1
  have HB1 : Hid (Chg (L.own A) w w1) := Lib.hid (Chg.of_below hb1)
  have H1 := Lib.hid h1
  have HM1 := Lib.hid hm1
  have hno : ¬ L.own A S := fun ho => by have := h.own_lt ho; omega
  have hlen : (s.ticks now).ps.length ≤ 100000000 := by show s.ps.length ≤ _; omega
  have c7 : w1.cell? ⟨A, 7, none⟩ = some (.int .i64 s.tick) := cellb (i := 7) h1.blk rfl
  have HCL := Lib.hid (clock_ok w1 A now s.tick c7 (fzb h1.blk 7) h0 hn)
  have q := h1.set (i := 7) (v := .int .i64 now) (s' := s.ticks now) (by simp [Ag.ticks]) rfl rfl h1.booted
  have HA2 : Hid (AgAt (w1.setCell ⟨A, 7, none⟩ (.int .i64 now)) A L (s.ticks now)) := Lib.hid q.1
  have HC2 : Hid (Chg (L.own A) w (w1.setCell ⟨A, 7, none⟩ (.int .i64 now))) := Lib.hid (HB1.out.trans (q.2.mono (fun k _ e => .inl e)))
  have HM2 : Hid ((w1.setCell ⟨A, 7, none⟩ (.int .i64 now)).heap[S]? = some (.cells #[.int .i64 (v 0), .int .i64 (v 1), .int .i64 (v 2), .int .i64 (v 3), .int .i64 (v 4), .int .i64 (v 5), .int .i64 (v 6), .int .i64 (v 7), .int .i64 (v 8), .int .i64 (v 9), .int .i64 (v 10), .int .i64 (v 11), .int .i64 (v 12), .int .i64 (v 13), .int .i64 (v 14), .int .i64 (v 15), .int .i64 (v 16), .slice X xn xc, .int .i64 (v 18), .int .i64 (v 19), .int .i64 (v 20)] 35 (0, 0))) := Lib.hid ((q.2.block S (ltb hm1) (ne_tag hm1 h1.blk (by simp [otag]))).trans hm1)
  clear q c7 h hb1 hm1 h1 HB1 H1 HM1
  have HDO : Hid (doV A (v 0) = .nilFunc) := Lib.hid (by simp [doV, hk, hk3, hk4, hk6])
  clear hk hk3 hk4 hk6
  go_enter Try.func11, Try.ntmps11
  go_upto_region 1 with fail
  rw [← hS, ← hw1]
  clear hS hw1
  go_upto_region 2 with (go_at_call 23; refine HCL.out.mono ?_; clear HCL; rintro e w' ⟨rfl, rfl⟩; generalize w1.setCell ⟨A, 7, none⟩ (.int .i64 now) = w2 at *; have c6 : w2.cell? ⟨A, 6, none⟩ = some (.bool true) := by rw [← hup]; exact cellb (i := 6) HA2.out.blk rfl)
  clear c6
  go_upto_region 3 with (go_at_call 24; refine (settle_ag w2 HA2.out hlen now).mono ?_; rintro e w3 ⟨⟨r3, rfl⟩, ha3, hc3⟩; have HA3 := Lib.hid ha3; have HC3 := Lib.hid (HC2.out.trans hc3); have HM3 : Hid (w3.heap[S]? = some (.cells #[.int .i64 (v 0), .int .i64 (v 1), .int .i64 (v 2), .int .i64 (v 3), .int .i64 (v 4), .int .i64 (v 5), .int .i64 (v 6), .int .i64 (v 7), .int .i64 (v 8), .int .i64 (v 9), .int .i64 (v 10), .int .i64 (v 11), .int .i64 (v 12), .int .i64 (v 13), .int .i64 (v 14), .int .i64 (v 15), .int .i64 (v 16), .slice X xn xc, .int .i64 (v 18), .int .i64 (v 19), .int .i64 (v 20)] 35 (0, 0))) := Lib.hid ((hc3.block S (ltb HM2.out) (fun ho => hno ho)).trans HM2.out); clear ha3 hc3)
  have m0 : w3.cell? ⟨S, 0, none⟩ = some (.int .i64 (v 0)) := cellb (i := 0) HM3.out rfl
  go_upto_region 4 with (go_at_call 25; refine (doing_any w3 A (v 0)).mono ?_; rintro e w' ⟨rfl, rfl⟩)
  clear m0 HA2 HC2 HM2 hno
  rw [HDO.out]
  clear HDO
  have HA4 : Hid (AgAt w3.drew A L ((s.ticks now).settle now)) := Lib.hid HA3.out.drew
  have HC4 : Hid (Chg (L.own A) w w3.drew) := Lib.hid HC3.out.drew
  have g4 : w3.drew.heap[S]? = some (.cells #[.int .i64 (v 0), .int .i64 (v 1), .int .i64 (v 2), .int .i64 (v 3), .int .i64 (v 4), .int .i64 (v 5), .int .i64 (v 6), .int .i64 (v 7), .int .i64 (v 8), .int .i64 (v 9), .int .i64 (v 10), .int .i64 (v 11), .int .i64 (v 12), .int .i64 (v 13), .int .i64 (v 14), .int .i64 (v 15), .int .i64 (v 16), .slice X xn xc, .int .i64 (v 18), .int .i64 (v 19), .int .i64 (v 20)] 35 (0, 0)) := HM3.out
  have a0 : w3.drew.cell? ⟨A, 0, none⟩ = some (.int .i64 s.node) := cellb (i := 0) HA4.out.blk rfl
  have a11 : w3.drew.cell? ⟨A, 11, none⟩ = some (.int .i64 s.epoch) := cellb (i := 11) HA4.out.blk rfl
  clear HA3 HC3 HM3
  refine wp_region_noPanic ?_
  refine wp_region_held_drew (S := fun w' => w'.heap[S]? = some (.cells #[.int .i64 (v 0), .int .i64 (v 1), .int .i64 (v 2), .int .i64 (v 3), .int .i64 (v 4), .int .i64 (v 5), .int .i64 (v 6), .int .i64 (v 7), .int .i64 (v 8), .int .i64 (v 9), .int .i64 (v 10), .int .i64 (v 11), .int .i64 (v 12), .int .i64 (v 13), .int .i64 (v 14), .int .i64 (v 15), .int .i64 (v 16), .slice X xn xc, .int .i64 (v 18), .int .i64 (v 19), .int .i64 (v 20)] 35 (0, 0)) ∧ w'.cell? ⟨A, 0, none⟩ = some (.int .i64 s.node) ∧ w'.cell? ⟨A, 11, none⟩ = some (.int .i64 s.epoch)) (by kernel_rfl) ?_ (fun hHeld => ?_)
  · try dsimp only
    (refine ⟨?_, ?_, ?_⟩ <;> (first | with_reducible assumption))
  generalize w3.drew = W at *
  refine tk 0 ?_
  try simp only [Act.put, p1, p2, p3]
  refine tw 1 (v := ?_) ?_ ?_
  rotate_left
  · intro w hSw
    (try dsimp only at hSw)
    have hnn := nil_nil w
    go_simp
    try with_reducible rfl
  try simp only [Act.put, p1, p2, p3]
  refine tk 2 ?_
  try simp only [Act.put, p1, p2, p3]
  refine sk 3 ?_
  try simp only [Act.put, p1, p2, p3]
  refine sk 4 ?_
  try simp only [Act.put, p1, p2, p3]
  refine sk 5 ?_
  try simp only [Act.put, p1, p2, p3]
  refine tk 6 ?_
  try simp only [Act.put, p1, p2, p3]
  refine tk 7 ?_
  try simp only [Act.put, p1, p2, p3]
  refine sk 8 ?_
  try simp only [Act.put, p1, p2, p3]
  refine sk 9 ?_
  try simp only [Act.put, p1, p2, p3]
  refine sk 10 ?_
  try simp only [Act.put, p1, p2, p3]
  refine sk 11 ?_
  try simp only [Act.put, p1, p2, p3]
  refine sk 12 ?_
  try simp only [Act.put, p1, p2, p3]
  refine sk 13 ?_
  try simp only [Act.put, p1, p2, p3]
  refine sk 14 ?_
  try simp only [Act.put, p1, p2, p3]
  refine tk 15 ?_
  try simp only [Act.put, p1, p2, p3]
  refine tk 16 ?_
  try simp only [Act.put, p1, p2, p3]
  refine sk 17 ?_
  try simp only [Act.put, p1, p2, p3]
  refine sk 18 ?_
  try simp only [Act.put, p1, p2, p3]
  refine sk 19 ?_
  try simp only [Act.put, p1, p2, p3]
  refine sk 20 ?_
  try simp only [Act.put, p1, p2, p3]
  refine sk 21 ?_
  try simp only [Act.put, p1, p2, p3]
  refine sk 22 ?_
  try simp only [Act.put, p1, p2, p3]
  refine sk 23 ?_
  try simp only [Act.put, p1, p2, p3]
  refine tk 24 ?_
  try simp only [Act.put, p1, p2, p3]
  refine wpAnyH_done (by kernel_rfl) ?_ _
  refine NoPanic.normal ?_
  clear hHeld g4 a0 a11
  go_wp2_with fail
  refine bodyPost_ret (v := .tuple #[]) (results_none rfl _ _ _) rfl ?_
  exact ⟨⟨_, rfl⟩, HA4.out, HC4.out⟩
set_option maxRecDepth 10000 in
set_option maxHeartbeats 4000000 in
theorem hear_bad (w : World) {A : Nat} {L : Lay} {s : Ag} (h : AgAt w A L s) (now : Int) (h0 : ¬ now < s.tick) (hn : ¬ (1099511627776 : Int) ≤ now) (hup : s.up = true) (hln : s.ps.length ≤ 1000000) (v : Nat → Int) (X : Option Addr) (xn xc : Nat)
    {F : Fn} {fa fb : Array Value} (hk : doV A (v 0) = .func F fa fb) (hok : ¬ OkM v xn) :
    Calls Try.prog 11 #[.pointer (some ⟨A, 0, none⟩), .agg #[.int .i64 (v 0), .int .i64 (v 1), .int .i64 (v 2), .int .i64 (v 3), .int .i64 (v 4), .int .i64 (v 5), .int .i64 (v 6), .int .i64 (v 7), .int .i64 (v 8), .int .i64 (v 9), .int .i64 (v 10), .int .i64 (v 11), .int .i64 (v 12), .int .i64 (v 13), .int .i64 (v 14), .int .i64 (v 15), .int .i64 (v 16), .slice X xn xc, .int .i64 (v 18), .int .i64 (v 19), .int .i64 (v 20)], .int .i64 now] w fun e w' => (∃ r, e = .returned r) ∧ AgAt w' A L ((s.ticks now).settle now) ∧ Chg (L.own A) w w' := by
  obtain ⟨S, hS⟩ : ∃ x, x = w.heap.size := ⟨_, rfl⟩
  obtain ⟨w1, hw1⟩ : ∃ y, y = w.alloc (.cells #[.int .i64 (v 0), .int .i64 (v 1), .int .i64 (v 2), .int .i64 (v 3), .int .i64 (v 4), .int .i64 (v 5), .int .i64 (v 6), .int .i64 (v 7), .int .i64 (v 8), .int .i64 (v 9), .int .i64 (v 10), .int .i64 (v 11), .int .i64 (v 12), .int .i64 (v 13), .int .i64 (v 14), .int .i64 (v 15), .int .i64 (v 16), .slice X xn xc, .int .i64 (v 18), .int .i64 (v 19), .int .i64 (v 20)] 35) := ⟨_, rfl⟩
  have hb1 : Below w.heap.size w w1 := by rw [hw1]; exact (Below.refl _ w).alloc (Nat.le_refl _) _
  have hm1 : w1.heap[S]? = some (.cells #[.int .i64 (v 0), .int .i64 (v 1), .int .i64 (v 2), .int .i64 (v 3), .int .i64 (v 4), .int .i64 (v 5), .int .i64 (v 6), .int .i64 (v 7), .int .i64 (v 8), .int .i64 (v 9), .int .i64 (v 10), .int .i64 (v 11), .int .i64 (v 12), .int .i64 (v 13), .int .i64 (v 14), .int .i64 (v 15), .int .i64 (v 16), .slice X xn xc, .int .i64 (v 18), .int .i64 (v 19), .int .i64 (v 20)] 35 (0, 0)) := by rw [hw1, hS]; exact heap_alloc_new w _
  have h1 := h.below hb1
  have HB1 : Hid (Chg (L.own A) w w1) := Lib.hid (Chg.of_below hb1)
  have H1 := Lib.hid h1
  have HM1 := Lib.hid hm1
  have hno : ¬ L.own A S := fun ho => by have := h.own_lt ho; omega
  have hlen : (s.ticks now).ps.length ≤ 100000000 := by show s.ps.length ≤ _; omega
  have c7 : w1.cell? ⟨A, 7, none⟩ = some (.int .i64 s.tick) := cellb (i := 7) h1.blk rfl
  have HCL := Lib.hid (clock_ok w1 A now s.tick c7 (fzb h1.blk 7) h0 hn)
  have q := h1.set (i := 7) (v := .int .i64 now) (s' := s.ticks now) (by simp [Ag.ticks]) rfl rfl h1.booted
  have HA2 : Hid (AgAt (w1.setCell ⟨A, 7, none⟩ (.int .i64 now)) A L (s.ticks now)) := Lib.hid q.1
  have HC2 : Hid (Chg (L.own A) w (w1.setCell ⟨A, 7, none⟩ (.int .i64 now))) := Lib.hid (HB1.out.trans (q.2.mono (fun k _ e => .inl e)))
  have HM2 : Hid ((w1.setCell ⟨A, 7, none⟩ (.int .i64 now)).heap[S]? = some (.cells #[.int .i64 (v 0), .int .i64 (v 1), .int .i64 (v 2), .int .i64 (v 3), .int .i64 (v 4), .int .i64 (v 5), .int .i64 (v 6), .int .i64 (v 7), .int .i64 (v 8), .int .i64 (v 9), .int .i64 (v 10), .int .i64 (v 11), .int .i64 (v 12), .int .i64 (v 13), .int .i64 (v 14), .int .i64 (v 15), .int .i64 (v 16), .slice X xn xc, .int .i64 (v 18), .int .i64 (v 19), .int .i64 (v 20)] 35 (0, 0))) := Lib.hid ((q.2.block S (ltb hm1) (ne_tag hm1 h1.blk (by simp [otag]))).trans hm1)
  clear q c7 h hb1 hm1 h1 HB1 H1 HM1
  have HDO := Lib.hid hk
  clear hk
  go_enter Try.func11, Try.ntmps11
  go_upto_region 1 with fail
  rw [← hS, ← hw1]
  clear hS hw1
  go_upto_region 2 with (go_at_call 23; refine HCL.out.mono ?_; clear HCL; rintro e w' ⟨rfl, rfl⟩; generalize w1.setCell ⟨A, 7, none⟩ (.int .i64 now) = w2 at *; have c6 : w2.cell? ⟨A, 6, none⟩ = some (.bool true) := by rw [← hup]; exact cellb (i := 6) HA2.out.blk rfl)
  clear c6
  go_upto_region 3 with (go_at_call 24; refine (settle_ag w2 HA2.out hlen now).mono ?_; rintro e w3 ⟨⟨r3, rfl⟩, ha3, hc3⟩; have HA3 := Lib.hid ha3; have HC3 := Lib.hid (HC2.out.trans hc3); have HM3 : Hid (w3.heap[S]? = some (.cells #[.int .i64 (v 0), .int .i64 (v 1), .int .i64 (v 2), .int .i64 (v 3), .int .i64 (v 4), .int .i64 (v 5), .int .i64 (v 6), .int .i64 (v 7), .int .i64 (v 8), .int .i64 (v 9), .int .i64 (v 10), .int .i64 (v 11), .int .i64 (v 12), .int .i64 (v 13), .int .i64 (v 14), .int .i64 (v 15), .int .i64 (v 16), .slice X xn xc, .int .i64 (v 18), .int .i64 (v 19), .int .i64 (v 20)] 35 (0, 0))) := Lib.hid ((hc3.block S (ltb HM2.out) (fun ho => hno ho)).trans HM2.out); clear ha3 hc3)
  have m0 : w3.cell? ⟨S, 0, none⟩ = some (.int .i64 (v 0)) := cellb (i := 0) HM3.out rfl
  go_upto_region 4 with (go_at_call 25; refine (doing_any w3 A (v 0)).mono ?_; rintro e w' ⟨rfl, rfl⟩)
  clear m0 HA2 HC2 HM2 hno
  rw [HDO.out]
  clear HDO
  have HA4 : Hid (AgAt w3.drew A L ((s.ticks now).settle now)) := Lib.hid HA3.out.drew
  have HC4 : Hid (Chg (L.own A) w w3.drew) := Lib.hid HC3.out.drew
  have g4 : w3.drew.heap[S]? = some (.cells #[.int .i64 (v 0), .int .i64 (v 1), .int .i64 (v 2), .int .i64 (v 3), .int .i64 (v 4), .int .i64 (v 5), .int .i64 (v 6), .int .i64 (v 7), .int .i64 (v 8), .int .i64 (v 9), .int .i64 (v 10), .int .i64 (v 11), .int .i64 (v 12), .int .i64 (v 13), .int .i64 (v 14), .int .i64 (v 15), .int .i64 (v 16), .slice X xn xc, .int .i64 (v 18), .int .i64 (v 19), .int .i64 (v 20)] 35 (0, 0)) := HM3.out
  have a0 : w3.drew.cell? ⟨A, 0, none⟩ = some (.int .i64 s.node) := cellb (i := 0) HA4.out.blk rfl
  have a11 : w3.drew.cell? ⟨A, 11, none⟩ = some (.int .i64 s.epoch) := cellb (i := 11) HA4.out.blk rfl
  clear HA3 HC3 HM3
  refine wp_region_noPanic ?_
  refine wp_region_held_drew (S := fun w' => w'.heap[S]? = some (.cells #[.int .i64 (v 0), .int .i64 (v 1), .int .i64 (v 2), .int .i64 (v 3), .int .i64 (v 4), .int .i64 (v 5), .int .i64 (v 6), .int .i64 (v 7), .int .i64 (v 8), .int .i64 (v 9), .int .i64 (v 10), .int .i64 (v 11), .int .i64 (v 12), .int .i64 (v 13), .int .i64 (v 14), .int .i64 (v 15), .int .i64 (v 16), .slice X xn xc, .int .i64 (v 18), .int .i64 (v 19), .int .i64 (v 20)] 35 (0, 0)) ∧ w'.cell? ⟨A, 0, none⟩ = some (.int .i64 s.node) ∧ w'.cell? ⟨A, 11, none⟩ = some (.int .i64 s.epoch)) (by kernel_rfl) ?_ (fun hHeld => ?_)
  · try dsimp only
    (refine ⟨?_, ?_, ?_⟩ <;> (first | with_reducible assumption))
  generalize w3.drew = W at *
  refine tk 0 ?_
  try simp only [Act.put, p1, p2, p3]
  refine tw 1 (v := ?_) ?_ ?_
  rotate_left
  · intro w hSw
    (try dsimp only at hSw)
    have hnn := fun f a b => fun_nil f a b w
    go_simp
    try with_reducible rfl
  try simp only [Act.put, p1, p2, p3]
  refine tk 2 ?_
  try simp only [Act.put, p1, p2, p3]
  refine tw 3 (v := ?_) ?_ ?_
  rotate_left
  · intro w hSw
    try dsimp only at hSw
    refine take_load (x := .tmp 4) (ty := 35) ?_ S ?_ 35 #[.int .i64 (v 0), .int .i64 (v 1), .int .i64 (v 2), .int .i64 (v 3), .int .i64 (v 4), .int .i64 (v 5), .int .i64 (v 6), .int .i64 (v 7), .int .i64 (v 8), .int .i64 (v 9), .int .i64 (v 10), .int .i64 (v 11), .int .i64 (v 12), .int .i64 (v 13), .int .i64 (v 14), .int .i64 (v 15), .int .i64 (v 16), .slice X xn xc, .int .i64 (v 18), .int .i64 (v 19), .int .i64 (v 20)] (0, 0) _ hSw.1 Try.underlying35 rfl (by kernel_rfl)
    all_goals rfl
  try simp only [Act.put, p1, p2, p3]
  refine rd 4 fun K hK => ?_
  go_simp
  refine (check_any v X xn xc W).mono ?_
  rintro e w4 ⟨b, he, hb, hbel⟩
  obtain rfl : b = false := (by cases b; rfl; exact absurd (hb.1 rfl) hok)
  have he : e = .returned (.int .i64 11) := he
  subst he
  clear hb
  have HA5 : Hid (AgAt w4 A L ((s.ticks now).settle now)) := Lib.hid (HA4.out.below hbel)
  have HC5 : Hid (Chg (L.own A) w w4) := Lib.hid (HC4.out.trans (Chg.of_below hbel))
  have g4' : w4.heap[S]? = some (.cells #[.int .i64 (v 0), .int .i64 (v 1), .int .i64 (v 2), .int .i64 (v 3), .int .i64 (v 4), .int .i64 (v 5), .int .i64 (v 6), .int .i64 (v 7), .int .i64 (v 8), .int .i64 (v 9), .int .i64 (v 10), .int .i64 (v 11), .int .i64 (v 12), .int .i64 (v 13), .int .i64 (v 14), .int .i64 (v 15), .int .i64 (v 16), .slice X xn xc, .int .i64 (v 18), .int .i64 (v 19), .int .i64 (v 20)] 35 (0, 0)) := (hbel.block S (ltb g4)).trans g4
  have a0' : w4.cell? ⟨A, 0, none⟩ = some (.int .i64 s.node) := cellb (i := 0) HA5.out.blk rfl
  have a11' : w4.cell? ⟨A, 11, none⟩ = some (.int .i64 s.epoch) := cellb (i := 11) HA5.out.blk rfl
  clear HA4 HC4 g4 a0 a11 hbel
  refine hK.out _ _ ?_ (fun hHeld => ?_)
  · try dsimp only
    (refine ⟨?_, ?_, ?_⟩ <;> (first | with_reducible assumption))
  clear hK K
  try simp only [Act.put, p1, p2, p3]
  refine tk 5 ?_
  try simp only [Act.put, p1, p2, p3]
  refine tk 6 ?_
  try simp only [Act.put, p1, p2, p3]
  refine tk 7 ?_
  try simp only [Act.put, p1, p2, p3]
  refine sk 8 ?_
  try simp only [Act.put, p1, p2, p3]
  refine sk 9 ?_
  try simp only [Act.put, p1, p2, p3]
  refine sk 10 ?_
  try simp only [Act.put, p1, p2, p3]
  refine sk 11 ?_
  try simp only [Act.put, p1, p2, p3]
  refine sk 12 ?_
  try simp only [Act.put, p1, p2, p3]
  refine sk 13 ?_
  try simp only [Act.put, p1, p2, p3]
  refine sk 14 ?_
  try simp only [Act.put, p1, p2, p3]
  refine tk 15 ?_
  try simp only [Act.put, p1, p2, p3]
  refine tk 16 ?_
  try simp only [Act.put, p1, p2, p3]
  refine sk 17 ?_
  try simp only [Act.put, p1, p2, p3]
  refine sk 18 ?_
  try simp only [Act.put, p1, p2, p3]
  refine sk 19 ?_
  try simp only [Act.put, p1, p2, p3]
  refine sk 20 ?_
  try simp only [Act.put, p1, p2, p3]
  refine sk 21 ?_
  try simp only [Act.put, p1, p2, p3]
  refine sk 22 ?_
  try simp only [Act.put, p1, p2, p3]
  refine sk 23 ?_
  try simp only [Act.put, p1, p2, p3]
  refine tk 24 ?_
  try simp only [Act.put, p1, p2, p3]
  refine wpAnyH_done (by kernel_rfl) ?_ _
  refine NoPanic.normal ?_
  clear hHeld g4' a0' a11'
  go_wp2_with fail
  refine bodyPost_ret (v := .tuple #[]) (results_none rfl _ _ _) rfl ?_
  exact ⟨⟨_, rfl⟩, HA5.out, HC5.out⟩
set_option maxRecDepth 10000 in
set_option maxHeartbeats 4000000 in
theorem hear_node (w : World) {A : Nat} {L : Lay} {s : Ag} (h : AgAt w A L s) (now : Int) (h0 : ¬ now < s.tick) (hn : ¬ (1099511627776 : Int) ≤ now) (hup : s.up = true) (hln : s.ps.length ≤ 1000000) (v : Nat → Int) (X : Option Addr) (xn xc : Nat)
    {F : Fn} {fa fb : Array Value} (hk : doV A (v 0) = .func F fa fb) (hok : OkM v xn) (hnode : v 2 ≠ s.node) :
    Calls Try.prog 11 #[.pointer (some ⟨A, 0, none⟩), .agg #[.int .i64 (v 0), .int .i64 (v 1), .int .i64 (v 2), .int .i64 (v 3), .int .i64 (v 4), .int .i64 (v 5), .int .i64 (v 6), .int .i64 (v 7), .int .i64 (v 8), .int .i64 (v 9), .int .i64 (v 10), .int .i64 (v 11), .int .i64 (v 12), .int .i64 (v 13), .int .i64 (v 14), .int .i64 (v 15), .int .i64 (v 16), .slice X xn xc, .int .i64 (v 18), .int .i64 (v 19), .int .i64 (v 20)], .int .i64 now] w fun e w' => (∃ r, e = .returned r) ∧ AgAt w' A L ((s.ticks now).settle now) ∧ Chg (L.own A) w w' := by
  obtain ⟨S, hS⟩ : ∃ x, x = w.heap.size := ⟨_, rfl⟩
  obtain ⟨w1, hw1⟩ : ∃ y, y = w.alloc (.cells #[.int .i64 (v 0), .int .i64 (v 1), .int .i64 (v 2), .int .i64 (v 3), .int .i64 (v 4), .int .i64 (v 5), .int .i64 (v 6), .int .i64 (v 7), .int .i64 (v 8), .int .i64 (v 9), .int .i64 (v 10), .int .i64 (v 11), .int .i64 (v 12), .int .i64 (v 13), .int .i64 (v 14), .int .i64 (v 15), .int .i64 (v 16), .slice X xn xc, .int .i64 (v 18), .int .i64 (v 19), .int .i64 (v 20)] 35) := ⟨_, rfl⟩
  have hb1 : Below w.heap.size w w1 := by rw [hw1]; exact (Below.refl _ w).alloc (Nat.le_refl _) _
  have hm1 : w1.heap[S]? = some (.cells #[.int .i64 (v 0), .int .i64 (v 1), .int .i64 (v 2), .int .i64 (v 3), .int .i64 (v 4), .int .i64 (v 5), .int .i64 (v 6), .int .i64 (v 7), .int .i64 (v 8), .int .i64 (v 9), .int .i64 (v 10), .int .i64 (v 11), .int .i64 (v 12), .int .i64 (v 13), .int .i64 (v 14), .int .i64 (v 15), .int .i64 (v 16), .slice X xn xc, .int .i64 (v 18), .int .i64 (v 19), .int .i64 (v 20)] 35 (0, 0)) := by rw [hw1, hS]; exact heap_alloc_new w _
  have h1 := h.below hb1
  have HB1 : Hid (Chg (L.own A) w w1) := Lib.hid (Chg.of_below hb1)
  have H1 := Lib.hid h1
  have HM1 := Lib.hid hm1
  have hno : ¬ L.own A S := fun ho => by have := h.own_lt ho; omega
  have hlen : (s.ticks now).ps.length ≤ 100000000 := by show s.ps.length ≤ _; omega
  have c7 : w1.cell? ⟨A, 7, none⟩ = some (.int .i64 s.tick) := cellb (i := 7) h1.blk rfl
  have HCL := Lib.hid (clock_ok w1 A now s.tick c7 (fzb h1.blk 7) h0 hn)
  have q := h1.set (i := 7) (v := .int .i64 now) (s' := s.ticks now) (by simp [Ag.ticks]) rfl rfl h1.booted
  have HA2 : Hid (AgAt (w1.setCell ⟨A, 7, none⟩ (.int .i64 now)) A L (s.ticks now)) := Lib.hid q.1
  have HC2 : Hid (Chg (L.own A) w (w1.setCell ⟨A, 7, none⟩ (.int .i64 now))) := Lib.hid (HB1.out.trans (q.2.mono (fun k _ e => .inl e)))
  have HM2 : Hid ((w1.setCell ⟨A, 7, none⟩ (.int .i64 now)).heap[S]? = some (.cells #[.int .i64 (v 0), .int .i64 (v 1), .int .i64 (v 2), .int .i64 (v 3), .int .i64 (v 4), .int .i64 (v 5), .int .i64 (v 6), .int .i64 (v 7), .int .i64 (v 8), .int .i64 (v 9), .int .i64 (v 10), .int .i64 (v 11), .int .i64 (v 12), .int .i64 (v 13), .int .i64 (v 14), .int .i64 (v 15), .int .i64 (v 16), .slice X xn xc, .int .i64 (v 18), .int .i64 (v 19), .int .i64 (v 20)] 35 (0, 0))) := Lib.hid ((q.2.block S (ltb hm1) (ne_tag hm1 h1.blk (by simp [otag]))).trans hm1)
  clear q c7 h hb1 hm1 h1 HB1 H1 HM1
  have HDO := Lib.hid hk
  clear hk
  have hb2 : (v 2 == s.node) = false := by simp [hnode]
  have hb3 : (v 2 != s.node) = true := by simp [hnode]
  go_enter Try.func11, Try.ntmps11
  go_upto_region 1 with fail
  rw [← hS, ← hw1]
  clear hS hw1
  go_upto_region 2 with (go_at_call 23; refine HCL.out.mono ?_; clear HCL; rintro e w' ⟨rfl, rfl⟩; generalize w1.setCell ⟨A, 7, none⟩ (.int .i64 now) = w2 at *; have c6 : w2.cell? ⟨A, 6, none⟩ = some (.bool true) := by rw [← hup]; exact cellb (i := 6) HA2.out.blk rfl)
  clear c6
  go_upto_region 3 with (go_at_call 24; refine (settle_ag w2 HA2.out hlen now).mono ?_; rintro e w3 ⟨⟨r3, rfl⟩, ha3, hc3⟩; have HA3 := Lib.hid ha3; have HC3 := Lib.hid (HC2.out.trans hc3); have HM3 : Hid (w3.heap[S]? = some (.cells #[.int .i64 (v 0), .int .i64 (v 1), .int .i64 (v 2), .int .i64 (v 3), .int .i64 (v 4), .int .i64 (v 5), .int .i64 (v 6), .int .i64 (v 7), .int .i64 (v 8), .int .i64 (v 9), .int .i64 (v 10), .int .i64 (v 11), .int .i64 (v 12), .int .i64 (v 13), .int .i64 (v 14), .int .i64 (v 15), .int .i64 (v 16), .slice X xn xc, .int .i64 (v 18), .int .i64 (v 19), .int .i64 (v 20)] 35 (0, 0))) := Lib.hid ((hc3.block S (ltb HM2.out) (fun ho => hno ho)).trans HM2.out); clear ha3 hc3)
  have m0 : w3.cell? ⟨S, 0, none⟩ = some (.int .i64 (v 0)) := cellb (i := 0) HM3.out rfl
  go_upto_region 4 with (go_at_call 25; refine (doing_any w3 A (v 0)).mono ?_; rintro e w' ⟨rfl, rfl⟩)
  clear m0 HA2 HC2 HM2 hno
  rw [HDO.out]
  clear HDO
  have HA4 : Hid (AgAt w3.drew A L ((s.ticks now).settle now)) := Lib.hid HA3.out.drew
  have HC4 : Hid (Chg (L.own A) w w3.drew) := Lib.hid HC3.out.drew
  have g4 : w3.drew.heap[S]? = some (.cells #[.int .i64 (v 0), .int .i64 (v 1), .int .i64 (v 2), .int .i64 (v 3), .int .i64 (v 4), .int .i64 (v 5), .int .i64 (v 6), .int .i64 (v 7), .int .i64 (v 8), .int .i64 (v 9), .int .i64 (v 10), .int .i64 (v 11), .int .i64 (v 12), .int .i64 (v 13), .int .i64 (v 14), .int .i64 (v 15), .int .i64 (v 16), .slice X xn xc, .int .i64 (v 18), .int .i64 (v 19), .int .i64 (v 20)] 35 (0, 0)) := HM3.out
  have a0 : w3.drew.cell? ⟨A, 0, none⟩ = some (.int .i64 s.node) := cellb (i := 0) HA4.out.blk rfl
  have a11 : w3.drew.cell? ⟨A, 11, none⟩ = some (.int .i64 s.epoch) := cellb (i := 11) HA4.out.blk rfl
  clear HA3 HC3 HM3
  refine wp_region_noPanic ?_
  refine wp_region_held_drew (S := fun w' => w'.heap[S]? = some (.cells #[.int .i64 (v 0), .int .i64 (v 1), .int .i64 (v 2), .int .i64 (v 3), .int .i64 (v 4), .int .i64 (v 5), .int .i64 (v 6), .int .i64 (v 7), .int .i64 (v 8), .int .i64 (v 9), .int .i64 (v 10), .int .i64 (v 11), .int .i64 (v 12), .int .i64 (v 13), .int .i64 (v 14), .int .i64 (v 15), .int .i64 (v 16), .slice X xn xc, .int .i64 (v 18), .int .i64 (v 19), .int .i64 (v 20)] 35 (0, 0)) ∧ w'.cell? ⟨A, 0, none⟩ = some (.int .i64 s.node) ∧ w'.cell? ⟨A, 11, none⟩ = some (.int .i64 s.epoch)) (by kernel_rfl) ?_ (fun hHeld => ?_)
  · try dsimp only
    (refine ⟨?_, ?_, ?_⟩ <;> (first | with_reducible assumption))
  generalize w3.drew = W at *
  refine tk 0 ?_
  try simp only [Act.put, p1, p2, p3]
  refine tw 1 (v := ?_) ?_ ?_
  rotate_left
  · intro w hSw
    (try dsimp only at hSw)
    have hnn := fun f a b => fun_nil f a b w
    go_simp
    try with_reducible rfl
  try simp only [Act.put, p1, p2, p3]
  refine tk 2 ?_
  try simp only [Act.put, p1, p2, p3]
  refine tw 3 (v := ?_) ?_ ?_
  rotate_left
  · intro w hSw
    try dsimp only at hSw
    refine take_load (x := .tmp 4) (ty := 35) ?_ S ?_ 35 #[.int .i64 (v 0), .int .i64 (v 1), .int .i64 (v 2), .int .i64 (v 3), .int .i64 (v 4), .int .i64 (v 5), .int .i64 (v 6), .int .i64 (v 7), .int .i64 (v 8), .int .i64 (v 9), .int .i64 (v 10), .int .i64 (v 11), .int .i64 (v 12), .int .i64 (v 13), .int .i64 (v 14), .int .i64 (v 15), .int .i64 (v 16), .slice X xn xc, .int .i64 (v 18), .int .i64 (v 19), .int .i64 (v 20)] (0, 0) _ hSw.1 Try.underlying35 rfl (by kernel_rfl)
    all_goals rfl
  try simp only [Act.put, p1, p2, p3]
  refine rd 4 fun K hK => ?_
  go_simp
  refine (check_any v X xn xc W).mono ?_
  rintro e w4 ⟨b, he, hb, hbel⟩
  obtain rfl : b = true := hb.2 hok
  have he : e = .returned (.int .i64 0) := he
  subst he
  clear hb
  have HA5 : Hid (AgAt w4 A L ((s.ticks now).settle now)) := Lib.hid (HA4.out.below hbel)
  have HC5 : Hid (Chg (L.own A) w w4) := Lib.hid (HC4.out.trans (Chg.of_below hbel))
  have g4' : w4.heap[S]? = some (.cells #[.int .i64 (v 0), .int .i64 (v 1), .int .i64 (v 2), .int .i64 (v 3), .int .i64 (v 4), .int .i64 (v 5), .int .i64 (v 6), .int .i64 (v 7), .int .i64 (v 8), .int .i64 (v 9), .int .i64 (v 10), .int .i64 (v 11), .int .i64 (v 12), .int .i64 (v 13), .int .i64 (v 14), .int .i64 (v 15), .int .i64 (v 16), .slice X xn xc, .int .i64 (v 18), .int .i64 (v 19), .int .i64 (v 20)] 35 (0, 0)) := (hbel.block S (ltb g4)).trans g4
  have a0' : w4.cell? ⟨A, 0, none⟩ = some (.int .i64 s.node) := cellb (i := 0) HA5.out.blk rfl
  have a11' : w4.cell? ⟨A, 11, none⟩ = some (.int .i64 s.epoch) := cellb (i := 11) HA5.out.blk rfl
  clear HA4 HC4 g4 a0 a11 hbel
  refine hK.out _ _ ?_ (fun hHeld => ?_)
  · try dsimp only
    (refine ⟨?_, ?_, ?_⟩ <;> (first | with_reducible assumption))
  clear hK K
  try simp only [Act.put, p1, p2, p3]
  refine tk 5 ?_
  try simp only [Act.put, p1, p2, p3]
  refine tk 6 ?_
  try simp only [Act.put, p1, p2, p3]
  refine tk 7 ?_
  try simp only [Act.put, p1, p2, p3]
  refine tk 8 ?_
  try simp only [Act.put, p1, p2, p3]
  refine tw 9 (v := ?_) ?_ ?_
  rotate_left
  · intro w hSw
    (try dsimp only at hSw)
    have x0 : w.cell? ⟨S, 2, none⟩ = some (.int .i64 (v 2)) := cellb (i := 2) hSw.1 rfl
    go_simp
    try with_reducible rfl
  try simp only [Act.put, p1, p2, p3]
  refine tk 10 ?_
  try simp only [Act.put, p1, p2, p3]
  refine tk 11 ?_
  try simp only [Act.put, p1, p2, p3]
  refine tk 12 ?_
  try simp only [Act.put, p1, p2, p3]
  refine tk 13 ?_
  try simp only [Act.put, p1, p2, p3]
  refine tk 14 ?_
  try simp only [Act.put, p1, p2, p3]
  refine tk 15 ?_
  try simp only [Act.put, p1, p2, p3]
  refine tk 16 ?_
  try simp only [Act.put, p1, p2, p3]
  refine sk 17 ?_
  try simp only [Act.put, p1, p2, p3]
  refine sk 18 ?_
  try simp only [Act.put, p1, p2, p3]
  refine sk 19 ?_
  try simp only [Act.put, p1, p2, p3]
  refine sk 20 ?_
  try simp only [Act.put, p1, p2, p3]
  refine sk 21 ?_
  try simp only [Act.put, p1, p2, p3]
  refine sk 22 ?_
  try simp only [Act.put, p1, p2, p3]
  refine sk 23 ?_
  try simp only [Act.put, p1, p2, p3]
  refine tk 24 ?_
  try simp only [Act.put, p1, p2, p3]
  refine wpAnyH_done (by kernel_rfl) ?_ _
  refine NoPanic.normal ?_
  clear hHeld g4' a0' a11'
  go_wp2_with fail
  refine bodyPost_ret (v := .tuple #[]) (results_none rfl _ _ _) rfl ?_
  exact ⟨⟨_, rfl⟩, HA5.out, HC5.out⟩
set_option maxRecDepth 10000 in
set_option maxHeartbeats 4000000 in
theorem hear_elder (w : World) {A : Nat} {L : Lay} {s : Ag} (h : AgAt w A L s) (now : Int) (h0 : ¬ now < s.tick) (hn : ¬ (1099511627776 : Int) ≤ now) (hup : s.up = true) (hln : s.ps.length ≤ 1000000) (v : Nat → Int) (X : Option Addr) (xn xc : Nat)
    {F : Fn} {fa fb : Array Value} (hk : doV A (v 0) = .func F fa fb) (hok : OkM v xn) (hnode : v 2 = s.node) (hep : v 1 < s.epoch) :
    Calls Try.prog 11 #[.pointer (some ⟨A, 0, none⟩), .agg #[.int .i64 (v 0), .int .i64 (v 1), .int .i64 (v 2), .int .i64 (v 3), .int .i64 (v 4), .int .i64 (v 5), .int .i64 (v 6), .int .i64 (v 7), .int .i64 (v 8), .int .i64 (v 9), .int .i64 (v 10), .int .i64 (v 11), .int .i64 (v 12), .int .i64 (v 13), .int .i64 (v 14), .int .i64 (v 15), .int .i64 (v 16), .slice X xn xc, .int .i64 (v 18), .int .i64 (v 19), .int .i64 (v 20)], .int .i64 now] w fun e w' => (∃ r, e = .returned r) ∧ AgAt w' A L ((s.ticks now).settle now) ∧ Chg (L.own A) w w' := by
  obtain ⟨S, hS⟩ : ∃ x, x = w.heap.size := ⟨_, rfl⟩
  obtain ⟨w1, hw1⟩ : ∃ y, y = w.alloc (.cells #[.int .i64 (v 0), .int .i64 (v 1), .int .i64 (v 2), .int .i64 (v 3), .int .i64 (v 4), .int .i64 (v 5), .int .i64 (v 6), .int .i64 (v 7), .int .i64 (v 8), .int .i64 (v 9), .int .i64 (v 10), .int .i64 (v 11), .int .i64 (v 12), .int .i64 (v 13), .int .i64 (v 14), .int .i64 (v 15), .int .i64 (v 16), .slice X xn xc, .int .i64 (v 18), .int .i64 (v 19), .int .i64 (v 20)] 35) := ⟨_, rfl⟩
  have hb1 : Below w.heap.size w w1 := by rw [hw1]; exact (Below.refl _ w).alloc (Nat.le_refl _) _
  have hm1 : w1.heap[S]? = some (.cells #[.int .i64 (v 0), .int .i64 (v 1), .int .i64 (v 2), .int .i64 (v 3), .int .i64 (v 4), .int .i64 (v 5), .int .i64 (v 6), .int .i64 (v 7), .int .i64 (v 8), .int .i64 (v 9), .int .i64 (v 10), .int .i64 (v 11), .int .i64 (v 12), .int .i64 (v 13), .int .i64 (v 14), .int .i64 (v 15), .int .i64 (v 16), .slice X xn xc, .int .i64 (v 18), .int .i64 (v 19), .int .i64 (v 20)] 35 (0, 0)) := by rw [hw1, hS]; exact heap_alloc_new w _
  have h1 := h.below hb1
  have HB1 : Hid (Chg (L.own A) w w1) := Lib.hid (Chg.of_below hb1)
  have H1 := Lib.hid h1
  have HM1 := Lib.hid hm1
  have hno : ¬ L.own A S := fun ho => by have := h.own_lt ho; omega
  have hlen : (s.ticks now).ps.length ≤ 100000000 := by show s.ps.length ≤ _; omega
  have c7 : w1.cell? ⟨A, 7, none⟩ = some (.int .i64 s.tick) := cellb (i := 7) h1.blk rfl
  have HCL := Lib.hid (clock_ok w1 A now s.tick c7 (fzb h1.blk 7) h0 hn)
  have q := h1.set (i := 7) (v := .int .i64 now) (s' := s.ticks now) (by simp [Ag.ticks]) rfl rfl h1.booted
  have HA2 : Hid (AgAt (w1.setCell ⟨A, 7, none⟩ (.int .i64 now)) A L (s.ticks now)) := Lib.hid q.1
  have HC2 : Hid (Chg (L.own A) w (w1.setCell ⟨A, 7, none⟩ (.int .i64 now))) := Lib.hid (HB1.out.trans (q.2.mono (fun k _ e => .inl e)))
  have HM2 : Hid ((w1.setCell ⟨A, 7, none⟩ (.int .i64 now)).heap[S]? = some (.cells #[.int .i64 (v 0), .int .i64 (v 1), .int .i64 (v 2), .int .i64 (v 3), .int .i64 (v 4), .int .i64 (v 5), .int .i64 (v 6), .int .i64 (v 7), .int .i64 (v 8), .int .i64 (v 9), .int .i64 (v 10), .int .i64 (v 11), .int .i64 (v 12), .int .i64 (v 13), .int .i64 (v 14), .int .i64 (v 15), .int .i64 (v 16), .slice X xn xc, .int .i64 (v 18), .int .i64 (v 19), .int .i64 (v 20)] 35 (0, 0))) := Lib.hid ((q.2.block S (ltb hm1) (ne_tag hm1 h1.blk (by simp [otag]))).trans hm1)
  clear q c7 h hb1 hm1 h1 HB1 H1 HM1
  have HDO := Lib.hid hk
  clear hk
  have HND := Lib.hid hnode
  clear hnode
  go_enter Try.func11, Try.ntmps11
  go_upto_region 1 with fail
  rw [← hS, ← hw1]
  clear hS hw1
  go_upto_region 2 with (go_at_call 23; refine HCL.out.mono ?_; clear HCL; rintro e w' ⟨rfl, rfl⟩; generalize w1.setCell ⟨A, 7, none⟩ (.int .i64 now) = w2 at *; have c6 : w2.cell? ⟨A, 6, none⟩ = some (.bool true) := by rw [← hup]; exact cellb (i := 6) HA2.out.blk rfl)
  clear c6
  go_upto_region 3 with (go_at_call 24; refine (settle_ag w2 HA2.out hlen now).mono ?_; rintro e w3 ⟨⟨r3, rfl⟩, ha3, hc3⟩; have HA3 := Lib.hid ha3; have HC3 := Lib.hid (HC2.out.trans hc3); have HM3 : Hid (w3.heap[S]? = some (.cells #[.int .i64 (v 0), .int .i64 (v 1), .int .i64 (v 2), .int .i64 (v 3), .int .i64 (v 4), .int .i64 (v 5), .int .i64 (v 6), .int .i64 (v 7), .int .i64 (v 8), .int .i64 (v 9), .int .i64 (v 10), .int .i64 (v 11), .int .i64 (v 12), .int .i64 (v 13), .int .i64 (v 14), .int .i64 (v 15), .int .i64 (v 16), .slice X xn xc, .int .i64 (v 18), .int .i64 (v 19), .int .i64 (v 20)] 35 (0, 0))) := Lib.hid ((hc3.block S (ltb HM2.out) (fun ho => hno ho)).trans HM2.out); clear ha3 hc3)
  have m0 : w3.cell? ⟨S, 0, none⟩ = some (.int .i64 (v 0)) := cellb (i := 0) HM3.out rfl
  go_upto_region 4 with (go_at_call 25; refine (doing_any w3 A (v 0)).mono ?_; rintro e w' ⟨rfl, rfl⟩)
  clear m0 HA2 HC2 HM2 hno
  rw [HDO.out]
  clear HDO
  have HA4 : Hid (AgAt w3.drew A L ((s.ticks now).settle now)) := Lib.hid HA3.out.drew
  have HC4 : Hid (Chg (L.own A) w w3.drew) := Lib.hid HC3.out.drew
  have g4 : w3.drew.heap[S]? = some (.cells #[.int .i64 (v 0), .int .i64 (v 1), .int .i64 (v 2), .int .i64 (v 3), .int .i64 (v 4), .int .i64 (v 5), .int .i64 (v 6), .int .i64 (v 7), .int .i64 (v 8), .int .i64 (v 9), .int .i64 (v 10), .int .i64 (v 11), .int .i64 (v 12), .int .i64 (v 13), .int .i64 (v 14), .int .i64 (v 15), .int .i64 (v 16), .slice X xn xc, .int .i64 (v 18), .int .i64 (v 19), .int .i64 (v 20)] 35 (0, 0)) := HM3.out
  have a0 : w3.drew.cell? ⟨A, 0, none⟩ = some (.int .i64 s.node) := cellb (i := 0) HA4.out.blk rfl
  have a11 : w3.drew.cell? ⟨A, 11, none⟩ = some (.int .i64 s.epoch) := cellb (i := 11) HA4.out.blk rfl
  clear HA3 HC3 HM3
  rw [← HND.out] at a0
  refine wp_region_noPanic ?_
  refine wp_region_held_drew (S := fun w' => w'.heap[S]? = some (.cells #[.int .i64 (v 0), .int .i64 (v 1), .int .i64 (v 2), .int .i64 (v 3), .int .i64 (v 4), .int .i64 (v 5), .int .i64 (v 6), .int .i64 (v 7), .int .i64 (v 8), .int .i64 (v 9), .int .i64 (v 10), .int .i64 (v 11), .int .i64 (v 12), .int .i64 (v 13), .int .i64 (v 14), .int .i64 (v 15), .int .i64 (v 16), .slice X xn xc, .int .i64 (v 18), .int .i64 (v 19), .int .i64 (v 20)] 35 (0, 0)) ∧ w'.cell? ⟨A, 0, none⟩ = some (.int .i64 (v 2)) ∧ w'.cell? ⟨A, 11, none⟩ = some (.int .i64 s.epoch)) (by kernel_rfl) ?_ (fun hHeld => ?_)
  · try dsimp only
    (refine ⟨?_, ?_, ?_⟩ <;> (first | with_reducible assumption))
  generalize w3.drew = W at *
  refine tk 0 ?_
  try simp only [Act.put, p1, p2, p3]
  refine tw 1 (v := ?_) ?_ ?_
  rotate_left
  · intro w hSw
    (try dsimp only at hSw)
    have hnn := fun f a b => fun_nil f a b w
    go_simp
    try with_reducible rfl
  try simp only [Act.put, p1, p2, p3]
  refine tk 2 ?_
  try simp only [Act.put, p1, p2, p3]
  refine tw 3 (v := ?_) ?_ ?_
  rotate_left
  · intro w hSw
    try dsimp only at hSw
    refine take_load (x := .tmp 4) (ty := 35) ?_ S ?_ 35 #[.int .i64 (v 0), .int .i64 (v 1), .int .i64 (v 2), .int .i64 (v 3), .int .i64 (v 4), .int .i64 (v 5), .int .i64 (v 6), .int .i64 (v 7), .int .i64 (v 8), .int .i64 (v 9), .int .i64 (v 10), .int .i64 (v 11), .int .i64 (v 12), .int .i64 (v 13), .int .i64 (v 14), .int .i64 (v 15), .int .i64 (v 16), .slice X xn xc, .int .i64 (v 18), .int .i64 (v 19), .int .i64 (v 20)] (0, 0) _ hSw.1 Try.underlying35 rfl (by kernel_rfl)
    all_goals rfl
  try simp only [Act.put, p1, p2, p3]
  refine rd 4 fun K hK => ?_
  go_simp
  refine (check_any v X xn xc W).mono ?_
  rintro e w4 ⟨b, he, hb, hbel⟩
  obtain rfl : b = true := hb.2 hok
  have he : e = .returned (.int .i64 0) := he
  subst he
  clear hb
  have HA5 : Hid (AgAt w4 A L ((s.ticks now).settle now)) := Lib.hid (HA4.out.below hbel)
  have HC5 : Hid (Chg (L.own A) w w4) := Lib.hid (HC4.out.trans (Chg.of_below hbel))
  have g4' : w4.heap[S]? = some (.cells #[.int .i64 (v 0), .int .i64 (v 1), .int .i64 (v 2), .int .i64 (v 3), .int .i64 (v 4), .int .i64 (v 5), .int .i64 (v 6), .int .i64 (v 7), .int .i64 (v 8), .int .i64 (v 9), .int .i64 (v 10), .int .i64 (v 11), .int .i64 (v 12), .int .i64 (v 13), .int .i64 (v 14), .int .i64 (v 15), .int .i64 (v 16), .slice X xn xc, .int .i64 (v 18), .int .i64 (v 19), .int .i64 (v 20)] 35 (0, 0)) := (hbel.block S (ltb g4)).trans g4
  have a0' : w4.cell? ⟨A, 0, none⟩ = some (.int .i64 (v 2)) := by rw [HND.out]; exact cellb (i := 0) HA5.out.blk rfl
  have a11' : w4.cell? ⟨A, 11, none⟩ = some (.int .i64 s.epoch) := cellb (i := 11) HA5.out.blk rfl
  clear HA4 HC4 g4 a0 a11 hbel
  refine hK.out _ _ ?_ (fun hHeld => ?_)
  · try dsimp only
    (refine ⟨?_, ?_, ?_⟩ <;> (first | with_reducible assumption))
  clear hK K
  try simp only [Act.put, p1, p2, p3]
  refine tk 5 ?_
  try simp only [Act.put, p1, p2, p3]
  refine tk 6 ?_
  try simp only [Act.put, p1, p2, p3]
  refine tk 7 ?_
  try simp only [Act.put, p1, p2, p3]
  refine tk 8 ?_
  try simp only [Act.put, p1, p2, p3]
  refine tw 9 (v := ?_) ?_ ?_
  rotate_left
  · intro w hSw
    (try dsimp only at hSw)
    have x0 : w.cell? ⟨S, 2, none⟩ = some (.int .i64 (v 2)) := cellb (i := 2) hSw.1 rfl
    go_simp
    try with_reducible rfl
  try simp only [Act.put, p1, p2, p3]
  refine tk 10 ?_
  try simp only [Act.put, p1, p2, p3]
  refine tk 11 ?_
  try simp only [Act.put, p1, p2, p3]
  refine tk 12 ?_
  try simp only [Act.put, p1, p2, p3]
  refine tk 13 ?_
  try simp only [Act.put, p1, p2, p3]
  refine tk 14 ?_
  try simp only [Act.put, p1, p2, p3]
  refine tk 15 ?_
  try simp only [Act.put, p1, p2, p3]
  refine tk 16 ?_
  try simp only [Act.put, p1, p2, p3]
  refine tk 17 ?_
  try simp only [Act.put, p1, p2, p3]
  refine tw 18 (v := ?_) ?_ ?_
  rotate_left
  · intro w hSw
    (try dsimp only at hSw)
    have x0 : w.cell? ⟨S, 1, none⟩ = some (.int .i64 (v 1)) := cellb (i := 1) hSw.1 rfl
    go_simp
    try with_reducible rfl
  try simp only [Act.put, p1, p2, p3]
  refine tk 19 ?_
  try simp only [Act.put, p1, p2, p3]
  refine tk 20 ?_
  try simp only [Act.put, p1, p2, p3]
  refine tk 21 ?_
  try simp only [Act.put, p1, p2, p3]
  refine tk 22 ?_
  try simp only [Act.put, p1, p2, p3]
  refine tk 23 ?_
  try simp only [Act.put, p1, p2, p3]
  refine tk 24 ?_
  try simp only [Act.put, p1, p2, p3]
  refine wpAnyH_done (by kernel_rfl) ?_ _
  refine NoPanic.normal ?_
  clear hHeld g4' a0' a11'
  go_wp2_with fail
  refine bodyPost_ret (v := .tuple #[]) (results_none rfl _ _ _) rfl ?_
  exact ⟨⟨_, rfl⟩, HA5.out, HC5.out⟩
end Go.Proofs.Ytoeamofemepgpaa
