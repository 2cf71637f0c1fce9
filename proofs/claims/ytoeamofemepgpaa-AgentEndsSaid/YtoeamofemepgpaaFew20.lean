/- Chapter 20: the law's own helpers: fits, done. -/
import Derived.Test.YtoeamofemepgpaaActs20
import Derived.Test.YtoeamofemepgpaaAwk20
import Derived.Deep.MidRow
namespace Go.Proofs.Ytoeamofemepgpaa
open Go.RowKit

theorem mid_of {w : World} {b : Nat} {t : TypeId} {fr : Nat × Nat} {C : Array Value} (pre l post : List Value) (hb : w.heap[b]? = some (.cells C t fr)) (hC : C = (pre ++ (l ++ post)).toArray) : w.rangeAt b pre.length l := fun j v hj => by
  have hlt := (List.getElem?_eq_some_iff.1 hj).1
  refine cellb hb ?_
  rw [hC, List.getElem?_toArray, List.getElem?_append_right (by omega), Nat.add_sub_cancel_left, List.getElem?_append_left hlt]
  exact hj
def FewPost (w : World) (n len : Nat) (e : Ending) (w' : World) : Prop := ∃ b : Bool, e = .returned (.bool b) ∧ (b = true → n ≤ 20 ∧ len ≤ 60) ∧ Below w.heap.size w w'
set_option maxHeartbeats 2000000 in
theorem few_any (w : World) (nd : Int) (g : Nat → Int) (A : Option Addr) (n c : Nat) (B0 : Option Addr) (len cap : Nat) (gs : List Ac) (hlen : len = gs.length) (hp : ActsIn w w.heap.size B0 gs) :
    Calls Try.prog 14 #[.agg #[.int .i64 nd, .int .i64 (g 0), .int .i64 (g 1), .int .i64 (g 2), .int .i64 (g 3), .slice A n c], .slice B0 len cap] w fun e w' => FewPost w n len e w' := by
  obtain ⟨S, hS⟩ : ∃ x, x = w.heap.size := ⟨_, rfl⟩
  obtain ⟨w1, hw1⟩ : ∃ y, y = w.alloc (.cells #[.int .i64 nd, .int .i64 (g 0), .int .i64 (g 1), .int .i64 (g 2), .int .i64 (g 3), .slice A n c] 42) := ⟨_, rfl⟩
  have hb1 : Below w.heap.size w w1 := by rw [hw1]; exact (Below.refl _ w).alloc (Nat.le_refl _) _
  have c5 : w1.cell? ⟨S, 5, none⟩ = some (.slice A n c) := by rw [hw1, hS]; exact cellb (i := 5) (heap_alloc_new w _) rfl
  have HB1 := Lib.hid hb1
  have HP := Lib.hid (hp.below hb1 (Nat.le_refl _))
  have HL := Lib.hid hlen
  clear hb1 hp hlen
  by_cases h20 : (20 : Int) < (n : Int)
  · go_enter Try.func14, Try.ntmps14
    go_upto_region 1 with fail
    rw [← hw1, ← hS]
    clear hw1 hS
    go_wp2_with fail
    go_ret
    exact ⟨false, rfl, fun h => (by cases h), HB1.out⟩
  by_cases h60 : (60 : Int) < (len : Int)
  · go_enter Try.func14, Try.ntmps14
    go_upto_region 1 with fail
    rw [← hw1, ← hS]
    clear hw1 hS
    go_wp2_with fail
    go_ret
    exact ⟨false, rfl, fun h => (by cases h), HB1.out⟩
  go_enter Try.func14, Try.ntmps14
  go_upto_region 1 with fail
  rw [← hw1, ← hS]
  clear hw1 hS
  go_wp2_with fail
  go_loopw [5] (fun i wr => ∃ j : Nat, j ≤ len ∧ i = .int .i64 j ∧ wr = w1) (fun i _ => len - (intOf i).toNat)
  case atStart => exact ⟨0, Nat.zero_le _, rfl, rfl⟩
  case round =>
    obtain ⟨j, hj, rfl, rfl⟩ := hrel
    by_cases hjl : j < len
    · have hj1 : (j : Int) < (len : Int) := by omega
      have hj0 : (0 : Int) ≤ (j : Int) := by omega
      obtain ⟨s, hs⟩ : ∃ s, gs[j]? = some s := ⟨gs[j]'(by have := HL.out; omega), List.getElem?_eq_getElem (by have := HL.out; omega)⟩
      obtain ⟨b, off, hB, _, hr⟩ := HP.out.get hs
      subst hB
      have cx : wr.cell? ⟨b, off + j * 25 + 21, none⟩ = some (.slice s.B s.n s.cb) := hr 21 _ rfl
      clear hr hs
      by_cases h100 : (100 : Int) < (s.n : Int)
      · go_wp2_with fail
        go_ret
        exact ⟨false, rfl, fun h => (by cases h), HB1.out⟩
      · go_wp2_with fail
        go_roundw
        case rel => exact ⟨j + 1, by omega, by go_num, trivial⟩
        case measure => simp [intOf]; omega
    · have hj1 : ¬ (j : Int) < (len : Int) := by omega
      go_wp2_with fail
      go_ret
      exact ⟨true, rfl, fun _ => ⟨by omega, by omega⟩, HB1.out⟩
/-- What an act makes of an agent. -/
noncomputable def Ag.done (s : Ag) (K : Nat) (v : Nat → Int) (n : Nat) (now : Int) : Ag := if K = 0 then s.bootA now else if K = 1 then s.downs else if K ≤ 4 then s.hears v n now else s.stepA now
theorem left_on {w w1 w' : World} {A : Nat} {L : Lay} {s' : Ag} (hb : Below w.heap.size w w1) (hl : Left w1 A L s' w') : Left w A L s' w' := by
  obtain ⟨L', ha, hc, hg⟩ := hl
  exact ⟨L', ha, ((Chg.of_below hb).trans hc), fun k hk => (hg k hk).imp id (Nat.le_trans hb.size)⟩
set_option maxRecDepth 10000 in
set_option maxHeartbeats 4000000 in
theorem done_any (w : World) {A : Nat} {L : Lay} {s : Ag} (h : AgAt w A L s) {m : Nat} (hf : Fine s m) (hm : m ≤ 1000000) (now : Int) (kd tk : Int) (raw : Bool) (rn : Int) (v : Nat → Int) (X : Option Addr) (xn xc : Nat) (K : Nat) (hK : K < 8) (hkd : bits .and .i64 kd 7 = (K : Int)) :
    Calls Try.prog 16 #[.pointer (some ⟨A, 0, none⟩), .agg #[.int .i64 kd, .int .i64 tk, .bool raw, .int .i64 rn, .int .i64 (v 0), .int .i64 (v 1), .int .i64 (v 2), .int .i64 (v 3), .int .i64 (v 4), .int .i64 (v 5), .int .i64 (v 6), .int .i64 (v 7), .int .i64 (v 8), .int .i64 (v 9), .int .i64 (v 10), .int .i64 (v 11), .int .i64 (v 12), .int .i64 (v 13), .int .i64 (v 14), .int .i64 (v 15), .int .i64 (v 16), .slice X xn xc, .int .i64 (v 18), .int .i64 (v 19), .int .i64 (v 20)], .int .i64 now] w fun e w' => (∃ r, e = .returned r) ∧ Left w A L (s.done K v xn now) w' := by
  obtain ⟨S, hS⟩ : ∃ x, x = w.heap.size := ⟨_, rfl⟩
  obtain ⟨w1, hw1⟩ : ∃ y, y = w.alloc (.cells #[.int .i64 kd, .int .i64 tk, .bool raw, .int .i64 rn, .int .i64 (v 0), .int .i64 (v 1), .int .i64 (v 2), .int .i64 (v 3), .int .i64 (v 4), .int .i64 (v 5), .int .i64 (v 6), .int .i64 (v 7), .int .i64 (v 8), .int .i64 (v 9), .int .i64 (v 10), .int .i64 (v 11), .int .i64 (v 12), .int .i64 (v 13), .int .i64 (v 14), .int .i64 (v 15), .int .i64 (v 16), .slice X xn xc, .int .i64 (v 18), .int .i64 (v 19), .int .i64 (v 20)] 47) := ⟨_, rfl⟩
  have hb1 : Below w.heap.size w w1 := by rw [hw1]; exact (Below.refl _ w).alloc (Nat.le_refl _) _
  have hm1 : w1.heap[S]? = some (.cells #[.int .i64 kd, .int .i64 tk, .bool raw, .int .i64 rn, .int .i64 (v 0), .int .i64 (v 1), .int .i64 (v 2), .int .i64 (v 3), .int .i64 (v 4), .int .i64 (v 5), .int .i64 (v 6), .int .i64 (v 7), .int .i64 (v 8), .int .i64 (v 9), .int .i64 (v 10), .int .i64 (v 11), .int .i64 (v 12), .int .i64 (v 13), .int .i64 (v 14), .int .i64 (v 15), .int .i64 (v 16), .slice X xn xc, .int .i64 (v 18), .int .i64 (v 19), .int .i64 (v 20)] 47 (0, 0)) := by rw [hw1, hS]; exact heap_alloc_new w _
  have c0 : w1.cell? ⟨S, 0, none⟩ = some (.int .i64 kd) := cellb (i := 0) hm1 rfl
  have HM : Hid (w1.rangeAt S 4 [.int .i64 (v 0), .int .i64 (v 1), .int .i64 (v 2), .int .i64 (v 3), .int .i64 (v 4), .int .i64 (v 5), .int .i64 (v 6), .int .i64 (v 7), .int .i64 (v 8), .int .i64 (v 9), .int .i64 (v 10), .int .i64 (v 11), .int .i64 (v 12), .int .i64 (v 13), .int .i64 (v 14), .int .i64 (v 15), .int .i64 (v 16), .slice X xn xc, .int .i64 (v 18), .int .i64 (v 19), .int .i64 (v 20)]) := Lib.hid (mid_of [.int .i64 kd, .int .i64 tk, .bool raw, .int .i64 rn] [.int .i64 (v 0), .int .i64 (v 1), .int .i64 (v 2), .int .i64 (v 3), .int .i64 (v 4), .int .i64 (v 5), .int .i64 (v 6), .int .i64 (v 7), .int .i64 (v 8), .int .i64 (v 9), .int .i64 (v 10), .int .i64 (v 11), .int .i64 (v 12), .int .i64 (v 13), .int .i64 (v 14), .int .i64 (v 15), .int .i64 (v 16), .slice X xn xc, .int .i64 (v 18), .int .i64 (v 19), .int .i64 (v 20)] [] hm1 rfl)
  have H1 := Lib.hid (h.below hb1)
  have HF := Lib.hid hf
  have HB1 := Lib.hid hb1
  clear hm1 hb1 h hf
  by_cases k0 : K = 0
  · have e0 : s.done K v xn now = s.bootA now := by unfold Ag.done; rw [if_pos k0]
    rw [e0]
    subst k0
    have hkd : bits .and .i64 kd 7 = 0 := hkd
    clear e0
    go_enter Try.func16, Try.ntmps16
    go_upto_region 1 with fail
    rw [← hw1, ← hS]
    clear hw1 hS
    go_wp2_with (go_at_call 10; refine (boot_any w1 H1.out now).mono ?_; rintro e w2 ⟨rfl, hl⟩; have HL := Lib.hid (left_on HB1.out hl); clear hl)
    go_end0
    exact ⟨⟨_, rfl⟩, HL.out⟩
  by_cases k1 : K = 1
  · have e0 : s.done K v xn now = s.downs := by unfold Ag.done; rw [if_neg k0, if_pos k1]
    rw [e0]
    subst k1
    have hkd : bits .and .i64 kd 7 = 1 := hkd
    clear e0 k0
    go_enter Try.func16, Try.ntmps16
    go_upto_region 1 with fail
    rw [← hw1, ← hS]
    clear hw1 hS
    go_wp2_with (go_at_call 20; refine (crash_ag w1 H1.out).mono ?_; rintro e w2 ⟨⟨r, rfl⟩, ha, hc⟩; have HL := Lib.hid (left_on HB1.out (left_self ha hc)); clear ha hc)
    go_end0
    exact ⟨⟨_, rfl⟩, HL.out⟩
  by_cases k4 : K ≤ 4
  · have e0 : s.done K v xn now = s.hears v xn now := by unfold Ag.done; rw [if_neg k0, if_neg k1, if_pos k4]
    rw [e0]
    clear e0
    have hk : K = 2 ∨ K = 3 ∨ K = 4 := by omega
    clear k0 k1 k4 hK
    rcases hk with rfl | rfl | rfl
    all_goals
      try (replace hkd : bits .and .i64 kd 7 = 2 := hkd)
      try (replace hkd : bits .and .i64 kd 7 = 3 := hkd)
      try (replace hkd : bits .and .i64 kd 7 = 4 := hkd)
      go_enter Try.func16, Try.ntmps16
      go_upto_region 1 with fail
      rw [← hw1, ← hS]
      clear hw1 hS
      go_wp2_with (first | (refine wpList_load_mid rfl 35 (.tmp 26) rfl S 4 rfl [.int .i64 (v 0), .int .i64 (v 1), .int .i64 (v 2), .int .i64 (v 3), .int .i64 (v 4), .int .i64 (v 5), .int .i64 (v 6), .int .i64 (v 7), .int .i64 (v 8), .int .i64 (v 9), .int .i64 (v 10), .int .i64 (v 11), .int .i64 (v 12), .int .i64 (v 13), .int .i64 (v 14), .int .i64 (v 15), .int .i64 (v 16), .slice X xn xc, .int .i64 (v 18), .int .i64 (v 19), .int .i64 (v 20)] _ HM.out Try.underlying35 rfl (by kernel_rfl) ?_) | (go_at_call 11; refine (hear_any w1 H1.out HF.out hm now v X xn xc _ rfl).mono ?_; rintro e w2 ⟨⟨r, rfl⟩, hl⟩; have HL := Lib.hid (left_on HB1.out hl); clear hl))
      go_end0
      exact ⟨⟨_, rfl⟩, HL.out⟩
  · have e0 : s.done K v xn now = s.stepA now := by unfold Ag.done; rw [if_neg k0, if_neg k1, if_neg k4]
    rw [e0]
    clear e0
    have n0 : ¬ ((K : Int) = 0) := by omega
    have n1 : ¬ ((K : Int) = 1) := by omega
    have n2 : ¬ ((K : Int) = 2) := by omega
    have n3 : ¬ ((K : Int) = 3) := by omega
    have n4 : ¬ ((K : Int) = 4) := by omega
    clear k0 k1 k4 hK
    go_enter Try.func16, Try.ntmps16
    go_upto_region 1 with fail
    rw [← hw1, ← hS]
    clear hw1 hS
    go_wp2_with (go_at_call 13; refine (step_any w1 H1.out HF.out hm now).mono ?_; rintro e w2 ⟨A2, c2, rfl, _, ha, hc⟩; have HL := Lib.hid (left_on HB1.out (left_self ha hc)); clear ha hc)
    go_end0
    exact ⟨⟨_, rfl⟩, HL.out⟩
end Go.Proofs.Ytoeamofemepgpaa
