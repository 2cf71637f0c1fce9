/- Chapter 20: ack, kill. -/
import Derived.Test.YtoeamofemepgpaaPut
namespace Go.Proofs.Ytoeamofemepgpaa
open Go.RowKit

def Ag.ack (s : Ag) (v : Nat → Int) : Ag :=
  match s.place (v 6) (v 7) with
  | none => s
  | some i => match s.ps[i]? with
    | none => s
    | some p => if p.how = 0 then s else { s with ps := s.ps.set i { p with rep := false } }
theorem bs_at {w : World} {A : Nat} {L : Lay} {s : Ag} (h : AgAt w A L s) {i : Nat} {p : Pt} (hp : s.ps[i]? = some p) : ∃ b, L.bs[i]? = some b ∧ PtAt w b p := by
  have hl := h.plen
  have hlt := (List.getElem?_eq_some_iff.1 hp).1
  have hb : L.bs[i]? = some (L.bs[i]'(by omega)) := List.getElem?_eq_getElem (by omega)
  exact ⟨_, hb, h.prt i _ p hb hp⟩
set_option maxHeartbeats 2000000 in
theorem ack_none (w : World) {A : Nat} {L : Lay} {s : Ag} (h : AgAt w A L s) {M : Nat} (hM : L.M = some M) (v : Nat → Int) (X : Option Addr) (xn xc : Nat) (hpl : s.place (v 6) (v 7) = none) :
    Calls Try.prog 34 #[.pointer (some ⟨A, 0, none⟩), .agg #[.int .i64 (v 0), .int .i64 (v 1), .int .i64 (v 2), .int .i64 (v 3), .int .i64 (v 4), .int .i64 (v 5), .int .i64 (v 6), .int .i64 (v 7), .int .i64 (v 8), .int .i64 (v 9), .int .i64 (v 10), .int .i64 (v 11), .int .i64 (v 12), .int .i64 (v 13), .int .i64 (v 14), .int .i64 (v 15), .int .i64 (v 16), .slice X xn xc, .int .i64 (v 18), .int .i64 (v 19), .int .i64 (v 20)]] w fun e w' => (∃ r, e = .returned r) ∧ AgAt w' A L s ∧ Chg (L.own A) w w' := by
  obtain ⟨S, hS⟩ : ∃ x, x = w.heap.size := ⟨_, rfl⟩
  obtain ⟨w1, hw1⟩ : ∃ y, y = w.alloc (.cells #[.int .i64 (v 0), .int .i64 (v 1), .int .i64 (v 2), .int .i64 (v 3), .int .i64 (v 4), .int .i64 (v 5), .int .i64 (v 6), .int .i64 (v 7), .int .i64 (v 8), .int .i64 (v 9), .int .i64 (v 10), .int .i64 (v 11), .int .i64 (v 12), .int .i64 (v 13), .int .i64 (v 14), .int .i64 (v 15), .int .i64 (v 16), .slice X xn xc, .int .i64 (v 18), .int .i64 (v 19), .int .i64 (v 20)] 35) := ⟨_, rfl⟩
  have hb1 : Below w.heap.size w w1 := by rw [hw1]; exact (Below.refl _ w).alloc (Nat.le_refl _) _
  have hm1 : w1.heap[S]? = some (.cells #[.int .i64 (v 0), .int .i64 (v 1), .int .i64 (v 2), .int .i64 (v 3), .int .i64 (v 4), .int .i64 (v 5), .int .i64 (v 6), .int .i64 (v 7), .int .i64 (v 8), .int .i64 (v 9), .int .i64 (v 10), .int .i64 (v 11), .int .i64 (v 12), .int .i64 (v 13), .int .i64 (v 14), .int .i64 (v 15), .int .i64 (v 16), .slice X xn xc, .int .i64 (v 18), .int .i64 (v 19), .int .i64 (v 20)] 35 (0, 0)) := by rw [hw1, hS]; exact heap_alloc_new w _
  have h1 := h.below hb1
  have HB1 : Hid (Chg (L.own A) w w1) := Lib.hid (Chg.of_below hb1)
  have H1 := Lib.hid h1
  have HM1 := Lib.hid hm1
  have HF := Lib.hid (find_0 w1 h1 hM v X xn xc hpl)
  clear h hb1 hm1 h1 hM hpl
  go_enter Try.func34, Try.ntmps34
  go_upto_region 1 with fail
  rw [← hS, ← hw1]
  clear hS hw1
  go_upto_region 2 with (first | (refine wpList_load_row rfl 35 (.tmp 3) rfl S rfl 35 #[.int .i64 (v 0), .int .i64 (v 1), .int .i64 (v 2), .int .i64 (v 3), .int .i64 (v 4), .int .i64 (v 5), .int .i64 (v 6), .int .i64 (v 7), .int .i64 (v 8), .int .i64 (v 9), .int .i64 (v 10), .int .i64 (v 11), .int .i64 (v 12), .int .i64 (v 13), .int .i64 (v 14), .int .i64 (v 15), .int .i64 (v 16), .slice X xn xc, .int .i64 (v 18), .int .i64 (v 19), .int .i64 (v 20)] (0, 0) _ HM1.out Try.underlying35 rfl (by kernel_rfl) ?_) | (go_at_call 39; refine HF.out.mono ?_; rintro e w2 ⟨rfl, hb2⟩; have HB2 := Lib.hid hb2; clear hb2))
  have HA2 : Hid (AgAt w2 A L s) := Lib.hid (H1.out.below HB2.out)
  have HC2 : Hid (Chg (L.own A) w w2) := Lib.hid (HB1.out.trans (Chg.of_below HB2.out))
  have HM2 : Hid (w2.heap[S]? = some (.cells #[.int .i64 (v 0), .int .i64 (v 1), .int .i64 (v 2), .int .i64 (v 3), .int .i64 (v 4), .int .i64 (v 5), .int .i64 (v 6), .int .i64 (v 7), .int .i64 (v 8), .int .i64 (v 9), .int .i64 (v 10), .int .i64 (v 11), .int .i64 (v 12), .int .i64 (v 13), .int .i64 (v 14), .int .i64 (v 15), .int .i64 (v 16), .slice X xn xc, .int .i64 (v 18), .int .i64 (v 19), .int .i64 (v 20)] 35 (0, 0))) := Lib.hid ((HB2.out.block S (ltb HM1.out)).trans HM1.out)
  clear HB1 H1 HM1 HB2 HF
  go_wp2_with fail
  go_end0
  exact ⟨⟨_, rfl⟩, HA2.out, HC2.out⟩
set_option maxHeartbeats 2000000 in
theorem ack_some (w : World) {A : Nat} {L : Lay} {s : Ag} (h : AgAt w A L s) {M : Nat} (hM : L.M = some M) (v : Nat → Int) (X : Option Addr) (xn xc : Nat) {i : Nat} {p : Pt} (hpl : s.place (v 6) (v 7) = some i) (hp : s.ps[i]? = some p) :
    Calls Try.prog 34 #[.pointer (some ⟨A, 0, none⟩), .agg #[.int .i64 (v 0), .int .i64 (v 1), .int .i64 (v 2), .int .i64 (v 3), .int .i64 (v 4), .int .i64 (v 5), .int .i64 (v 6), .int .i64 (v 7), .int .i64 (v 8), .int .i64 (v 9), .int .i64 (v 10), .int .i64 (v 11), .int .i64 (v 12), .int .i64 (v 13), .int .i64 (v 14), .int .i64 (v 15), .int .i64 (v 16), .slice X xn xc, .int .i64 (v 18), .int .i64 (v 19), .int .i64 (v 20)]] w fun e w' => (∃ r, e = .returned r) ∧ AgAt w' A L (if p.how = 0 then s else { s with ps := s.ps.set i { p with rep := false } }) ∧ Chg (L.own A) w w' := by
  obtain ⟨b, hb, _⟩ := bs_at h hp
  obtain ⟨S, hS⟩ : ∃ x, x = w.heap.size := ⟨_, rfl⟩
  obtain ⟨w1, hw1⟩ : ∃ y, y = w.alloc (.cells #[.int .i64 (v 0), .int .i64 (v 1), .int .i64 (v 2), .int .i64 (v 3), .int .i64 (v 4), .int .i64 (v 5), .int .i64 (v 6), .int .i64 (v 7), .int .i64 (v 8), .int .i64 (v 9), .int .i64 (v 10), .int .i64 (v 11), .int .i64 (v 12), .int .i64 (v 13), .int .i64 (v 14), .int .i64 (v 15), .int .i64 (v 16), .slice X xn xc, .int .i64 (v 18), .int .i64 (v 19), .int .i64 (v 20)] 35) := ⟨_, rfl⟩
  have hb1 : Below w.heap.size w w1 := by rw [hw1]; exact (Below.refl _ w).alloc (Nat.le_refl _) _
  have hm1 : w1.heap[S]? = some (.cells #[.int .i64 (v 0), .int .i64 (v 1), .int .i64 (v 2), .int .i64 (v 3), .int .i64 (v 4), .int .i64 (v 5), .int .i64 (v 6), .int .i64 (v 7), .int .i64 (v 8), .int .i64 (v 9), .int .i64 (v 10), .int .i64 (v 11), .int .i64 (v 12), .int .i64 (v 13), .int .i64 (v 14), .int .i64 (v 15), .int .i64 (v 16), .slice X xn xc, .int .i64 (v 18), .int .i64 (v 19), .int .i64 (v 20)] 35 (0, 0)) := by rw [hw1, hS]; exact heap_alloc_new w _
  have h1 := h.below hb1
  have HB1 : Hid (Chg (L.own A) w w1) := Lib.hid (Chg.of_below hb1)
  have H1 := Lib.hid h1
  have HM1 := Lib.hid hm1
  have HF := Lib.hid (find_1 w1 h1 hM v X xn xc hpl hb)
  clear h hb1 hm1 h1 hM hpl
  by_cases hh : p.how = 0
  · rw [if_pos hh]
    go_enter Try.func34, Try.ntmps34
    go_upto_region 1 with fail
    rw [← hS, ← hw1]
    clear hS hw1
    go_upto_region 2 with (first | (refine wpList_load_row rfl 35 (.tmp 3) rfl S rfl 35 #[.int .i64 (v 0), .int .i64 (v 1), .int .i64 (v 2), .int .i64 (v 3), .int .i64 (v 4), .int .i64 (v 5), .int .i64 (v 6), .int .i64 (v 7), .int .i64 (v 8), .int .i64 (v 9), .int .i64 (v 10), .int .i64 (v 11), .int .i64 (v 12), .int .i64 (v 13), .int .i64 (v 14), .int .i64 (v 15), .int .i64 (v 16), .slice X xn xc, .int .i64 (v 18), .int .i64 (v 19), .int .i64 (v 20)] (0, 0) _ HM1.out Try.underlying35 rfl (by kernel_rfl) ?_) | (go_at_call 39; refine HF.out.mono ?_; rintro e w2 ⟨rfl, hb2⟩; have HB2 := Lib.hid hb2; clear hb2))
    have HA2 : Hid (AgAt w2 A L s) := Lib.hid (H1.out.below HB2.out)
    have HC2 : Hid (Chg (L.own A) w w2) := Lib.hid (HB1.out.trans (Chg.of_below HB2.out))
    have HM2 : Hid (w2.heap[S]? = some (.cells #[.int .i64 (v 0), .int .i64 (v 1), .int .i64 (v 2), .int .i64 (v 3), .int .i64 (v 4), .int .i64 (v 5), .int .i64 (v 6), .int .i64 (v 7), .int .i64 (v 8), .int .i64 (v 9), .int .i64 (v 10), .int .i64 (v 11), .int .i64 (v 12), .int .i64 (v 13), .int .i64 (v 14), .int .i64 (v 15), .int .i64 (v 16), .slice X xn xc, .int .i64 (v 18), .int .i64 (v 19), .int .i64 (v 20)] 35 (0, 0))) := Lib.hid ((HB2.out.block S (ltb HM1.out)).trans HM1.out)
    clear HB1 H1 HM1 HB2 HF
    have kp := HA2.out.prt i b p hb hp
    have k9 : w2.cell? ⟨b, 9, none⟩ = some (.int .i64 0) := by rw [← hh]; exact cellb (i := 9) kp rfl
    clear kp hh
    go_wp2_with fail
    go_end0
    exact ⟨⟨_, rfl⟩, HA2.out, HC2.out⟩
  · rw [if_neg hh]
    go_enter Try.func34, Try.ntmps34
    go_upto_region 1 with fail
    rw [← hS, ← hw1]
    clear hS hw1
    go_upto_region 2 with (first | (refine wpList_load_row rfl 35 (.tmp 3) rfl S rfl 35 #[.int .i64 (v 0), .int .i64 (v 1), .int .i64 (v 2), .int .i64 (v 3), .int .i64 (v 4), .int .i64 (v 5), .int .i64 (v 6), .int .i64 (v 7), .int .i64 (v 8), .int .i64 (v 9), .int .i64 (v 10), .int .i64 (v 11), .int .i64 (v 12), .int .i64 (v 13), .int .i64 (v 14), .int .i64 (v 15), .int .i64 (v 16), .slice X xn xc, .int .i64 (v 18), .int .i64 (v 19), .int .i64 (v 20)] (0, 0) _ HM1.out Try.underlying35 rfl (by kernel_rfl) ?_) | (go_at_call 39; refine HF.out.mono ?_; rintro e w2 ⟨rfl, hb2⟩; have HB2 := Lib.hid hb2; clear hb2))
    have HA2 : Hid (AgAt w2 A L s) := Lib.hid (H1.out.below HB2.out)
    have HC2 : Hid (Chg (L.own A) w w2) := Lib.hid (HB1.out.trans (Chg.of_below HB2.out))
    have HM2 : Hid (w2.heap[S]? = some (.cells #[.int .i64 (v 0), .int .i64 (v 1), .int .i64 (v 2), .int .i64 (v 3), .int .i64 (v 4), .int .i64 (v 5), .int .i64 (v 6), .int .i64 (v 7), .int .i64 (v 8), .int .i64 (v 9), .int .i64 (v 10), .int .i64 (v 11), .int .i64 (v 12), .int .i64 (v 13), .int .i64 (v 14), .int .i64 (v 15), .int .i64 (v 16), .slice X xn xc, .int .i64 (v 18), .int .i64 (v 19), .int .i64 (v 20)] 35 (0, 0))) := Lib.hid ((HB2.out.block S (ltb HM1.out)).trans HM1.out)
    clear HB1 H1 HM1 HB2 HF
    have kp := HA2.out.prt i b p hb hp
    have k9 : w2.cell? ⟨b, 9, none⟩ = some (.int .i64 p.how) := cellb (i := 9) kp rfl
    have k10 : w2.cell? ⟨b, 10, none⟩ = some (.bool p.rep) := cellb (i := 10) kp rfl
    have kf : w2.frozen? ⟨b, 10, none⟩ = false := fzb kp 10
    have c3 : Chg (fun k => k = b) w2 (w2.setCell ⟨b, 10, none⟩ (.bool false)) := (Chg.refl (fun k => k = b) w2).setCell (p := ⟨b, 10, none⟩) (.inr rfl) _
    have hq : PtAt (w2.setCell ⟨b, 10, none⟩ (.bool false)) b { p with rep := false } := by
      have := set_blk (i := 10) (show w2.heap[b]? = _ from kp) (.bool false)
      unfold PtAt
      rw [this]
      simp
    have HE := Lib.hid (HA2.out.setp hb hp (q := { p with rep := false }) rfl rfl c3 hq)
    have HC3 := Lib.hid (HC2.out.trans (c3.mono (fun k _ e => by rw [e]; exact .inr (.inr (.inr (.inr (List.mem_of_getElem? hb)))))))
    clear kp c3 hq hb hp
    go_wp2_with fail
    go_end0
    exact ⟨⟨_, rfl⟩, HE.out, HC3.out⟩
theorem ack_any (w : World) {A : Nat} {L : Lay} {s : Ag} (h : AgAt w A L s) {M : Nat} (hM : L.M = some M) (v : Nat → Int) (X : Option Addr) (xn xc : Nat) :
    Calls Try.prog 34 #[.pointer (some ⟨A, 0, none⟩), .agg #[.int .i64 (v 0), .int .i64 (v 1), .int .i64 (v 2), .int .i64 (v 3), .int .i64 (v 4), .int .i64 (v 5), .int .i64 (v 6), .int .i64 (v 7), .int .i64 (v 8), .int .i64 (v 9), .int .i64 (v 10), .int .i64 (v 11), .int .i64 (v 12), .int .i64 (v 13), .int .i64 (v 14), .int .i64 (v 15), .int .i64 (v 16), .slice X xn xc, .int .i64 (v 18), .int .i64 (v 19), .int .i64 (v 20)]] w fun e w' => (∃ r, e = .returned r) ∧ AgAt w' A L (s.ack v) ∧ Chg (L.own A) w w' := by
  cases hpl : s.place (v 6) (v 7) with
  | none =>
    have e : s.ack v = s := by unfold Ag.ack; rw [hpl]
    rw [e]
    exact ack_none w h hM v X xn xc hpl
  | some i =>
    obtain ⟨p, hp, _⟩ := place_some hpl
    have e : s.ack v = if p.how = 0 then s else { s with ps := s.ps.set i { p with rep := false } } := by unfold Ag.ack; rw [hpl]; simp only [hp]
    rw [e]
    exact ack_some w h hM v X xn xc hpl hp
end Go.Proofs.Ytoeamofemepgpaa
