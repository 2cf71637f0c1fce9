/- Chapter 20: launch. -/
import Derived.Test.YtoeamofemepgpaaKill
import Derived.Test.YtoeamofemepgpaaMay20
namespace Go.Proofs.Ytoeamofemepgpaa
open Go.RowKit

/-- A part that begins. -/
def Ag.started (s : Ag) (v : Nat → Int) : Pt := ⟨v 6, v 7, v 11, v 12, v 13, v 14, s.tick, s.tick + s.takes (v 6), s.tick + v 9, 0, false, false, 0⟩
def Ag.launch (s : Ag) (v : Nat → Int) : Ag :=
  match s.place (v 6) (v 7) with
  | some _ => s
  | none => s.more (if s.may v then s.started v else (Pt.zero (v 6) (v 7)).over 3)
set_option maxHeartbeats 2000000 in
theorem launch_found (w : World) {A : Nat} {L : Lay} {s : Ag} (h : AgAt w A L s) {M : Nat} (hM : L.M = some M) (v : Nat → Int) (X : Option Addr) (xn xc : Nat) {i : Nat} (hpl : s.place (v 6) (v 7) = some i) :
    Calls Try.prog 32 #[.pointer (some ⟨A, 0, none⟩), .agg #[.int .i64 (v 0), .int .i64 (v 1), .int .i64 (v 2), .int .i64 (v 3), .int .i64 (v 4), .int .i64 (v 5), .int .i64 (v 6), .int .i64 (v 7), .int .i64 (v 8), .int .i64 (v 9), .int .i64 (v 10), .int .i64 (v 11), .int .i64 (v 12), .int .i64 (v 13), .int .i64 (v 14), .int .i64 (v 15), .int .i64 (v 16), .slice X xn xc, .int .i64 (v 18), .int .i64 (v 19), .int .i64 (v 20)]] w fun e w' => (∃ r, e = .returned r) ∧ AgAt w' A L s ∧ Chg (L.own A) w w' := by
  obtain ⟨p, hp, _⟩ := place_some hpl
  obtain ⟨b, hb, _⟩ := bs_at h hp
  obtain ⟨S, hS⟩ : ∃ x, x = w.heap.size := ⟨_, rfl⟩
  obtain ⟨w1, hw1⟩ : ∃ y, y = w.alloc (.cells #[.int .i64 (v 0), .int .i64 (v 1), .int .i64 (v 2), .int .i64 (v 3), .int .i64 (v 4), .int .i64 (v 5), .int .i64 (v 6), .int .i64 (v 7), .int .i64 (v 8), .int .i64 (v 9), .int .i64 (v 10), .int .i64 (v 11), .int .i64 (v 12), .int .i64 (v 13), .int .i64 (v 14), .int .i64 (v 15), .int .i64 (v 16), .slice X xn xc, .int .i64 (v 18), .int .i64 (v 19), .int .i64 (v 20)] 35) := ⟨_, rfl⟩
  have hb1 : Below w.heap.size w w1 := by rw [hw1]; exact (Below.refl _ w).alloc (Nat.le_refl _) _
  have hm1 : w1.heap[S]? = some (.cells #[.int .i64 (v 0), .int .i64 (v 1), .int .i64 (v 2), .int .i64 (v 3), .int .i64 (v 4), .int .i64 (v 5), .int .i64 (v 6), .int .i64 (v 7), .int .i64 (v 8), .int .i64 (v 9), .int .i64 (v 10), .int .i64 (v 11), .int .i64 (v 12), .int .i64 (v 13), .int .i64 (v 14), .int .i64 (v 15), .int .i64 (v 16), .slice X xn xc, .int .i64 (v 18), .int .i64 (v 19), .int .i64 (v 20)] 35 (0, 0)) := by rw [hw1, hS]; exact heap_alloc_new w _
  have h1 := h.below hb1
  have HB1 : Hid (Chg (L.own A) w w1) := Lib.hid (Chg.of_below hb1)
  have H1 := Lib.hid h1
  have HM1 := Lib.hid hm1
  have HF := Lib.hid (find_1 w1 h1 hM v X xn xc hpl hb)
  clear h hb1 hm1 h1 hM hpl
  go_enter Try.func32, Try.ntmps32
  go_upto_region 1 with fail
  rw [← hS, ← hw1]
  clear hS hw1
  go_upto_region 2 with (first | (refine wpList_load_row rfl 35 (.tmp 3) rfl S rfl 35 #[.int .i64 (v 0), .int .i64 (v 1), .int .i64 (v 2), .int .i64 (v 3), .int .i64 (v 4), .int .i64 (v 5), .int .i64 (v 6), .int .i64 (v 7), .int .i64 (v 8), .int .i64 (v 9), .int .i64 (v 10), .int .i64 (v 11), .int .i64 (v 12), .int .i64 (v 13), .int .i64 (v 14), .int .i64 (v 15), .int .i64 (v 16), .slice X xn xc, .int .i64 (v 18), .int .i64 (v 19), .int .i64 (v 20)] (0, 0) _ HM1.out Try.underlying35 rfl (by kernel_rfl) ?_) | (go_at_call 39; refine HF.out.mono ?_; rintro e w2 ⟨rfl, hb2⟩; have HB2 := Lib.hid hb2; clear hb2))
  have HA2 : Hid (AgAt w2 A L s) := Lib.hid (H1.out.below HB2.out)
  have HC2 : Hid (Chg (L.own A) w w2) := Lib.hid (HB1.out.trans (Chg.of_below HB2.out))
  have HM2 : Hid (w2.heap[S]? = some (.cells #[.int .i64 (v 0), .int .i64 (v 1), .int .i64 (v 2), .int .i64 (v 3), .int .i64 (v 4), .int .i64 (v 5), .int .i64 (v 6), .int .i64 (v 7), .int .i64 (v 8), .int .i64 (v 9), .int .i64 (v 10), .int .i64 (v 11), .int .i64 (v 12), .int .i64 (v 13), .int .i64 (v 14), .int .i64 (v 15), .int .i64 (v 16), .slice X xn xc, .int .i64 (v 18), .int .i64 (v 19), .int .i64 (v 20)] 35 (0, 0))) := Lib.hid ((HB2.out.block S (ltb HM1.out)).trans HM1.out)
  clear HB1 H1 HM1 HB2 HF
  refine bodyPost_ret (v := .tuple #[]) (results_none rfl _ _ _) rfl ?_
  exact ⟨⟨_, rfl⟩, HA2.out, HC2.out⟩
set_option maxHeartbeats 4000000 in
theorem launch_no (w : World) {A : Nat} {L : Lay} {s : Ag} (h : AgAt w A L s) {M : Nat} (hM : L.M = some M) (v : Nat → Int) (X : Option Addr) (xn xc : Nat) (hn : s.ps.length ≤ 1000000) (hs : Small s.ps) (hv : ∀ k, 11 ≤ k → k ≤ 14 → 0 ≤ v k ∧ v k ≤ 1073741824) (hv8 : 0 ≤ v 8 ∧ v 8 ≤ 2199023255552)
    (hpl : s.place (v 6) (v 7) = none) (hmay : s.may v = false) :
    Calls Try.prog 32 #[.pointer (some ⟨A, 0, none⟩), .agg #[.int .i64 (v 0), .int .i64 (v 1), .int .i64 (v 2), .int .i64 (v 3), .int .i64 (v 4), .int .i64 (v 5), .int .i64 (v 6), .int .i64 (v 7), .int .i64 (v 8), .int .i64 (v 9), .int .i64 (v 10), .int .i64 (v 11), .int .i64 (v 12), .int .i64 (v 13), .int .i64 (v 14), .int .i64 (v 15), .int .i64 (v 16), .slice X xn xc, .int .i64 (v 18), .int .i64 (v 19), .int .i64 (v 20)]] w fun e w' => Puts w A M L (s.more ((Pt.zero (v 6) (v 7)).over 3)) e w' := by
  obtain ⟨S, hS⟩ : ∃ x, x = w.heap.size := ⟨_, rfl⟩
  obtain ⟨w1, hw1⟩ : ∃ y, y = w.alloc (.cells #[.int .i64 (v 0), .int .i64 (v 1), .int .i64 (v 2), .int .i64 (v 3), .int .i64 (v 4), .int .i64 (v 5), .int .i64 (v 6), .int .i64 (v 7), .int .i64 (v 8), .int .i64 (v 9), .int .i64 (v 10), .int .i64 (v 11), .int .i64 (v 12), .int .i64 (v 13), .int .i64 (v 14), .int .i64 (v 15), .int .i64 (v 16), .slice X xn xc, .int .i64 (v 18), .int .i64 (v 19), .int .i64 (v 20)] 35) := ⟨_, rfl⟩
  have hb1 : Below w.heap.size w w1 := by rw [hw1]; exact (Below.refl _ w).alloc (Nat.le_refl _) _
  have hm1 : w1.heap[S]? = some (.cells #[.int .i64 (v 0), .int .i64 (v 1), .int .i64 (v 2), .int .i64 (v 3), .int .i64 (v 4), .int .i64 (v 5), .int .i64 (v 6), .int .i64 (v 7), .int .i64 (v 8), .int .i64 (v 9), .int .i64 (v 10), .int .i64 (v 11), .int .i64 (v 12), .int .i64 (v 13), .int .i64 (v 14), .int .i64 (v 15), .int .i64 (v 16), .slice X xn xc, .int .i64 (v 18), .int .i64 (v 19), .int .i64 (v 20)] 35 (0, 0)) := by rw [hw1, hS]; exact heap_alloc_new w _
  have h1 := h.below hb1
  have HB1 : Hid (Chg (L.own A) w w1) := Lib.hid (Chg.of_below hb1)
  have H1 := Lib.hid h1
  have HM1 := Lib.hid hm1
  have HF := Lib.hid (find_0 w1 h1 hM v X xn xc hpl)
  clear h hb1 hm1 h1
  go_enter Try.func32, Try.ntmps32
  go_upto_region 1 with fail
  rw [← hS, ← hw1]
  clear hS hw1
  go_upto_region 2 with (first | (refine wpList_load_row rfl 35 (.tmp 3) rfl S rfl 35 #[.int .i64 (v 0), .int .i64 (v 1), .int .i64 (v 2), .int .i64 (v 3), .int .i64 (v 4), .int .i64 (v 5), .int .i64 (v 6), .int .i64 (v 7), .int .i64 (v 8), .int .i64 (v 9), .int .i64 (v 10), .int .i64 (v 11), .int .i64 (v 12), .int .i64 (v 13), .int .i64 (v 14), .int .i64 (v 15), .int .i64 (v 16), .slice X xn xc, .int .i64 (v 18), .int .i64 (v 19), .int .i64 (v 20)] (0, 0) _ HM1.out Try.underlying35 rfl (by kernel_rfl) ?_) | (go_at_call 39; refine HF.out.mono ?_; rintro e w2 ⟨rfl, hb2⟩; have HB2 := Lib.hid hb2; clear hb2))
  have HA2 : Hid (AgAt w2 A L s) := Lib.hid (H1.out.below HB2.out)
  have HC2 : Hid (Chg (L.own A) w w2) := Lib.hid (HB1.out.trans (Chg.of_below HB2.out))
  have HM2 : Hid (w2.heap[S]? = some (.cells #[.int .i64 (v 0), .int .i64 (v 1), .int .i64 (v 2), .int .i64 (v 3), .int .i64 (v 4), .int .i64 (v 5), .int .i64 (v 6), .int .i64 (v 7), .int .i64 (v 8), .int .i64 (v 9), .int .i64 (v 10), .int .i64 (v 11), .int .i64 (v 12), .int .i64 (v 13), .int .i64 (v 14), .int .i64 (v 15), .int .i64 (v 16), .slice X xn xc, .int .i64 (v 18), .int .i64 (v 19), .int .i64 (v 20)] 35 (0, 0))) := Lib.hid ((HB2.out.block S (ltb HM1.out)).trans HM1.out)
  clear HB1 H1 HM1 HB2 HF
  have m6 : w2.cell? ⟨S, 6, none⟩ = some (.int .i64 (v 6)) := cellb (i := 6) HM2.out rfl
  have m7 : w2.cell? ⟨S, 7, none⟩ = some (.int .i64 (v 7)) := cellb (i := 7) HM2.out rfl
  obtain ⟨T, hT⟩ : ∃ x, x = w2.heap.size := ⟨_, rfl⟩
  obtain ⟨w3, hw3⟩ : ∃ y, y = w2.alloc (.cells #[.int .i64 (v 6), .int .i64 (v 7), .int .i64 0, .int .i64 0, .int .i64 0, .int .i64 0, .int .i64 0, .int .i64 0, .int .i64 0, .int .i64 0, .bool false, .bool false, .int .i64 0] 73) := ⟨_, rfl⟩
  have hb3 : Below w2.heap.size w2 w3 := by rw [hw3]; exact (Below.refl _ _).alloc (Nat.le_refl _) _
  have hp3 : PtAt w3 T (Pt.zero (v 6) (v 7)) := by rw [hw3, hT]; exact heap_alloc_new w2 _
  have hTw : w.heap.size ≤ T := by rw [hT]; exact HC2.out.size
  have HT := Lib.hid (fun k (hk : L.own A k) => HA2.out.own_lt hk)
  have HA3 := Lib.hid (HA2.out.below hb3)
  have HC3 := Lib.hid (HC2.out.trans (Chg.of_below hb3))
  have HP3 := Lib.hid hp3
  have HTT := Lib.hid hT
  have HM3 : Hid (w3.heap[S]? = some (.cells #[.int .i64 (v 0), .int .i64 (v 1), .int .i64 (v 2), .int .i64 (v 3), .int .i64 (v 4), .int .i64 (v 5), .int .i64 (v 6), .int .i64 (v 7), .int .i64 (v 8), .int .i64 (v 9), .int .i64 (v 10), .int .i64 (v 11), .int .i64 (v 12), .int .i64 (v 13), .int .i64 (v 14), .int .i64 (v 15), .int .i64 (v 16), .slice X xn xc, .int .i64 (v 18), .int .i64 (v 19), .int .i64 (v 20)] 35 (0, 0))) := Lib.hid ((hb3.block S (ltb HM2.out)).trans HM2.out)
  have HMAY := Lib.hid (may_any w3 HA3.out hn hs v X xn xc hv hv8)
  clear hb3 hp3 HM2
  go_upto_region 3 with fail
  rw [← hT, ← hw3]
  clear hT hw3 m6 m7
  go_upto_region 5 with (first | (refine wpList_load_row rfl 35 (.tmp 3) rfl S rfl 35 #[.int .i64 (v 0), .int .i64 (v 1), .int .i64 (v 2), .int .i64 (v 3), .int .i64 (v 4), .int .i64 (v 5), .int .i64 (v 6), .int .i64 (v 7), .int .i64 (v 8), .int .i64 (v 9), .int .i64 (v 10), .int .i64 (v 11), .int .i64 (v 12), .int .i64 (v 13), .int .i64 (v 14), .int .i64 (v 15), .int .i64 (v 16), .slice X xn xc, .int .i64 (v 18), .int .i64 (v 19), .int .i64 (v 20)] (0, 0) _ HM3.out Try.underlying35 rfl (by kernel_rfl) ?_) | (go_at_call 40; refine HMAY.out.mono ?_; rintro e w4 ⟨rfl, hb4⟩; rw [hmay]; have HB4 := Lib.hid hb4; clear hb4))
  have HA4 : Hid (AgAt w4 A L s) := Lib.hid (HA3.out.below HB4.out)
  have HC4 : Hid (Chg (L.own A) w w4) := Lib.hid (HC3.out.trans (Chg.of_below HB4.out))
  have HM4 : Hid (w4.heap[S]? = some (.cells #[.int .i64 (v 0), .int .i64 (v 1), .int .i64 (v 2), .int .i64 (v 3), .int .i64 (v 4), .int .i64 (v 5), .int .i64 (v 6), .int .i64 (v 7), .int .i64 (v 8), .int .i64 (v 9), .int .i64 (v 10), .int .i64 (v 11), .int .i64 (v 12), .int .i64 (v 13), .int .i64 (v 14), .int .i64 (v 15), .int .i64 (v 16), .slice X xn xc, .int .i64 (v 18), .int .i64 (v 19), .int .i64 (v 20)] 35 (0, 0))) := Lib.hid ((HB4.out.block S (ltb HM3.out)).trans HM3.out)
  have HP4 : Hid (PtAt w4 T (Pt.zero (v 6) (v 7))) := Lib.hid ((HB4.out.block T HP3.out.lt).trans HP3.out)
  clear HA3 HC3 HM3 HP3 HMAY HB4
  go_wp2_with (go_at_call 30; refine (over_any w4 T (Pt.zero (v 6) (v 7)) 3 HP4.out).mono ?_; rintro e w5 ⟨⟨r, rfl⟩, hp5, hc5⟩; have HP5 := Lib.hid hp5; have HC5 := Lib.hid hc5; clear hp5 hc5)
  have HA5 : Hid (AgAt w5 A L s) := Lib.hid (HA4.out.chg HC5.out (fun k hk ho => by have := HT.out k ho; have := HTT.out; omega))
  have HCC : Hid (Chg (L.own A) w w5) := Lib.hid (chg_on HC4.out HC5.out (fun k hk e => by omega))
  refine (put_any w5 HA5.out hM HP5.out (fun e => by have := HT.out T (.inr (.inr (.inr (.inr e)))); have := HTT.out; omega) hpl hn).mono ?_
  rintro e w6 hput
  have HPUT := Lib.hid (puts_of hM HCC.out hTw hput)
  obtain ⟨⟨r, rfl⟩, _⟩ := hput
  go_wp2_with fail
  go_end0
  obtain ⟨_, hh⟩ := HPUT.out
  exact ⟨⟨_, rfl⟩, hh⟩
set_option maxHeartbeats 4000000 in
theorem launch_yes (w : World) {A : Nat} {L : Lay} {s : Ag} (h : AgAt w A L s) {M : Nat} (hM : L.M = some M) (v : Nat → Int) (X : Option Addr) (xn xc : Nat) (hn : s.ps.length ≤ 1000000) (hs : Small s.ps) (hv : ∀ k, 11 ≤ k → k ≤ 14 → 0 ≤ v k ∧ v k ≤ 1073741824) (hv8 : 0 ≤ v 8 ∧ v 8 ≤ 2199023255552) (hw : s.work.length ≤ 1000000) (hv6 : 1 ≤ v 6 ∧ v 6 ≤ 1000) (hv9 : 0 ≤ v 9 ∧ v 9 ≤ 2199023255552) (htk : 0 ≤ s.tick ∧ s.tick ≤ 2199023255552)
    (hpl : s.place (v 6) (v 7) = none) (hmay : s.may v = true) :
    Calls Try.prog 32 #[.pointer (some ⟨A, 0, none⟩), .agg #[.int .i64 (v 0), .int .i64 (v 1), .int .i64 (v 2), .int .i64 (v 3), .int .i64 (v 4), .int .i64 (v 5), .int .i64 (v 6), .int .i64 (v 7), .int .i64 (v 8), .int .i64 (v 9), .int .i64 (v 10), .int .i64 (v 11), .int .i64 (v 12), .int .i64 (v 13), .int .i64 (v 14), .int .i64 (v 15), .int .i64 (v 16), .slice X xn xc, .int .i64 (v 18), .int .i64 (v 19), .int .i64 (v 20)]] w fun e w' => Puts w A M L (s.more (s.started v)) e w' := by
  obtain ⟨S, hS⟩ : ∃ x, x = w.heap.size := ⟨_, rfl⟩
  obtain ⟨w1, hw1⟩ : ∃ y, y = w.alloc (.cells #[.int .i64 (v 0), .int .i64 (v 1), .int .i64 (v 2), .int .i64 (v 3), .int .i64 (v 4), .int .i64 (v 5), .int .i64 (v 6), .int .i64 (v 7), .int .i64 (v 8), .int .i64 (v 9), .int .i64 (v 10), .int .i64 (v 11), .int .i64 (v 12), .int .i64 (v 13), .int .i64 (v 14), .int .i64 (v 15), .int .i64 (v 16), .slice X xn xc, .int .i64 (v 18), .int .i64 (v 19), .int .i64 (v 20)] 35) := ⟨_, rfl⟩
  have hb1 : Below w.heap.size w w1 := by rw [hw1]; exact (Below.refl _ w).alloc (Nat.le_refl _) _
  have hm1 : w1.heap[S]? = some (.cells #[.int .i64 (v 0), .int .i64 (v 1), .int .i64 (v 2), .int .i64 (v 3), .int .i64 (v 4), .int .i64 (v 5), .int .i64 (v 6), .int .i64 (v 7), .int .i64 (v 8), .int .i64 (v 9), .int .i64 (v 10), .int .i64 (v 11), .int .i64 (v 12), .int .i64 (v 13), .int .i64 (v 14), .int .i64 (v 15), .int .i64 (v 16), .slice X xn xc, .int .i64 (v 18), .int .i64 (v 19), .int .i64 (v 20)] 35 (0, 0)) := by rw [hw1, hS]; exact heap_alloc_new w _
  have h1 := h.below hb1
  have HB1 : Hid (Chg (L.own A) w w1) := Lib.hid (Chg.of_below hb1)
  have H1 := Lib.hid h1
  have HM1 := Lib.hid hm1
  have HF := Lib.hid (find_0 w1 h1 hM v X xn xc hpl)
  clear h hb1 hm1 h1
  go_enter Try.func32, Try.ntmps32
  go_upto_region 1 with fail
  rw [← hS, ← hw1]
  clear hS hw1
  go_upto_region 2 with (first | (refine wpList_load_row rfl 35 (.tmp 3) rfl S rfl 35 #[.int .i64 (v 0), .int .i64 (v 1), .int .i64 (v 2), .int .i64 (v 3), .int .i64 (v 4), .int .i64 (v 5), .int .i64 (v 6), .int .i64 (v 7), .int .i64 (v 8), .int .i64 (v 9), .int .i64 (v 10), .int .i64 (v 11), .int .i64 (v 12), .int .i64 (v 13), .int .i64 (v 14), .int .i64 (v 15), .int .i64 (v 16), .slice X xn xc, .int .i64 (v 18), .int .i64 (v 19), .int .i64 (v 20)] (0, 0) _ HM1.out Try.underlying35 rfl (by kernel_rfl) ?_) | (go_at_call 39; refine HF.out.mono ?_; rintro e w2 ⟨rfl, hb2⟩; have HB2 := Lib.hid hb2; clear hb2))
  have HA2 : Hid (AgAt w2 A L s) := Lib.hid (H1.out.below HB2.out)
  have HC2 : Hid (Chg (L.own A) w w2) := Lib.hid (HB1.out.trans (Chg.of_below HB2.out))
  have HM2 : Hid (w2.heap[S]? = some (.cells #[.int .i64 (v 0), .int .i64 (v 1), .int .i64 (v 2), .int .i64 (v 3), .int .i64 (v 4), .int .i64 (v 5), .int .i64 (v 6), .int .i64 (v 7), .int .i64 (v 8), .int .i64 (v 9), .int .i64 (v 10), .int .i64 (v 11), .int .i64 (v 12), .int .i64 (v 13), .int .i64 (v 14), .int .i64 (v 15), .int .i64 (v 16), .slice X xn xc, .int .i64 (v 18), .int .i64 (v 19), .int .i64 (v 20)] 35 (0, 0))) := Lib.hid ((HB2.out.block S (ltb HM1.out)).trans HM1.out)
  clear HB1 H1 HM1 HB2 HF
  have m6 : w2.cell? ⟨S, 6, none⟩ = some (.int .i64 (v 6)) := cellb (i := 6) HM2.out rfl
  have m7 : w2.cell? ⟨S, 7, none⟩ = some (.int .i64 (v 7)) := cellb (i := 7) HM2.out rfl
  obtain ⟨T, hT⟩ : ∃ x, x = w2.heap.size := ⟨_, rfl⟩
  obtain ⟨w3, hw3⟩ : ∃ y, y = w2.alloc (.cells #[.int .i64 (v 6), .int .i64 (v 7), .int .i64 0, .int .i64 0, .int .i64 0, .int .i64 0, .int .i64 0, .int .i64 0, .int .i64 0, .int .i64 0, .bool false, .bool false, .int .i64 0] 73) := ⟨_, rfl⟩
  have hb3 : Below w2.heap.size w2 w3 := by rw [hw3]; exact (Below.refl _ _).alloc (Nat.le_refl _) _
  have hp3 : PtAt w3 T (Pt.zero (v 6) (v 7)) := by rw [hw3, hT]; exact heap_alloc_new w2 _
  have hTw : w.heap.size ≤ T := by rw [hT]; exact HC2.out.size
  have HT := Lib.hid (fun k (hk : L.own A k) => HA2.out.own_lt hk)
  have HA3 := Lib.hid (HA2.out.below hb3)
  have HC3 := Lib.hid (HC2.out.trans (Chg.of_below hb3))
  have HP3 := Lib.hid hp3
  have HTT := Lib.hid hT
  have HM3 : Hid (w3.heap[S]? = some (.cells #[.int .i64 (v 0), .int .i64 (v 1), .int .i64 (v 2), .int .i64 (v 3), .int .i64 (v 4), .int .i64 (v 5), .int .i64 (v 6), .int .i64 (v 7), .int .i64 (v 8), .int .i64 (v 9), .int .i64 (v 10), .int .i64 (v 11), .int .i64 (v 12), .int .i64 (v 13), .int .i64 (v 14), .int .i64 (v 15), .int .i64 (v 16), .slice X xn xc, .int .i64 (v 18), .int .i64 (v 19), .int .i64 (v 20)] 35 (0, 0))) := Lib.hid ((hb3.block S (ltb HM2.out)).trans HM2.out)
  have HMAY := Lib.hid (may_any w3 HA3.out hn hs v X xn xc hv hv8)
  clear hb3 hp3 HM2
  go_upto_region 3 with fail
  rw [← hT, ← hw3]
  clear hT hw3 m6 m7
  go_upto_region 4 with (first | (refine wpList_load_row rfl 35 (.tmp 3) rfl S rfl 35 #[.int .i64 (v 0), .int .i64 (v 1), .int .i64 (v 2), .int .i64 (v 3), .int .i64 (v 4), .int .i64 (v 5), .int .i64 (v 6), .int .i64 (v 7), .int .i64 (v 8), .int .i64 (v 9), .int .i64 (v 10), .int .i64 (v 11), .int .i64 (v 12), .int .i64 (v 13), .int .i64 (v 14), .int .i64 (v 15), .int .i64 (v 16), .slice X xn xc, .int .i64 (v 18), .int .i64 (v 19), .int .i64 (v 20)] (0, 0) _ HM3.out Try.underlying35 rfl (by kernel_rfl) ?_) | (go_at_call 40; refine HMAY.out.mono ?_; rintro e w4 ⟨rfl, hb4⟩; rw [hmay]; have HB4 := Lib.hid hb4; clear hb4))
  have HA4 : Hid (AgAt w4 A L s) := Lib.hid (HA3.out.below HB4.out)
  have HC4 : Hid (Chg (L.own A) w w4) := Lib.hid (HC3.out.trans (Chg.of_below HB4.out))
  have HM4 : Hid (w4.heap[S]? = some (.cells #[.int .i64 (v 0), .int .i64 (v 1), .int .i64 (v 2), .int .i64 (v 3), .int .i64 (v 4), .int .i64 (v 5), .int .i64 (v 6), .int .i64 (v 7), .int .i64 (v 8), .int .i64 (v 9), .int .i64 (v 10), .int .i64 (v 11), .int .i64 (v 12), .int .i64 (v 13), .int .i64 (v 14), .int .i64 (v 15), .int .i64 (v 16), .slice X xn xc, .int .i64 (v 18), .int .i64 (v 19), .int .i64 (v 20)] 35 (0, 0))) := Lib.hid ((HB4.out.block S (ltb HM3.out)).trans HM3.out)
  have HP4 : Hid (PtAt w4 T (Pt.zero (v 6) (v 7))) := Lib.hid ((HB4.out.block T HP3.out.lt).trans HP3.out)
  clear HA3 HC3 HM3 HP3 HMAY HB4
  have HA4d : Hid (AgAt w4.drew A L s) := Lib.hid HA4.out.drew
  have HC4d : Hid (Chg (L.own A) w w4.drew) := Lib.hid HC4.out.drew
  have HM4d : Hid (w4.drew.heap[S]? = some (.cells #[.int .i64 (v 0), .int .i64 (v 1), .int .i64 (v 2), .int .i64 (v 3), .int .i64 (v 4), .int .i64 (v 5), .int .i64 (v 6), .int .i64 (v 7), .int .i64 (v 8), .int .i64 (v 9), .int .i64 (v 10), .int .i64 (v 11), .int .i64 (v 12), .int .i64 (v 13), .int .i64 (v 14), .int .i64 (v 15), .int .i64 (v 16), .slice X xn xc, .int .i64 (v 18), .int .i64 (v 19), .int .i64 (v 20)] 35 (0, 0))) := HM4
  have HP4d : Hid (PtAt w4.drew T (Pt.zero (v 6) (v 7))) := HP4
  have f7 : w4.drew.cell? ⟨A, 7, none⟩ = some (.int .i64 s.tick) := cellb (i := 7) HA4d.out.blk rfl
  have m6 : w4.drew.cell? ⟨S, 6, none⟩ = some (.int .i64 (v 6)) := cellb (i := 6) HM4d.out rfl
  have m9 : w4.drew.cell? ⟨S, 9, none⟩ = some (.int .i64 (v 9)) := cellb (i := 9) HM4d.out rfl
  have m11 : w4.drew.cell? ⟨S, 11, none⟩ = some (.int .i64 (v 11)) := cellb (i := 11) HM4d.out rfl
  have m12 : w4.drew.cell? ⟨S, 12, none⟩ = some (.int .i64 (v 12)) := cellb (i := 12) HM4d.out rfl
  have m13 : w4.drew.cell? ⟨S, 13, none⟩ = some (.int .i64 (v 13)) := cellb (i := 13) HM4d.out rfl
  have m14 : w4.drew.cell? ⟨S, 14, none⟩ = some (.int .i64 (v 14)) := cellb (i := 14) HM4d.out rfl
  have htl := s.takes_le (v 6)
  obtain ⟨tks, htkq⟩ : ∃ x, x = s.takes (v 6) := ⟨_, rfl⟩
  rw [← htkq] at htl
  have HTK := Lib.hid htkq
  have hw1 : IntKind.i64.wrap (s.tick + tks) = s.tick + tks := IntWalk.i64_in _ (by omega)
  have hw2 : IntKind.i64.wrap (s.tick + v 9) = s.tick + v 9 := IntWalk.i64_in _ (by omega)
  have HTA := Lib.hid (fun k (hk : L.own A k) => (⟨HT.out k hk, HTT.out⟩ : k < w2.heap.size ∧ T = w2.heap.size))
  have hSA : S ≠ T := ne_tag HM4.out HP4.out (by simp [otag])
  have hAT : A ≠ T := ne_tag HA4.out.blk HP4.out (by simp [otag])
  clear HA4 HC4 HM4 HP4 htkq HTT HT
  refine wp_region_noPanic ?_
  refine wp_region_held_drew (S := fun w' => w'.cell? ⟨A, 7, none⟩ = some (.int .i64 s.tick) ∧ w'.cell? ⟨S, 6, none⟩ = some (.int .i64 (v 6)) ∧ w'.cell? ⟨S, 9, none⟩ = some (.int .i64 (v 9)) ∧ w'.cell? ⟨S, 11, none⟩ = some (.int .i64 (v 11)) ∧ w'.cell? ⟨S, 12, none⟩ = some (.int .i64 (v 12)) ∧ w'.cell? ⟨S, 13, none⟩ = some (.int .i64 (v 13)) ∧ w'.cell? ⟨S, 14, none⟩ = some (.int .i64 (v 14))) (by kernel_rfl) ?_ (fun hHeld => ?_)
  · try dsimp only
    (refine ⟨?_, ?_, ?_, ?_, ?_, ?_, ?_⟩ <;> (first | with_reducible assumption))
  generalize w4.drew = W at *
  refine tk 0 ?_
  try simp only [Act.put, p1, p2, p3]
  refine tk 1 ?_
  try simp only [Act.put, p1, p2, p3]
  refine tk 2 ?_
  try simp only [Act.put, p1, p2, p3]
  refine tk 3 ?_
  try simp only [Act.put, p1, p2, p3]
  refine tk 4 ?_
  try simp only [Act.put, p1, p2, p3]
  refine tk 5 ?_
  try simp only [Act.put, p1, p2, p3]
  refine tk 6 ?_
  try simp only [Act.put, p1, p2, p3]
  refine tk 7 ?_
  try simp only [Act.put, p1, p2, p3]
  refine tk 8 ?_
  try simp only [Act.put, p1, p2, p3]
  refine tk 9 ?_
  try simp only [Act.put, p1, p2, p3]
  refine tk 10 ?_
  try simp only [Act.put, p1, p2, p3]
  refine tk 11 ?_
  try simp only [Act.put, p1, p2, p3]
  refine tk 12 ?_
  try simp only [Act.put, p1, p2, p3]
  refine tk 13 ?_
  try simp only [Act.put, p1, p2, p3]
  refine tk 14 ?_
  try simp only [Act.put, p1, p2, p3]
  refine tk 15 ?_
  try simp only [Act.put, p1, p2, p3]
  refine tk 16 ?_
  try simp only [Act.put, p1, p2, p3]
  refine tk 19 ?_
  try simp only [Act.put, p1, p2, p3]
  refine tk 20 ?_
  try simp only [Act.put, p1, p2, p3]
  refine tk 21 ?_
  try simp only [Act.put, p1, p2, p3]
  refine tk 22 ?_
  try simp only [Act.put, p1, p2, p3]
  refine tk 23 ?_
  try simp only [Act.put, p1, p2, p3]
  refine tk 24 ?_
  try simp only [Act.put, p1, p2, p3]
  refine tk 25 ?_
  try simp only [Act.put, p1, p2, p3]
  refine rd 17 fun K hK => ?_
  go_simp
  refine (takes_any W HA4d.out (v 6) hv6.1 hv6.2 hw).mono ?_
  rintro e w5 ⟨rfl, hb5⟩
  rw [← HTK.out]
  have HA5 : Hid (AgAt w5 A L s) := Lib.hid (HA4d.out.below hb5)
  have HC5 : Hid (Chg (L.own A) w w5) := Lib.hid (HC4d.out.trans (Chg.of_below hb5))
  have HP5 : Hid (PtAt w5 T (Pt.zero (v 6) (v 7))) := Lib.hid ((hb5.block T HP4d.out.lt).trans HP4d.out)
  have f7' : w5.cell? ⟨A, 7, none⟩ = some (.int .i64 s.tick) := (hb5.cell (p := ⟨A, 7, none⟩) (World.block_lt_of_cell? _ _ f7)).trans f7
  have m6' : w5.cell? ⟨S, 6, none⟩ = some (.int .i64 (v 6)) := (hb5.cell (p := ⟨S, 6, none⟩) (World.block_lt_of_cell? _ _ m6)).trans m6
  have m9' : w5.cell? ⟨S, 9, none⟩ = some (.int .i64 (v 9)) := (hb5.cell (p := ⟨S, 9, none⟩) (World.block_lt_of_cell? _ _ m9)).trans m9
  have m11' : w5.cell? ⟨S, 11, none⟩ = some (.int .i64 (v 11)) := (hb5.cell (p := ⟨S, 11, none⟩) (World.block_lt_of_cell? _ _ m11)).trans m11
  have m12' : w5.cell? ⟨S, 12, none⟩ = some (.int .i64 (v 12)) := (hb5.cell (p := ⟨S, 12, none⟩) (World.block_lt_of_cell? _ _ m12)).trans m12
  have m13' : w5.cell? ⟨S, 13, none⟩ = some (.int .i64 (v 13)) := (hb5.cell (p := ⟨S, 13, none⟩) (World.block_lt_of_cell? _ _ m13)).trans m13
  have m14' : w5.cell? ⟨S, 14, none⟩ = some (.int .i64 (v 14)) := (hb5.cell (p := ⟨S, 14, none⟩) (World.block_lt_of_cell? _ _ m14)).trans m14
  clear hb5 HA4d HC4d HM4d HP4d f7 m6 m9 m11 m12 m13 m14
  refine hK.out _ _ ?_ (fun hHeld => ?_)
  · try dsimp only
    (refine ⟨?_, ?_, ?_, ?_, ?_, ?_, ?_⟩ <;> (first | with_reducible assumption))
  clear hK K
  try simp only [Act.put, p1, p2, p3]
  refine tk 18 ?_
  try simp only [Act.put, p1, p2, p3]
  refine tk 26 ?_
  try simp only [Act.put, p1, p2, p3]
  refine tk 27 ?_
  try simp only [Act.put, p1, p2, p3]
  refine rd 28 fun K hK => ?_
  refine wp_store_mid 26 (.tmp 46) (.tmp 24) rfl T 2 #[.int .i64 (v 11), .int .i64 (v 12), .int .i64 (v 13), .int .i64 (v 14)] rfl rfl (there_blk HP5.out 2 _ (by simp)) (by kernel_rfl) (by simp [Value.oneCell']) ?_
  obtain ⟨w6, hw6⟩ : ∃ y, y = w5.setCells T 2 [.int .i64 (v 11), .int .i64 (v 12), .int .i64 (v 13), .int .i64 (v 14)] := ⟨_, rfl⟩
  have hch := Ch.ofCells [.int .i64 (v 11), .int .i64 (v 12), .int .i64 (v 13), .int .i64 (v 14)] 2 _ _ HP5.out
  rw [← hw6] at hch
  have HC6 : Hid (Chg (fun k => k = T) w5 w6) := Lib.hid (hch.chg.mono (fun k _ e => by injection e with e; exact e.symm))
  have HP6 : Hid (PtAt w6 T ⟨v 6, v 7, v 11, v 12, v 13, v 14, 0, 0, 0, 0, false, false, 0⟩) := Lib.hid (by rw [hw6]; exact setCells_blk [.int .i64 (v 11), .int .i64 (v 12), .int .i64 (v 13), .int .i64 (v 14)] 2 _ _ HP5.out)
  skip
  have f7'' : w6.cell? ⟨A, 7, none⟩ = some (.int .i64 s.tick) := HC6.out.cell f7' (by exact hAT)
  have m6'' : w6.cell? ⟨S, 6, none⟩ = some (.int .i64 (v 6)) := HC6.out.cell m6' (by exact hSA)
  have m9'' : w6.cell? ⟨S, 9, none⟩ = some (.int .i64 (v 9)) := HC6.out.cell m9' (by exact hSA)
  have m11'' : w6.cell? ⟨S, 11, none⟩ = some (.int .i64 (v 11)) := HC6.out.cell m11' (by exact hSA)
  have m12'' : w6.cell? ⟨S, 12, none⟩ = some (.int .i64 (v 12)) := HC6.out.cell m12' (by exact hSA)
  have m13'' : w6.cell? ⟨S, 13, none⟩ = some (.int .i64 (v 13)) := HC6.out.cell m13' (by exact hSA)
  have m14'' : w6.cell? ⟨S, 14, none⟩ = some (.int .i64 (v 14)) := HC6.out.cell m14' (by exact hSA)
  clear f7' m6' m9' m11' m12' m13' m14'
  have e6 : w5.setCells T 2 (#[.int .i64 (v 11), .int .i64 (v 12), .int .i64 (v 13), .int .i64 (v 14)] : Array Value).toList = w6 := hw6.symm
  rw [e6]
  clear e6 hw6 hch
  refine hK.out _ _ ?_ (fun hHeld => ?_)
  · try dsimp only
    (refine ⟨?_, ?_, ?_, ?_, ?_, ?_, ?_⟩ <;> (first | with_reducible assumption))
  clear hK K
  try simp only [Act.put]
  refine tk 29 ?_
  try simp only [Act.put, p1, p2, p3]
  refine tk 30 ?_
  try simp only [Act.put, p1, p2, p3]
  refine rd 31 fun K hK => ?_
  have c0 : w6.cell? ⟨T, 6, none⟩ = some (.int .i64 0) := cellb (i := 6) HP6.out rfl
  have z0 : w6.frozen? ⟨T, 6, none⟩ = false := fzb HP6.out 6
  go_simp
  clear c0 z0
  obtain ⟨w7, hww7⟩ : ∃ y, y = w6.setCell ⟨T, 6, none⟩ (.int .i64 (s.tick)) := ⟨_, rfl⟩
  have HCw7 : Hid (Chg (fun k => k = T) w6 w7) := Lib.hid (by rw [hww7]; exact (Chg.refl (fun k => k = T) w6).setCell (p := ⟨T, 6, none⟩) (.inr rfl) _)
  have HPw7 : Hid (PtAt w7 T ⟨v 6, v 7, v 11, v 12, v 13, v 14, s.tick, 0, 0, 0, false, false, 0⟩) := Lib.hid (by rw [hww7]; exact set_blk (i := 6) HP6.out _)
  rw [← hww7]
  clear hww7
  have f7''' : w7.cell? ⟨A, 7, none⟩ = some (.int .i64 s.tick) := HCw7.out.cell f7'' (by exact hAT)
  have m6''' : w7.cell? ⟨S, 6, none⟩ = some (.int .i64 (v 6)) := HCw7.out.cell m6'' (by exact hSA)
  have m9''' : w7.cell? ⟨S, 9, none⟩ = some (.int .i64 (v 9)) := HCw7.out.cell m9'' (by exact hSA)
  have m11''' : w7.cell? ⟨S, 11, none⟩ = some (.int .i64 (v 11)) := HCw7.out.cell m11'' (by exact hSA)
  have m12''' : w7.cell? ⟨S, 12, none⟩ = some (.int .i64 (v 12)) := HCw7.out.cell m12'' (by exact hSA)
  have m13''' : w7.cell? ⟨S, 13, none⟩ = some (.int .i64 (v 13)) := HCw7.out.cell m13'' (by exact hSA)
  have m14''' : w7.cell? ⟨S, 14, none⟩ = some (.int .i64 (v 14)) := HCw7.out.cell m14'' (by exact hSA)
  clear f7'' m6'' m9'' m11'' m12'' m13'' m14''
  refine hK.out _ _ ?_ (fun hHeld => ?_)
  · try dsimp only
    (refine ⟨?_, ?_, ?_, ?_, ?_, ?_, ?_⟩ <;> (first | with_reducible assumption))
  clear hK K
  try simp only [Act.put]
  refine tk 32 ?_
  try simp only [Act.put, p1, p2, p3]
  refine tk 33 ?_
  try simp only [Act.put, p1, p2, p3]
  refine rd 34 fun K hK => ?_
  have c0 : w7.cell? ⟨T, 7, none⟩ = some (.int .i64 0) := cellb (i := 7) HPw7.out rfl
  have z0 : w7.frozen? ⟨T, 7, none⟩ = false := fzb HPw7.out 7
  go_simp
  clear c0 z0
  obtain ⟨w8, hww8⟩ : ∃ y, y = w7.setCell ⟨T, 7, none⟩ (.int .i64 (s.tick + tks)) := ⟨_, rfl⟩
  have HCw8 : Hid (Chg (fun k => k = T) w7 w8) := Lib.hid (by rw [hww8]; exact (Chg.refl (fun k => k = T) w7).setCell (p := ⟨T, 7, none⟩) (.inr rfl) _)
  have HPw8 : Hid (PtAt w8 T ⟨v 6, v 7, v 11, v 12, v 13, v 14, s.tick, s.tick + tks, 0, 0, false, false, 0⟩) := Lib.hid (by rw [hww8]; exact set_blk (i := 7) HPw7.out _)
  rw [← hww8]
  clear hww8
  have f7'''' : w8.cell? ⟨A, 7, none⟩ = some (.int .i64 s.tick) := HCw8.out.cell f7''' (by exact hAT)
  have m6'''' : w8.cell? ⟨S, 6, none⟩ = some (.int .i64 (v 6)) := HCw8.out.cell m6''' (by exact hSA)
  have m9'''' : w8.cell? ⟨S, 9, none⟩ = some (.int .i64 (v 9)) := HCw8.out.cell m9''' (by exact hSA)
  have m11'''' : w8.cell? ⟨S, 11, none⟩ = some (.int .i64 (v 11)) := HCw8.out.cell m11''' (by exact hSA)
  have m12'''' : w8.cell? ⟨S, 12, none⟩ = some (.int .i64 (v 12)) := HCw8.out.cell m12''' (by exact hSA)
  have m13'''' : w8.cell? ⟨S, 13, none⟩ = some (.int .i64 (v 13)) := HCw8.out.cell m13''' (by exact hSA)
  have m14'''' : w8.cell? ⟨S, 14, none⟩ = some (.int .i64 (v 14)) := HCw8.out.cell m14''' (by exact hSA)
  clear f7''' m6''' m9''' m11''' m12''' m13''' m14'''
  refine hK.out _ _ ?_ (fun hHeld => ?_)
  · try dsimp only
    (refine ⟨?_, ?_, ?_, ?_, ?_, ?_, ?_⟩ <;> (first | with_reducible assumption))
  clear hK K
  try simp only [Act.put]
  refine tk 35 ?_
  try simp only [Act.put, p1, p2, p3]
  refine tk 36 ?_
  try simp only [Act.put, p1, p2, p3]
  refine rd 37 fun K hK => ?_
  have c0 : w8.cell? ⟨T, 8, none⟩ = some (.int .i64 0) := cellb (i := 8) HPw8.out rfl
  have z0 : w8.frozen? ⟨T, 8, none⟩ = false := fzb HPw8.out 8
  go_simp
  clear c0 z0
  obtain ⟨w9, hww9⟩ : ∃ y, y = w8.setCell ⟨T, 8, none⟩ (.int .i64 (s.tick + v 9)) := ⟨_, rfl⟩
  have HCw9 : Hid (Chg (fun k => k = T) w8 w9) := Lib.hid (by rw [hww9]; exact (Chg.refl (fun k => k = T) w8).setCell (p := ⟨T, 8, none⟩) (.inr rfl) _)
  have HPw9 : Hid (PtAt w9 T ⟨v 6, v 7, v 11, v 12, v 13, v 14, s.tick, s.tick + tks, s.tick + v 9, 0, false, false, 0⟩) := Lib.hid (by rw [hww9]; exact set_blk (i := 8) HPw8.out _)
  rw [← hww9]
  clear hww9
  have f7''''' : w9.cell? ⟨A, 7, none⟩ = some (.int .i64 s.tick) := HCw9.out.cell f7'''' (by exact hAT)
  have m6''''' : w9.cell? ⟨S, 6, none⟩ = some (.int .i64 (v 6)) := HCw9.out.cell m6'''' (by exact hSA)
  have m9''''' : w9.cell? ⟨S, 9, none⟩ = some (.int .i64 (v 9)) := HCw9.out.cell m9'''' (by exact hSA)
  have m11''''' : w9.cell? ⟨S, 11, none⟩ = some (.int .i64 (v 11)) := HCw9.out.cell m11'''' (by exact hSA)
  have m12''''' : w9.cell? ⟨S, 12, none⟩ = some (.int .i64 (v 12)) := HCw9.out.cell m12'''' (by exact hSA)
  have m13''''' : w9.cell? ⟨S, 13, none⟩ = some (.int .i64 (v 13)) := HCw9.out.cell m13'''' (by exact hSA)
  have m14''''' : w9.cell? ⟨S, 14, none⟩ = some (.int .i64 (v 14)) := HCw9.out.cell m14'''' (by exact hSA)
  clear f7'''' m6'''' m9'''' m11'''' m12'''' m13'''' m14''''
  refine hK.out _ _ ?_ (fun hHeld => ?_)
  · try dsimp only
    (refine ⟨?_, ?_, ?_, ?_, ?_, ?_, ?_⟩ <;> (first | with_reducible assumption))
  clear hK K
  try simp only [Act.put]
  refine wpAnyH_done (by kernel_rfl) ?_ _
  refine NoPanic.normal ?_
  clear hHeld f7''''' m6''''' m9''''' m11''''' m12''''' m13''''' m14'''''
  have hst : s.started v = ⟨v 6, v 7, v 11, v 12, v 13, v 14, s.tick, s.tick + tks, s.tick + v 9, 0, false, false, 0⟩ := by unfold Ag.started; rw [← HTK.out]
  have HCT : Hid (Chg (fun k => k = T) w5 w9) := Lib.hid (((HC6.out.trans HCw7.out).trans HCw8.out).trans HCw9.out)
  have HA9 : Hid (AgAt w9 A L s) := Lib.hid (HA5.out.chg HCT.out (fun k hk ho => by have := HTA.out k ho; omega))
  have HCC : Hid (Chg (L.own A) w w9) := Lib.hid (chg_on HC5.out HCT.out (fun k hk e => by omega))
  have HPF : Hid (PtAt w9 T (s.started v)) := Lib.hid (by rw [hst]; exact HPw9.out)
  clear hst
  go_wp2_with (go_at_call 42; refine (put_any w9 HA9.out hM HPF.out (fun e => by have := HTA.out T (.inr (.inr (.inr (.inr e)))); omega) hpl hn).mono ?_; rintro e w10 hput; have HPUT := Lib.hid (puts_of hM HCC.out hTw hput); obtain ⟨⟨r, rfl⟩, _⟩ := hput)
  go_end0
  obtain ⟨_, hh⟩ := HPUT.out
  exact ⟨⟨_, rfl⟩, hh⟩
theorem launch_any (w : World) {A : Nat} {L : Lay} {s : Ag} (h : AgAt w A L s) {M : Nat} (hM : L.M = some M) (v : Nat → Int) (X : Option Addr) (xn xc : Nat) (hn : s.ps.length ≤ 1000000) (hs : Small s.ps) (hv : ∀ k, 11 ≤ k → k ≤ 14 → 0 ≤ v k ∧ v k ≤ 1073741824) (hv8 : 0 ≤ v 8 ∧ v 8 ≤ 2199023255552) (hw : s.work.length ≤ 1000000) (hv6 : 1 ≤ v 6 ∧ v 6 ≤ 1000) (hv9 : 0 ≤ v 9 ∧ v 9 ≤ 2199023255552) (htk : 0 ≤ s.tick ∧ s.tick ≤ 2199023255552) :
    Calls Try.prog 32 #[.pointer (some ⟨A, 0, none⟩), .agg #[.int .i64 (v 0), .int .i64 (v 1), .int .i64 (v 2), .int .i64 (v 3), .int .i64 (v 4), .int .i64 (v 5), .int .i64 (v 6), .int .i64 (v 7), .int .i64 (v 8), .int .i64 (v 9), .int .i64 (v 10), .int .i64 (v 11), .int .i64 (v 12), .int .i64 (v 13), .int .i64 (v 14), .int .i64 (v 15), .int .i64 (v 16), .slice X xn xc, .int .i64 (v 18), .int .i64 (v 19), .int .i64 (v 20)]] w fun e w' => Puts w A M L (s.launch v) e w' := by
  cases hpl : s.place (v 6) (v 7) with
  | some i =>
    have e : s.launch v = s := by unfold Ag.launch; rw [hpl]
    rw [e]
    exact (launch_found w h hM v X xn xc hpl).mono (fun e w' q => puts_self hM q)
  | none =>
    have e : s.launch v = s.more (if s.may v then s.started v else (Pt.zero (v 6) (v 7)).over 3) := by unfold Ag.launch; rw [hpl]
    rw [e]
    cases hm : s.may v
    · exact launch_no w h hM v X xn xc hn hs hv hv8 hpl hm
    · exact launch_yes w h hM v X xn xc hn hs hv hv8 hw hv6 hv9 htk hpl hm
end Go.Proofs.Ytoeamofemepgpaa
