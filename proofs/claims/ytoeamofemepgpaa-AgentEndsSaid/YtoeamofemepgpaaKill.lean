/- Chapter 20: kill. -/
import Derived.Test.YtoeamofemepgpaaAck
namespace Go.Proofs.Ytoeamofemepgpaa
open Go.RowKit

theorem chg_on {S S' : Nat → Prop} {w w' w'' : World} (h : Chg S w w') (h' : Chg S' w' w'') (hs : ∀ k, k < w.heap.size → S' k → S k) : Chg S w w'' :=
  ⟨h'.os.trans h.os, h'.tape.trans h.tape, h'.output.trans h.output, Nat.le_trans h.size h'.size, fun k hk hn => (h'.block k (Nat.lt_of_lt_of_le hk h.size) (fun e => hn (hs k hk e))).trans (h.block k hk hn)⟩
/-- A part as it is made. -/
def Pt.zero (j a : Int) : Pt := ⟨j, a, 0, 0, 0, 0, 0, 0, 0, 0, false, false, 0⟩
def Ag.kill (s : Ag) (v : Nat → Int) : Ag :=
  match s.place (v 6) (v 7) with
  | none => s.more ((Pt.zero (v 6) (v 7)).over 3)
  | some i => match s.ps[i]? with
    | none => s
    | some p => if p.how = 0 then { s with ps := s.ps.set i (p.over 3) } else if p.rep = false then { s with ps := s.ps.set i (p.over p.how) } else s
/-- What a method leaves behind that may put a part in. -/
def Puts (w : World) (A M : Nat) (L : Lay) (s' : Ag) (e : Ending) (w' : World) : Prop :=
  (∃ r, e = .returned r) ∧ ∃ L', AgAt w' A L' s' ∧ L'.M = some M ∧ Chg (L.own A) w w' ∧ Grows L L' A w
/-- Behind put of a part that is new. -/
theorem puts_of {w w4 w5 : World} {A T M : Nat} {L : Lay} {s : Ag} {p : Pt} {e : Ending} (hM : L.M = some M) (hc : Chg (L.own A) w w4) (hT : w.heap.size ≤ T) (hp : PutPost w4 A T L s p e w5) : Puts w A M L (s.more p) e w5 := by
  obtain ⟨he, A4, c4, ha, hc5, ho⟩ := hp
  refine ⟨he, _, ha, hM, hc.trans hc5, fun k hk => ?_⟩
  rcases ho k hk with h | h | h
  · exact .inl h
  · exact .inr (by omega)
  · exact .inr (Nat.le_trans hc.size h)
set_option maxHeartbeats 2000000 in
theorem kill_none (w : World) {A : Nat} {L : Lay} {s : Ag} (h : AgAt w A L s) {M : Nat} (hM : L.M = some M) (hn : s.ps.length ≤ 1000000) (v : Nat → Int) (X : Option Addr) (xn xc : Nat) (hpl : s.place (v 6) (v 7) = none) :
    Calls Try.prog 33 #[.pointer (some ⟨A, 0, none⟩), .agg #[.int .i64 (v 0), .int .i64 (v 1), .int .i64 (v 2), .int .i64 (v 3), .int .i64 (v 4), .int .i64 (v 5), .int .i64 (v 6), .int .i64 (v 7), .int .i64 (v 8), .int .i64 (v 9), .int .i64 (v 10), .int .i64 (v 11), .int .i64 (v 12), .int .i64 (v 13), .int .i64 (v 14), .int .i64 (v 15), .int .i64 (v 16), .slice X xn xc, .int .i64 (v 18), .int .i64 (v 19), .int .i64 (v 20)]] w fun e w' => Puts w A M L (s.more ((Pt.zero (v 6) (v 7)).over 3)) e w' := by
  obtain ⟨S, hS⟩ : ∃ x, x = w.heap.size := ⟨_, rfl⟩
  obtain ⟨w1, hw1⟩ : ∃ y, y = w.alloc (.cells #[.int .i64 (v 0), .int .i64 (v 1), .int .i64 (v 2), .int .i64 (v 3), .int .i64 (v 4), .int .i64 (v 5), .int .i64 (v 6), .int .i64 (v 7), .int .i64 (v 8), .int .i64 (v 9), .int .i64 (v 10), .int .i64 (v 11), .int .i64 (v 12), .int .i64 (v 13), .int .i64 (v 14), .int .i64 (v 15), .int .i64 (v 16), .slice X xn xc, .int .i64 (v 18), .int .i64 (v 19), .int .i64 (v 20)] 35) := ⟨_, rfl⟩
  have hb1 : Below w.heap.size w w1 := by rw [hw1]; exact (Below.refl _ w).alloc (Nat.le_refl _) _
  have hm1 : w1.heap[S]? = some (.cells #[.int .i64 (v 0), .int .i64 (v 1), .int .i64 (v 2), .int .i64 (v 3), .int .i64 (v 4), .int .i64 (v 5), .int .i64 (v 6), .int .i64 (v 7), .int .i64 (v 8), .int .i64 (v 9), .int .i64 (v 10), .int .i64 (v 11), .int .i64 (v 12), .int .i64 (v 13), .int .i64 (v 14), .int .i64 (v 15), .int .i64 (v 16), .slice X xn xc, .int .i64 (v 18), .int .i64 (v 19), .int .i64 (v 20)] 35 (0, 0)) := by rw [hw1, hS]; exact heap_alloc_new w _
  have h1 := h.below hb1
  have HB1 : Hid (Chg (L.own A) w w1) := Lib.hid (Chg.of_below hb1)
  have H1 := Lib.hid h1
  have HM1 := Lib.hid hm1
  have HF := Lib.hid (find_0 w1 h1 hM v X xn xc hpl)
  have hsz1 := hb1.size
  have HSZ := Lib.hid hsz1
  clear h hb1 hm1 h1 hsz1
  go_enter Try.func33, Try.ntmps33
  go_upto_region 1 with fail
  rw [← hS, ← hw1]
  clear hS hw1
  go_upto_region 2 with (first | (refine wpList_load_row rfl 35 (.tmp 3) rfl S rfl 35 #[.int .i64 (v 0), .int .i64 (v 1), .int .i64 (v 2), .int .i64 (v 3), .int .i64 (v 4), .int .i64 (v 5), .int .i64 (v 6), .int .i64 (v 7), .int .i64 (v 8), .int .i64 (v 9), .int .i64 (v 10), .int .i64 (v 11), .int .i64 (v 12), .int .i64 (v 13), .int .i64 (v 14), .int .i64 (v 15), .int .i64 (v 16), .slice X xn xc, .int .i64 (v 18), .int .i64 (v 19), .int .i64 (v 20)] (0, 0) _ HM1.out Try.underlying35 rfl (by kernel_rfl) ?_) | (go_at_call 39; refine HF.out.mono ?_; rintro e w2 ⟨rfl, hb2⟩; have HB2 := Lib.hid hb2; clear hb2))
  have HA2 : Hid (AgAt w2 A L s) := Lib.hid (H1.out.below HB2.out)
  have HC2 : Hid (Chg (L.own A) w w2) := Lib.hid (HB1.out.trans (Chg.of_below HB2.out))
  have HM2 : Hid (w2.heap[S]? = some (.cells #[.int .i64 (v 0), .int .i64 (v 1), .int .i64 (v 2), .int .i64 (v 3), .int .i64 (v 4), .int .i64 (v 5), .int .i64 (v 6), .int .i64 (v 7), .int .i64 (v 8), .int .i64 (v 9), .int .i64 (v 10), .int .i64 (v 11), .int .i64 (v 12), .int .i64 (v 13), .int .i64 (v 14), .int .i64 (v 15), .int .i64 (v 16), .slice X xn xc, .int .i64 (v 18), .int .i64 (v 19), .int .i64 (v 20)] 35 (0, 0))) := Lib.hid ((HB2.out.block S (ltb HM1.out)).trans HM1.out)
  clear HB1 H1 HM1 HB2 HF
  have m6 : w2.cell? ⟨S, 6, none⟩ = some (.int .i64 (v 6)) := cellb (i := 6) HM2.out rfl
  have m7 : w2.cell? ⟨S, 7, none⟩ = some (.int .i64 (v 7)) := cellb (i := 7) HM2.out rfl
  obtain ⟨T, hT⟩ : ∃ x, x = w2.heap.size := ⟨_, rfl⟩
  obtain ⟨w3, hw3⟩ : ∃ y, y = w2.alloc (.cells #[.int .i64 (v 6), .int .i64 (v 7), .int .i64 0, .int .i64 0, .int .i64 0, .int .i64 0, .int .i64 0, .int .i64 0, .int .i64 0, .int .i64 0, .bool false, .bool false, .int .i64 0] 73) := ⟨_, rfl⟩
  have hb3 : Below w2.heap.size w2 w3 := by rw [hw3]; exact (Below.refl _ _).alloc (Nat.le_refl _) _
  have hp3 : PtAt w3 T (Pt.zero (v 6) (v 7)) := by rw [hw3, hT]; exact heap_alloc_new w2 _
  have hTw : w.heap.size ≤ T := by rw [hT]; exact HC2.out.size
  have HT := Lib.hid (fun k (hk : L.own A k) => HA2.out.own_lt hk)
  have HA3 := Lib.hid (HA2.out.below hb3)
  have HC3 := Lib.hid (HC2.out.trans (Chg.of_below hb3))
  have HP3 := Lib.hid hp3
  have HTT := Lib.hid hT
  clear hb3 hp3 HM2
  go_upto_region 4 with fail
  rw [← hT, ← hw3]
  clear hT hw3 m6 m7
  go_wp2_with (go_at_call 30; refine (over_any w3 T (Pt.zero (v 6) (v 7)) 3 HP3.out).mono ?_; rintro e w4 ⟨⟨r, rfl⟩, hp4, hc4⟩; have HP4 := Lib.hid hp4; have HC4 := Lib.hid hc4; clear hp4 hc4)
  have HA4 : Hid (AgAt w4 A L s) := Lib.hid (HA3.out.chg HC4.out (fun k hk ho => by have := HT.out k ho; have := HTT.out; omega))
  have HCC : Hid (Chg (L.own A) w w4) := Lib.hid (chg_on HC3.out HC4.out (fun k hk e => by omega))
  refine (put_any w4 HA4.out hM HP4.out (fun e => by have := HT.out T (.inr (.inr (.inr (.inr e)))); have := HTT.out; omega) hpl hn).mono ?_
  rintro e w5 hput
  have HPUT := Lib.hid (puts_of hM HCC.out hTw hput)
  obtain ⟨⟨r, rfl⟩, _⟩ := hput
  go_wp2_with fail
  go_end0
  obtain ⟨_, hh⟩ := HPUT.out
  exact ⟨⟨_, rfl⟩, hh⟩
set_option maxHeartbeats 2000000 in
theorem kill_0 (w : World) {A : Nat} {L : Lay} {s : Ag} (h : AgAt w A L s) {M : Nat} (hM : L.M = some M) (v : Nat → Int) (X : Option Addr) (xn xc : Nat) {i : Nat} {p : Pt} (hpl : s.place (v 6) (v 7) = some i) (hp : s.ps[i]? = some p) (hh : p.how = 0) :
    Calls Try.prog 33 #[.pointer (some ⟨A, 0, none⟩), .agg #[.int .i64 (v 0), .int .i64 (v 1), .int .i64 (v 2), .int .i64 (v 3), .int .i64 (v 4), .int .i64 (v 5), .int .i64 (v 6), .int .i64 (v 7), .int .i64 (v 8), .int .i64 (v 9), .int .i64 (v 10), .int .i64 (v 11), .int .i64 (v 12), .int .i64 (v 13), .int .i64 (v 14), .int .i64 (v 15), .int .i64 (v 16), .slice X xn xc, .int .i64 (v 18), .int .i64 (v 19), .int .i64 (v 20)]] w fun e w' => (∃ r, e = .returned r) ∧ AgAt w' A L ({ s with ps := s.ps.set i (p.over 3) }) ∧ Chg (L.own A) w w' := by
  obtain ⟨b, hb, _⟩ := bs_at h hp
  obtain ⟨S, hS⟩ : ∃ x, x = w.heap.size := ⟨_, rfl⟩
  obtain ⟨w1, hw1⟩ : ∃ y, y = w.alloc (.cells #[.int .i64 (v 0), .int .i64 (v 1), .int .i64 (v 2), .int .i64 (v 3), .int .i64 (v 4), .int .i64 (v 5), .int .i64 (v 6), .int .i64 (v 7), .int .i64 (v 8), .int .i64 (v 9), .int .i64 (v 10), .int .i64 (v 11), .int .i64 (v 12), .int .i64 (v 13), .int .i64 (v 14), .int .i64 (v 15), .int .i64 (v 16), .slice X xn xc, .int .i64 (v 18), .int .i64 (v 19), .int .i64 (v 20)] 35) := ⟨_, rfl⟩
  have hb1 : Below w.heap.size w w1 := by rw [hw1]; exact (Below.refl _ w).alloc (Nat.le_refl _) _
  have hm1 : w1.heap[S]? = some (.cells #[.int .i64 (v 0), .int .i64 (v 1), .int .i64 (v 2), .int .i64 (v 3), .int .i64 (v 4), .int .i64 (v 5), .int .i64 (v 6), .int .i64 (v 7), .int .i64 (v 8), .int .i64 (v 9), .int .i64 (v 10), .int .i64 (v 11), .int .i64 (v 12), .int .i64 (v 13), .int .i64 (v 14), .int .i64 (v 15), .int .i64 (v 16), .slice X xn xc, .int .i64 (v 18), .int .i64 (v 19), .int .i64 (v 20)] 35 (0, 0)) := by rw [hw1, hS]; exact heap_alloc_new w _
  have h1 := h.below hb1
  have HB1 : Hid (Chg (L.own A) w w1) := Lib.hid (Chg.of_below hb1)
  have H1 := Lib.hid h1
  have HM1 := Lib.hid hm1
  have HF := Lib.hid (find_1 w1 h1 hM v X xn xc hpl hb)
  clear h hb1 hm1 h1 hM hpl
  go_enter Try.func33, Try.ntmps33
  go_upto_region 1 with fail
  rw [← hS, ← hw1]
  clear hS hw1
  go_upto_region 2 with (first | (refine wpList_load_row rfl 35 (.tmp 3) rfl S rfl 35 #[.int .i64 (v 0), .int .i64 (v 1), .int .i64 (v 2), .int .i64 (v 3), .int .i64 (v 4), .int .i64 (v 5), .int .i64 (v 6), .int .i64 (v 7), .int .i64 (v 8), .int .i64 (v 9), .int .i64 (v 10), .int .i64 (v 11), .int .i64 (v 12), .int .i64 (v 13), .int .i64 (v 14), .int .i64 (v 15), .int .i64 (v 16), .slice X xn xc, .int .i64 (v 18), .int .i64 (v 19), .int .i64 (v 20)] (0, 0) _ HM1.out Try.underlying35 rfl (by kernel_rfl) ?_) | (go_at_call 39; refine HF.out.mono ?_; rintro e w2 ⟨rfl, hb2⟩; have HB2 := Lib.hid hb2; clear hb2))
  have HA2 : Hid (AgAt w2 A L s) := Lib.hid (H1.out.below HB2.out)
  have HC2 : Hid (Chg (L.own A) w w2) := Lib.hid (HB1.out.trans (Chg.of_below HB2.out))
  have HM2 : Hid (w2.heap[S]? = some (.cells #[.int .i64 (v 0), .int .i64 (v 1), .int .i64 (v 2), .int .i64 (v 3), .int .i64 (v 4), .int .i64 (v 5), .int .i64 (v 6), .int .i64 (v 7), .int .i64 (v 8), .int .i64 (v 9), .int .i64 (v 10), .int .i64 (v 11), .int .i64 (v 12), .int .i64 (v 13), .int .i64 (v 14), .int .i64 (v 15), .int .i64 (v 16), .slice X xn xc, .int .i64 (v 18), .int .i64 (v 19), .int .i64 (v 20)] 35 (0, 0))) := Lib.hid ((HB2.out.block S (ltb HM1.out)).trans HM1.out)
  clear HB1 H1 HM1 HB2 HF
  have kp := HA2.out.prt i b p hb hp
  have KP := Lib.hid kp
  have k9 : w2.cell? ⟨b, 9, none⟩ = some (.int .i64 0) := by rw [← hh]; exact cellb (i := 9) kp rfl
  clear kp hh
  go_wp2_with (go_at_call 30; refine (over_any w2 b p 3 KP.out).mono ?_; rintro e w4 ⟨⟨r, rfl⟩, hp4, hc4⟩; have HP4 := Lib.hid hp4; have HC4 := Lib.hid hc4; clear hp4 hc4)
  have HE := Lib.hid (HA2.out.setp hb hp (q := p.over 3) rfl rfl HC4.out HP4.out)
  have HC5 := Lib.hid (HC2.out.trans (HC4.out.mono (fun k _ e => by rw [e]; exact .inr (.inr (.inr (.inr (List.mem_of_getElem? hb)))))))
  go_end0
  exact ⟨⟨_, rfl⟩, HE.out, HC5.out⟩
set_option maxHeartbeats 2000000 in
theorem kill_1 (w : World) {A : Nat} {L : Lay} {s : Ag} (h : AgAt w A L s) {M : Nat} (hM : L.M = some M) (v : Nat → Int) (X : Option Addr) (xn xc : Nat) {i : Nat} {p : Pt} (hpl : s.place (v 6) (v 7) = some i) (hp : s.ps[i]? = some p) (hh : ¬ p.how = 0) (hr : p.rep = false) :
    Calls Try.prog 33 #[.pointer (some ⟨A, 0, none⟩), .agg #[.int .i64 (v 0), .int .i64 (v 1), .int .i64 (v 2), .int .i64 (v 3), .int .i64 (v 4), .int .i64 (v 5), .int .i64 (v 6), .int .i64 (v 7), .int .i64 (v 8), .int .i64 (v 9), .int .i64 (v 10), .int .i64 (v 11), .int .i64 (v 12), .int .i64 (v 13), .int .i64 (v 14), .int .i64 (v 15), .int .i64 (v 16), .slice X xn xc, .int .i64 (v 18), .int .i64 (v 19), .int .i64 (v 20)]] w fun e w' => (∃ r, e = .returned r) ∧ AgAt w' A L ({ s with ps := s.ps.set i (p.over p.how) }) ∧ Chg (L.own A) w w' := by
  obtain ⟨b, hb, _⟩ := bs_at h hp
  obtain ⟨S, hS⟩ : ∃ x, x = w.heap.size := ⟨_, rfl⟩
  obtain ⟨w1, hw1⟩ : ∃ y, y = w.alloc (.cells #[.int .i64 (v 0), .int .i64 (v 1), .int .i64 (v 2), .int .i64 (v 3), .int .i64 (v 4), .int .i64 (v 5), .int .i64 (v 6), .int .i64 (v 7), .int .i64 (v 8), .int .i64 (v 9), .int .i64 (v 10), .int .i64 (v 11), .int .i64 (v 12), .int .i64 (v 13), .int .i64 (v 14), .int .i64 (v 15), .int .i64 (v 16), .slice X xn xc, .int .i64 (v 18), .int .i64 (v 19), .int .i64 (v 20)] 35) := ⟨_, rfl⟩
  have hb1 : Below w.heap.size w w1 := by rw [hw1]; exact (Below.refl _ w).alloc (Nat.le_refl _) _
  have hm1 : w1.heap[S]? = some (.cells #[.int .i64 (v 0), .int .i64 (v 1), .int .i64 (v 2), .int .i64 (v 3), .int .i64 (v 4), .int .i64 (v 5), .int .i64 (v 6), .int .i64 (v 7), .int .i64 (v 8), .int .i64 (v 9), .int .i64 (v 10), .int .i64 (v 11), .int .i64 (v 12), .int .i64 (v 13), .int .i64 (v 14), .int .i64 (v 15), .int .i64 (v 16), .slice X xn xc, .int .i64 (v 18), .int .i64 (v 19), .int .i64 (v 20)] 35 (0, 0)) := by rw [hw1, hS]; exact heap_alloc_new w _
  have h1 := h.below hb1
  have HB1 : Hid (Chg (L.own A) w w1) := Lib.hid (Chg.of_below hb1)
  have H1 := Lib.hid h1
  have HM1 := Lib.hid hm1
  have HF := Lib.hid (find_1 w1 h1 hM v X xn xc hpl hb)
  clear h hb1 hm1 h1 hM hpl
  go_enter Try.func33, Try.ntmps33
  go_upto_region 1 with fail
  rw [← hS, ← hw1]
  clear hS hw1
  go_upto_region 2 with (first | (refine wpList_load_row rfl 35 (.tmp 3) rfl S rfl 35 #[.int .i64 (v 0), .int .i64 (v 1), .int .i64 (v 2), .int .i64 (v 3), .int .i64 (v 4), .int .i64 (v 5), .int .i64 (v 6), .int .i64 (v 7), .int .i64 (v 8), .int .i64 (v 9), .int .i64 (v 10), .int .i64 (v 11), .int .i64 (v 12), .int .i64 (v 13), .int .i64 (v 14), .int .i64 (v 15), .int .i64 (v 16), .slice X xn xc, .int .i64 (v 18), .int .i64 (v 19), .int .i64 (v 20)] (0, 0) _ HM1.out Try.underlying35 rfl (by kernel_rfl) ?_) | (go_at_call 39; refine HF.out.mono ?_; rintro e w2 ⟨rfl, hb2⟩; have HB2 := Lib.hid hb2; clear hb2))
  have HA2 : Hid (AgAt w2 A L s) := Lib.hid (H1.out.below HB2.out)
  have HC2 : Hid (Chg (L.own A) w w2) := Lib.hid (HB1.out.trans (Chg.of_below HB2.out))
  have HM2 : Hid (w2.heap[S]? = some (.cells #[.int .i64 (v 0), .int .i64 (v 1), .int .i64 (v 2), .int .i64 (v 3), .int .i64 (v 4), .int .i64 (v 5), .int .i64 (v 6), .int .i64 (v 7), .int .i64 (v 8), .int .i64 (v 9), .int .i64 (v 10), .int .i64 (v 11), .int .i64 (v 12), .int .i64 (v 13), .int .i64 (v 14), .int .i64 (v 15), .int .i64 (v 16), .slice X xn xc, .int .i64 (v 18), .int .i64 (v 19), .int .i64 (v 20)] 35 (0, 0))) := Lib.hid ((HB2.out.block S (ltb HM1.out)).trans HM1.out)
  clear HB1 H1 HM1 HB2 HF
  have kp := HA2.out.prt i b p hb hp
  have KP := Lib.hid kp
  have k9 : w2.cell? ⟨b, 9, none⟩ = some (.int .i64 p.how) := cellb (i := 9) kp rfl
  have k10 : w2.cell? ⟨b, 10, none⟩ = some (.bool false) := by rw [← hr]; exact cellb (i := 10) kp rfl
  clear kp
  go_wp2_with (go_at_call 30; refine (over_any w2 b p p.how KP.out).mono ?_; rintro e w4 ⟨⟨r, rfl⟩, hp4, hc4⟩; have HP4 := Lib.hid hp4; have HC4 := Lib.hid hc4; clear hp4 hc4)
  have HE := Lib.hid (HA2.out.setp hb hp (q := p.over p.how) rfl rfl HC4.out HP4.out)
  have HC5 := Lib.hid (HC2.out.trans (HC4.out.mono (fun k _ e => by rw [e]; exact .inr (.inr (.inr (.inr (List.mem_of_getElem? hb)))))))
  go_end0
  exact ⟨⟨_, rfl⟩, HE.out, HC5.out⟩
set_option maxHeartbeats 2000000 in
theorem kill_2 (w : World) {A : Nat} {L : Lay} {s : Ag} (h : AgAt w A L s) {M : Nat} (hM : L.M = some M) (v : Nat → Int) (X : Option Addr) (xn xc : Nat) {i : Nat} {p : Pt} (hpl : s.place (v 6) (v 7) = some i) (hp : s.ps[i]? = some p) (hh : ¬ p.how = 0) (hr : p.rep = true) :
    Calls Try.prog 33 #[.pointer (some ⟨A, 0, none⟩), .agg #[.int .i64 (v 0), .int .i64 (v 1), .int .i64 (v 2), .int .i64 (v 3), .int .i64 (v 4), .int .i64 (v 5), .int .i64 (v 6), .int .i64 (v 7), .int .i64 (v 8), .int .i64 (v 9), .int .i64 (v 10), .int .i64 (v 11), .int .i64 (v 12), .int .i64 (v 13), .int .i64 (v 14), .int .i64 (v 15), .int .i64 (v 16), .slice X xn xc, .int .i64 (v 18), .int .i64 (v 19), .int .i64 (v 20)]] w fun e w' => (∃ r, e = .returned r) ∧ AgAt w' A L (s) ∧ Chg (L.own A) w w' := by
  obtain ⟨b, hb, _⟩ := bs_at h hp
  obtain ⟨S, hS⟩ : ∃ x, x = w.heap.size := ⟨_, rfl⟩
  obtain ⟨w1, hw1⟩ : ∃ y, y = w.alloc (.cells #[.int .i64 (v 0), .int .i64 (v 1), .int .i64 (v 2), .int .i64 (v 3), .int .i64 (v 4), .int .i64 (v 5), .int .i64 (v 6), .int .i64 (v 7), .int .i64 (v 8), .int .i64 (v 9), .int .i64 (v 10), .int .i64 (v 11), .int .i64 (v 12), .int .i64 (v 13), .int .i64 (v 14), .int .i64 (v 15), .int .i64 (v 16), .slice X xn xc, .int .i64 (v 18), .int .i64 (v 19), .int .i64 (v 20)] 35) := ⟨_, rfl⟩
  have hb1 : Below w.heap.size w w1 := by rw [hw1]; exact (Below.refl _ w).alloc (Nat.le_refl _) _
  have hm1 : w1.heap[S]? = some (.cells #[.int .i64 (v 0), .int .i64 (v 1), .int .i64 (v 2), .int .i64 (v 3), .int .i64 (v 4), .int .i64 (v 5), .int .i64 (v 6), .int .i64 (v 7), .int .i64 (v 8), .int .i64 (v 9), .int .i64 (v 10), .int .i64 (v 11), .int .i64 (v 12), .int .i64 (v 13), .int .i64 (v 14), .int .i64 (v 15), .int .i64 (v 16), .slice X xn xc, .int .i64 (v 18), .int .i64 (v 19), .int .i64 (v 20)] 35 (0, 0)) := by rw [hw1, hS]; exact heap_alloc_new w _
  have h1 := h.below hb1
  have HB1 : Hid (Chg (L.own A) w w1) := Lib.hid (Chg.of_below hb1)
  have H1 := Lib.hid h1
  have HM1 := Lib.hid hm1
  have HF := Lib.hid (find_1 w1 h1 hM v X xn xc hpl hb)
  clear h hb1 hm1 h1 hM hpl
  go_enter Try.func33, Try.ntmps33
  go_upto_region 1 with fail
  rw [← hS, ← hw1]
  clear hS hw1
  go_upto_region 2 with (first | (refine wpList_load_row rfl 35 (.tmp 3) rfl S rfl 35 #[.int .i64 (v 0), .int .i64 (v 1), .int .i64 (v 2), .int .i64 (v 3), .int .i64 (v 4), .int .i64 (v 5), .int .i64 (v 6), .int .i64 (v 7), .int .i64 (v 8), .int .i64 (v 9), .int .i64 (v 10), .int .i64 (v 11), .int .i64 (v 12), .int .i64 (v 13), .int .i64 (v 14), .int .i64 (v 15), .int .i64 (v 16), .slice X xn xc, .int .i64 (v 18), .int .i64 (v 19), .int .i64 (v 20)] (0, 0) _ HM1.out Try.underlying35 rfl (by kernel_rfl) ?_) | (go_at_call 39; refine HF.out.mono ?_; rintro e w2 ⟨rfl, hb2⟩; have HB2 := Lib.hid hb2; clear hb2))
  have HA2 : Hid (AgAt w2 A L s) := Lib.hid (H1.out.below HB2.out)
  have HC2 : Hid (Chg (L.own A) w w2) := Lib.hid (HB1.out.trans (Chg.of_below HB2.out))
  have HM2 : Hid (w2.heap[S]? = some (.cells #[.int .i64 (v 0), .int .i64 (v 1), .int .i64 (v 2), .int .i64 (v 3), .int .i64 (v 4), .int .i64 (v 5), .int .i64 (v 6), .int .i64 (v 7), .int .i64 (v 8), .int .i64 (v 9), .int .i64 (v 10), .int .i64 (v 11), .int .i64 (v 12), .int .i64 (v 13), .int .i64 (v 14), .int .i64 (v 15), .int .i64 (v 16), .slice X xn xc, .int .i64 (v 18), .int .i64 (v 19), .int .i64 (v 20)] 35 (0, 0))) := Lib.hid ((HB2.out.block S (ltb HM1.out)).trans HM1.out)
  clear HB1 H1 HM1 HB2 HF
  have kp := HA2.out.prt i b p hb hp
  have KP := Lib.hid kp
  have k9 : w2.cell? ⟨b, 9, none⟩ = some (.int .i64 p.how) := cellb (i := 9) kp rfl
  have k10 : w2.cell? ⟨b, 10, none⟩ = some (.bool true) := by rw [← hr]; exact cellb (i := 10) kp rfl
  clear kp
  go_wp2_with fail
  go_end0
  exact ⟨⟨_, rfl⟩, HA2.out, HC2.out⟩
theorem puts_self {w w' : World} {A M : Nat} {L : Lay} {s' : Ag} {e : Ending} (hM : L.M = some M) (h : (∃ r, e = .returned r) ∧ AgAt w' A L s' ∧ Chg (L.own A) w w') : Puts w A M L s' e w' := ⟨h.1, L, h.2.1, hM, h.2.2, Grows.refl L A w⟩
theorem kill_any (w : World) {A : Nat} {L : Lay} {s : Ag} (h : AgAt w A L s) {M : Nat} (hM : L.M = some M) (hn : s.ps.length ≤ 1000000) (v : Nat → Int) (X : Option Addr) (xn xc : Nat) :
    Calls Try.prog 33 #[.pointer (some ⟨A, 0, none⟩), .agg #[.int .i64 (v 0), .int .i64 (v 1), .int .i64 (v 2), .int .i64 (v 3), .int .i64 (v 4), .int .i64 (v 5), .int .i64 (v 6), .int .i64 (v 7), .int .i64 (v 8), .int .i64 (v 9), .int .i64 (v 10), .int .i64 (v 11), .int .i64 (v 12), .int .i64 (v 13), .int .i64 (v 14), .int .i64 (v 15), .int .i64 (v 16), .slice X xn xc, .int .i64 (v 18), .int .i64 (v 19), .int .i64 (v 20)]] w fun e w' => Puts w A M L (s.kill v) e w' := by
  cases hpl : s.place (v 6) (v 7) with
  | none =>
    have e : s.kill v = s.more ((Pt.zero (v 6) (v 7)).over 3) := by unfold Ag.kill; rw [hpl]
    rw [e]
    exact kill_none w h hM hn v X xn xc hpl
  | some i =>
    obtain ⟨p, hp, _⟩ := place_some hpl
    have e : s.kill v = if p.how = 0 then { s with ps := s.ps.set i (p.over 3) } else if p.rep = false then { s with ps := s.ps.set i (p.over p.how) } else s := by unfold Ag.kill; rw [hpl]; simp only [hp]
    rw [e]
    by_cases hh : p.how = 0
    · rw [if_pos hh]; exact (kill_0 w h hM v X xn xc hpl hp hh).mono (fun e w' q => puts_self hM q)
    · rw [if_neg hh]
      cases hr : p.rep
      · rw [if_pos rfl]; exact (kill_1 w h hM v X xn xc hpl hp hh hr).mono (fun e w' q => puts_self hM q)
      · rw [if_neg (by simp)]; exact (kill_2 w h hM v X xn xc hpl hp hh hr).mono (fun e w' q => puts_self hM q)
end Go.Proofs.Ytoeamofemepgpaa
