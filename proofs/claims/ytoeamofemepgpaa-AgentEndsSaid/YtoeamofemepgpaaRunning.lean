/- Chapter 20: Running. -/
import Derived.Test.YtoeamofemepgpaaMay20
import Derived.Test.YtoeamofemepgpaaInR
import Derived.Test.YtoeamofemepgpaaAg3
namespace Go.Proofs.Ytoeamofemepgpaa
open Go.RowKit Go.Shelf
attribute [local go_sem] Oper.semAt_some

/-- Does a part run at a tick? -/
def Pt.runs (p : Pt) (u now : Int) : Bool := decide (p.how = 0) && decide (now < p.upto u) && decide (p.begun ≤ now)
/-- What runs. -/
def runsOf (u now : Int) (ps : List Pt) : List Pt := ps.filter fun p => p.runs u now
abbrev Pt.runC (u : Int) (p : Pt) : List Value := [.int .i64 p.job, .int .i64 p.att, .int .i64 p.d0, .int .i64 p.d1, .int .i64 p.d2, .int .i64 p.d3, .int .i64 p.begun, .int .i64 (p.upto u)]
theorem runs_take {u now : Int} {ps : List Pt} {i : Nat} {p : Pt} (h : ps[i]? = some p) : runsOf u now (ps.take (i + 1)) = runsOf u now (ps.take i) ++ (if p.runs u now then [p] else []) := by
  unfold runsOf
  rw [List.take_add_one, h, List.filter_append]
  cases hh : p.runs u now <;> simp [hh]
theorem runs_len (u now : Int) (ps : List Pt) (i : Nat) : (runsOf u now (ps.take i)).length ≤ ps.length := by
  unfold runsOf
  refine Nat.le_trans (List.length_filter_le _ _) ?_
  rw [List.length_take]; omega
/-- Between two rounds. -/
structure RunI (w : World) (A rb n c : Nat) (RA : Option Addr) (s : Ag) (bps : List (Nat × Pt)) (now : Int) (i : Nat) (W : World) : Prop where
  parts : Parts W w.heap.size A rb n c RA s.until_ bps
  bel : Below w.heap.size w W
  bx : W.cell? ⟨w.heap.size + 2, 0, none⟩ = some (.pointer (some ⟨A, 0, none⟩))
  t3 : W.cell? ⟨w.heap.size, 0, none⟩ = some (.int .i64 now)
  row : ∃ A2 c2, W.heap[w.heap.size + 1]? = some (.cells #[.slice A2 (runsOf s.until_ now (s.ps.take i)).length c2] 36 (0, 0)) ∧
    W.ownsRow (w.heap.size + 5) 50 8 (.slice A2 (runsOf s.until_ now (s.ps.take i)).length c2) (runsOf s.until_ now (s.ps.take i)).length ((runsOf s.until_ now (s.ps.take i)).flatMap (Pt.runC s.until_))
theorem RunI.chg {w : World} {A rb n c : Nat} {RA : Option Addr} {s : Ag} {bps : List (Nat × Pt)} {now : Int} {i : Nat} {W W' : World} (h : RunI w A rb n c RA s bps now i W) (hc : Chg (fun k => k = w.heap.size + 3 ∨ k = w.heap.size + 4) W W') : RunI w A rb n c RA s bps now i W' := by
  obtain ⟨h1, h2, h3, h4, A2, c2, h5, h6⟩ := h
  refine ⟨h1.chg hc (fun k hk => by omega), h2.trans (hc.below h2.size (fun k hk e => by omega)), hc.cell h3 (by simp), hc.cell h4 (by simp), A2, c2, (hc.block _ (ltb h5) (by omega)).trans h5, hc.own h6 (fun k hk e => ?_)⟩
  have := (h6.lt k hk).1
  omega
theorem RunI.stay {w : World} {A rb n c : Nat} {RA : Option Addr} {s : Ag} {bps : List (Nat × Pt)} {now : Int} {i : Nat} {W : World} {p : Pt} (h : RunI w A rb n c RA s bps now i W) (hp : s.ps[i]? = some p) (hr : p.runs s.until_ now = false) : RunI w A rb n c RA s bps now (i + 1) W := by
  have e : runsOf s.until_ now (s.ps.take (i + 1)) = runsOf s.until_ now (s.ps.take i) := by rw [runs_take hp, hr]; simp
  refine ⟨h.parts, h.bel, h.bx, h.t3, ?_⟩
  rw [e]
  exact h.row
theorem RunI.next {w : World} {A rb n c m : Nat} {RA : Option Addr} {s : Ag} {bps : List (Nat × Pt)} {now : Int} {i : Nat} {W2 Wd w4 : World} {p : Pt} {A2 A4 : Option Addr} {c2 c4 : Nat} (h : RunI w A rb n c RA s bps now i W2) (hp : s.ps[i]? = some p) (hr : p.runs s.until_ now = true)
    (hm : m = (runsOf s.until_ now (s.ps.take i)).length)
    (hbx : W2.heap[w.heap.size + 1]? = some (.cells #[.slice A2 m c2] 36 (0, 0))) (hlow : w.heap.size + 5 ≤ W2.heap.size)
    (hold : W2.ownsRow (w.heap.size + 5) 50 8 (.slice A2 m c2) m ((runsOf s.until_ now (s.ps.take i)).flatMap (Pt.runC s.until_)))
    (hown : w4.ownsRow (w.heap.size + 5) 50 8 (.slice A4 (m + 1) c4) (m + 1) ((runsOf s.until_ now (s.ps.take i)).flatMap (Pt.runC s.until_) ++ p.runC s.until_))
    (hd : Chg (fun _ => False) W2 Wd) (hg : (Wd.alloc (.cells (p.runC s.until_).toArray 50)).grownBy w4 (Value.slice A2 m c2).ownBlock) :
    RunI w A rb n c RA s bps now (i + 1) (w4.setCell ⟨w.heap.size + 1, 0, none⟩ (.slice A4 (m + 1) c4)) ∧ Kept2 (w.heap.size + 3) W2 (w4.setCell ⟨w.heap.size + 1, 0, none⟩ (.slice A4 (m + 1) c4)) := by
  have lowr : ∀ k, (Value.slice A2 m c2).ownBlock = some k → w.heap.size + 5 ≤ k := fun k hk => (hold.lt k hk).1
  have c3 : Chg (fun k => (Value.slice A2 m c2).ownBlock = some k) W2 w4 := ((hd.mono (fun _ _ h => h.elim)).alloc _).grown hg (fun k hk => .inr hk)
  have h4 : w4.heap[w.heap.size + 1]? = some (.cells #[.slice A2 m c2] 36 (0, 0)) := (c3.block _ (ltb hbx) (fun e => by have := lowr _ e; omega)).trans hbx
  have c5 : Chg (fun k => k = w.heap.size + 1) w4 (w4.setCell ⟨w.heap.size + 1, 0, none⟩ (.slice A4 (m + 1) c4)) := (Chg.refl (fun k => k = w.heap.size + 1) w4).setCell (p := ⟨w.heap.size + 1, 0, none⟩) (.inr rfl) _
  have hc : Chg (fun k => k = w.heap.size + 1 ∨ w.heap.size + 5 ≤ k) W2 (w4.setCell ⟨w.heap.size + 1, 0, none⟩ (.slice A4 (m + 1) c4)) := (c3.mono (fun k _ e => .inr (lowr k e))).trans (c5.mono (fun k _ e => .inl e))
  have e : runsOf s.until_ now (s.ps.take (i + 1)) = runsOf s.until_ now (s.ps.take i) ++ [p] := by rw [runs_take hp, hr]; simp
  have el : (runsOf s.until_ now (s.ps.take (i + 1))).length = m + 1 := by rw [e, hm]; simp
  refine ⟨⟨h.parts.chg hc (fun k hk => by omega), h.bel.trans (hc.below h.bel.size (fun k hk e => by omega)), hc.cell h.bx (by simp), hc.cell h.t3 (by simp), A4, c4, ?_, ?_⟩, fun k hk => hc.block k (by omega) (by omega)⟩
  · rw [el]
    exact set_blk h4 _
  · rw [el, e, List.flatMap_append]
    refine c5.own ?_ (fun k hk e => by have := (hown.lt k hk).1; omega)
    simpa using hown
theorem Try.infoRun : (Try.prog.info? 50).map (fun i => (i.zero, i.size, i.bytes)) = some (some (.agg #[.int .i64 0, .int .i64 0, .int .i64 0, .int .i64 0, .int .i64 0, .int .i64 0, .int .i64 0, .int .i64 0]), 8, 64) := by kernel_rfl
/-- What Running answers. -/
def RunPost (w : World) (u now : Int) (ps : List Pt) (e : Ending) (w' : World) : Prop :=
  ∃ A2 c2, e = .returned (.slice A2 (runsOf u now ps).length c2) ∧ w'.ownsRow w.heap.size 50 8 (.slice A2 (runsOf u now ps).length c2) (runsOf u now ps).length ((runsOf u now ps).flatMap (Pt.runC u)) ∧ Below w.heap.size w w'
set_option maxRecDepth 10000 in
set_option maxHeartbeats 4000000 in
theorem running_up (w : World) {A : Nat} {L : Lay} {s : Ag} (h : AgAt w A L s) (hup : s.up = true) (hn : s.ps.length ≤ 1000000) (now : Int) :
    Calls Try.prog 12 #[.pointer (some ⟨A, 0, none⟩), .int .i64 now] w fun e w' => RunPost w s.until_ now s.ps e w' := by
  refine (callsIn_wide (n := 4)).1 ?_
  refine callsIn_of_wp_marks Try.func12 rfl trivial ?_ rfl
  simp only [Try.ntmps12, List.size_toArray, List.length_cons, List.length_nil, Nat.reduceAdd, Nat.reduceSub, Array.replicate_succ, Array.replicate_zero, List.push_toArray, List.append_toArray, List.nil_append, List.cons_append]
  obtain ⟨iP, hiP, hz0, hz1, hz2⟩ := info_parts Try.infoRun
  obtain ⟨rb, hrb⟩ := h.rb
  have hP := h.parts (by omega) rb hrb
  have hAlt := h.lt
  have hc6 : w.cell? ⟨A, 6, none⟩ = some (.bool true) := by rw [← hup]; exact cellb (i := 6) h.blk rfl
  have H := Lib.hid h
  obtain ⟨bps, hbps⟩ : ∃ x, x = L.bs.zip s.ps := ⟨_, rfl⟩
  rw [← hbps] at hP
  have HBPS := Lib.hid hbps
  clear h hrb hbps hup
  obtain ⟨wa, hwa⟩ : ∃ y, y = (w.alloc (.cells #[.int .i64 now] 3)).alloc (.cells #[.slice none 0 0] 36) := ⟨_, rfl⟩
  have hba : Below w.heap.size w wa := by rw [hwa]; exact ((Below.refl _ w).alloc (Nat.le_refl _) _).alloc (by simp) _
  have hca : wa.cell? ⟨A, 6, none⟩ = some (.bool true) := (hba.cell (p := ⟨A, 6, none⟩) hAlt).trans hc6
  have HU := Lib.hid (up_any wa A true hca)
  obtain ⟨w1, hw1⟩ : ∃ y, y = wa.alloc (.cells #[.pointer (some ⟨A, 0, none⟩)] 23) := ⟨_, rfl⟩
  have hb1 : Below w.heap.size w w1 := by rw [hw1]; exact hba.alloc (by rw [hwa]; simp; omega) _
  have hza : wa.heap.size = w.heap.size + 2 := by rw [hwa]; simp
  have hz1' : w1.heap.size = w.heap.size + 3 := by rw [hw1, World.size_alloc, hza]
  have hI : RunI w A rb L.n L.c L.RA s bps now 0 w1 := by
    refine ⟨hP.chg (Chg.of_below (S := fun _ => False) hb1) (fun _ h => h.elim), hb1, ?_, ?_, none, 0, ?_, ?_⟩
    · have := heap_alloc_new wa (.cells #[.pointer (some ⟨A, 0, none⟩)] 23)
      rw [hza, ← hw1] at this
      exact cellb (i := 0) this rfl
    · rw [hw1]
      refine keepA ?_
      rw [hwa]
      exact keepA (cellb (i := 0) (heap_alloc_new w _) rfl)
    · rw [hw1]
      refine alloc_blk ?_
      rw [hwa]
      have := heap_alloc_new (w.alloc (.cells #[.int .i64 now] 3)) (.cells #[.slice none 0 0] 36)
      simpa [runsOf] using this
    · exact ⟨by simp [runsOf], .inl ⟨by simp [runsOf], by simp [runsOf]⟩⟩
  have HI := Lib.hid hI
  have HZ1 := Lib.hid hz1'
  have HB1 := Lib.hid hb1
  have hAT := hP.at_
  have hcap := hP.cap
  have HLEN := Lib.hid hP.len
  clear hba hca hb1 hz1' hI hP hc6
  gi_upto_region 2 with fail
  rw [← hwa]
  clear hwa
  gi_wp2_with (first | (refine ⟨trivial, ?_⟩; gi_at_call 18; refine (callsIn_wide.2 HU.out).mono ?_; clear HU; rintro e w' ⟨rfl, rfl⟩) | (refine ⟨trivial, ?_⟩; gi_at_call 27; refine (callsIn_wide.2 (running_any _ A)).mono ?_; rintro e w' ⟨rfl, rfl⟩))
  rw [← hw1]
  clear hw1
  have HZA := Lib.hid hza
  clear hza
  refine wpIn_over (gf := 37) (lb := #[.pointer (some ⟨w.heap.size + 2, 0, none⟩)]) (n := 2) (by simp [Act.eval]) (enters_of Try.func37 (by kernel_rfl) rfl)
    (run_iter A (w.heap.size + 2) rb L.n L.c L.RA (fun h => (hAT h).1) hcap)
    (RunI w A rb L.n L.c L.RA s bps now)
    ?stable ?start ?reads ?sizes ?round ?done
  case stable =>
    rintro i W W' h1 hc
    have hz1 := HZ1.out
    exact h1.chg (hc.mono (fun k _ e => by omega))
  case start => exact HI.out
  case reads => rintro i W h1; exact ⟨h1.bx, h1.parts.row⟩
  case sizes => rintro i W vs ⟨b, p, u', _, _, _, _, rfl⟩; rfl
  case round =>
    rintro i W h1 hi hlW
    have hlen := HLEN.out
    obtain ⟨x, hx⟩ : ∃ x, bps[i]? = some x := ⟨bps[i]'(by omega), List.getElem?_eq_getElem (by omega)⟩
    obtain ⟨b, p⟩ := x
    have hpt := h1.parts.prt i b p hx
    have hps : s.ps[i]? = some p := by rw [HBPS.out] at hx; exact (AgAt.zipAt hx).2
    clear hlen
    by_cases hh : p.how = 0
    · refine .inr ⟨_, ⟨b, p, s.until_, h1.parts.ptr i b p hx, hpt.1, h1.parts.unt, hh, rfl⟩, ?_⟩
      obtain ⟨up, hup⟩ : ∃ x, x = p.upto s.until_ := ⟨_, rfl⟩
      rw [← hup]
      have HUP := Lib.hid hup
      clear hup
      gi_wp2
      refine ⟨trivial, ?_⟩
      intro W2 hc2
      have hz1 := HZ1.out
      have hW2 : w1.heap.size + 1 < W2.heap.size := by have := hc2.size; omega
      have K1 := Lib.hid (h1.chg (hc2.mono (fun k _ e => by omega)))
      have hr : p.runs s.until_ now = (decide (now < up) && decide (p.begun ≤ now)) := by rw [HUP.out]; simp [Pt.runs, hh]
      have HR := Lib.hid hr
      have hsz : w.heap.size + 5 ≤ W2.heap.size := by omega
      clear h1 hc2 hpt hz1 hr hlW
      have kp := (K1.out.parts.prt i b p hx).1
      have f3 : W2.drew.cell? ⟨w.heap.size, 0, none⟩ = some (.int .i64 now) := K1.out.t3
      have f6 : W2.drew.cell? ⟨b, 6, none⟩ = some (.int .i64 p.begun) := cellb (i := 6) kp rfl
      have KP := Lib.hid kp
      clear kp
      gi_upto_region 7 with fail

      by_cases t0 : now < up
      · by_cases t1 : p.begun ≤ now
        · skip
          refine region_in (S := fun w' => w'.cell? ⟨w.heap.size, 0, none⟩ = some (.int .i64 now) ∧ w'.cell? ⟨b, 6, none⟩ = some (.int .i64 p.begun)) (by kernel_rfl) (by kernel_rfl) ?_ (fun hHeld => ?_)
          · try dsimp only
            (refine ⟨?_, ?_⟩ <;> (first | with_reducible assumption))
          refine tk 0 ?_
          try simp only [Act.put, p1, p2, p3]
          refine tk 1 ?_
          try simp only [Act.put, p1, p2, p3]
          refine tk 2 ?_
          try simp only [Act.put, p1, p2, p3]
          refine tk 3 ?_
          try simp only [Act.put, p1, p2, p3]
          refine tk 4 ?_
          try simp only [Act.put, p1, p2, p3]
          refine tk 5 ?_
          try simp only [Act.put, p1, p2, p3]
          refine tk 6 ?_
          try simp only [Act.put, p1, p2, p3]
          refine tk 7 ?_
          try simp only [Act.put, p1, p2, p3]
          refine tk 8 ?_
          try simp only [Act.put, p1, p2, p3]
          refine tk 9 ?_
          try simp only [Act.put, p1, p2, p3]
          refine tk 10 ?_
          try simp only [Act.put, p1, p2, p3]
          refine wpAnyH_done (by kernel_rfl) ?_ _
          refine OnlyN.normal ?_
          clear hHeld f3 f6
          gi_upto_region 8 with fail
          obtain ⟨A2, c2, hbx, hold⟩ := K1.out.row
          obtain ⟨m, hm⟩ : ∃ m, m = (runsOf s.until_ now (s.ps.take i)).length := ⟨_, rfl⟩
          obtain ⟨xs, hxs⟩ : ∃ l, l = (runsOf s.until_ now (s.ps.take i)).flatMap (Pt.runC s.until_) := ⟨_, rfl⟩
          have hmb : m ≤ 1000000 := by rw [hm]; exact Nat.le_trans (runs_len _ _ _ _) hn
          rw [← hm] at hbx hold
          rw [← hxs] at hold
          have HBX := Lib.hid hbx
          have HOLD := Lib.hid hold
          have HM := Lib.hid hm
          have HXS := Lib.hid hxs
          have HD : Hid (Chg (fun _ => False) W2 W2.drew.drew) := Lib.hid ((Chg.refl _ W2).drew.drew)
          have hHT : Hid (W2.drew.drew.heap[w.heap.size + 1]? = some (.cells #[.slice A2 m c2] 36 (0, 0))) := Lib.hid hbx
          have hHO : Hid (W2.drew.drew.ownsRow (w.heap.size + 5) 50 8 (.slice A2 m c2) m xs) := Lib.hid hold
          have hdz : w.heap.size + 5 ≤ W2.drew.drew.heap.size := hsz
          have k0 : W2.drew.drew.cell? ⟨b, 0, none⟩ = some (.int .i64 p.job) := cellb (i := 0) KP.out rfl
          have k1 : W2.drew.drew.cell? ⟨b, 1, none⟩ = some (.int .i64 p.att) := cellb (i := 1) KP.out rfl
          have k2 : W2.drew.drew.cell? ⟨b, 2, none⟩ = some (.int .i64 p.d0) := cellb (i := 2) KP.out rfl
          have k3 : W2.drew.drew.cell? ⟨b, 3, none⟩ = some (.int .i64 p.d1) := cellb (i := 3) KP.out rfl
          have k4 : W2.drew.drew.cell? ⟨b, 4, none⟩ = some (.int .i64 p.d2) := cellb (i := 4) KP.out rfl
          have k5 : W2.drew.drew.cell? ⟨b, 5, none⟩ = some (.int .i64 p.d3) := cellb (i := 5) KP.out rfl
          have k6 : W2.drew.drew.cell? ⟨b, 6, none⟩ = some (.int .i64 p.begun) := cellb (i := 6) KP.out rfl
          clear hbx hold hm hxs

          refine region_in (S := fun w' => w'.cell? ⟨b, 0, none⟩ = some (.int .i64 p.job) ∧ w'.cell? ⟨b, 1, none⟩ = some (.int .i64 p.att) ∧ w'.cell? ⟨b, 2, none⟩ = some (.int .i64 p.d0) ∧ w'.cell? ⟨b, 3, none⟩ = some (.int .i64 p.d1) ∧ w'.cell? ⟨b, 4, none⟩ = some (.int .i64 p.d2) ∧ w'.cell? ⟨b, 5, none⟩ = some (.int .i64 p.d3) ∧ w'.cell? ⟨b, 6, none⟩ = some (.int .i64 p.begun)) (by kernel_rfl) (by kernel_rfl) ?_ (fun hHeld => ?_)
          · try dsimp only
            (refine ⟨?_, ?_, ?_, ?_, ?_, ?_, ?_⟩ <;> (first | with_reducible assumption))
          generalize W2.drew.drew = Wd at *
          refine tk 1 ?_
          try simp only [Act.put, p1, p2, p3]
          refine tk 2 ?_
          try simp only [Act.put, p1, p2, p3]
          refine tk 3 ?_
          try simp only [Act.put, p1, p2, p3]
          refine tk 4 ?_
          try simp only [Act.put, p1, p2, p3]
          refine tk 5 ?_
          try simp only [Act.put, p1, p2, p3]
          refine tk 6 ?_
          try simp only [Act.put, p1, p2, p3]
          refine tk 7 ?_
          try simp only [Act.put, p1, p2, p3]
          refine tk 8 ?_
          try simp only [Act.put, p1, p2, p3]
          refine tk 9 ?_
          try simp only [Act.put, p1, p2, p3]
          refine tk 10 ?_
          try simp only [Act.put, p1, p2, p3]
          refine tk 11 ?_
          try simp only [Act.put, p1, p2, p3]
          refine tk 12 ?_
          try simp only [Act.put, p1, p2, p3]
          refine tk 13 ?_
          try simp only [Act.put, p1, p2, p3]
          refine tk 14 ?_
          try simp only [Act.put, p1, p2, p3]
          refine tk 15 ?_
          try simp only [Act.put, p1, p2, p3]
          refine tk 16 ?_
          try simp only [Act.put, p1, p2, p3]
          refine tk 17 ?_
          try simp only [Act.put, p1, p2, p3]
          refine tk 18 ?_
          try simp only [Act.put, p1, p2, p3]
          refine tk 19 ?_
          try simp only [Act.put, p1, p2, p3]
          refine tk 20 ?_
          try simp only [Act.put, p1, p2, p3]
          have HBB : Hid (b < w.heap.size) := Lib.hid (K1.out.parts.prt i b p hx).2.1
          refine wpAnyH_ready (rs := [0, 21]) (by kernel_rfl) (by simp) ?_
          refine AllReadyH.cons (by (simp only [List.getElem?_toArray, List.getElem?_cons_zero]; rfl)) (fun K hK => ?_) (AllReadyH.cons (by (simp only [List.getElem?_toArray, List.getElem?_cons_succ, List.getElem?_cons_zero]; rfl)) (fun K hK => ?_) AllReadyH.nil)
          · skip
            have c0 : Wd.cell? ⟨w.heap.size + 1, 0, none⟩ = some (.slice A2 m c2) := cellb (i := 0) hHT.out rfl
            go_simp
            clear c0
            refine hK.out _ _ ?_ (fun hHeld => ?_)
            · try dsimp only
              (refine ⟨?_, ?_, ?_, ?_, ?_, ?_, ?_⟩ <;> (first | with_reducible assumption))
            clear hK K
            try simp only [Act.put, p1, p2, p3]
            refine rd 21 fun K hK => ?_
            go_simp
            have k0' : (Wd.alloc (.cells #[.int .i64 p.job, .int .i64 p.att, .int .i64 p.d0, .int .i64 p.d1, .int .i64 p.d2, .int .i64 p.d3, .int .i64 p.begun, .int .i64 up] 50)).cell? ⟨b, 0, none⟩ = some (.int .i64 p.job) := keepA k0
            have k1' : (Wd.alloc (.cells #[.int .i64 p.job, .int .i64 p.att, .int .i64 p.d0, .int .i64 p.d1, .int .i64 p.d2, .int .i64 p.d3, .int .i64 p.begun, .int .i64 up] 50)).cell? ⟨b, 1, none⟩ = some (.int .i64 p.att) := keepA k1
            have k2' : (Wd.alloc (.cells #[.int .i64 p.job, .int .i64 p.att, .int .i64 p.d0, .int .i64 p.d1, .int .i64 p.d2, .int .i64 p.d3, .int .i64 p.begun, .int .i64 up] 50)).cell? ⟨b, 2, none⟩ = some (.int .i64 p.d0) := keepA k2
            have k3' : (Wd.alloc (.cells #[.int .i64 p.job, .int .i64 p.att, .int .i64 p.d0, .int .i64 p.d1, .int .i64 p.d2, .int .i64 p.d3, .int .i64 p.begun, .int .i64 up] 50)).cell? ⟨b, 3, none⟩ = some (.int .i64 p.d1) := keepA k3
            have k4' : (Wd.alloc (.cells #[.int .i64 p.job, .int .i64 p.att, .int .i64 p.d0, .int .i64 p.d1, .int .i64 p.d2, .int .i64 p.d3, .int .i64 p.begun, .int .i64 up] 50)).cell? ⟨b, 4, none⟩ = some (.int .i64 p.d2) := keepA k4
            have k5' : (Wd.alloc (.cells #[.int .i64 p.job, .int .i64 p.att, .int .i64 p.d0, .int .i64 p.d1, .int .i64 p.d2, .int .i64 p.d3, .int .i64 p.begun, .int .i64 up] 50)).cell? ⟨b, 5, none⟩ = some (.int .i64 p.d3) := keepA k5
            have k6' : (Wd.alloc (.cells #[.int .i64 p.job, .int .i64 p.att, .int .i64 p.d0, .int .i64 p.d1, .int .i64 p.d2, .int .i64 p.d3, .int .i64 p.begun, .int .i64 up] 50)).cell? ⟨b, 6, none⟩ = some (.int .i64 p.begun) := keepA k6
            clear k0 k1 k2 k3 k4 k5 k6
            refine hK.out _ _ ?_ (fun hHeld => ?_)
            · try dsimp only
              (refine ⟨?_, ?_, ?_, ?_, ?_, ?_, ?_⟩ <;> (first | with_reducible assumption))
            clear hK K
            try simp only [Act.put, p1, p2, p3]
            refine rd 22 fun K hK => ?_
            refine step_append_row _ rfl (.tmp 27) (.tmp 48) _ rfl (w.heap.size + 5) 50 iP _ 8 64 Try.underlying36 hiP hz0 hz1 hz2 rfl (by omega) A2 m c2 xs rfl (hHO.out.alloc _) (Wd.heap.size + 1) (some ⟨Wd.heap.size, 0, none⟩) 1 1 [.int .i64 p.job, .int .i64 p.att, .int .i64 p.d0, .int .i64 p.d1, .int .i64 p.d2, .int .i64 p.d3, .int .i64 p.begun, .int .i64 up] rfl (cellsIn_alloc Wd #[.int .i64 p.job, .int .i64 p.att, .int .i64 p.d0, .int .i64 p.d1, .int .i64 p.d2, .int .i64 p.d3, .int .i64 p.begun, .int .i64 up] 50 (0, 0) 8 1 rfl) (by simp [Value.oneCell']) (by unfold maxLen; omega) (by omega) (by simp; omega) ?_
            intro A4 c4 w4 hown hg hor
            have HN : Hid (RunI w A rb L.n L.c L.RA s bps now (i + 1) (w4.setCell ⟨w.heap.size + 1, 0, none⟩ (.slice A4 (m + 1) c4)) ∧ Kept2 (w.heap.size + 3) W2 (w4.setCell ⟨w.heap.size + 1, 0, none⟩ (.slice A4 (m + 1) c4))) := Lib.hid (by
              have hup := HUP.out
              have hxs := HXS.out
              subst hup
              subst hxs
              exact RunI.next K1.out hps (by rw [HR.out]; simp [t0, t1]) HM.out HBX.out hsz HOLD.out hown HD.out hg)
            have c3 : Chg (fun k => (Value.slice A2 m c2).ownBlock = some k) Wd w4 := ((Chg.refl _ Wd).alloc _).grown hg (fun k hk => .inr hk)
            have H4 : Hid (w4.heap[w.heap.size + 1]? = some (.cells #[.slice A2 m c2] 36 (0, 0))) := Lib.hid ((c3.block _ (ltb hHT.out) (fun e => by have := (hHO.out.lt _ e).1; omega)).trans hHT.out)
            have j0 : w4.cell? ⟨b, 0, none⟩ = some (.int .i64 p.job) := c3.cell (cellb (i := 0) ((HD.out.block b KP.out.lt (fun h => h)).trans KP.out) rfl) (fun e => by have h0 : w.heap.size + 5 ≤ b := (hHO.out.lt _ e).1; have := HBB.out; omega)
            have j1 : w4.cell? ⟨b, 1, none⟩ = some (.int .i64 p.att) := c3.cell (cellb (i := 1) ((HD.out.block b KP.out.lt (fun h => h)).trans KP.out) rfl) (fun e => by have h0 : w.heap.size + 5 ≤ b := (hHO.out.lt _ e).1; have := HBB.out; omega)
            have j2 : w4.cell? ⟨b, 2, none⟩ = some (.int .i64 p.d0) := c3.cell (cellb (i := 2) ((HD.out.block b KP.out.lt (fun h => h)).trans KP.out) rfl) (fun e => by have h0 : w.heap.size + 5 ≤ b := (hHO.out.lt _ e).1; have := HBB.out; omega)
            have j3 : w4.cell? ⟨b, 3, none⟩ = some (.int .i64 p.d1) := c3.cell (cellb (i := 3) ((HD.out.block b KP.out.lt (fun h => h)).trans KP.out) rfl) (fun e => by have h0 : w.heap.size + 5 ≤ b := (hHO.out.lt _ e).1; have := HBB.out; omega)
            have j4 : w4.cell? ⟨b, 4, none⟩ = some (.int .i64 p.d2) := c3.cell (cellb (i := 4) ((HD.out.block b KP.out.lt (fun h => h)).trans KP.out) rfl) (fun e => by have h0 : w.heap.size + 5 ≤ b := (hHO.out.lt _ e).1; have := HBB.out; omega)
            have j5 : w4.cell? ⟨b, 5, none⟩ = some (.int .i64 p.d3) := c3.cell (cellb (i := 5) ((HD.out.block b KP.out.lt (fun h => h)).trans KP.out) rfl) (fun e => by have h0 : w.heap.size + 5 ≤ b := (hHO.out.lt _ e).1; have := HBB.out; omega)
            have j6 : w4.cell? ⟨b, 6, none⟩ = some (.int .i64 p.begun) := c3.cell (cellb (i := 6) ((HD.out.block b KP.out.lt (fun h => h)).trans KP.out) rfl) (fun e => by have h0 : w.heap.size + 5 ≤ b := (hHO.out.lt _ e).1; have := HBB.out; omega)
            clear hown hg hor c3 k0' k1' k2' k3' k4' k5' k6'
            refine hK.out _ _ ?_ (fun hHeld => ?_)
            · try dsimp only
              (refine ⟨?_, ?_, ?_, ?_, ?_, ?_, ?_⟩ <;> (first | with_reducible assumption))
            clear hK K
            try simp only [Act.put, p1, p2, p3]
            refine rd 23 fun K hK => ?_
            have c0 : w4.cell? ⟨w.heap.size + 1, 0, none⟩ = some (.slice A2 m c2) := cellb (i := 0) H4.out rfl
            have f0 : w4.frozen? ⟨w.heap.size + 1, 0, none⟩ = false := fzb H4.out 0
            go_simp
            clear c0 f0
            have i0 : (w4.setCell ⟨w.heap.size + 1, 0, none⟩ (.slice A4 (m + 1) c4)).cell? ⟨b, 0, none⟩ = some (.int .i64 p.job) := (World.cell?_setCell_far _ _ _ _ (by show w.heap.size + 1 ≠ b; have := HBB.out; omega)).trans j0
            have i1 : (w4.setCell ⟨w.heap.size + 1, 0, none⟩ (.slice A4 (m + 1) c4)).cell? ⟨b, 1, none⟩ = some (.int .i64 p.att) := (World.cell?_setCell_far _ _ _ _ (by show w.heap.size + 1 ≠ b; have := HBB.out; omega)).trans j1
            have i2 : (w4.setCell ⟨w.heap.size + 1, 0, none⟩ (.slice A4 (m + 1) c4)).cell? ⟨b, 2, none⟩ = some (.int .i64 p.d0) := (World.cell?_setCell_far _ _ _ _ (by show w.heap.size + 1 ≠ b; have := HBB.out; omega)).trans j2
            have i3 : (w4.setCell ⟨w.heap.size + 1, 0, none⟩ (.slice A4 (m + 1) c4)).cell? ⟨b, 3, none⟩ = some (.int .i64 p.d1) := (World.cell?_setCell_far _ _ _ _ (by show w.heap.size + 1 ≠ b; have := HBB.out; omega)).trans j3
            have i4 : (w4.setCell ⟨w.heap.size + 1, 0, none⟩ (.slice A4 (m + 1) c4)).cell? ⟨b, 4, none⟩ = some (.int .i64 p.d2) := (World.cell?_setCell_far _ _ _ _ (by show w.heap.size + 1 ≠ b; have := HBB.out; omega)).trans j4
            have i5 : (w4.setCell ⟨w.heap.size + 1, 0, none⟩ (.slice A4 (m + 1) c4)).cell? ⟨b, 5, none⟩ = some (.int .i64 p.d3) := (World.cell?_setCell_far _ _ _ _ (by show w.heap.size + 1 ≠ b; have := HBB.out; omega)).trans j5
            have i6 : (w4.setCell ⟨w.heap.size + 1, 0, none⟩ (.slice A4 (m + 1) c4)).cell? ⟨b, 6, none⟩ = some (.int .i64 p.begun) := (World.cell?_setCell_far _ _ _ _ (by show w.heap.size + 1 ≠ b; have := HBB.out; omega)).trans j6
            refine hK.out _ _ ?_ (fun hHeld => ?_)
            · try dsimp only
              (refine ⟨?_, ?_, ?_, ?_, ?_, ?_, ?_⟩ <;> (first | with_reducible assumption))
            clear hK K
            try simp only [Act.put]
            refine wpAnyH_done (by kernel_rfl) ?_ _
            refine NoPanic.normal ?_
            clear hHeld
            gi_wp2
            exact ⟨HN.out.1, by rw [HZ1.out]; exact HN.out.2⟩
          · skip
            go_simp
            have k0' : (Wd.alloc (.cells #[.int .i64 p.job, .int .i64 p.att, .int .i64 p.d0, .int .i64 p.d1, .int .i64 p.d2, .int .i64 p.d3, .int .i64 p.begun, .int .i64 up] 50)).cell? ⟨b, 0, none⟩ = some (.int .i64 p.job) := keepA k0
            have k1' : (Wd.alloc (.cells #[.int .i64 p.job, .int .i64 p.att, .int .i64 p.d0, .int .i64 p.d1, .int .i64 p.d2, .int .i64 p.d3, .int .i64 p.begun, .int .i64 up] 50)).cell? ⟨b, 1, none⟩ = some (.int .i64 p.att) := keepA k1
            have k2' : (Wd.alloc (.cells #[.int .i64 p.job, .int .i64 p.att, .int .i64 p.d0, .int .i64 p.d1, .int .i64 p.d2, .int .i64 p.d3, .int .i64 p.begun, .int .i64 up] 50)).cell? ⟨b, 2, none⟩ = some (.int .i64 p.d0) := keepA k2
            have k3' : (Wd.alloc (.cells #[.int .i64 p.job, .int .i64 p.att, .int .i64 p.d0, .int .i64 p.d1, .int .i64 p.d2, .int .i64 p.d3, .int .i64 p.begun, .int .i64 up] 50)).cell? ⟨b, 3, none⟩ = some (.int .i64 p.d1) := keepA k3
            have k4' : (Wd.alloc (.cells #[.int .i64 p.job, .int .i64 p.att, .int .i64 p.d0, .int .i64 p.d1, .int .i64 p.d2, .int .i64 p.d3, .int .i64 p.begun, .int .i64 up] 50)).cell? ⟨b, 4, none⟩ = some (.int .i64 p.d2) := keepA k4
            have k5' : (Wd.alloc (.cells #[.int .i64 p.job, .int .i64 p.att, .int .i64 p.d0, .int .i64 p.d1, .int .i64 p.d2, .int .i64 p.d3, .int .i64 p.begun, .int .i64 up] 50)).cell? ⟨b, 5, none⟩ = some (.int .i64 p.d3) := keepA k5
            have k6' : (Wd.alloc (.cells #[.int .i64 p.job, .int .i64 p.att, .int .i64 p.d0, .int .i64 p.d1, .int .i64 p.d2, .int .i64 p.d3, .int .i64 p.begun, .int .i64 up] 50)).cell? ⟨b, 6, none⟩ = some (.int .i64 p.begun) := keepA k6
            clear k0 k1 k2 k3 k4 k5 k6
            refine hK.out _ _ ?_ (fun hHeld => ?_)
            · try dsimp only
              (refine ⟨?_, ?_, ?_, ?_, ?_, ?_, ?_⟩ <;> (first | with_reducible assumption))
            clear hK K
            try simp only [Act.put, p1, p2, p3]
            refine rd 0 fun K hK => ?_
            have c0 : (Wd.alloc (.cells #[.int .i64 p.job, .int .i64 p.att, .int .i64 p.d0, .int .i64 p.d1, .int .i64 p.d2, .int .i64 p.d3, .int .i64 p.begun, .int .i64 up] 50)).cell? ⟨w.heap.size + 1, 0, none⟩ = some (.slice A2 m c2) := keepA (cellb (i := 0) hHT.out rfl)
            go_simp
            clear c0
            refine hK.out _ _ ?_ (fun hHeld => ?_)
            · try dsimp only
              (refine ⟨?_, ?_, ?_, ?_, ?_, ?_, ?_⟩ <;> (first | with_reducible assumption))
            clear hK K
            try simp only [Act.put, p1, p2, p3]
            refine rd 22 fun K hK => ?_
            refine step_append_row _ rfl (.tmp 27) (.tmp 48) _ rfl (w.heap.size + 5) 50 iP _ 8 64 Try.underlying36 hiP hz0 hz1 hz2 rfl (by omega) A2 m c2 xs rfl (hHO.out.alloc _) (Wd.heap.size + 1) (some ⟨Wd.heap.size, 0, none⟩) 1 1 [.int .i64 p.job, .int .i64 p.att, .int .i64 p.d0, .int .i64 p.d1, .int .i64 p.d2, .int .i64 p.d3, .int .i64 p.begun, .int .i64 up] rfl (cellsIn_alloc Wd #[.int .i64 p.job, .int .i64 p.att, .int .i64 p.d0, .int .i64 p.d1, .int .i64 p.d2, .int .i64 p.d3, .int .i64 p.begun, .int .i64 up] 50 (0, 0) 8 1 rfl) (by simp [Value.oneCell']) (by unfold maxLen; omega) (by omega) (by simp; omega) ?_
            intro A4 c4 w4 hown hg hor
            have HN : Hid (RunI w A rb L.n L.c L.RA s bps now (i + 1) (w4.setCell ⟨w.heap.size + 1, 0, none⟩ (.slice A4 (m + 1) c4)) ∧ Kept2 (w.heap.size + 3) W2 (w4.setCell ⟨w.heap.size + 1, 0, none⟩ (.slice A4 (m + 1) c4))) := Lib.hid (by
              have hup := HUP.out
              have hxs := HXS.out
              subst hup
              subst hxs
              exact RunI.next K1.out hps (by rw [HR.out]; simp [t0, t1]) HM.out HBX.out hsz HOLD.out hown HD.out hg)
            have c3 : Chg (fun k => (Value.slice A2 m c2).ownBlock = some k) Wd w4 := ((Chg.refl _ Wd).alloc _).grown hg (fun k hk => .inr hk)
            have H4 : Hid (w4.heap[w.heap.size + 1]? = some (.cells #[.slice A2 m c2] 36 (0, 0))) := Lib.hid ((c3.block _ (ltb hHT.out) (fun e => by have := (hHO.out.lt _ e).1; omega)).trans hHT.out)
            have j0 : w4.cell? ⟨b, 0, none⟩ = some (.int .i64 p.job) := c3.cell (cellb (i := 0) ((HD.out.block b KP.out.lt (fun h => h)).trans KP.out) rfl) (fun e => by have h0 : w.heap.size + 5 ≤ b := (hHO.out.lt _ e).1; have := HBB.out; omega)
            have j1 : w4.cell? ⟨b, 1, none⟩ = some (.int .i64 p.att) := c3.cell (cellb (i := 1) ((HD.out.block b KP.out.lt (fun h => h)).trans KP.out) rfl) (fun e => by have h0 : w.heap.size + 5 ≤ b := (hHO.out.lt _ e).1; have := HBB.out; omega)
            have j2 : w4.cell? ⟨b, 2, none⟩ = some (.int .i64 p.d0) := c3.cell (cellb (i := 2) ((HD.out.block b KP.out.lt (fun h => h)).trans KP.out) rfl) (fun e => by have h0 : w.heap.size + 5 ≤ b := (hHO.out.lt _ e).1; have := HBB.out; omega)
            have j3 : w4.cell? ⟨b, 3, none⟩ = some (.int .i64 p.d1) := c3.cell (cellb (i := 3) ((HD.out.block b KP.out.lt (fun h => h)).trans KP.out) rfl) (fun e => by have h0 : w.heap.size + 5 ≤ b := (hHO.out.lt _ e).1; have := HBB.out; omega)
            have j4 : w4.cell? ⟨b, 4, none⟩ = some (.int .i64 p.d2) := c3.cell (cellb (i := 4) ((HD.out.block b KP.out.lt (fun h => h)).trans KP.out) rfl) (fun e => by have h0 : w.heap.size + 5 ≤ b := (hHO.out.lt _ e).1; have := HBB.out; omega)
            have j5 : w4.cell? ⟨b, 5, none⟩ = some (.int .i64 p.d3) := c3.cell (cellb (i := 5) ((HD.out.block b KP.out.lt (fun h => h)).trans KP.out) rfl) (fun e => by have h0 : w.heap.size + 5 ≤ b := (hHO.out.lt _ e).1; have := HBB.out; omega)
            have j6 : w4.cell? ⟨b, 6, none⟩ = some (.int .i64 p.begun) := c3.cell (cellb (i := 6) ((HD.out.block b KP.out.lt (fun h => h)).trans KP.out) rfl) (fun e => by have h0 : w.heap.size + 5 ≤ b := (hHO.out.lt _ e).1; have := HBB.out; omega)
            clear hown hg hor c3 k0' k1' k2' k3' k4' k5' k6'
            refine hK.out _ _ ?_ (fun hHeld => ?_)
            · try dsimp only
              (refine ⟨?_, ?_, ?_, ?_, ?_, ?_, ?_⟩ <;> (first | with_reducible assumption))
            clear hK K
            try simp only [Act.put, p1, p2, p3]
            refine rd 23 fun K hK => ?_
            have c0 : w4.cell? ⟨w.heap.size + 1, 0, none⟩ = some (.slice A2 m c2) := cellb (i := 0) H4.out rfl
            have f0 : w4.frozen? ⟨w.heap.size + 1, 0, none⟩ = false := fzb H4.out 0
            go_simp
            clear c0 f0
            have i0 : (w4.setCell ⟨w.heap.size + 1, 0, none⟩ (.slice A4 (m + 1) c4)).cell? ⟨b, 0, none⟩ = some (.int .i64 p.job) := (World.cell?_setCell_far _ _ _ _ (by show w.heap.size + 1 ≠ b; have := HBB.out; omega)).trans j0
            have i1 : (w4.setCell ⟨w.heap.size + 1, 0, none⟩ (.slice A4 (m + 1) c4)).cell? ⟨b, 1, none⟩ = some (.int .i64 p.att) := (World.cell?_setCell_far _ _ _ _ (by show w.heap.size + 1 ≠ b; have := HBB.out; omega)).trans j1
            have i2 : (w4.setCell ⟨w.heap.size + 1, 0, none⟩ (.slice A4 (m + 1) c4)).cell? ⟨b, 2, none⟩ = some (.int .i64 p.d0) := (World.cell?_setCell_far _ _ _ _ (by show w.heap.size + 1 ≠ b; have := HBB.out; omega)).trans j2
            have i3 : (w4.setCell ⟨w.heap.size + 1, 0, none⟩ (.slice A4 (m + 1) c4)).cell? ⟨b, 3, none⟩ = some (.int .i64 p.d1) := (World.cell?_setCell_far _ _ _ _ (by show w.heap.size + 1 ≠ b; have := HBB.out; omega)).trans j3
            have i4 : (w4.setCell ⟨w.heap.size + 1, 0, none⟩ (.slice A4 (m + 1) c4)).cell? ⟨b, 4, none⟩ = some (.int .i64 p.d2) := (World.cell?_setCell_far _ _ _ _ (by show w.heap.size + 1 ≠ b; have := HBB.out; omega)).trans j4
            have i5 : (w4.setCell ⟨w.heap.size + 1, 0, none⟩ (.slice A4 (m + 1) c4)).cell? ⟨b, 5, none⟩ = some (.int .i64 p.d3) := (World.cell?_setCell_far _ _ _ _ (by show w.heap.size + 1 ≠ b; have := HBB.out; omega)).trans j5
            have i6 : (w4.setCell ⟨w.heap.size + 1, 0, none⟩ (.slice A4 (m + 1) c4)).cell? ⟨b, 6, none⟩ = some (.int .i64 p.begun) := (World.cell?_setCell_far _ _ _ _ (by show w.heap.size + 1 ≠ b; have := HBB.out; omega)).trans j6
            refine hK.out _ _ ?_ (fun hHeld => ?_)
            · try dsimp only
              (refine ⟨?_, ?_, ?_, ?_, ?_, ?_, ?_⟩ <;> (first | with_reducible assumption))
            clear hK K
            try simp only [Act.put]
            refine wpAnyH_done (by kernel_rfl) ?_ _
            refine NoPanic.normal ?_
            clear hHeld
            gi_wp2
            exact ⟨HN.out.1, by rw [HZ1.out]; exact HN.out.2⟩
        · skip
          refine region_in (S := fun w' => w'.cell? ⟨w.heap.size, 0, none⟩ = some (.int .i64 now) ∧ w'.cell? ⟨b, 6, none⟩ = some (.int .i64 p.begun)) (by kernel_rfl) (by kernel_rfl) ?_ (fun hHeld => ?_)
          · try dsimp only
            (refine ⟨?_, ?_⟩ <;> (first | with_reducible assumption))
          refine tk 0 ?_
          try simp only [Act.put, p1, p2, p3]
          refine tk 1 ?_
          try simp only [Act.put, p1, p2, p3]
          refine tk 2 ?_
          try simp only [Act.put, p1, p2, p3]
          refine tk 3 ?_
          try simp only [Act.put, p1, p2, p3]
          refine tk 4 ?_
          try simp only [Act.put, p1, p2, p3]
          refine tk 5 ?_
          try simp only [Act.put, p1, p2, p3]
          refine tk 6 ?_
          try simp only [Act.put, p1, p2, p3]
          refine tk 7 ?_
          try simp only [Act.put, p1, p2, p3]
          refine tk 8 ?_
          try simp only [Act.put, p1, p2, p3]
          refine tk 9 ?_
          try simp only [Act.put, p1, p2, p3]
          refine tk 10 ?_
          try simp only [Act.put, p1, p2, p3]
          refine wpAnyH_done (by kernel_rfl) ?_ _
          refine OnlyN.normal ?_
          clear hHeld f3 f6
          gi_wp2
          refine ⟨?_, fun _ _ => rfl⟩
          have q := K1.out.stay hps (by rw [HR.out]; simp; omega)
          exact q.chg ((Chg.refl _ W2).drew)
      · skip
        refine region_in (S := fun w' => w'.cell? ⟨w.heap.size, 0, none⟩ = some (.int .i64 now) ∧ w'.cell? ⟨b, 6, none⟩ = some (.int .i64 p.begun)) (by kernel_rfl) (by kernel_rfl) ?_ (fun hHeld => ?_)
        · try dsimp only
          (refine ⟨?_, ?_⟩ <;> (first | with_reducible assumption))
        refine tk 0 ?_
        try simp only [Act.put, p1, p2, p3]
        refine tk 1 ?_
        try simp only [Act.put, p1, p2, p3]
        refine tk 2 ?_
        try simp only [Act.put, p1, p2, p3]
        refine tk 3 ?_
        try simp only [Act.put, p1, p2, p3]
        refine sk 4 ?_
        try simp only [Act.put, p1, p2, p3]
        refine sk 5 ?_
        try simp only [Act.put, p1, p2, p3]
        refine sk 6 ?_
        try simp only [Act.put, p1, p2, p3]
        refine sk 7 ?_
        try simp only [Act.put, p1, p2, p3]
        refine sk 8 ?_
        try simp only [Act.put, p1, p2, p3]
        refine sk 9 ?_
        try simp only [Act.put, p1, p2, p3]
        refine tk 10 ?_
        try simp only [Act.put, p1, p2, p3]
        refine wpAnyH_done (by kernel_rfl) ?_ _
        refine OnlyN.normal ?_
        clear hHeld f3 f6
        gi_wp2
        refine ⟨?_, fun _ _ => rfl⟩
        have q := K1.out.stay hps (by rw [HR.out]; simp; omega)
        exact q.chg ((Chg.refl _ W2).drew)
    · refine .inl ⟨⟨b, p, s.until_, h1.parts.ptr i b p hx, hpt.1, h1.parts.unt, hh⟩, h1.stay hps (by simp [Pt.runs, hh])⟩
  case done =>
    rintro W h1 hK
    obtain ⟨A2, c2, hbx, hold⟩ := h1.row
    rw [show s.ps.take L.n = s.ps by rw [H.out.blen, H.out.plen]; exact List.take_length] at hbx hold
    obtain ⟨m, hm⟩ : ∃ m, m = (runsOf s.until_ now s.ps).length := ⟨_, rfl⟩
    rw [← hm] at hbx hold
    have HM := Lib.hid hm
    have HO := Lib.hid hold
    have HBL := Lib.hid h1.bel
    have c0 : W.cell? ⟨w.heap.size + 1, 0, none⟩ = some (.slice A2 m c2) := cellb (i := 0) hbx rfl
    have HK := Lib.hid hK
    have hz1 := HZ1.out
    clear h1 hbx hold hm hK
    gi_wp2
    refine ⟨by simp, .inl ⟨_, _, rfl, run_takeDeferred HK.out, ?_⟩⟩
    have hc := putObj_chg (W := W) (B := w1.heap.size) (l := w1.heap.size) (.deferred none) (.inl rfl)
    refine ⟨.slice A2 m c2, by simp [results, Try.results12, go_sem], A2, c2, by rw [← HM.out], ?_, HBL.out.trans (hc.below HBL.out.size (fun k hk e => by omega))⟩
    rw [← HM.out]
    exact own_low (hc.own HO.out (fun k hk e => by have := (HO.out.lt k hk).1; omega)) (by omega)
end Go.Proofs.Ytoeamofemepgpaa
