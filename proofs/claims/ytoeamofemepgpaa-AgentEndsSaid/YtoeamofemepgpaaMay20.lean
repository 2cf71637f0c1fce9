/- Chapter 20: may a launch begin? -/
import Derived.Test.YtoeamofemepgpaaTakes
import Derived.Test.YtoeamofemepgpaaFit
import Derived.Sort.CutIn
namespace Go.Proofs.Ytoeamofemepgpaa
open Go.RowKit Go.Shelf
attribute [local go_sem] Oper.semAt_some

/-- The sum over what runs. -/
def tot (f : Pt → Int) : List Pt → Int
  | [] => 0
  | p :: r => (if p.how = 0 then f p else 0) + tot f r
theorem tot_take (f : Pt → Int) : ∀ {ps : List Pt} {i : Nat} {p : Pt}, ps[i]? = some p → tot f (ps.take (i + 1)) = tot f (ps.take i) + (if p.how = 0 then f p else 0)
  | [], i, p, h => by simp at h
  | q :: r, 0, p, h => by
    simp at h
    subst h
    simp [tot]
  | q :: r, i + 1, p, h => by
    have ih := tot_take f (ps := r) (i := i) (p := p) (by simpa using h)
    simp only [List.take_succ_cons, tot]
    rw [ih]
    omega
theorem tot_bd {f : Pt → Int} {m : Int} (hm : 0 ≤ m) : ∀ {ps : List Pt}, (∀ p ∈ ps, 0 ≤ f p ∧ f p ≤ m) → 0 ≤ tot f ps ∧ tot f ps ≤ m * (ps.length : Int)
  | [], _ => by simp [tot]
  | p :: r, h => by
    obtain ⟨h1, h2⟩ := tot_bd (f := f) hm (ps := r) (fun q hq => h q (List.mem_cons_of_mem _ hq))
    obtain ⟨h3, h4⟩ := h p (List.mem_cons_self ..)
    have e : m * ((p :: r).length : Int) = m * (r.length : Int) + m := by rw [List.length_cons]; push_cast; rw [Int.mul_add, Int.mul_one]
    unfold tot
    rw [e]
    split <;> omega
theorem tot_take_bd {f : Pt → Int} {ps : List Pt} (h : ∀ p ∈ ps, 0 ≤ f p ∧ f p ≤ 1073741824) (hn : ps.length ≤ 1000000) (i : Nat) : 0 ≤ tot f (ps.take i) ∧ tot f (ps.take i) ≤ 1073741824000000 := by
  obtain ⟨h1, h2⟩ := tot_bd (f := f) (m := 1073741824) (by omega) (ps := ps.take i) (fun p hp => h p (List.mem_of_mem_take hp))
  have : (ps.take i).length ≤ ps.length := by rw [List.length_take]; omega
  refine ⟨h1, Int.le_trans h2 ?_⟩
  omega
/-- Amounts of parts are right. -/
def Small (ps : List Pt) : Prop := ∀ p ∈ ps, (0 ≤ p.d0 ∧ p.d0 ≤ 1073741824) ∧ (0 ≤ p.d1 ∧ p.d1 ≤ 1073741824) ∧ (0 ≤ p.d2 ∧ p.d2 ≤ 1073741824) ∧ (0 ≤ p.d3 ∧ p.d3 ≤ 1073741824)
/-- What is asked for, with all that runs. -/
def Ag.all (s : Ag) (v : Nat → Int) (n : Nat) : Nat → Int := fun k => if k = 0 then v 11 + tot (·.d0) (s.ps.take n) else if k = 1 then v 12 + tot (·.d1) (s.ps.take n) else if k = 2 then v 13 + tot (·.d2) (s.ps.take n) else v 14 + tot (·.d3) (s.ps.take n)
def Ag.whole (s : Ag) : Nat → Int := fun k => if k = 0 then s.g0 else if k = 1 then s.g1 else if k = 2 then s.g2 else s.g3
/-- May it begin? -/
def Ag.may (s : Ag) (v : Nat → Int) : Bool := decide (s.tick < s.until_) && decide (s.since < v 8) && decide (s.boot < v 8) && decide (s.tick ≤ v 8 + 8) && fitB (s.all v s.ps.length) s.whole
def Pt.d (p : Pt) : Nat → Int := fun k => if k = 0 then p.d0 else if k = 1 then p.d1 else if k = 2 then p.d2 else p.d3
def adds (a d : Nat → Int) (i : Nat) : Nat → Int := fun k => a k + (if k < i then d k else 0)
theorem all_next {s : Ag} {v : Nat → Int} {i : Nat} {p : Pt} (h : s.ps[i]? = some p) (hh : p.how = 0) (k : Nat) (hk : k < 4) : s.all v (i + 1) k = adds (s.all v i) p.d 4 k := by
  have hk : k = 0 ∨ k = 1 ∨ k = 2 ∨ k = 3 := by omega
  rcases hk with rfl | rfl | rfl | rfl <;> simp [Ag.all, adds, Pt.d, tot_take _ h, hh] <;> omega
theorem all_stay {s : Ag} {v : Nat → Int} {i : Nat} {p : Pt} (h : s.ps[i]? = some p) (hh : p.how ≠ 0) : s.all v (i + 1) = s.all v i := by
  funext k
  simp [Ag.all, tot_take _ h, hh]
theorem all_bd {s : Ag} {v : Nat → Int} (hs : Small s.ps) (hn : s.ps.length ≤ 1000000) (hv : ∀ k, 11 ≤ k → k ≤ 14 → 0 ≤ v k ∧ v k ≤ 1073741824) (i k : Nat) : 0 ≤ s.all v i k ∧ s.all v i k ≤ 1073742897741824 := by
  have b0 := tot_take_bd (f := (·.d0)) (fun p hp => (hs p hp).1) hn i
  have b1 := tot_take_bd (f := (·.d1)) (fun p hp => (hs p hp).2.1) hn i
  have b2 := tot_take_bd (f := (·.d2)) (fun p hp => (hs p hp).2.2.1) hn i
  have b3 := tot_take_bd (f := (·.d3)) (fun p hp => (hs p hp).2.2.2) hn i
  have v0 := hv 11 (by omega) (by omega)
  have v1 := hv 12 (by omega) (by omega)
  have v2 := hv 13 (by omega) (by omega)
  have v3 := hv 14 (by omega) (by omega)
  unfold Ag.all
  split
  · omega
  · split
    · omega
    · split <;> omega
theorem idx4 (d : Nat → Int) (j : Nat) (hj : j < 4) (w : World) : (Instr.index 26 (.agg #[.int .i64 (d 0), .int .i64 (d 1), .int .i64 (d 2), .int .i64 (d 3)]) (.int .i64 (j : Int))).run Try.prog w = .ok (.int .i64 (d j)) w := by
  have u3 := Try.underlying3
  have a3 := Try.isAgg3
  have z3 := Try.sizeOf3
  rcases (show j = 0 ∨ j = 1 ∨ j = 2 ∨ j = 3 by omega) with rfl | rfl | rfl | rfl <;>
  (go_simp; try rfl)
/-- Between two rounds. -/
def MayI (w w1 : World) (A rb n c : Nat) (RA : Option Addr) (s : Ag) (bps : List (Nat × Pt)) (v : Nat → Int) (i : Nat) (W : World) : Prop :=
  Parts W w.heap.size A rb n c RA s.until_ bps ∧ Chg (fun k => k = w.heap.size + 1) w1 W ∧ VAt W (w.heap.size + 1) (s.all v i)
theorem VAt.congr {w : World} {b : Nat} {d e : Nat → Int} (h : VAt w b d) (he : ∀ k, k < 4 → e k = d k) : VAt w b e := by
  unfold VAt
  rw [he 0 (by omega), he 1 (by omega), he 2 (by omega), he 3 (by omega)]
  exact h
theorem VAt.set' {w : World} {b : Nat} {d : Nat → Int} (h : VAt w b d) {j : Nat} (hj : j < 4) (x : Int) (e : Nat → Int) (he : ∀ k, k < 4 → e k = if k = j then x else d k) : VAt (w.setCell ⟨b, j, none⟩ (.int .i64 x)) b e := by
  have hj : j = 0 ∨ j = 1 ∨ j = 2 ∨ j = 3 := by omega
  refine VAt.congr (d := fun k => if k = j then x else d k) ?_ he
  unfold VAt at h ⊢
  rcases hj with rfl | rfl | rfl | rfl <;> simp [World.setCell, Array.getElem?_modify, h]

set_option maxRecDepth 10000 in
set_option maxHeartbeats 4000000 in
theorem may_any (w : World) {A : Nat} {L : Lay} {s : Ag} (h : AgAt w A L s) (hn : s.ps.length ≤ 1000000) (hs : Small s.ps) (v : Nat → Int) (X : Option Addr) (xn xc : Nat)
    (hv : ∀ k, 11 ≤ k → k ≤ 14 → 0 ≤ v k ∧ v k ≤ 1073741824) (hv8 : 0 ≤ v 8 ∧ v 8 ≤ 2199023255552) :
    Calls Try.prog 40 #[.pointer (some ⟨A, 0, none⟩), .agg #[.int .i64 (v 0), .int .i64 (v 1), .int .i64 (v 2), .int .i64 (v 3), .int .i64 (v 4), .int .i64 (v 5), .int .i64 (v 6), .int .i64 (v 7), .int .i64 (v 8), .int .i64 (v 9), .int .i64 (v 10), .int .i64 (v 11), .int .i64 (v 12), .int .i64 (v 13), .int .i64 (v 14), .int .i64 (v 15), .int .i64 (v 16), .slice X xn xc, .int .i64 (v 18), .int .i64 (v 19), .int .i64 (v 20)]] w fun e w' => e = .returned (.bool (s.may v)) ∧ Below w.heap.size w w' := by
  refine (callsIn_wide (n := 4)).1 ?_
  refine callsIn_of_wp_marks Try.func40 rfl trivial ?_ rfl
  simp only [Try.ntmps40, List.size_toArray, List.length_cons, List.length_nil, Nat.reduceAdd, Nat.reduceSub, Array.replicate_succ, Array.replicate_zero, List.push_toArray, List.append_toArray, List.nil_append, List.cons_append]
  obtain ⟨rb, hrb⟩ := h.rb
  have hP := h.parts (by omega) rb hrb
  have H := Lib.hid h
  have HS := Lib.hid hs
  have HV := Lib.hid hv
  have hAlt := h.lt
  obtain ⟨bps, hbps⟩ : ∃ x, x = L.bs.zip s.ps := ⟨_, rfl⟩
  rw [← hbps] at hP
  have HBPS := Lib.hid hbps
  clear h hs hv hrb hbps
  obtain ⟨S, hS⟩ : ∃ x, x = w.heap.size := ⟨_, rfl⟩
  obtain ⟨w1, hw1⟩ : ∃ y, y = ((w.alloc (.cells #[.int .i64 (v 0), .int .i64 (v 1), .int .i64 (v 2), .int .i64 (v 3), .int .i64 (v 4), .int .i64 (v 5), .int .i64 (v 6), .int .i64 (v 7), .int .i64 (v 8), .int .i64 (v 9), .int .i64 (v 10), .int .i64 (v 11), .int .i64 (v 12), .int .i64 (v 13), .int .i64 (v 14), .int .i64 (v 15), .int .i64 (v 16), .slice X xn xc, .int .i64 (v 18), .int .i64 (v 19), .int .i64 (v 20)] 35)).alloc (.cells #[.int .i64 (v 11), .int .i64 (v 12), .int .i64 (v 13), .int .i64 (v 14)] 26)).alloc (.cells #[.pointer (some ⟨A, 0, none⟩)] 23) := ⟨_, rfl⟩
  have hb1 : Below w.heap.size w w1 := by rw [hw1]; exact (((Below.refl _ w).alloc (Nat.le_refl _) _).alloc (by simp) _).alloc (by simp; omega) _
  have hz1 : w1.heap.size = S + 3 := by rw [hw1, hS]; simp
  have hm1 : w1.heap[S]? = some (.cells #[.int .i64 (v 0), .int .i64 (v 1), .int .i64 (v 2), .int .i64 (v 3), .int .i64 (v 4), .int .i64 (v 5), .int .i64 (v 6), .int .i64 (v 7), .int .i64 (v 8), .int .i64 (v 9), .int .i64 (v 10), .int .i64 (v 11), .int .i64 (v 12), .int .i64 (v 13), .int .i64 (v 14), .int .i64 (v 15), .int .i64 (v 16), .slice X xn xc, .int .i64 (v 18), .int .i64 (v 19), .int .i64 (v 20)] 35 (0, 0)) := by
    rw [hw1, hS]
    exact (Below.heap_alloc _ _ _ (by simp; omega)).trans ((Below.heap_alloc _ _ _ (by simp)).trans (heap_alloc_new w _))
  have ha1 : VAt w1 (S + 1) (s.all v 0) := by
    have e : VAt ((w.alloc (.cells #[.int .i64 (v 0), .int .i64 (v 1), .int .i64 (v 2), .int .i64 (v 3), .int .i64 (v 4), .int .i64 (v 5), .int .i64 (v 6), .int .i64 (v 7), .int .i64 (v 8), .int .i64 (v 9), .int .i64 (v 10), .int .i64 (v 11), .int .i64 (v 12), .int .i64 (v 13), .int .i64 (v 14), .int .i64 (v 15), .int .i64 (v 16), .slice X xn xc, .int .i64 (v 18), .int .i64 (v 19), .int .i64 (v 20)] 35)).alloc (.cells #[.int .i64 (v 11), .int .i64 (v 12), .int .i64 (v 13), .int .i64 (v 14)] 26)) (w.alloc (.cells #[.int .i64 (v 0), .int .i64 (v 1), .int .i64 (v 2), .int .i64 (v 3), .int .i64 (v 4), .int .i64 (v 5), .int .i64 (v 6), .int .i64 (v 7), .int .i64 (v 8), .int .i64 (v 9), .int .i64 (v 10), .int .i64 (v 11), .int .i64 (v 12), .int .i64 (v 13), .int .i64 (v 14), .int .i64 (v 15), .int .i64 (v 16), .slice X xn xc, .int .i64 (v 18), .int .i64 (v 19), .int .i64 (v 20)] 35)).heap.size (fun k => v (11 + k)) := heap_alloc_new _ _
    rw [World.size_alloc, ← hS] at e
    refine VAt.congr (d := fun k => v (11 + k)) ?_ (fun k hk => ?_)
    · rw [hw1]; exact (Below.heap_alloc _ _ _ (by simp; omega)).trans e
    · have hk : k = 0 ∨ k = 1 ∨ k = 2 ∨ k = 3 := by omega
      rcases hk with rfl | rfl | rfl | rfl <;> simp [Ag.all, tot]
  have hx1 : w1.cell? ⟨S + 2, 0, none⟩ = some (.pointer (some ⟨A, 0, none⟩)) := by
    rw [hw1, hS]
    have := heap_alloc_new ((w.alloc (.cells #[.int .i64 (v 0), .int .i64 (v 1), .int .i64 (v 2), .int .i64 (v 3), .int .i64 (v 4), .int .i64 (v 5), .int .i64 (v 6), .int .i64 (v 7), .int .i64 (v 8), .int .i64 (v 9), .int .i64 (v 10), .int .i64 (v 11), .int .i64 (v 12), .int .i64 (v 13), .int .i64 (v 14), .int .i64 (v 15), .int .i64 (v 16), .slice X xn xc, .int .i64 (v 18), .int .i64 (v 19), .int .i64 (v 20)] 35)).alloc (.cells #[.int .i64 (v 11), .int .i64 (v 12), .int .i64 (v 13), .int .i64 (v 14)] 26)) (.cells #[.pointer (some ⟨A, 0, none⟩)] 23)
    simp only [World.size_alloc] at this
    exact cellb (i := 0) this rfl
  have HP1 := Lib.hid (hP.chg (Chg.of_below (S := fun _ => False) hb1) (fun _ h => h.elim))
  have HB1 := Lib.hid hb1
  have HZ1 := Lib.hid hz1
  have HM1 := Lib.hid hm1
  have HA1 := Lib.hid ha1
  have HX1 := Lib.hid hx1
  have hAT := hP.at_
  have hcap := hP.cap
  have HLEN := Lib.hid hP.len
  clear hb1 hz1 hm1 ha1 hx1 hP
  gi_wp2_with (refine ⟨trivial, ?_⟩; gi_at_call 27; refine (callsIn_wide.2 (running_any _ A)).mono ?_; rintro e w' ⟨rfl, rfl⟩)
  rw [← hw1]
  rw [← hS] at hAT ⊢
  have HSS := Lib.hid hS
  clear hw1 hS
  refine wpIn_over (gf := 37) (lb := #[.pointer (some ⟨S + 2, 0, none⟩)]) (n := 2) (by simp [Act.eval]) (enters_of Try.func37 (by kernel_rfl) rfl)
    (run_iter A (S + 2) rb L.n L.c L.RA (fun h => (hAT h).1) hcap)
    (MayI w w1 A rb L.n L.c L.RA s bps v)
    ?stable ?start ?reads ?sizes ?round ?done
  case stable =>
    rintro i W W' ⟨h1, h2, h3⟩ hc
    have hz1 := HZ1.out
    have hS := HSS.out
    refine ⟨h1.chg hc (fun k hk => by omega), ⟨hc.os.trans h2.os, hc.tape.trans h2.tape, hc.output.trans h2.output, Nat.le_trans h2.size hc.size, fun k hk hs => (hc.block k (by have := h2.size; omega) (by omega)).trans (h2.block k hk hs)⟩, (hc.block _ (ltb h3) (by omega)).trans h3⟩
  case start => exact ⟨HP1.out, Chg.refl _ _, by rw [← HSS.out]; exact HA1.out⟩
  case reads => rintro i W ⟨h1, h2, _⟩; have hS := HSS.out; exact ⟨h2.cell HX1.out (by simp; omega), h1.row⟩
  case sizes => rintro i W vs ⟨b, p, u', _, _, _, _, rfl⟩; rfl
  case round =>
    rintro i W ⟨h1, h2, h3⟩ hi hlW
    have hlen := HLEN.out
    obtain ⟨x, hx⟩ : ∃ x, bps[i]? = some x := ⟨bps[i]'(by omega), List.getElem?_eq_getElem (by omega)⟩
    obtain ⟨b, p⟩ := x
    have hpt := h1.prt i b p hx
    have hps : s.ps[i]? = some p := by rw [HBPS.out] at hx; exact (AgAt.zipAt hx).2
    clear hlen
    by_cases hh : p.how = 0
    · refine .inr ⟨_, ⟨b, p, s.until_, h1.ptr i b p hx, hpt.1, h1.unt, hh, rfl⟩, ?_⟩
      gi_wp2
      refine ⟨trivial, ?_⟩
      intro W2 hc2
      have hz1 := HZ1.out
      have hS := HSS.out
      have k1 := h1.chg hc2 (fun k hk => by omega)
      have k2 : Chg (fun k => k = w.heap.size + 1) w1 W2 := ⟨hc2.os.trans h2.os, hc2.tape.trans h2.tape, hc2.output.trans h2.output, Nat.le_trans h2.size hc2.size, fun k hk hs => (hc2.block k (by have := h2.size; omega) (by omega)).trans (h2.block k hk hs)⟩
      have k3 : VAt W2 (w.heap.size + 1) (s.all v i) := (hc2.block _ (ltb h3) (by omega)).trans h3
      rw [← hS] at k3
      have kp := (k1.prt i b p hx).1
      have f2 : W2.cell? ⟨b, 2, none⟩ = some (.int .i64 (p.d 0)) := cellb (i := 2) kp rfl
      have f3 : W2.cell? ⟨b, 3, none⟩ = some (.int .i64 (p.d 1)) := cellb (i := 3) kp rfl
      have f4 : W2.cell? ⟨b, 4, none⟩ = some (.int .i64 (p.d 2)) := cellb (i := 4) kp rfl
      have f5 : W2.cell? ⟨b, 5, none⟩ = some (.int .i64 (p.d 3)) := cellb (i := 5) kp rfl
      have hbd := all_bd HS.out hn HV.out i
      have hmem := HS.out p (List.mem_of_getElem? hps)
      have hdb : ∀ k, 0 ≤ p.d k ∧ p.d k ≤ 1073741824 := fun k => by
        unfold Pt.d
        split
        · exact hmem.1
        · split
          · exact hmem.2.1
          · split
            · exact hmem.2.2.1
            · exact hmem.2.2.2
      have hwrap : ∀ k, IntKind.i64.wrap (s.all v i k + p.d k) = s.all v i k + p.d k := fun k => IntWalk.i64_in _ (by have := hbd k; have := hdb k; omega)
      have hW2 : w1.heap.size + 1 < W2.heap.size := by have := hc2.size; omega
      have HW := Lib.hid hwrap
      have K1 := Lib.hid k1
      have K2 := Lib.hid k2
      have K3 := Lib.hid k3
      have NX := Lib.hid (all_next (v := v) hps hh)
      have hS2 : S + 1 < W2.heap.size := ltb k3
      clear h1 h2 h3 k1 k2 k3 kp hpt hps hx hbd hmem hdb hwrap hz1 hc2 hS
      obtain ⟨d, hd⟩ : ∃ x, x = p.d := ⟨_, rfl⟩
      obtain ⟨a, ha⟩ : ∃ x, x = s.all v i := ⟨_, rfl⟩
      rw [← hd] at f2 f3 f4 f5 HW NX
      rw [← ha] at HW NX K3
      clear hd ha hh
      gi_wp2
      gi_loopw [19] (fun vv wr => ∃ j : Nat, j ≤ 4 ∧ vv = .int .i64 j ∧ Hid (VAt wr (S + 1) (adds a d j)) ∧ Hid (Chg (fun k => k = S + 1) W2 wr)) (fun vv _ => 4 - (intOf vv).toNat)
      case atStart => exact ⟨0, by omega, rfl, Lib.hid (K3.out.congr (fun k _ => by simp [adds])), Lib.hid (Chg.refl _ _)⟩
      case round =>
        obtain ⟨j, hj, rfl, HV4, HC4⟩ := hrel
        by_cases hj4 : j < 4
        · have hj' : (j : Int) < 4 := by omega
          have hj0 : (0 : Int) ≤ (j : Int) := by omega
          have c0 : wr.cell? ⟨S + 1, j, none⟩ = some (.int .i64 (a j)) := by rw [HV4.out.cell hj4]; simp [adds]
          have cf : wr.frozen? ⟨S + 1, j, none⟩ = false := fzb HV4.out j
          have hw := HW.out j
          have HN4 := Lib.hid (HV4.out.set' hj4 (a j + d j) (adds a d (j + 1)) (fun k _ => by
            by_cases e : k = j
            · subst e; simp [adds]
            · by_cases e2 : k < j
              · simp [adds, e, e2, show k < j + 1 by omega]
              · simp [adds, e, e2, show ¬ k < j + 1 by omega]))
          have HC5 := Lib.hid (HC4.out.setCell (p := ⟨S + 1, j, none⟩) (.inr rfl) (.int .i64 (a j + d j)))
          have hidx := idx4 d j hj4
          clear HV4 HC4
          gi_wp2
          go_roundw
          case rel => exact ⟨j + 1, by omega, by go_num, HN4, HC5⟩
          case measure => simp [intOf]; omega
        · obtain rfl : j = 4 := by omega
          gi_wp2
          have hS := HSS.out
          refine ⟨⟨K1.out.chg HC4.out (fun k hk => by omega), K2.out.trans (HC4.out.mono (fun k _ e => by omega)), ?_⟩, fun k hk => HC4.out.block k (by omega) (by have := HZ1.out; omega)⟩
          rw [← hS]
          exact HV4.out.congr (fun k hk => NX.out k hk)
    · refine .inl ⟨⟨b, p, s.until_, h1.ptr i b p hx, hpt.1, h1.unt, hh⟩, h1, h2, by rw [all_stay hps hh]; exact h3⟩
  case done =>
    rintro W ⟨h1, h2, h3⟩ hK
    have hz1 := HZ1.out
    have hS := HSS.out
    have hS1 := h2.cell (p := ⟨S, 8, none⟩) (cellb (i := 8) HM1.out rfl) (by simp; omega)
    have hA1 := (H.out.below HB1.out).chg (h2.mono (fun k _ e => e)) (fun k e ho => by have := H.out.own_lt ho; omega)
    have hb9 := HB1.out.trans (h2.below (Nat.le_trans (by have := HB1.out.size; omega) (Nat.le_refl _)) (fun k hk e => by omega))
    gi_upto_region 9 with fail
    refine wpIn_wide.2 ?_
    have g7 : W.drew.cell? ⟨A, 7, none⟩ = some (.int .i64 s.tick) := cellb (i := 7) hA1.blk rfl
    have g10 : W.drew.cell? ⟨A, 10, none⟩ = some (.int .i64 s.until_) := cellb (i := 10) hA1.blk rfl
    have g9 : W.drew.cell? ⟨A, 9, none⟩ = some (.int .i64 s.since) := cellb (i := 9) hA1.blk rfl
    have g8 : W.drew.cell? ⟨A, 8, none⟩ = some (.int .i64 s.boot) := cellb (i := 8) hA1.blk rfl
    have g1 : W.drew.cell? ⟨A, 1, none⟩ = some (.int .i64 (s.whole 0)) := cellb (i := 1) hA1.blk rfl
    have g2 : W.drew.cell? ⟨A, 2, none⟩ = some (.int .i64 (s.whole 1)) := cellb (i := 2) hA1.blk rfl
    have g3 : W.drew.cell? ⟨A, 3, none⟩ = some (.int .i64 (s.whole 2)) := cellb (i := 3) hA1.blk rfl
    have g4 : W.drew.cell? ⟨A, 4, none⟩ = some (.int .i64 (s.whole 3)) := cellb (i := 4) hA1.blk rfl
    have gs : W.drew.cell? ⟨S, 8, none⟩ = some (.int .i64 (v 8)) := hS1
    have hall : L.n = s.ps.length := by rw [H.out.blen, H.out.plen]
    rw [hall] at h3
    have a0 : W.drew.cell? ⟨S + 1, 0, none⟩ = some (.int .i64 (s.all v s.ps.length 0)) := by rw [hS]; exact cellb (i := 0) h3 rfl
    have a1 : W.drew.cell? ⟨S + 1, 1, none⟩ = some (.int .i64 (s.all v s.ps.length 1)) := by rw [hS]; exact cellb (i := 1) h3 rfl
    have a2 : W.drew.cell? ⟨S + 1, 2, none⟩ = some (.int .i64 (s.all v s.ps.length 2)) := by rw [hS]; exact cellb (i := 2) h3 rfl
    have a3 : W.drew.cell? ⟨S + 1, 3, none⟩ = some (.int .i64 (s.all v s.ps.length 3)) := by rw [hS]; exact cellb (i := 3) h3 rfl
    have HMAY : Hid (s.may v = (decide (s.tick < s.until_) && decide (s.since < v 8) && decide (s.boot < v 8) && decide (s.tick ≤ v 8 + 8) && fitB (s.all v s.ps.length) s.whole)) := Lib.hid rfl
    have HB9 := Lib.hid hb9
    have HK : Hid (W.heap[w1.heap.size]? = some (.deferred (some []))) := Lib.hid hK
    have h8 : IntKind.i64.wrap (v 8 + 8) = v 8 + 8 := IntWalk.i64_in _ (by omega)
    have hlK := ltb hK
    have hle : w.heap.size ≤ w1.heap.size := HB1.out.size
    have hWs : w.heap.size ≤ W.heap.size := hb9.size
    obtain ⟨al, hal⟩ : ∃ x, x = s.all v s.ps.length := ⟨_, rfl⟩
    obtain ⟨wh, hwh⟩ : ∃ x, x = s.whole := ⟨_, rfl⟩
    rw [← hal] at a0 a1 a2 a3 HMAY
    rw [← hwh] at g1 g2 g3 g4 HMAY
    clear h1 h2 h3 hK hz1 hS hS1 hA1 hb9 hall hal hwh
    by_cases t0 : s.tick < s.until_
    · skip
      by_cases t1 : s.since < v 8
      · skip
        by_cases t2 : s.boot < v 8
        · skip
          by_cases t3 : s.tick ≤ v 8 + 8
          · skip
            refine wp_region_noPanic ?_
            refine wp_region_held_drew (S := fun w' => w'.cell? ⟨A, 7, none⟩ = some (.int .i64 s.tick) ∧ w'.cell? ⟨A, 10, none⟩ = some (.int .i64 s.until_) ∧ w'.cell? ⟨A, 9, none⟩ = some (.int .i64 s.since) ∧ w'.cell? ⟨A, 8, none⟩ = some (.int .i64 s.boot) ∧ w'.cell? ⟨A, 1, none⟩ = some (.int .i64 (wh 0)) ∧ w'.cell? ⟨A, 2, none⟩ = some (.int .i64 (wh 1)) ∧ w'.cell? ⟨A, 3, none⟩ = some (.int .i64 (wh 2)) ∧ w'.cell? ⟨A, 4, none⟩ = some (.int .i64 (wh 3)) ∧ w'.cell? ⟨S, 8, none⟩ = some (.int .i64 (v 8)) ∧ w'.cell? ⟨S + 1, 0, none⟩ = some (.int .i64 (al 0)) ∧ w'.cell? ⟨S + 1, 1, none⟩ = some (.int .i64 (al 1)) ∧ w'.cell? ⟨S + 1, 2, none⟩ = some (.int .i64 (al 2)) ∧ w'.cell? ⟨S + 1, 3, none⟩ = some (.int .i64 (al 3))) (by kernel_rfl) ?_ (fun hHeld => ?_)
            · try dsimp only
              (refine ⟨?_, ?_, ?_, ?_, ?_, ?_, ?_, ?_, ?_, ?_, ?_, ?_, ?_⟩ <;> (first | with_reducible assumption))
            refine tk 0 ?_
            try simp only [Act.put, p1, p2, p3]
            refine tk 1 ?_
            try simp only [Act.put, p1, p2, p3]
            refine tk 2 ?_
            try simp only [Act.put, p1, p2, p3]
            refine tk 3 ?_
            try simp only [Act.put, p1, p2, p3]
            refine tk 4 ?_
            try simp only [Act.put, p1, p2, p3]
            refine tk 5 ?_
            try simp only [Act.put, p1, p2, p3]
            refine tk 6 ?_
            try simp only [Act.put, p1, p2, p3]
            refine tk 7 ?_
            try simp only [Act.put, p1, p2, p3]
            refine tk 8 ?_
            try simp only [Act.put, p1, p2, p3]
            refine tk 9 ?_
            try simp only [Act.put, p1, p2, p3]
            refine tk 10 ?_
            try simp only [Act.put, p1, p2, p3]
            refine tk 11 ?_
            try simp only [Act.put, p1, p2, p3]
            refine tk 12 ?_
            try simp only [Act.put, p1, p2, p3]
            refine tk 13 ?_
            try simp only [Act.put, p1, p2, p3]
            refine tk 14 ?_
            try simp only [Act.put, p1, p2, p3]
            refine tk 15 ?_
            try simp only [Act.put, p1, p2, p3]
            refine tk 16 ?_
            try simp only [Act.put, p1, p2, p3]
            refine tk 17 ?_
            try simp only [Act.put, p1, p2, p3]
            refine tk 18 ?_
            try simp only [Act.put, p1, p2, p3]
            refine tk 19 ?_
            try simp only [Act.put, p1, p2, p3]
            refine tk 20 ?_
            try simp only [Act.put, p1, p2, p3]
            refine tk 21 ?_
            try simp only [Act.put, p1, p2, p3]
            refine tk 22 ?_
            try simp only [Act.put, p1, p2, p3]
            refine tk 23 ?_
            try simp only [Act.put, p1, p2, p3]
            refine tk 24 ?_
            try simp only [Act.put, p1, p2, p3]
            refine tk 25 ?_
            try simp only [Act.put, p1, p2, p3]
            refine tk 26 ?_
            try simp only [Act.put, p1, p2, p3]
            refine tk 27 ?_
            try simp only [Act.put, p1, p2, p3]
            refine tk 28 ?_
            try simp only [Act.put, p1, p2, p3]
            refine tk 29 ?_
            try simp only [Act.put, p1, p2, p3]
            refine tk 30 ?_
            try simp only [Act.put, p1, p2, p3]
            refine tk 31 ?_
            try simp only [Act.put, p1, p2, p3]
            refine tk 32 ?_
            try simp only [Act.put, p1, p2, p3]
            refine tk 33 ?_
            try simp only [Act.put, p1, p2, p3]
            refine tk 34 ?_
            try simp only [Act.put, p1, p2, p3]
            refine tk 35 ?_
            try simp only [Act.put, p1, p2, p3]
            refine tk 36 ?_
            try simp only [Act.put, p1, p2, p3]
            refine tk 37 ?_
            try simp only [Act.put, p1, p2, p3]
            refine tk 38 ?_
            try simp only [Act.put, p1, p2, p3]
            refine tk 39 ?_
            try simp only [Act.put, p1, p2, p3]
            refine tk 40 ?_
            try simp only [Act.put, p1, p2, p3]
            refine tk 41 ?_
            try simp only [Act.put, p1, p2, p3]
            refine tk 42 ?_
            try simp only [Act.put, p1, p2, p3]
            refine rd 43 fun K hK => ?_
            go_simp
            refine (fits_any al wh W.drew).mono ?_
            rintro e w9 ⟨rfl, hb⟩
            have HB10 := Lib.hid (HB9.out.trans ((Below.refl _ W).drew.mono hWs |>.trans (hb.mono hWs)))
            have HK10 : Hid (w9.heap[w1.heap.size]? = some (.deferred (some []))) := Lib.hid ((hb.block _ hlK).trans HK.out)
            have g7' : w9.cell? ⟨A, 7, none⟩ = some (.int .i64 s.tick) := (hb.cell (p := ⟨A, 7, none⟩) (World.block_lt_of_cell? _ _ g7)).trans g7
            have g10' : w9.cell? ⟨A, 10, none⟩ = some (.int .i64 s.until_) := (hb.cell (p := ⟨A, 10, none⟩) (World.block_lt_of_cell? _ _ g10)).trans g10
            have g9' : w9.cell? ⟨A, 9, none⟩ = some (.int .i64 s.since) := (hb.cell (p := ⟨A, 9, none⟩) (World.block_lt_of_cell? _ _ g9)).trans g9
            have g8' : w9.cell? ⟨A, 8, none⟩ = some (.int .i64 s.boot) := (hb.cell (p := ⟨A, 8, none⟩) (World.block_lt_of_cell? _ _ g8)).trans g8
            have g1' : w9.cell? ⟨A, 1, none⟩ = some (.int .i64 (wh 0)) := (hb.cell (p := ⟨A, 1, none⟩) (World.block_lt_of_cell? _ _ g1)).trans g1
            have g2' : w9.cell? ⟨A, 2, none⟩ = some (.int .i64 (wh 1)) := (hb.cell (p := ⟨A, 2, none⟩) (World.block_lt_of_cell? _ _ g2)).trans g2
            have g3' : w9.cell? ⟨A, 3, none⟩ = some (.int .i64 (wh 2)) := (hb.cell (p := ⟨A, 3, none⟩) (World.block_lt_of_cell? _ _ g3)).trans g3
            have g4' : w9.cell? ⟨A, 4, none⟩ = some (.int .i64 (wh 3)) := (hb.cell (p := ⟨A, 4, none⟩) (World.block_lt_of_cell? _ _ g4)).trans g4
            have gs' : w9.cell? ⟨S, 8, none⟩ = some (.int .i64 (v 8)) := (hb.cell (p := ⟨S, 8, none⟩) (World.block_lt_of_cell? _ _ gs)).trans gs
            have a0' : w9.cell? ⟨S + 1, 0, none⟩ = some (.int .i64 (al 0)) := (hb.cell (p := ⟨S + 1, 0, none⟩) (World.block_lt_of_cell? _ _ a0)).trans a0
            have a1' : w9.cell? ⟨S + 1, 1, none⟩ = some (.int .i64 (al 1)) := (hb.cell (p := ⟨S + 1, 1, none⟩) (World.block_lt_of_cell? _ _ a1)).trans a1
            have a2' : w9.cell? ⟨S + 1, 2, none⟩ = some (.int .i64 (al 2)) := (hb.cell (p := ⟨S + 1, 2, none⟩) (World.block_lt_of_cell? _ _ a2)).trans a2
            have a3' : w9.cell? ⟨S + 1, 3, none⟩ = some (.int .i64 (al 3)) := (hb.cell (p := ⟨S + 1, 3, none⟩) (World.block_lt_of_cell? _ _ a3)).trans a3
            clear g7 g10 g9 g8 g1 g2 g3 g4 gs a0 a1 a2 a3 hb
            refine hK.out _ _ ?_ (fun hHeld => ?_)
            · try dsimp only
              (refine ⟨?_, ?_, ?_, ?_, ?_, ?_, ?_, ?_, ?_, ?_, ?_, ?_, ?_⟩ <;> (first | with_reducible assumption))
            clear hK K
            try simp only [Act.put, p1, p2, p3]
            refine tk 44 ?_
            try simp only [Act.put, p1, p2, p3]
            refine tk 45 ?_
            try simp only [Act.put, p1, p2, p3]
            refine wpAnyH_done (by kernel_rfl) ?_ _
            refine NoPanic.normal ?_
            clear hHeld
            gi_wp2
            refine ⟨by simp, .inl ⟨_, _, rfl, run_takeDeferred HK10.out, ?_⟩⟩
            exact ⟨.bool (fitB al wh), by simp [results, Try.results40, go_sem], by rw [HMAY.out]; simp [t0, t1, t2, t3], (HB10.out).trans ((putObj_chg (B := w1.heap.size) (l := w1.heap.size) (.deferred none) (.inl rfl)).below (HB10.out.size) (fun k hk e => by omega))⟩
          · skip
            refine wp_region_noPanic ?_
            refine wp_region_held_drew (S := fun w' => w'.cell? ⟨A, 7, none⟩ = some (.int .i64 s.tick) ∧ w'.cell? ⟨A, 10, none⟩ = some (.int .i64 s.until_) ∧ w'.cell? ⟨A, 9, none⟩ = some (.int .i64 s.since) ∧ w'.cell? ⟨A, 8, none⟩ = some (.int .i64 s.boot) ∧ w'.cell? ⟨A, 1, none⟩ = some (.int .i64 (wh 0)) ∧ w'.cell? ⟨A, 2, none⟩ = some (.int .i64 (wh 1)) ∧ w'.cell? ⟨A, 3, none⟩ = some (.int .i64 (wh 2)) ∧ w'.cell? ⟨A, 4, none⟩ = some (.int .i64 (wh 3)) ∧ w'.cell? ⟨S, 8, none⟩ = some (.int .i64 (v 8)) ∧ w'.cell? ⟨S + 1, 0, none⟩ = some (.int .i64 (al 0)) ∧ w'.cell? ⟨S + 1, 1, none⟩ = some (.int .i64 (al 1)) ∧ w'.cell? ⟨S + 1, 2, none⟩ = some (.int .i64 (al 2)) ∧ w'.cell? ⟨S + 1, 3, none⟩ = some (.int .i64 (al 3))) (by kernel_rfl) ?_ (fun hHeld => ?_)
            · try dsimp only
              (refine ⟨?_, ?_, ?_, ?_, ?_, ?_, ?_, ?_, ?_, ?_, ?_, ?_, ?_⟩ <;> (first | with_reducible assumption))
            refine tk 0 ?_
            try simp only [Act.put, p1, p2, p3]
            refine tk 1 ?_
            try simp only [Act.put, p1, p2, p3]
            refine tk 2 ?_
            try simp only [Act.put, p1, p2, p3]
            refine tk 3 ?_
            try simp only [Act.put, p1, p2, p3]
            refine tk 4 ?_
            try simp only [Act.put, p1, p2, p3]
            refine tk 5 ?_
            try simp only [Act.put, p1, p2, p3]
            refine tk 6 ?_
            try simp only [Act.put, p1, p2, p3]
            refine tk 7 ?_
            try simp only [Act.put, p1, p2, p3]
            refine tk 8 ?_
            try simp only [Act.put, p1, p2, p3]
            refine tk 9 ?_
            try simp only [Act.put, p1, p2, p3]
            refine tk 10 ?_
            try simp only [Act.put, p1, p2, p3]
            refine tk 11 ?_
            try simp only [Act.put, p1, p2, p3]
            refine tk 12 ?_
            try simp only [Act.put, p1, p2, p3]
            refine tk 13 ?_
            try simp only [Act.put, p1, p2, p3]
            refine tk 14 ?_
            try simp only [Act.put, p1, p2, p3]
            refine tk 15 ?_
            try simp only [Act.put, p1, p2, p3]
            refine tk 16 ?_
            try simp only [Act.put, p1, p2, p3]
            refine tk 17 ?_
            try simp only [Act.put, p1, p2, p3]
            refine tk 18 ?_
            try simp only [Act.put, p1, p2, p3]
            refine tk 19 ?_
            try simp only [Act.put, p1, p2, p3]
            refine tk 20 ?_
            try simp only [Act.put, p1, p2, p3]
            refine tk 21 ?_
            try simp only [Act.put, p1, p2, p3]
            refine tk 22 ?_
            try simp only [Act.put, p1, p2, p3]
            refine tk 23 ?_
            try simp only [Act.put, p1, p2, p3]
            refine tk 24 ?_
            try simp only [Act.put, p1, p2, p3]
            refine tk 25 ?_
            try simp only [Act.put, p1, p2, p3]
            refine tk 26 ?_
            try simp only [Act.put, p1, p2, p3]
            refine tk 27 ?_
            try simp only [Act.put, p1, p2, p3]
            refine tk 28 ?_
            try simp only [Act.put, p1, p2, p3]
            refine tk 29 ?_
            try simp only [Act.put, p1, p2, p3]
            refine tk 30 ?_
            try simp only [Act.put, p1, p2, p3]
            refine tk 31 ?_
            try simp only [Act.put, p1, p2, p3]
            refine tk 32 ?_
            try simp only [Act.put, p1, p2, p3]
            refine tk 33 ?_
            try simp only [Act.put, p1, p2, p3]
            refine tk 34 ?_
            try simp only [Act.put, p1, p2, p3]
            refine tk 35 ?_
            try simp only [Act.put, p1, p2, p3]
            refine tk 36 ?_
            try simp only [Act.put, p1, p2, p3]
            refine tk 37 ?_
            try simp only [Act.put, p1, p2, p3]
            refine sk 38 ?_
            try simp only [Act.put, p1, p2, p3]
            refine sk 39 ?_
            try simp only [Act.put, p1, p2, p3]
            refine sk 40 ?_
            try simp only [Act.put, p1, p2, p3]
            refine sk 41 ?_
            try simp only [Act.put, p1, p2, p3]
            refine sk 42 ?_
            try simp only [Act.put, p1, p2, p3]
            refine sk 43 ?_
            try simp only [Act.put, p1, p2, p3]
            refine tk 44 ?_
            try simp only [Act.put, p1, p2, p3]
            refine tk 45 ?_
            try simp only [Act.put, p1, p2, p3]
            refine wpAnyH_done (by kernel_rfl) ?_ _
            refine NoPanic.normal ?_
            clear hHeld
            gi_wp2
            refine ⟨by simp, .inl ⟨_, _, rfl, run_takeDeferred HK.out, ?_⟩⟩
            have u : ¬ (s.tick ≤ v 8 + 8) := by omega
            exact ⟨.bool (false), by simp [results, Try.results40, go_sem], by rw [HMAY.out]; simp [u], (HB9.out.drew).trans ((putObj_chg (B := w1.heap.size) (l := w1.heap.size) (.deferred none) (.inl rfl)).below (HB9.out.size) (fun k hk e => by omega))⟩
        · skip
          refine wp_region_noPanic ?_
          refine wp_region_held_drew (S := fun w' => w'.cell? ⟨A, 7, none⟩ = some (.int .i64 s.tick) ∧ w'.cell? ⟨A, 10, none⟩ = some (.int .i64 s.until_) ∧ w'.cell? ⟨A, 9, none⟩ = some (.int .i64 s.since) ∧ w'.cell? ⟨A, 8, none⟩ = some (.int .i64 s.boot) ∧ w'.cell? ⟨A, 1, none⟩ = some (.int .i64 (wh 0)) ∧ w'.cell? ⟨A, 2, none⟩ = some (.int .i64 (wh 1)) ∧ w'.cell? ⟨A, 3, none⟩ = some (.int .i64 (wh 2)) ∧ w'.cell? ⟨A, 4, none⟩ = some (.int .i64 (wh 3)) ∧ w'.cell? ⟨S, 8, none⟩ = some (.int .i64 (v 8)) ∧ w'.cell? ⟨S + 1, 0, none⟩ = some (.int .i64 (al 0)) ∧ w'.cell? ⟨S + 1, 1, none⟩ = some (.int .i64 (al 1)) ∧ w'.cell? ⟨S + 1, 2, none⟩ = some (.int .i64 (al 2)) ∧ w'.cell? ⟨S + 1, 3, none⟩ = some (.int .i64 (al 3))) (by kernel_rfl) ?_ (fun hHeld => ?_)
          · try dsimp only
            (refine ⟨?_, ?_, ?_, ?_, ?_, ?_, ?_, ?_, ?_, ?_, ?_, ?_, ?_⟩ <;> (first | with_reducible assumption))
          refine tk 0 ?_
          try simp only [Act.put, p1, p2, p3]
          refine tk 1 ?_
          try simp only [Act.put, p1, p2, p3]
          refine tk 2 ?_
          try simp only [Act.put, p1, p2, p3]
          refine tk 3 ?_
          try simp only [Act.put, p1, p2, p3]
          refine tk 4 ?_
          try simp only [Act.put, p1, p2, p3]
          refine tk 5 ?_
          try simp only [Act.put, p1, p2, p3]
          refine tk 6 ?_
          try simp only [Act.put, p1, p2, p3]
          refine tk 7 ?_
          try simp only [Act.put, p1, p2, p3]
          refine tk 8 ?_
          try simp only [Act.put, p1, p2, p3]
          refine tk 9 ?_
          try simp only [Act.put, p1, p2, p3]
          refine tk 10 ?_
          try simp only [Act.put, p1, p2, p3]
          refine tk 11 ?_
          try simp only [Act.put, p1, p2, p3]
          refine tk 12 ?_
          try simp only [Act.put, p1, p2, p3]
          refine tk 13 ?_
          try simp only [Act.put, p1, p2, p3]
          refine tk 14 ?_
          try simp only [Act.put, p1, p2, p3]
          refine tk 15 ?_
          try simp only [Act.put, p1, p2, p3]
          refine tk 16 ?_
          try simp only [Act.put, p1, p2, p3]
          refine tk 17 ?_
          try simp only [Act.put, p1, p2, p3]
          refine tk 18 ?_
          try simp only [Act.put, p1, p2, p3]
          refine tk 19 ?_
          try simp only [Act.put, p1, p2, p3]
          refine tk 20 ?_
          try simp only [Act.put, p1, p2, p3]
          refine tk 21 ?_
          try simp only [Act.put, p1, p2, p3]
          refine tk 22 ?_
          try simp only [Act.put, p1, p2, p3]
          refine tk 23 ?_
          try simp only [Act.put, p1, p2, p3]
          refine tk 24 ?_
          try simp only [Act.put, p1, p2, p3]
          refine tk 25 ?_
          try simp only [Act.put, p1, p2, p3]
          refine tk 26 ?_
          try simp only [Act.put, p1, p2, p3]
          refine tk 27 ?_
          try simp only [Act.put, p1, p2, p3]
          refine sk 28 ?_
          try simp only [Act.put, p1, p2, p3]
          refine sk 29 ?_
          try simp only [Act.put, p1, p2, p3]
          refine sk 30 ?_
          try simp only [Act.put, p1, p2, p3]
          refine sk 31 ?_
          try simp only [Act.put, p1, p2, p3]
          refine sk 32 ?_
          try simp only [Act.put, p1, p2, p3]
          refine sk 33 ?_
          try simp only [Act.put, p1, p2, p3]
          refine sk 34 ?_
          try simp only [Act.put, p1, p2, p3]
          refine sk 35 ?_
          try simp only [Act.put, p1, p2, p3]
          refine tk 36 ?_
          try simp only [Act.put, p1, p2, p3]
          refine tk 37 ?_
          try simp only [Act.put, p1, p2, p3]
          refine sk 38 ?_
          try simp only [Act.put, p1, p2, p3]
          refine sk 39 ?_
          try simp only [Act.put, p1, p2, p3]
          refine sk 40 ?_
          try simp only [Act.put, p1, p2, p3]
          refine sk 41 ?_
          try simp only [Act.put, p1, p2, p3]
          refine sk 42 ?_
          try simp only [Act.put, p1, p2, p3]
          refine sk 43 ?_
          try simp only [Act.put, p1, p2, p3]
          refine tk 44 ?_
          try simp only [Act.put, p1, p2, p3]
          refine tk 45 ?_
          try simp only [Act.put, p1, p2, p3]
          refine wpAnyH_done (by kernel_rfl) ?_ _
          refine NoPanic.normal ?_
          clear hHeld
          gi_wp2
          refine ⟨by simp, .inl ⟨_, _, rfl, run_takeDeferred HK.out, ?_⟩⟩
          have u : ¬ (s.boot < v 8) := by omega
          exact ⟨.bool (false), by simp [results, Try.results40, go_sem], by rw [HMAY.out]; simp [u], (HB9.out.drew).trans ((putObj_chg (B := w1.heap.size) (l := w1.heap.size) (.deferred none) (.inl rfl)).below (HB9.out.size) (fun k hk e => by omega))⟩
      · skip
        refine wp_region_noPanic ?_
        refine wp_region_held_drew (S := fun w' => w'.cell? ⟨A, 7, none⟩ = some (.int .i64 s.tick) ∧ w'.cell? ⟨A, 10, none⟩ = some (.int .i64 s.until_) ∧ w'.cell? ⟨A, 9, none⟩ = some (.int .i64 s.since) ∧ w'.cell? ⟨A, 8, none⟩ = some (.int .i64 s.boot) ∧ w'.cell? ⟨A, 1, none⟩ = some (.int .i64 (wh 0)) ∧ w'.cell? ⟨A, 2, none⟩ = some (.int .i64 (wh 1)) ∧ w'.cell? ⟨A, 3, none⟩ = some (.int .i64 (wh 2)) ∧ w'.cell? ⟨A, 4, none⟩ = some (.int .i64 (wh 3)) ∧ w'.cell? ⟨S, 8, none⟩ = some (.int .i64 (v 8)) ∧ w'.cell? ⟨S + 1, 0, none⟩ = some (.int .i64 (al 0)) ∧ w'.cell? ⟨S + 1, 1, none⟩ = some (.int .i64 (al 1)) ∧ w'.cell? ⟨S + 1, 2, none⟩ = some (.int .i64 (al 2)) ∧ w'.cell? ⟨S + 1, 3, none⟩ = some (.int .i64 (al 3))) (by kernel_rfl) ?_ (fun hHeld => ?_)
        · try dsimp only
          (refine ⟨?_, ?_, ?_, ?_, ?_, ?_, ?_, ?_, ?_, ?_, ?_, ?_, ?_⟩ <;> (first | with_reducible assumption))
        refine tk 0 ?_
        try simp only [Act.put, p1, p2, p3]
        refine tk 1 ?_
        try simp only [Act.put, p1, p2, p3]
        refine tk 2 ?_
        try simp only [Act.put, p1, p2, p3]
        refine tk 3 ?_
        try simp only [Act.put, p1, p2, p3]
        refine tk 4 ?_
        try simp only [Act.put, p1, p2, p3]
        refine tk 5 ?_
        try simp only [Act.put, p1, p2, p3]
        refine tk 6 ?_
        try simp only [Act.put, p1, p2, p3]
        refine tk 7 ?_
        try simp only [Act.put, p1, p2, p3]
        refine tk 8 ?_
        try simp only [Act.put, p1, p2, p3]
        refine tk 9 ?_
        try simp only [Act.put, p1, p2, p3]
        refine tk 10 ?_
        try simp only [Act.put, p1, p2, p3]
        refine tk 11 ?_
        try simp only [Act.put, p1, p2, p3]
        refine tk 12 ?_
        try simp only [Act.put, p1, p2, p3]
        refine tk 13 ?_
        try simp only [Act.put, p1, p2, p3]
        refine tk 14 ?_
        try simp only [Act.put, p1, p2, p3]
        refine tk 15 ?_
        try simp only [Act.put, p1, p2, p3]
        refine tk 16 ?_
        try simp only [Act.put, p1, p2, p3]
        refine tk 17 ?_
        try simp only [Act.put, p1, p2, p3]
        refine tk 18 ?_
        try simp only [Act.put, p1, p2, p3]
        refine sk 19 ?_
        try simp only [Act.put, p1, p2, p3]
        refine sk 20 ?_
        try simp only [Act.put, p1, p2, p3]
        refine sk 21 ?_
        try simp only [Act.put, p1, p2, p3]
        refine sk 22 ?_
        try simp only [Act.put, p1, p2, p3]
        refine sk 23 ?_
        try simp only [Act.put, p1, p2, p3]
        refine sk 24 ?_
        try simp only [Act.put, p1, p2, p3]
        refine sk 25 ?_
        try simp only [Act.put, p1, p2, p3]
        refine tk 26 ?_
        try simp only [Act.put, p1, p2, p3]
        refine tk 27 ?_
        try simp only [Act.put, p1, p2, p3]
        refine sk 28 ?_
        try simp only [Act.put, p1, p2, p3]
        refine sk 29 ?_
        try simp only [Act.put, p1, p2, p3]
        refine sk 30 ?_
        try simp only [Act.put, p1, p2, p3]
        refine sk 31 ?_
        try simp only [Act.put, p1, p2, p3]
        refine sk 32 ?_
        try simp only [Act.put, p1, p2, p3]
        refine sk 33 ?_
        try simp only [Act.put, p1, p2, p3]
        refine sk 34 ?_
        try simp only [Act.put, p1, p2, p3]
        refine sk 35 ?_
        try simp only [Act.put, p1, p2, p3]
        refine tk 36 ?_
        try simp only [Act.put, p1, p2, p3]
        refine tk 37 ?_
        try simp only [Act.put, p1, p2, p3]
        refine sk 38 ?_
        try simp only [Act.put, p1, p2, p3]
        refine sk 39 ?_
        try simp only [Act.put, p1, p2, p3]
        refine sk 40 ?_
        try simp only [Act.put, p1, p2, p3]
        refine sk 41 ?_
        try simp only [Act.put, p1, p2, p3]
        refine sk 42 ?_
        try simp only [Act.put, p1, p2, p3]
        refine sk 43 ?_
        try simp only [Act.put, p1, p2, p3]
        refine tk 44 ?_
        try simp only [Act.put, p1, p2, p3]
        refine tk 45 ?_
        try simp only [Act.put, p1, p2, p3]
        refine wpAnyH_done (by kernel_rfl) ?_ _
        refine NoPanic.normal ?_
        clear hHeld
        gi_wp2
        refine ⟨by simp, .inl ⟨_, _, rfl, run_takeDeferred HK.out, ?_⟩⟩
        have u : ¬ (s.since < v 8) := by omega
        exact ⟨.bool (false), by simp [results, Try.results40, go_sem], by rw [HMAY.out]; simp [u], (HB9.out.drew).trans ((putObj_chg (B := w1.heap.size) (l := w1.heap.size) (.deferred none) (.inl rfl)).below (HB9.out.size) (fun k hk e => by omega))⟩
    · skip
      refine wp_region_noPanic ?_
      refine wp_region_held_drew (S := fun w' => w'.cell? ⟨A, 7, none⟩ = some (.int .i64 s.tick) ∧ w'.cell? ⟨A, 10, none⟩ = some (.int .i64 s.until_) ∧ w'.cell? ⟨A, 9, none⟩ = some (.int .i64 s.since) ∧ w'.cell? ⟨A, 8, none⟩ = some (.int .i64 s.boot) ∧ w'.cell? ⟨A, 1, none⟩ = some (.int .i64 (wh 0)) ∧ w'.cell? ⟨A, 2, none⟩ = some (.int .i64 (wh 1)) ∧ w'.cell? ⟨A, 3, none⟩ = some (.int .i64 (wh 2)) ∧ w'.cell? ⟨A, 4, none⟩ = some (.int .i64 (wh 3)) ∧ w'.cell? ⟨S, 8, none⟩ = some (.int .i64 (v 8)) ∧ w'.cell? ⟨S + 1, 0, none⟩ = some (.int .i64 (al 0)) ∧ w'.cell? ⟨S + 1, 1, none⟩ = some (.int .i64 (al 1)) ∧ w'.cell? ⟨S + 1, 2, none⟩ = some (.int .i64 (al 2)) ∧ w'.cell? ⟨S + 1, 3, none⟩ = some (.int .i64 (al 3))) (by kernel_rfl) ?_ (fun hHeld => ?_)
      · try dsimp only
        (refine ⟨?_, ?_, ?_, ?_, ?_, ?_, ?_, ?_, ?_, ?_, ?_, ?_, ?_⟩ <;> (first | with_reducible assumption))
      refine tk 0 ?_
      try simp only [Act.put, p1, p2, p3]
      refine tk 1 ?_
      try simp only [Act.put, p1, p2, p3]
      refine tk 2 ?_
      try simp only [Act.put, p1, p2, p3]
      refine tk 3 ?_
      try simp only [Act.put, p1, p2, p3]
      refine tk 4 ?_
      try simp only [Act.put, p1, p2, p3]
      refine tk 5 ?_
      try simp only [Act.put, p1, p2, p3]
      refine tk 6 ?_
      try simp only [Act.put, p1, p2, p3]
      refine tk 7 ?_
      try simp only [Act.put, p1, p2, p3]
      refine tk 8 ?_
      try simp only [Act.put, p1, p2, p3]
      refine tk 9 ?_
      try simp only [Act.put, p1, p2, p3]
      refine sk 10 ?_
      try simp only [Act.put, p1, p2, p3]
      refine sk 11 ?_
      try simp only [Act.put, p1, p2, p3]
      refine sk 12 ?_
      try simp only [Act.put, p1, p2, p3]
      refine sk 13 ?_
      try simp only [Act.put, p1, p2, p3]
      refine sk 14 ?_
      try simp only [Act.put, p1, p2, p3]
      refine sk 15 ?_
      try simp only [Act.put, p1, p2, p3]
      refine sk 16 ?_
      try simp only [Act.put, p1, p2, p3]
      refine tk 17 ?_
      try simp only [Act.put, p1, p2, p3]
      refine tk 18 ?_
      try simp only [Act.put, p1, p2, p3]
      refine sk 19 ?_
      try simp only [Act.put, p1, p2, p3]
      refine sk 20 ?_
      try simp only [Act.put, p1, p2, p3]
      refine sk 21 ?_
      try simp only [Act.put, p1, p2, p3]
      refine sk 22 ?_
      try simp only [Act.put, p1, p2, p3]
      refine sk 23 ?_
      try simp only [Act.put, p1, p2, p3]
      refine sk 24 ?_
      try simp only [Act.put, p1, p2, p3]
      refine sk 25 ?_
      try simp only [Act.put, p1, p2, p3]
      refine tk 26 ?_
      try simp only [Act.put, p1, p2, p3]
      refine tk 27 ?_
      try simp only [Act.put, p1, p2, p3]
      refine sk 28 ?_
      try simp only [Act.put, p1, p2, p3]
      refine sk 29 ?_
      try simp only [Act.put, p1, p2, p3]
      refine sk 30 ?_
      try simp only [Act.put, p1, p2, p3]
      refine sk 31 ?_
      try simp only [Act.put, p1, p2, p3]
      refine sk 32 ?_
      try simp only [Act.put, p1, p2, p3]
      refine sk 33 ?_
      try simp only [Act.put, p1, p2, p3]
      refine sk 34 ?_
      try simp only [Act.put, p1, p2, p3]
      refine sk 35 ?_
      try simp only [Act.put, p1, p2, p3]
      refine tk 36 ?_
      try simp only [Act.put, p1, p2, p3]
      refine tk 37 ?_
      try simp only [Act.put, p1, p2, p3]
      refine sk 38 ?_
      try simp only [Act.put, p1, p2, p3]
      refine sk 39 ?_
      try simp only [Act.put, p1, p2, p3]
      refine sk 40 ?_
      try simp only [Act.put, p1, p2, p3]
      refine sk 41 ?_
      try simp only [Act.put, p1, p2, p3]
      refine sk 42 ?_
      try simp only [Act.put, p1, p2, p3]
      refine sk 43 ?_
      try simp only [Act.put, p1, p2, p3]
      refine tk 44 ?_
      try simp only [Act.put, p1, p2, p3]
      refine tk 45 ?_
      try simp only [Act.put, p1, p2, p3]
      refine wpAnyH_done (by kernel_rfl) ?_ _
      refine NoPanic.normal ?_
      clear hHeld
      gi_wp2
      refine ⟨by simp, .inl ⟨_, _, rfl, run_takeDeferred HK.out, ?_⟩⟩
      have u : ¬ (s.tick < s.until_) := by omega
      exact ⟨.bool (false), by simp [results, Try.results40, go_sem], by rw [HMAY.out]; simp [u], (HB9.out.drew).trans ((putObj_chg (B := w1.heap.size) (l := w1.heap.size) (.deferred none) (.inl rfl)).below (HB9.out.size) (fun k hk e => by omega))⟩
end Go.Proofs.Ytoeamofemepgpaa
