/- A pair of a client and its servers: the last that was done. -/
import Derived.Test.YtlcbpodjmafoeaaOnce0
import Derived.Test.YtlcbpodjmafoeaaChT
import Derived.Test.YtlcbpodjmafoeaaDone19
import Derived.BigQuiet
namespace Go.Proofs.Ytlcbpodjmafoeaa
open Go.RowKit

abbrev ints (l : List Int) : List Value := l.map (Value.int .i64)
theorem rem_nat (a n : Nat) : (a : Int).tmod (n : Int) = ((a % n : Nat) : Int) := by
  rw [Int.tmod_eq_emod_of_nonneg (by omega)]; simp
set_option maxRecDepth 100000 in
theorem last_any (P : Nat) (id ep t0 t1 t2 : Int) (gc gs H wn wc bn bc hn : Nat) (wA bA : Option Addr) (bs : Nat) (book : List Int) (w : World) (hP : w.heap[P]? = some (.cells #[.int .i64 id, .pointer (some ⟨gc, 0, none⟩), .pointer (some ⟨gs, 0, none⟩), .int .i64 ep, .slice wA wn wc, .slice bA bn bc, .int .i64 t0, .int .i64 t1, .int .i64 t2, .slice ((some ⟨H, 0, none⟩)) hn hn] 54 (0, 0))) (hb : w.ownsRow bs 3 1 (.slice bA bn bc) bn (ints book)) (hn : bn = book.length) :
    Calls Try.prog 43 #[.pointer (some ⟨P, 0, none⟩)] w fun e w' => e = .returned (.int .i64 (lastB book)) ∧ Below w.heap.size w w' := by
  have c5 : w.cell? ⟨P, 5, none⟩ = some (.slice bA bn bc) := cellb (i := 5) hP rfl
  rcases hb.2 with ⟨he, h0⟩ | ⟨g, cap, cur, he, hg, hcur, hnc, hcm, hsz, htk⟩
  · injection he with e1 e2 e3
    subst e1 e2 e3
    have hl : lastB book = 0 := by unfold lastB; rw [← hn]; rfl
    rw [hl]
    clear hP hb hn hl
    go_enter Try.func43, Try.ntmps43
    go_wp2_with fail
    go_ret
    exact ⟨rfl, Below.refl _ _⟩
  · injection he with e1 e2 e3
    subst e1 e3
    by_cases h0 : bn = 0
    · have hl : lastB book = 0 := by unfold lastB; rw [← hn, h0]; rfl
      rw [hl]
      subst h0
      clear hP hb hn hl
      go_enter Try.func43, Try.ntmps43
      go_wp2_with fail
      go_ret
      exact ⟨rfl, Below.refl _ _⟩
    · have hl : lastB book = book.getD (bn - 1) 0 := by unfold lastB; rw [← hn, if_neg h0]
      have hx : w.cell? ⟨g, bn - 1, none⟩ = some (.int .i64 (lastB book)) := by
        have hlt : bn - 1 < book.length := by omega
        refine cellb hcur ?_
        have h1 : (cur.toList.take (bn * 1))[bn - 1]? = some (.int .i64 (lastB book)) := by
          rw [htk, hl]; simp [List.getD, hlt]
        rw [List.getElem?_take] at h1
        split at h1
        · simpa using h1
        · cases h1
      obtain ⟨k, hk⟩ : ∃ k, k = bn - 1 := ⟨_, rfl⟩
      rw [← hk] at hx
      have q1 : ¬ (bn : Int) = 0 := by omega
      have q2 : (0 : Int) ≤ (k : Int) := by omega
      have q3 : (k : Int) < (bn : Int) := by omega
      have q6 : IntKind.i64.wrap ((bn : Int) - 1) = (k : Int) := by rw [show (bn : Int) - 1 = (k : Int) by omega]; exact IntWalk.i64_in _ (by unfold maxLen at hcm; omega)
      have HX := Lib.hid hx
      clear hP hb hn hl hx hcur htk hk
      generalize lastB book = x at HX ⊢
      go_enter Try.func43, Try.ntmps43
      go_upto_region 3 with (fail)
      have hx := HX.out
      go_quiet (fail)
      go_wp2_with fail
      go_ret
      exact ⟨rfl, below_dn (Below.refl _ _)⟩
structure Px where
  gc : Nat
  gs : Nat
  H : Nat
  M : Nat
  nn : Nat
  wA : Option Addr
  wc : Nat
  bA : Option Addr
  bc : Nat
  cA : Option Addr
  cc : Nat
  t1 : Int
  t2 : Int
def mgc (m : Mg) : List Value := [.int .i64 (m.v 0), .int .i64 (m.v 1), .int .i64 (m.v 2), .int .i64 (m.v 3), .int .i64 (m.v 4), .int .i64 (m.v 5), .int .i64 (m.v 6), .int .i64 (m.v 7), .int .i64 (m.v 8), .int .i64 (m.v 9), .int .i64 (m.v 10), .int .i64 (m.v 11), .int .i64 (m.v 12), .int .i64 (m.v 13), .int .i64 (m.v 14), .int .i64 (m.v 15), .int .i64 (m.v 16), .slice m.A m.n m.c, .int .i64 (m.v 18), .int .i64 (m.v 19), .int .i64 (m.v 20)]
def mgs (l : List Mg) : List Value := l.flatMap mgc
theorem mgs_append (a b : List Mg) : mgs (a ++ b) = mgs a ++ mgs b := by simp [mgs]
theorem mgs_length (l : List Mg) : (mgs l).length = l.length * 21 := by
  induction l with
  | nil => rfl
  | cons x l ih => show (mgc x ++ mgs l).length = _; rw [List.length_append, ih]; simp [mgc]; omega
/-- The pair lies at P; what it holds is what p says. -/
structure PAt (lo : Nat) (id : Int) (w : World) (P : Nat) (x : Px) (f : Int → Kp) (p : Pst) : Prop where
  blk : w.heap[P]? = some (.cells #[.int .i64 id, .pointer (some ⟨x.gc, 0, none⟩), .pointer (some ⟨x.gs, 0, none⟩), .int .i64 p.ep, .slice x.wA p.way.length x.wc, .slice x.bA p.book.length x.bc, .int .i64 p.told, .int .i64 x.t1, .int .i64 x.t2, .slice ((some ⟨x.H, 0, none⟩)) p.heard.length p.heard.length] 54 (0, 0))
  cl : CAt w x.gc p.s x.cA x.cc
  sv : SAt w x.gs p.ep x.M x.nn f
  way : w.ownsRow (x.H + 1) 36 21 (.slice x.wA p.way.length x.wc) p.way.length (mgs p.way)
  book : w.ownsRow (x.H + 1) 3 1 (.slice x.bA p.book.length x.bc) p.book.length (ints p.book)
  hrd : w.heap[x.H]? = some (.cells (ints p.heard).toArray 3 (0, 0))
  kf : p.k = f id
  lc : lo ≤ x.gc
  lP : lo ≤ P
  lH : lo ≤ x.H
  lM : lo ≤ x.M
theorem Ch.cat {row : Option Nat} {τ : Nat} {w w' : World} {g c : Nat} {s : Ct} {A : Option Addr} (h : Ch row τ w w') (hc : CAt w g s A c) (h1 : τ ≠ 91) (h2 : τ ≠ 6) : CAt w' g s A c :=
  ⟨h.blk hc.blk (by show (90 + 1 : Nat) ≠ τ; omega), h.own hc.own (by show (5 + 1 : Nat) ≠ τ; omega)⟩
theorem Ch.sat {row : Option Nat} {τ : Nat} {w w' : World} {g : Nat} {ep : Int} {M n : Nat} {f : Int → Kp} (h : Ch row τ w w') (hs : SAt w g ep M n f) (h1 : τ ≠ 82) (h2 : τ ≠ 0) : SAt w' g ep M n f := by
  obtain ⟨D, hm, h3⟩ := hs.map
  have hm0 := hm
  obtain ⟨es, clock, hb, _⟩ := hm0
  exact ⟨h.blk hs.blk (by show (81 + 1 : Nat) ≠ τ; omega), D, hm.kept h.grown (h.ne hb (by show (0 : Nat) ≠ τ; omega)), h3⟩
/-- What the client hears. -/
def HearSum (s : Ct) (v : Nat → Int) (k : Bool) (s' : Ct) (a : Int) : Prop :=
  (k = true → s.asks = true ∧ v 0 = 8 ∧ v 16 = s.seq ∧ v 1 = s.epoch ∧ v 18 ≠ 190 ∧ a = v 18 ∧ s' = { s with asks := false } ∧ 1 ≤ v 16) ∧
  (k = false → s' = s ∨ (s' = { s with epoch := v 1, sent := false } ∧ s.epoch < v 1 ∧ v 0 = 8))
def HearAll (g : Nat) (s : Ct) (A : Option Addr) (c : Nat) (v : Nat → Int) (w : World) (e : Ending) (w' : World) : Prop :=
  ∃ (k : Bool) (s' : Ct) (a b d : Int), e = .returned (.tuple #[.agg #[.int .i64 a, .int .i64 b, .int .i64 d], .bool k]) ∧ HearSum s v k s' a ∧ CAt w' g s' A c ∧ Chg (fun k => k = g) w w'
set_option maxHeartbeats 2000000 in
theorem hear_any (g : Nat) (s : Ct) (A : Option Addr) (c : Nat) (v : Nat → Int) (B : Option Addr) (n cb : Nat) (w : World) (h : CAt w g s A c) :
    Calls Try.prog 21 #[.pointer (some ⟨g, 0, none⟩), .agg #[.int .i64 (v 0), .int .i64 (v 1), .int .i64 (v 2), .int .i64 (v 3), .int .i64 (v 4), .int .i64 (v 5), .int .i64 (v 6), .int .i64 (v 7), .int .i64 (v 8), .int .i64 (v 9), .int .i64 (v 10), .int .i64 (v 11), .int .i64 (v 12), .int .i64 (v 13), .int .i64 (v 14), .int .i64 (v 15), .int .i64 (v 16), .slice B n cb, .int .i64 (v 18), .int .i64 (v 19), .int .i64 (v 20)]] w fun e w' => HearAll g s A c v w e w' := by
  by_cases hd : s.asks = true ∧ v 0 = 8 ∧ v 15 = s.id ∧ v 16 = s.seq
  · refine (hear_asked g s A c v B n cb w h hd).mono ?_
    rintro e w' ⟨b, hb, he, hc, hg⟩
    refine ⟨hearK s v b, hearD s v b, _, _, _, he, ⟨fun hk => ?_, fun hk => ?_⟩, hc, hg⟩
    · have hbt : b = true := by unfold hearK at hk; cases b; · simp at hk
                                · rfl
      have hok := hb.1 hbt
      unfold hearK at hk
      simp only [hbt, Bool.true_and, Bool.and_eq_true, Bool.not_eq_true', beq_eq_false_iff_ne, ne_eq, beq_iff_eq] at hk
      refine ⟨hd.1, hd.2.1, hd.2.2.2, hk.2, hk.1, ?_, ?_, ?_⟩
      · rw [if_pos (by unfold hearK; simp [hbt, hk])]
      · unfold hearD; simp [hbt, hk]
      · have := hok.2.1 ⟨16, 1, 1099511627776⟩ (by simp)
        exact this.1
    · unfold hearD
      cases b
      · exact .inl (by simp)
      · unfold hearK at hk
        simp only [Bool.true_and] at hk
        by_cases h1 : v 18 = 190
        · by_cases h2 : s.epoch < v 1
          · exact .inr ⟨by simp [h1, h2], h2, hd.2.1⟩
          · exact .inl (by simp [h1, h2])
        · by_cases h2 : v 1 = s.epoch
          · simp [h1, h2] at hk
          · exact .inl (by simp [h1, h2])
  · refine (hear_deaf g s A c v B n cb w h ?_).mono ?_
    · by_cases h1 : s.asks = true
      · by_cases h2 : v 0 = 8
        · by_cases h3 : v 15 = s.id
          · exact .inr (.inr (.inr (fun h4 => hd ⟨h1, h2, h3, h4⟩)))
          · exact .inr (.inr (.inl h3))
        · exact .inr (.inl h2)
      · exact .inl (by simpa using h1)
    · rintro e w' ⟨rfl, hb⟩
      exact ⟨false, s, 0, 0, 0, rfl, ⟨fun h => (by cases h), fun _ => .inl rfl⟩, h.below hb, Chg.of_below hb⟩
end Go.Proofs.Ytlcbpodjmafoeaa
