/- Chapter 20: find. -/
import Derived.Test.YtoeamofemepgpaaKeys
namespace Go.Proofs.Ytoeamofemepgpaa
open Go.RowKit

/-- What find answers. -/
def Ag.ptr (s : Ag) (L : Lay) (j a : Int) : Value := match s.place j a with | none => .pointer none | some i => .pointer ((L.bs[i]?).map fun b => ⟨b, 0, none⟩)
set_option maxHeartbeats 2000000 in
theorem find_0 (w : World) {A : Nat} {L : Lay} {s : Ag} (h : AgAt w A L s) {M : Nat} (hM : L.M = some M) (v : Nat → Int) (X : Option Addr) (xn xc : Nat) (hpl : s.place (v 6) (v 7) = none) :
    Calls Try.prog 39 #[.pointer (some ⟨A, 0, none⟩), .agg #[.int .i64 (v 0), .int .i64 (v 1), .int .i64 (v 2), .int .i64 (v 3), .int .i64 (v 4), .int .i64 (v 5), .int .i64 (v 6), .int .i64 (v 7), .int .i64 (v 8), .int .i64 (v 9), .int .i64 (v 10), .int .i64 (v 11), .int .i64 (v 12), .int .i64 (v 13), .int .i64 (v 14), .int .i64 (v 15), .int .i64 (v 16), .slice X xn xc, .int .i64 (v 18), .int .i64 (v 19), .int .i64 (v 20)]] w fun e w' => e = .returned (.pointer none) ∧ Below w.heap.size w w' := by
  have c14 : w.cell? ⟨A, 14, none⟩ = some (.map (some M)) := by rw [← hM]; exact cellb (i := 14) h.blk rfl
  have hks := h.keys
  rw [hM] at hks
  have hMl : M < w.heap.size := h.own_lt (.inr (.inl hM))
  have hAl := h.lt
  unfold Ag.place at hpl
  obtain ⟨S, hS⟩ : ∃ x, x = w.heap.size := ⟨_, rfl⟩
  obtain ⟨w1, hw1⟩ : ∃ y, y = w.alloc (.cells #[.int .i64 (v 0), .int .i64 (v 1), .int .i64 (v 2), .int .i64 (v 3), .int .i64 (v 4), .int .i64 (v 5), .int .i64 (v 6), .int .i64 (v 7), .int .i64 (v 8), .int .i64 (v 9), .int .i64 (v 10), .int .i64 (v 11), .int .i64 (v 12), .int .i64 (v 13), .int .i64 (v 14), .int .i64 (v 15), .int .i64 (v 16), .slice X xn xc, .int .i64 (v 18), .int .i64 (v 19), .int .i64 (v 20)] 35) := ⟨_, rfl⟩
  have hb1 : Below w.heap.size w w1 := by rw [hw1]; exact (Below.refl _ w).alloc (Nat.le_refl _) _
  have hm1 : w1.heap[S]? = some (.cells #[.int .i64 (v 0), .int .i64 (v 1), .int .i64 (v 2), .int .i64 (v 3), .int .i64 (v 4), .int .i64 (v 5), .int .i64 (v 6), .int .i64 (v 7), .int .i64 (v 8), .int .i64 (v 9), .int .i64 (v 10), .int .i64 (v 11), .int .i64 (v 12), .int .i64 (v 13), .int .i64 (v 14), .int .i64 (v 15), .int .i64 (v 16), .slice X xn xc, .int .i64 (v 18), .int .i64 (v 19), .int .i64 (v 20)] 35 (0, 0)) := by rw [hw1, hS]; exact heap_alloc_new w _
  have f14 : w1.drew.cell? ⟨A, 14, none⟩ = some (.map (some M)) := (hb1.cell (p := ⟨A, 14, none⟩) hAl).trans c14
  skip
  have fk : KeysAt w1.drew (some M) (s.ps.map fun p => (p.job, p.att)) := by
    obtain ⟨es, clock, e1, e2⟩ := hks
    exact ⟨es, clock, (hb1.block M hMl).trans e1, e2⟩
  have f6 : w1.drew.cell? ⟨S, 6, none⟩ = some (.int .i64 (v 6)) := cellb (i := 6) hm1 rfl
  have f7 : w1.drew.cell? ⟨S, 7, none⟩ = some (.int .i64 (v 7)) := cellb (i := 7) hm1 rfl
  obtain ⟨ks, hks'⟩ : ∃ x, x = s.ps.map fun p => (p.job, p.att) := ⟨_, rfl⟩
  rw [← hks'] at fk hpl
  have HB1 : Hid (Below w.heap.size w w1.drew) := Lib.hid hb1.drew
  clear h hks hM c14 hm1 hb1 hks' hMl hAl
  go_enter Try.func39, Try.ntmps39
  go_upto_region 1 with fail
  rw [← hS, ← hw1]
  clear hS hw1
  refine wp_region_noPanic ?_
  refine wp_region_held_drew (S := fun w' => w'.cell? ⟨A, 14, none⟩ = some (.map (some M)) ∧ KeysAt w' (some M) ks ∧ w'.cell? ⟨S, 6, none⟩ = some (.int .i64 (v 6)) ∧ w'.cell? ⟨S, 7, none⟩ = some (.int .i64 (v 7))) (by kernel_rfl) ?_ (fun hHeld => ?_)
  · try dsimp only
    (refine ⟨?_, ?_, ?_, ?_⟩ <;> (first | with_reducible assumption))
  refine tk 0 ?_
  try simp only [Act.put, p1, p2, p3]
  refine tk 1 ?_
  try simp only [Act.put, p1, p2, p3]
  refine tk 2 ?_
  try simp only [Act.put, p1, p2, p3]
  refine tk 3 ?_
  try simp only [Act.put, p1, p2, p3]
  refine tk 4 ?_
  try simp only [Act.put, p1, p2, p3]
  refine tk 5 ?_
  try simp only [Act.put, p1, p2, p3]
  refine tk 6 ?_
  try simp only [Act.put, p1, p2, p3]
  refine tk 7 ?_
  try simp only [Act.put, p1, p2, p3]
  refine tk 8 ?_
  try simp only [Act.put, p1, p2, p3]
  refine tw 9 (v := ?_) ?_ ?_
  rotate_left
  · intro w hSw
    (try dsimp only at hSw)
    have hl := KeysAt.look hSw.2.1 (v 6) (v 7)
    rw [hpl] at hl
    dsimp only [kc] at hl
    go_simp
    try with_reducible rfl
  try simp only [Act.put, p1, p2, p3]
  refine tk 10 ?_
  try simp only [Act.put, p1, p2, p3]
  refine tk 11 ?_
  try simp only [Act.put, p1, p2, p3]
  refine tk 12 ?_
  try simp only [Act.put, p1, p2, p3]
  refine tk 13 ?_
  try simp only [Act.put, p1, p2, p3]
  refine tk 14 ?_
  try simp only [Act.put, p1, p2, p3]
  refine wpAnyH_done (by kernel_rfl) ?_ _
  refine NoPanic.normal ?_
  clear hHeld f14 fk f6 f7 hpl
  go_wp2_with fail
  go_ret
  exact ⟨rfl, HB1.out⟩
set_option maxHeartbeats 2000000 in
theorem find_1 (w : World) {A : Nat} {L : Lay} {s : Ag} (h : AgAt w A L s) {M : Nat} (hM : L.M = some M) (v : Nat → Int) (X : Option Addr) (xn xc : Nat) {i b : Nat} (hpl : s.place (v 6) (v 7) = some i) (hb : L.bs[i]? = some b) :
    Calls Try.prog 39 #[.pointer (some ⟨A, 0, none⟩), .agg #[.int .i64 (v 0), .int .i64 (v 1), .int .i64 (v 2), .int .i64 (v 3), .int .i64 (v 4), .int .i64 (v 5), .int .i64 (v 6), .int .i64 (v 7), .int .i64 (v 8), .int .i64 (v 9), .int .i64 (v 10), .int .i64 (v 11), .int .i64 (v 12), .int .i64 (v 13), .int .i64 (v 14), .int .i64 (v 15), .int .i64 (v 16), .slice X xn xc, .int .i64 (v 18), .int .i64 (v 19), .int .i64 (v 20)]] w fun e w' => e = .returned (.pointer (some ⟨b, 0, none⟩)) ∧ Below w.heap.size w w' := by
  have c14 : w.cell? ⟨A, 14, none⟩ = some (.map (some M)) := by rw [← hM]; exact cellb (i := 14) h.blk rfl
  have hks := h.keys
  rw [hM] at hks
  have hMl : M < w.heap.size := h.own_lt (.inr (.inl hM))
  have hAl := h.lt
  obtain ⟨rb, hrb⟩ := h.rb
  have c15 : w.cell? ⟨A, 15, none⟩ = some (.slice L.RA L.n L.c) := cellb (i := 15) h.blk rfl
  have hin : i < L.n := by rw [h.blen]; exact (List.getElem?_eq_some_iff.1 hb).1
  have hcr : ∃ rb, L.RA = some ⟨rb, 0, none⟩ ∧ w.cell? ⟨rb, i, none⟩ = some (.pointer (some ⟨b, 0, none⟩)) ∧ rb < w.heap.size := by
    rcases h.row.2 with ⟨hv, h3⟩ | ⟨g, cap, cur, hv, _, hg, _⟩
    · omega
    · injection hv with e1
      refine ⟨g, e1, ?_, ltb hg⟩
      have hcell := h.row.cells (g := g) (by rw [e1]; rfl) i (.pointer (some ⟨b, 0, none⟩)) (by simp [hb])
      rwa [Addr.add_lit, Nat.zero_add] at hcell
  obtain ⟨rb', hRA, hcell, hrl⟩ := hcr
  rw [hRA] at c15
  unfold Ag.place at hpl
  clear hrb rb hb
  obtain ⟨S, hS⟩ : ∃ x, x = w.heap.size := ⟨_, rfl⟩
  obtain ⟨w1, hw1⟩ : ∃ y, y = w.alloc (.cells #[.int .i64 (v 0), .int .i64 (v 1), .int .i64 (v 2), .int .i64 (v 3), .int .i64 (v 4), .int .i64 (v 5), .int .i64 (v 6), .int .i64 (v 7), .int .i64 (v 8), .int .i64 (v 9), .int .i64 (v 10), .int .i64 (v 11), .int .i64 (v 12), .int .i64 (v 13), .int .i64 (v 14), .int .i64 (v 15), .int .i64 (v 16), .slice X xn xc, .int .i64 (v 18), .int .i64 (v 19), .int .i64 (v 20)] 35) := ⟨_, rfl⟩
  have hb1 : Below w.heap.size w w1 := by rw [hw1]; exact (Below.refl _ w).alloc (Nat.le_refl _) _
  have hm1 : w1.heap[S]? = some (.cells #[.int .i64 (v 0), .int .i64 (v 1), .int .i64 (v 2), .int .i64 (v 3), .int .i64 (v 4), .int .i64 (v 5), .int .i64 (v 6), .int .i64 (v 7), .int .i64 (v 8), .int .i64 (v 9), .int .i64 (v 10), .int .i64 (v 11), .int .i64 (v 12), .int .i64 (v 13), .int .i64 (v 14), .int .i64 (v 15), .int .i64 (v 16), .slice X xn xc, .int .i64 (v 18), .int .i64 (v 19), .int .i64 (v 20)] 35 (0, 0)) := by rw [hw1, hS]; exact heap_alloc_new w _
  have f14 : w1.drew.cell? ⟨A, 14, none⟩ = some (.map (some M)) := (hb1.cell (p := ⟨A, 14, none⟩) hAl).trans c14
  have f15 : w1.drew.cell? ⟨A, 15, none⟩ = some (.slice (some ⟨rb', 0, none⟩) L.n L.c) := (hb1.cell (p := ⟨A, 15, none⟩) hAl).trans c15
  have fr : w1.drew.cell? ⟨rb', i, none⟩ = some (.pointer (some ⟨b, 0, none⟩)) := (hb1.cell (p := ⟨rb', i, none⟩) hrl).trans hcell
  clear c15 hcell hrl hRA
  have fk : KeysAt w1.drew (some M) (s.ps.map fun p => (p.job, p.att)) := by
    obtain ⟨es, clock, e1, e2⟩ := hks
    exact ⟨es, clock, (hb1.block M hMl).trans e1, e2⟩
  have f6 : w1.drew.cell? ⟨S, 6, none⟩ = some (.int .i64 (v 6)) := cellb (i := 6) hm1 rfl
  have f7 : w1.drew.cell? ⟨S, 7, none⟩ = some (.int .i64 (v 7)) := cellb (i := 7) hm1 rfl
  obtain ⟨ks, hks'⟩ : ∃ x, x = s.ps.map fun p => (p.job, p.att) := ⟨_, rfl⟩
  rw [← hks'] at fk hpl
  have HB1 : Hid (Below w.heap.size w w1.drew) := Lib.hid hb1.drew
  clear h hks hM c14 hm1 hb1 hks' hMl hAl
  go_enter Try.func39, Try.ntmps39
  go_upto_region 1 with fail
  rw [← hS, ← hw1]
  clear hS hw1
  refine wp_region_noPanic ?_
  refine wp_region_held_drew (S := fun w' => w'.cell? ⟨A, 14, none⟩ = some (.map (some M)) ∧ KeysAt w' (some M) ks ∧ w'.cell? ⟨S, 6, none⟩ = some (.int .i64 (v 6)) ∧ w'.cell? ⟨S, 7, none⟩ = some (.int .i64 (v 7))) (by kernel_rfl) ?_ (fun hHeld => ?_)
  · try dsimp only
    (refine ⟨?_, ?_, ?_, ?_⟩ <;> (first | with_reducible assumption))
  refine tk 0 ?_
  try simp only [Act.put, p1, p2, p3]
  refine tk 1 ?_
  try simp only [Act.put, p1, p2, p3]
  refine tk 2 ?_
  try simp only [Act.put, p1, p2, p3]
  refine tk 3 ?_
  try simp only [Act.put, p1, p2, p3]
  refine tk 4 ?_
  try simp only [Act.put, p1, p2, p3]
  refine tk 5 ?_
  try simp only [Act.put, p1, p2, p3]
  refine tk 6 ?_
  try simp only [Act.put, p1, p2, p3]
  refine tk 7 ?_
  try simp only [Act.put, p1, p2, p3]
  refine tk 8 ?_
  try simp only [Act.put, p1, p2, p3]
  refine tw 9 (v := ?_) ?_ ?_
  rotate_left
  · intro w hSw
    (try dsimp only at hSw)
    have hl := KeysAt.look hSw.2.1 (v 6) (v 7)
    rw [hpl] at hl
    dsimp only [kc] at hl
    go_simp
    try with_reducible rfl
  try simp only [Act.put, p1, p2, p3]
  refine tk 10 ?_
  try simp only [Act.put, p1, p2, p3]
  refine tk 11 ?_
  try simp only [Act.put, p1, p2, p3]
  refine tk 12 ?_
  try simp only [Act.put, p1, p2, p3]
  refine tk 13 ?_
  try simp only [Act.put, p1, p2, p3]
  refine tk 14 ?_
  try simp only [Act.put, p1, p2, p3]
  refine wpAnyH_done (by kernel_rfl) ?_ _
  refine NoPanic.normal ?_
  clear hHeld f14 fk f6 f7 hpl
  have hi0 : (0 : Int) ≤ (i : Int) := by omega
  have hi1 : (i : Int) < (L.n : Int) := by omega
  go_wp2_with fail
  go_ret
  exact ⟨rfl, HB1.out⟩
end Go.Proofs.Ytoeamofemepgpaa
