/- Chapter 20: how long a job takes. -/
import Derived.Test.YtoeamofemepgpaaPut
namespace Go.Proofs.Ytoeamofemepgpaa
open Go.RowKit

/-- What a job takes. -/
def Ag.takes (s : Ag) (job : Int) : Int := if s.work.length = 0 then 1 else min (max (s.work.getD ((job - 1).toNat % s.work.length) 0) 1) 2000
theorem Ag.takes_le (s : Ag) (job : Int) : 1 ≤ s.takes job ∧ s.takes job ≤ 2000 := by
  unfold Ag.takes
  split <;> omega
theorem takes_nil (w : World) {A : Nat} {L : Lay} {s : Ag} (h : AgAt w A L s) (job : Int) (h0 : s.work.length = 0) :
    Calls Try.prog 41 #[.pointer (some ⟨A, 0, none⟩), .int .i64 job] w fun e w' => e = .returned (.int .i64 (s.takes job)) ∧ w = w' := by
  have e : s.takes job = 1 := by unfold Ag.takes; rw [if_pos h0]
  have hn : L.nw = 0 := by rw [h.wlen, h0]
  have c5 : w.cell? ⟨A, 5, none⟩ = some (.slice L.WA 0 L.cw) := by rw [← hn]; exact cellb (i := 5) h.blk rfl
  rw [e]
  clear h e h0 hn
  go_enter Try.func41, Try.ntmps41
  go_wp2_with fail
  go_ret
  exact ⟨rfl, rfl⟩
set_option maxHeartbeats 2000000 in
theorem takes_some (w : World) {A : Nat} {L : Lay} {s : Ag} (h : AgAt w A L s) (job : Int) (h0 : ¬ s.work.length = 0) (hj : 1 ≤ job) (hj2 : job ≤ 1000) (hn : s.work.length ≤ 1000000) :
    Calls Try.prog 41 #[.pointer (some ⟨A, 0, none⟩), .int .i64 job] w fun e w' => e = .returned (.int .i64 (s.takes job)) ∧ w.drew = w' := by
  obtain ⟨i, hi⟩ : ∃ x, x = (job - 1).toNat % s.work.length := ⟨_, rfl⟩
  have hil : i < s.work.length := by rw [hi]; exact Nat.mod_lt _ (by omega)
  obtain ⟨t, ht⟩ : ∃ x, x = s.work.getD i 0 := ⟨_, rfl⟩
  have htg : s.work[i]? = some t := by rw [ht, List.getD_eq_getElem?_getD, List.getElem?_eq_getElem hil]; rfl
  have HR : Hid (s.takes job = min (max t 1) 2000) := Lib.hid (by unfold Ag.takes; rw [if_neg h0, ← hi, ← ht])
  have hw : ∃ wb, L.WA = some ⟨wb, 0, none⟩ ∧ w.cell? ⟨wb, i, none⟩ = some (.int .i64 t) := by
    rcases h.wrow.2 with ⟨hv, h3⟩ | ⟨g, cap, cur, hv, _, hg, _⟩
    · rw [h.wlen] at h3; omega
    · injection hv with e1
      refine ⟨g, e1, ?_⟩
      have hcell := h.wrow.cells (g := g) (by rw [e1]; rfl) i (.int .i64 t) (by simp [htg])
      rwa [Addr.add_lit, Nat.zero_add] at hcell
  obtain ⟨wb, hWA, hcell⟩ := hw
  obtain ⟨n, hnn⟩ : ∃ x, x = s.work.length := ⟨_, rfl⟩
  have hmod : Int.tmod (job - 1) (n : Int) = (i : Int) := by
    rw [hi, hnn, Int.tmod_eq_emod_of_nonneg (by omega)]
    have : ((job - 1).toNat : Int) = job - 1 := by omega
    rw [← this]; simp
  have hw5 := h.wlen
  have c5 : w.cell? ⟨A, 5, none⟩ = some (.slice (some ⟨wb, 0, none⟩) n L.cw) := by rw [hnn, ← hw5, ← hWA]; exact cellb (i := 5) h.blk rfl
  rw [← hnn] at h0 hn hil
  have hn0 : ¬ (n : Int) = 0 := by omega
  have hi0 : (0 : Int) ≤ (i : Int) := by omega
  have hi1 : (i : Int) < (n : Int) := by omega
  have hwr : IntKind.i64.wrap (job - 1) = job - 1 := by rw [IntKind.wrap_i64]; omega
  have HM := Lib.hid hmod
  rw [HR.out]
  clear h hi ht htg hWA hw5 hnn HR hmod
  go_enter Try.func41, Try.ntmps41
  go_upto_region 3 with fail
  have f5 : w.drew.cell? ⟨A, 5, none⟩ = some (.slice (some ⟨wb, 0, none⟩) n L.cw) := c5
  have fw : w.drew.cell? ⟨wb, i, none⟩ = some (.int .i64 t) := hcell
  clear c5 hcell
  refine wp_region_noPanic ?_
  refine wp_region_held_drew (S := fun w' => w'.cell? ⟨A, 5, none⟩ = some (.slice (some ⟨wb, 0, none⟩) n L.cw) ∧ w'.cell? ⟨wb, i, none⟩ = some (.int .i64 t)) (by kernel_rfl) ?_ (fun hHeld => ?_)
  · try dsimp only
    (refine ⟨?_, ?_⟩ <;> (first | with_reducible assumption))
  refine tk 0 ?_
  try simp only [Act.put, p1, p2, p3]
  refine tk 1 ?_
  try simp only [Act.put, p1, p2, p3]
  refine tk 2 ?_
  try simp only [Act.put, p1, p2, p3]
  refine tk 3 ?_
  try simp only [Act.put, p1, p2, p3]
  refine tk 4 ?_
  try simp only [Act.put, p1, p2, p3]
  refine tk 5 ?_
  try simp only [Act.put, p1, p2, p3]
  refine tk 6 ?_
  try simp only [Act.put, p1, p2, p3]
  refine tk 7 ?_
  try simp only [Act.put, p1, p2, p3]
  refine tk 8 ?_
  try simp only [Act.put, p1, p2, p3]
  refine tk 9 ?_
  try simp only [Act.put, p1, p2, p3]
  refine tk 10 ?_
  try simp only [Act.put, p1, p2, p3]
  refine tw 11 (v := ?_) ?_ ?_
  rotate_left
  · intro w hSw
    (try dsimp only at hSw)
    have hm := HM.out
    go_simp
    try with_reducible rfl
  try simp only [Act.put, p1, p2, p3]
  refine tk 12 ?_
  try simp only [Act.put, p1, p2, p3]
  refine tk 13 ?_
  try simp only [Act.put, p1, p2, p3]
  refine tk 14 ?_
  try simp only [Act.put, p1, p2, p3]
  refine tk 15 ?_
  try simp only [Act.put, p1, p2, p3]
  refine tk 16 ?_
  try simp only [Act.put, p1, p2, p3]
  refine wpAnyH_done (by kernel_rfl) ?_ _
  refine NoPanic.normal ?_
  clear hHeld f5 fw
  go_wp2_with fail
  go_ret
  exact ⟨rfl, rfl⟩
theorem takes_any (w : World) {A : Nat} {L : Lay} {s : Ag} (h : AgAt w A L s) (job : Int) (hj : 1 ≤ job) (hj2 : job ≤ 1000) (hn : s.work.length ≤ 1000000) :
    Calls Try.prog 41 #[.pointer (some ⟨A, 0, none⟩), .int .i64 job] w fun e w' => e = .returned (.int .i64 (s.takes job)) ∧ Below w.heap.size w w' := by
  by_cases h0 : s.work.length = 0
  · refine (takes_nil w h job h0).mono ?_
    rintro e w' ⟨rfl, rfl⟩
    exact ⟨rfl, Below.refl _ _⟩
  · refine (takes_some w h job h0 hj hj2 hn).mono ?_
    rintro e w' ⟨rfl, rfl⟩
    exact ⟨rfl, (Below.refl _ _).drew⟩
end Go.Proofs.Ytoeamofemepgpaa
