/- Chapter 20: messages that may be; what stays true of an agent. -/
import Derived.Test.YtoeamofemepgpaaAll20
namespace Go.Proofs.Ytoeamofemepgpaa
open Go.RowKit

theorem okl_of {l : List FD} {v : Nat → Int} {n most : Nat} (hf : ∀ k, 11 ≤ k → k ≤ 14 → 0 ≤ v k ∧ v k ≤ 1073741824) (hr : ∀ f ∈ l, f.lo ≤ v f.off ∧ v f.off ≤ f.hi) (hz : ∀ i, 1 ≤ i → i ≤ 20 → i ≠ 17 → i ∈ l.map (·.off) ∨ v i = 0) (hn : n ≤ most) : OkL l v n most := by
  have z : ∀ i, 1 ≤ i → i ≤ 20 → i ≠ 17 → zap l v i = 0 := fun i h1 h2 h3 => by
    unfold zap
    rcases hz i h1 h2 h3 with h | h
    · rw [if_pos h]
    · split
      · rfl
      · exact h
  refine ⟨?_, hr, ⟨fun f hf => ?_, ⟨z 11 (by omega) (by omega) (by omega), z 12 (by omega) (by omega) (by omega), z 13 (by omega) (by omega) (by omega), z 14 (by omega) (by omega) (by omega)⟩, z 18 (by omega) (by omega) (by omega), z 19 (by omega) (by omega) (by omega), z 20 (by omega) (by omega) (by omega)⟩, hn⟩
  · have h0 := hf 11 (by omega) (by omega)
    have h1 := hf 12 (by omega) (by omega)
    have h2 := hf 13 (by omega) (by omega)
    have h3 := hf 14 (by omega) (by omega)
    simp [fitV, okb, h0, h1, h2, h3]
  · simp only [noL, List.mem_cons, List.not_mem_nil, or_false] at hf
    rcases hf with rfl | rfl | rfl | rfl | rfl | rfl | rfl | rfl | rfl | rfl | rfl | rfl <;> exact z _ (by decide) (by decide) (by decide)
/-- A message: kind, epoch, node, boot, sent, until, job, attempt, start, wall, how, demand. -/
def mk (k e nd b se u j a st wl h d0 d1 d2 d3 : Int) : Nat → Int := fun i => match i with
  | 0 => k | 1 => e | 2 => nd | 3 => b | 4 => se | 5 => u | 6 => j | 7 => a | 8 => st | 9 => wl | 10 => h | 11 => d0 | 12 => d1 | 13 => d2 | 14 => d3 | _ => 0
theorem mem_range20 {i : Nat} (h1 : 1 ≤ i) (h2 : i ≤ 20) : i = 1 ∨ i = 2 ∨ i = 3 ∨ i = 4 ∨ i = 5 ∨ i = 6 ∨ i = 7 ∨ i = 8 ∨ i = 9 ∨ i = 10 ∨ i = 11 ∨ i = 12 ∨ i = 13 ∨ i = 14 ∨ i = 15 ∨ i = 16 ∨ i = 17 ∨ i = 18 ∨ i = 19 ∨ i = 20 := by omega
theorem okGrant {e nd se u : Int} (he : 0 ≤ e ∧ e ≤ 1099511627776) (hn : 0 ≤ nd ∧ nd ≤ 15) (hs : 0 ≤ se ∧ se ≤ 1099511627775) (hu : 0 ≤ u ∧ u ≤ 2199023255552) : OkM (mk 2 e nd 0 se u 0 0 0 0 0 0 0 0 0) 0 := by
  refine ⟨rfl, ?_⟩
  show OkL (flK 2) _ 0 (mostK 2)
  rw [flK_2]
  refine okl_of (fun k h1 h2 => ?_) (fun f hf => ?_) (fun i h1 h2 h3 => ?_) (Nat.zero_le _)
  · have hk : k = 11 ∨ k = 12 ∨ k = 13 ∨ k = 14 := by omega
    rcases hk with rfl | rfl | rfl | rfl <;> simp [mk]
  · simp only [List.mem_cons, List.not_mem_nil, or_false] at hf
    rcases hf with rfl | rfl | rfl | rfl
    · exact he
    · exact hn
    · exact hs
    · exact hu
  · rcases mem_range20 h1 h2 with rfl | rfl | rfl | rfl | rfl | rfl | rfl | rfl | rfl | rfl | rfl | rfl | rfl | rfl | rfl | rfl | rfl | rfl | rfl | rfl <;> first | exact absurd rfl h3 | exact .inr rfl | exact .inl (by simp)
theorem okLaunch {e nd j a st wl d0 d1 d2 d3 : Int} (he : 0 ≤ e ∧ e ≤ 1099511627776) (hn : 0 ≤ nd ∧ nd ≤ 15) (hj : 1 ≤ j ∧ j ≤ 100) (ha : 1 ≤ a ∧ a ≤ 6) (hst : 0 ≤ st ∧ st ≤ 1099511627775) (hw : 1 ≤ wl ∧ wl ≤ 1000)
    (h0 : 0 ≤ d0 ∧ d0 ≤ 1073741824) (h1 : 0 ≤ d1 ∧ d1 ≤ 1073741824) (h2 : 0 ≤ d2 ∧ d2 ≤ 1073741824) (h3 : 0 ≤ d3 ∧ d3 ≤ 1073741824) : OkM (mk 3 e nd 0 0 0 j a st wl 0 d0 d1 d2 d3) 0 := by
  refine ⟨rfl, ?_⟩
  show OkL (flK 3) _ 0 (mostK 3)
  rw [flK_3]
  refine okl_of (fun k h1 h2 => ?_) (fun f hf => ?_) (fun i h1 h2 h3 => ?_) (Nat.zero_le _)
  · have hk : k = 11 ∨ k = 12 ∨ k = 13 ∨ k = 14 := by omega
    rcases hk with rfl | rfl | rfl | rfl
    · exact h0
    · assumption
    · assumption
    · assumption
  · simp only [List.mem_cons, List.not_mem_nil, or_false] at hf
    rcases hf with rfl | rfl | rfl | rfl | rfl | rfl | rfl | rfl | rfl | rfl <;> assumption
  · rcases mem_range20 h1 h2 with rfl | rfl | rfl | rfl | rfl | rfl | rfl | rfl | rfl | rfl | rfl | rfl | rfl | rfl | rfl | rfl | rfl | rfl | rfl | rfl <;> first | exact absurd rfl h3 | exact .inr rfl | exact .inl (by simp)
theorem okPart {k e nd j a : Int} (hk : k = 4 ∨ k = 6) (he : 0 ≤ e ∧ e ≤ 1099511627776) (hn : 0 ≤ nd ∧ nd ≤ 15) (hj : 1 ≤ j ∧ j ≤ 100) (ha : 1 ≤ a ∧ a ≤ 6) : OkM (mk k e nd 0 0 0 j a 0 0 0 0 0 0 0) 0 := by
  have hfl : flK k = [⟨1, 0, 1099511627776⟩, ⟨2, 0, 15⟩, ⟨6, 1, 100⟩, ⟨7, 1, 6⟩] := by rcases hk with rfl | rfl <;> simp [flK]
  refine ⟨by rcases hk with rfl | rfl <;> rfl, ?_⟩
  show OkL (flK k) _ 0 (mostK k)
  rw [hfl]
  refine okl_of (fun k h1 h2 => ?_) (fun f hf => ?_) (fun i h1 h2 h3 => ?_) (Nat.zero_le _)
  · have hk : k = 11 ∨ k = 12 ∨ k = 13 ∨ k = 14 := by omega
    rcases hk with rfl | rfl | rfl | rfl <;> simp [mk]
  · simp only [List.mem_cons, List.not_mem_nil, or_false] at hf
    rcases hf with rfl | rfl | rfl | rfl
    · exact he
    · exact hn
    · exact hj
    · exact ha
  · rcases mem_range20 h1 h2 with rfl | rfl | rfl | rfl | rfl | rfl | rfl | rfl | rfl | rfl | rfl | rfl | rfl | rfl | rfl | rfl | rfl | rfl | rfl | rfl <;> first | exact absurd rfl h3 | exact .inr rfl | exact .inl (by simp)
/-! What stays true: nothing overflows. -/
theorem fine_ticks {s : Ag} {n : Nat} {now : Int} (h : Fine s n) (hg : s.goes now) : Fine (s.ticks now) n := ⟨⟨Int.le_trans h.tick.1 hg.1, Int.le_of_lt hg.2⟩, h.small, h.ats, h.work, h.len⟩
theorem fine_new (node : Int) (g : Nat → Int) (l : List Int) (hl : l.length ≤ 1000000) : Fine (Ag.new node g l) 0 := ⟨by simp [Ag.new], fun p hp => by simp [Ag.new] at hp, ⟨by simp [Ag.new], fun p hp => by simp [Ag.new] at hp⟩, hl, by simp [Ag.new]⟩
theorem fine_boot {s : Ag} {n : Nat} {now : Int} (h : Fine s n) : Fine (s.bootA now) n := by
  unfold Ag.bootA
  split
  · rename_i hc
    exact ⟨⟨Int.le_trans h.tick.1 hc.1.1, Int.le_of_lt hc.1.2⟩, fun p hp => by simp [Ag.boots] at hp, ⟨⟨by show (0 : Int) ≤ 0; decide, by show (0 : Int) ≤ _; decide⟩, fun p hp => by simp [Ag.boots] at hp⟩, h.work, by simp [Ag.boots]⟩
  · exact h
theorem fine_down {s : Ag} {n : Nat} (h : Fine s n) : Fine s.downs n := ⟨h.tick, h.small, h.ats, h.work, h.len⟩
theorem fine_step {s : Ag} {n : Nat} {now : Int} (h : Fine s n) : Fine (s.stepA now) n := by
  unfold Ag.stepA
  split
  · rename_i hg
    split
    · have h1 := settle_fine h hg
      have hnow : 0 ≤ now ∧ now ≤ 2199023255552 := ⟨Int.le_trans h.tick.1 hg.1, by have := hg.2; omega⟩
      have h2 : Fine (s.beaten now) n := by
        unfold Ag.beaten
        split
        · exact ⟨h1.tick, h1.small, ⟨hnow, h1.ats.2⟩, h1.work, h1.len⟩
        · exact h1
      refine ⟨h2.tick, fun p hp => ?_, ⟨h2.ats.1, fun p hp => ?_⟩, h2.work, by simp only [Ag.steps, List.length_map]; exact h2.len⟩
      · obtain ⟨q, hq, rfl⟩ := List.mem_map.1 hp
        have := h2.small q hq
        unfold Pt.step
        split <;> exact this
      · obtain ⟨q, hq, rfl⟩ := List.mem_map.1 hp
        have := h2.ats.2 q hq
        unfold Pt.step
        split
        · exact hnow
        · exact this
    · exact fine_ticks h hg
  · exact h
theorem small_set {ps : List Pt} (h : Small ps) {i : Nat} {p q : Pt} (hp : ps[i]? = some p) (hq : ((0 ≤ p.d0 ∧ p.d0 ≤ 1073741824) ∧ (0 ≤ p.d1 ∧ p.d1 ≤ 1073741824) ∧ (0 ≤ p.d2 ∧ p.d2 ≤ 1073741824) ∧ (0 ≤ p.d3 ∧ p.d3 ≤ 1073741824)) → ((0 ≤ q.d0 ∧ q.d0 ≤ 1073741824) ∧ (0 ≤ q.d1 ∧ q.d1 ≤ 1073741824) ∧ (0 ≤ q.d2 ∧ q.d2 ≤ 1073741824) ∧ (0 ≤ q.d3 ∧ q.d3 ≤ 1073741824))) : Small (ps.set i q) := fun x hx => by
  rcases List.mem_or_eq_of_mem_set hx with h1 | h1
  · exact h x h1
  · rw [h1]; exact hq (h p (List.mem_of_getElem? hp))
theorem fine_set {s : Ag} {n : Nat} (h : Fine s n) {i : Nat} {p q : Pt} (hp : s.ps[i]? = some p) (hq : q.d0 = p.d0 ∧ q.d1 = p.d1 ∧ q.d2 = p.d2 ∧ q.d3 = p.d3 ∧ q.at_ = p.at_) : Fine { s with ps := s.ps.set i q } n := by
  obtain ⟨q0, q1, q2, q3, q4⟩ := hq
  refine ⟨h.tick, small_set h.small hp (fun h => by rw [q0, q1, q2, q3]; exact h), ⟨h.ats.1, fun x hx => ?_⟩, h.work, by simp only [List.length_set]; exact h.len⟩
  rcases List.mem_or_eq_of_mem_set hx with h1 | h1
  · exact h.ats.2 x h1
  · rw [h1, q4]; exact h.ats.2 p (List.mem_of_getElem? hp)
theorem fine_more {s : Ag} {n : Nat} (h : Fine s n) {q : Pt} (hq : (0 ≤ q.d0 ∧ q.d0 ≤ 1073741824) ∧ (0 ≤ q.d1 ∧ q.d1 ≤ 1073741824) ∧ (0 ≤ q.d2 ∧ q.d2 ≤ 1073741824) ∧ (0 ≤ q.d3 ∧ q.d3 ≤ 1073741824)) (ha : q.at_ = 0) : Fine (s.more q) (n + 1) := by
  refine ⟨h.tick, fun x hx => ?_, ⟨h.ats.1, fun x hx => ?_⟩, h.work, by simp only [List.length_append, List.length_singleton]; exact Nat.add_le_add_right h.len 1⟩
  · rcases List.mem_append.1 hx with h1 | h1
    · exact h.small x h1
    · rw [List.mem_singleton.1 h1]; exact hq
  · rcases List.mem_append.1 hx with h1 | h1
    · exact h.ats.2 x h1
    · rw [List.mem_singleton.1 h1, ha]; exact ⟨by decide, by decide⟩
theorem fine_hear {s : Ag} {n : Nat} (v : Nat → Int) (xn : Nat) (now : Int) (h : Fine s n) : Fine (s.hears v xn now) (n + 1) := by
  unfold Ag.hears
  split
  · rename_i hg
    split
    · have h1 := settle_fine h hg
      split
      · rename_i hk
        have h2 : Fine (s.heard v now) n := ⟨h1.tick, h1.small, h1.ats, h1.work, h1.len⟩
        unfold Ag.does
        split
        · unfold Ag.grant
          split
          · exact h2.mono (by omega)
          · split
            · exact h2.mono (by omega)
            · split
              · exact ⟨h2.tick, h2.small, h2.ats, h2.work, Nat.le_succ_of_le h2.len⟩
              · exact ⟨h2.tick, h2.small, h2.ats, h2.work, Nat.le_succ_of_le h2.len⟩
        · split
          · rename_i hk3
            have ok := ok3 hk.2.1 hk3
            unfold Ag.launch
            split
            · exact h2.mono (by omega)
            · refine fine_more h2 ?_ (by split <;> rfl)
              split
              · exact ⟨ok.2.2.2.2 11 (by omega) (by omega), ok.2.2.2.2 12 (by omega) (by omega), ok.2.2.2.2 13 (by omega) (by omega), ok.2.2.2.2 14 (by omega) (by omega)⟩
              · simp [Pt.zero, Pt.over]
          · split
            · unfold Ag.kill
              split
              · exact fine_more h2 (by simp [Pt.zero, Pt.over]) rfl
              · split
                · exact h2.mono (by omega)
                · rename_i p hp
                  split
                  · exact (fine_set (q := p.over 3) h2 hp ⟨rfl, rfl, rfl, rfl, rfl⟩).mono (Nat.le_succ n)
                  · split
                    · exact (fine_set (q := p.over p.how) h2 hp ⟨rfl, rfl, rfl, rfl, rfl⟩).mono (Nat.le_succ n)
                    · exact h2.mono (by omega)
            · unfold Ag.ack
              split
              · exact h2.mono (by omega)
              · split
                · exact h2.mono (by omega)
                · rename_i p hp
                  split
                  · exact h2.mono (by omega)
                  · exact (fine_set (q := { p with rep := false }) h2 hp ⟨rfl, rfl, rfl, rfl, rfl⟩).mono (Nat.le_succ n)
      · exact h1.mono (by omega)
    · exact (fine_ticks h hg).mono (by omega)
  · exact h.mono (by omega)
end Go.Proofs.Ytoeamofemepgpaa
