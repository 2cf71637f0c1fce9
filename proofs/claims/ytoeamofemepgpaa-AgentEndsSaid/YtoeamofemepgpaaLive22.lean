/- Chapter 20: AgentEnds, the plain part: what runs was launched, behind the boot and the lease. -/
import Derived.Test.YtoeamofemepgpaaLive21
namespace Go.Proofs.Ytoeamofemepgpaa
open Go.RowKit

/-- A message is a part's launch. -/
structure Known (boot since : Int) (v : Nat → Int) (p : Pt) : Prop where
  k : v 0 = 3
  j : v 6 = p.job
  a : v 7 = p.att
  b : boot < v 8
  s : since < v 8
  g : p.begun ≤ v 8 + 8
  r8 : 0 ≤ v 8 ∧ v 8 ≤ 1099511627775
  w : p.wall = p.begun + v 9
  r9 : 1 ≤ v 9 ∧ v 9 ≤ 1000
  d0 : p.d0 = v 11
  d1 : p.d1 = v 12
  d2 : p.d2 = v 13
  d3 : p.d3 = v 14
/-- The x-th act of a script is a part's launch. -/
def Good (gs : List Ac) (boot since : Int) (p : Pt) (x : Nat) : Prop := ∃ a K, gs[x]? = some a ∧ bits .and .i64 a.kd 7 = ((K : Nat) : Int) ∧ 2 ≤ K ∧ K ≤ 4 ∧ Known boot since a.v p
/-- What runs was launched by one of the first i acts. -/
structure Born (gs : List Ac) (i : Nat) (s : Ag) : Prop where
  boot : 0 ≤ s.boot ∧ s.boot ≤ s.tick
  run : ∀ p ∈ live s.ps, s.boot ≤ p.begun ∧ p.begun ≤ s.tick ∧ ∃ x, x < i ∧ Good gs s.boot s.since p x
theorem Born.calm {gs : List Ac} {i i' : Nat} {s s' : Ag} (h : Born gs i s) (hc : Calm s s') (ht : s.tick ≤ s'.tick) (hi : i ≤ i') : Born gs i' s' := by
  refine ⟨⟨by rw [hc.boot]; exact h.boot.1, by rw [hc.boot]; exact Int.le_trans h.boot.2 ht⟩, fun p hp => ?_⟩
  obtain ⟨h1, h2, x, hx, hg⟩ := h.run p (hc.lv.subset hp)
  rw [hc.boot]
  refine ⟨h1, Int.le_trans h2 ht, x, by omega, ?_⟩
  rcases hc.since with e | e
  · rw [e]; exact hg
  · rw [e] at hp; cases hp
theorem grant_tick (s : Ag) (v : Nat → Int) : (s.grant v).tick = s.tick := by
  unfold Ag.grant
  split
  · rfl
  · split
    · rfl
    · split <;> rfl
theorem kill_tick (s : Ag) (v : Nat → Int) : (s.kill v).tick = s.tick := by
  unfold Ag.kill
  split
  · rfl
  · split
    · rfl
    · split
      · rfl
      · split <;> rfl
theorem ack_tick (s : Ag) (v : Nat → Int) : (s.ack v).tick = s.tick := by
  unfold Ag.ack
  split
  · rfl
  · split
    · rfl
    · split <;> rfl
theorem launch_tick (s : Ag) (v : Nat → Int) : (s.launch v).tick = s.tick := by
  unfold Ag.launch
  split <;> rfl
theorem hears_tick {s : Ag} (v : Nat → Int) (n : Nat) {now : Int} (hg : s.goes now) : (s.hears v n now).tick = now := by
  unfold Ag.hears
  rw [if_pos hg]
  split
  · split
    · unfold Ag.does
      split
      · rw [grant_tick]; rfl
      · split
        · rw [launch_tick]; rfl
        · split
          · rw [kill_tick]; rfl
          · rw [ack_tick]; rfl
    · rfl
  · rfl
theorem steps_tick (s : Ag) (now : Int) : (s.steps now).tick = now := by
  show (s.beaten now).tick = now
  unfold Ag.beaten
  split <;> rfl
theorem stepA_tick {s : Ag} {now : Int} (hg : s.goes now) : (s.stepA now).tick = now := by
  unfold Ag.stepA
  rw [if_pos hg]
  split
  · exact steps_tick s now
  · rfl
theorem Begins.born {gs : List Ac} {i : Nat} {s s' : Ag} {v : Nat → Int} {n : Nat} {now : Int} (hb : Begins s v n now s') (h : Born gs i s) (hnow : s.tick ≤ now) {a : Ac} {K : Nat} (ha : gs[i]? = some a) (hv : a.v = v) (hK : bits .and .i64 a.kd 7 = ((K : Nat) : Int)) (h2 : 2 ≤ K) (h4 : K ≤ 4) : Born gs (i + 1) s' := by
  obtain ⟨s1, hc, ht, hs, rfl, hm, hpl, hok, h3⟩ := hb
  have ok := ok3 hok h3
  have b1 : Born gs i s1 := h.calm hc (by rw [ht]; exact hnow) (Nat.le_refl _)
  refine ⟨b1.boot, fun p hp => ?_⟩
  have hp : p ∈ live (s1.ps ++ [s1.started v]) := hp
  rw [live_append, if_pos (show (s1.started v).how = 0 from rfl)] at hp
  show s1.boot ≤ p.begun ∧ p.begun ≤ s1.tick ∧ ∃ x, x < i + 1 ∧ Good gs s1.boot s1.since p x
  rcases List.mem_append.1 hp with hp | hp
  · obtain ⟨q1, q2, x, hx, hg⟩ := b1.run p hp
    exact ⟨q1, q2, x, by omega, hg⟩
  · obtain rfl := List.mem_singleton.1 hp
    unfold Ag.may at hm
    simp only [Bool.and_eq_true, decide_eq_true_eq] at hm
    refine ⟨b1.boot.2, Int.le_refl _, i, by omega, a, K, ha, hK, h2, h4, ?_⟩
    rw [hv]
    exact ⟨h3, rfl, rfl, hm.1.1.2, hm.1.1.1.2, hm.1.2, ok.2.2.1, rfl, ok.2.2.2.1, rfl, rfl, rfl, rfl⟩
theorem boot_born {gs : List Ac} {i : Nat} {s : Ag} {now : Int} (h : Born gs i s) (hnow : 0 ≤ now) : Born gs (i + 1) (s.bootA now) := by
  unfold Ag.bootA
  split
  · exact ⟨⟨hnow, Int.le_refl _⟩, fun p hp => by cases hp⟩
  · exact h.calm (Calm.refl s) (Int.le_refl _) (Nat.le_succ i)
theorem done_born {gs : List Ac} {i : Nat} {s : Ag} {now : Int} {n : Nat} {a : Ac} {K : Nat} (h : Born gs i s) (hg : s.goes now) (h0 : 0 ≤ now) (ha : gs[i]? = some a) (hK : bits .and .i64 a.kd 7 = ((K : Nat) : Int)) : Born gs (i + 1) (s.done K a.v n now) := by
  unfold Ag.done
  split
  · exact boot_born h h0
  · split
    · exact h.calm (down_calm s) (Int.le_refl _) (Nat.le_succ i)
    · split
      · rcases hears_calm s a.v n now with hc | hb
        · exact h.calm hc (by rw [hears_tick _ _ hg]; exact hg.1) (Nat.le_succ i)
        · exact hb.born h hg.1 ha rfl hK (by omega) (by omega)
      · exact h.calm (stepA_calm s now) (by rw [stepA_tick hg]; exact hg.1) (Nat.le_succ i)
theorem done_tick {s : Ag} {now : Int} (K : Nat) (v : Nat → Int) (n : Nat) (hg : s.goes now) : (s.done K v n now).tick ≤ now := by
  unfold Ag.done
  split
  · unfold Ag.bootA
    split
    · exact Int.le_refl _
    · exact hg.1
  · split
    · exact hg.1
    · split
      · rw [hears_tick _ _ hg]; exact Int.le_refl _
      · rw [stepA_tick hg]; exact Int.le_refl _
theorem done_boot {s : Ag} {now : Int} (K : Nat) (v : Nat → Int) (n : Nat) (hg : s.goes now) : (s.done K v n now).boot = if K = 0 ∧ s.up = false then now else s.boot := by
  unfold Ag.done
  split
  · rename_i h0
    unfold Ag.bootA
    by_cases hu : s.up = false
    · rw [if_pos ⟨hg, hu⟩, if_pos ⟨h0, hu⟩]; rfl
    · rw [if_neg (fun e => hu e.2), if_neg (fun e => hu e.2)]
  · rename_i h0
    have e0 : (if K = 0 ∧ s.up = false then now else s.boot) = s.boot := if_neg (fun e => h0 e.1)
    rw [e0]
    split
    · rfl
    · split
      · rcases hears_calm s v n now with hc | ⟨s1, hc, _, _, e, _⟩
        · exact hc.boot
        · rw [e]; exact hc.boot
      · exact (stepA_calm s now).boot
theorem new_born (gs : List Ac) (nd : Int) (g : Nat → Int) (l : List Int) : Born gs 0 (Ag.new nd g l) := ⟨⟨Int.le_refl _, Int.le_refl _⟩, fun p hp => by cases hp⟩
/-- What AgentEnds asks of what runs. -/
theorem runs_ends {gs : List Ac} {i : Nat} {s : Ag} {now T : Int} {p : Pt} (h : Born gs i s) (ht : s.tick ≤ now) (hp : p ∈ s.runsAt T) :
    s.up = true ∧ ¬ s.until_ ≤ T ∧ ¬ s.until_ < p.upto s.until_ ∧ ¬ T < p.begun ∧ ¬ p.upto s.until_ ≤ T ∧ ¬ p.begun < s.boot ∧ ¬ now < p.begun ∧ 0 ≤ p.begun ∧ ∃ x, x < i ∧ Good gs s.boot s.since p x := by
  obtain ⟨h1, h2, h3, h4, h5⟩ := runs_mem hp
  obtain ⟨q1, q2, x, hx, a, K, ha, hK, k2, k4, hk⟩ := h.run _ (mem_live h1 h2)
  have q1 : s.boot ≤ p.begun := q1
  have q2 : p.begun ≤ s.tick := q2
  have hb := h.boot
  have hu : p.upto s.until_ ≤ s.until_ := by unfold Pt.upto; omega
  refine ⟨h3, by omega, by omega, by omega, by omega, by omega, by omega, by omega, x, hx, a, K, ha, hK, k2, k4, ?_⟩
  exact ⟨hk.k, hk.j, hk.a, hk.b, hk.s, hk.g, hk.r8, hk.w, hk.r9, hk.d0, hk.d1, hk.d2, hk.d3⟩
/-- The tests that the law makes. -/
theorem known_tests {boot since u : Int} {v : Nat → Int} {p : Pt} (h : Known boot since v p) (h0 : 0 ≤ p.begun) (h1 : p.begun ≤ 1000000) : p.begun ≤ IntKind.i64.wrap (v 8 + 8) ∧ p.upto u ≤ IntKind.i64.wrap (p.begun + v 9) := by
  have e1 : IntKind.i64.wrap (v 8 + 8) = v 8 + 8 := IntWalk.i64_in _ (by have := h.r8; omega)
  have e2 : IntKind.i64.wrap (p.begun + v 9) = p.begun + v 9 := IntWalk.i64_in _ (by have := h.r9; omega)
  rw [e1, e2]
  refine ⟨h.g, ?_⟩
  have := h.w
  unfold Pt.upto
  omega
theorem eq_vv (a b c d a' b' c' d' : Int) (w : World) : (Go.binOp .eql 26 (.agg #[.int .i64 a, .int .i64 b, .int .i64 c, .int .i64 d]) (.agg #[.int .i64 a', .int .i64 b', .int .i64 c', .int .i64 d'])).run Try.prog w = .ok (.bool (decide (a = a' ∧ b = b' ∧ c = c' ∧ d = d'))) w := by
  rw [run_eql_struct, eq_vecs]
  by_cases h1 : a = a' <;> by_cases h2 : b = b' <;> by_cases h3 : c = c' <;> by_cases h4 : d = d' <;> simp [h1, h2, h3, h4]
end Go.Proofs.Ytoeamofemepgpaa
