/- Chapter 20: settle: what runs no longer is over. -/
import Derived.Test.YtoeamofemepgpaaRun20
namespace Go.Proofs.Ytoeamofemepgpaa
open Go.RowKit
attribute [local go_sem] Oper.semAt_some

/-- What settle makes of a part at a tick, the lease's end being u. -/
def Pt.settle (p : Pt) (u now : Int) : Pt :=
  if p.how = 0 ∧ p.upto u ≤ now then p.over (if p.upto u = p.end_ then 1 else if p.upto u = p.wall then 2 else 3) else p
/-- An agent's parts: the row in its cell, each part in a block of its own; all below B. -/
structure Parts (w : World) (B A rb n c : Nat) (RA : Option Addr) (u : Int) (ps : List (Nat × Pt)) : Prop where
  len : n = ps.length
  cap : n ≤ 100000000
  row : w.cell? ⟨A, 15, none⟩ = some (.slice RA n c)
  unt : w.cell? ⟨A, 10, none⟩ = some (.int .i64 u)
  at_ : 0 < n → RA = some ⟨rb, 0, none⟩ ∧ rb < B
  lA : A < B
  lB : B ≤ w.heap.size
  ptr : ∀ (i b : Nat) (p : Pt), ps[i]? = some (b, p) → w.cell? ⟨rb, i, none⟩ = some (.pointer (some ⟨b, 0, none⟩))
  prt : ∀ (i b : Nat) (p : Pt), ps[i]? = some (b, p) → PtAt w b p ∧ b < B ∧ b ≠ A ∧ b ≠ rb
  dis : ∀ (i j b : Nat) (p q : Pt), ps[i]? = some (b, p) → ps[j]? = some (b, q) → i = j
theorem Parts.chg {w w' : World} {B A rb n c : Nat} {RA : Option Addr} {u : Int} {ps : List (Nat × Pt)} (h : Parts w B A rb n c RA u ps) {S : Nat → Prop} (hc : Chg S w w') (hs : ∀ k, S k → B ≤ k) : Parts w' B A rb n c RA u ps := by
  have kc : ∀ b i v, b < B → w.cell? ⟨b, i, none⟩ = some v → w'.cell? ⟨b, i, none⟩ = some v := fun b i v hb hv => hc.cell hv (fun e => by have := hs _ e; simp at this; omega)
  refine ⟨h.len, h.cap, kc _ _ _ h.lA h.row, kc _ _ _ h.lA h.unt, h.at_, h.lA, Nat.le_trans h.lB hc.size, fun i b p hp => ?_, fun i b p hp => ?_, h.dis⟩
  · have hlt : 0 < n := by have := (List.getElem?_eq_some_iff.1 hp).1; have := h.len; omega
    exact kc _ _ _ (h.at_ hlt).2 (h.ptr i b p hp)
  · obtain ⟨h1, h2, h3⟩ := h.prt i b p hp
    exact ⟨(hc.block b h1.lt (fun e => by have := hs _ e; omega)).trans h1, h2, h3⟩
theorem Parts.set {w w' : World} {B A rb n c i b : Nat} {RA : Option Addr} {u : Int} {ps : List (Nat × Pt)} {p q : Pt} (h : Parts w B A rb n c RA u ps) (hp : ps[i]? = some (b, p)) (hc : Chg (fun k => k = b) w w') (hq : PtAt w' b q) : Parts w' B A rb n c RA u (ps.set i (b, q)) := by
  obtain ⟨h1, h2, h3, h4⟩ := h.prt i b p hp
  have hlt : i < ps.length := (List.getElem?_eq_some_iff.1 hp).1
  have hn : 0 < n := by have := h.len; omega
  have old : ∀ (j b' : Nat) (p' : Pt), (ps.set i (b, q))[j]? = some (b', p') → ∃ p0, ps[j]? = some (b', p0) ∧ (j = i → p' = q) ∧ (j ≠ i → p0 = p') := by
    intro j b' p' hj
    rw [List.getElem?_set] at hj
    by_cases e : i = j
    · subst e
      rw [if_pos rfl, if_pos hlt] at hj
      injection hj with hj; injection hj with e1 e2
      subst e1; subst e2
      exact ⟨p, hp, fun _ => rfl, fun e => absurd rfl e⟩
    · rw [if_neg e] at hj
      exact ⟨p', hj, fun e' => absurd e'.symm e, fun _ => rfl⟩
  refine ⟨by rw [List.length_set]; exact h.len, h.cap, hc.cell h.row (fun e => h3 e.symm), hc.cell h.unt (fun e => h3 e.symm), h.at_, h.lA, Nat.le_trans h.lB hc.size, fun j b' p' hj => ?_, fun j b' p' hj => ?_, fun j k b' p' q' hj hk => ?_⟩
  · obtain ⟨p0, h0, _⟩ := old j b' p' hj
    exact hc.cell (h.ptr j b' p0 h0) (fun e => h4 e.symm)
  · obtain ⟨p0, h0, ha, hb⟩ := old j b' p' hj
    obtain ⟨g1, g2, g3⟩ := h.prt j b' p0 h0
    refine ⟨?_, g2, g3⟩
    by_cases e : j = i
    · subst e
      rw [ha rfl]
      rw [hp] at h0
      injection h0 with h0; injection h0 with h0 _
      rw [← h0]; exact hq
    · rw [← hb e]
      exact (hc.block b' g1.lt (fun e' => e (h.dis j i b' p0 p h0 (by rw [e']; exact hp)))).trans g1
  · obtain ⟨p0, h0, _⟩ := old j b' p' hj
    obtain ⟨q0, k0, _⟩ := old k b' q' hk
    exact h.dis j k b' p0 q0 h0 k0

theorem running_any (w : World) (A : Nat) : Calls Try.prog 27 #[.pointer (some ⟨A, 0, none⟩)] w fun e w' =>
    e = .returned (.func (.func 37) #[] #[.pointer (some ⟨w.heap.size, 0, none⟩)]) ∧ w.alloc (.cells #[.pointer (some ⟨A, 0, none⟩)] 23) = w' := by
  go_enter Try.func27, Try.ntmps27
  go_wp2_with fail
  go_ret
  exact ⟨rfl, rfl⟩
end Go.Proofs.Ytoeamofemepgpaa
