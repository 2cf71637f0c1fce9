/- The law SessionServes: the walk. -/
import Derived.Test.YtlcbpodjmafoeaaAwk19
import Derived.Test.YtlcbpodjmafoeaaSame19
import Derived.Test.YtlcbpodjmafoeaaSrvM
import Derived.Test.YtlcbpodjmafoeaaSrvD
import Derived.Test.YtlcbpodjmafoeaaStep19
namespace Go.Proofs.Ytlcbpodjmafoeaa
open Go.RowKit

theorem LAt.grown {w w' : World} {base n c : Nat} {A : Option Addr} {L : List Ke} {M : Nat} (h : LAt w base A n c L) (hg : w.grownBy w' (some M)) (hm : ∃ es clock, w.heap[M]? = some (.map es clock)) : LAt w' base A n c L := by
  obtain ⟨es, clock, hm⟩ := hm
  refine ⟨h.1, h.2.kept hg (.inr (fun e => ?_))⟩
  rcases h.2.2 with ⟨h1, _⟩ | ⟨g, cap, cur, h1, _, hk, _⟩
  · rw [h1] at e; cases e
  · rw [h1] at e
    have e : g = M := by injection e
    rw [e, hm] at hk; cases hk
theorem LAt.off {w w' : World} {base n c b : Nat} {A : Option Addr} {L : List Ke} {cs : Array Value} {t : TypeId} {f : Nat × Nat} (h : LAt w base A n c L) (hb : w.heap[b]? = some (.cells cs t f)) (ht : t ≠ 87) (hc : Chg (fun k => k = b) w w') : LAt w' base A n c L := by
  refine ⟨h.1, hc.own h.2 (fun k hk e => ?_)⟩
  rcases h.2.2 with ⟨h1, _⟩ | ⟨g, cap, cur, h1, _, hk2, _⟩
  · rw [h1] at hk; cases hk
  · rw [h1] at hk
    have e2 : g = k := by injection hk
    rw [e2, e, hb] at hk2
    injection hk2 with hk2; injection hk2 with _ h3; exact ht h3
/-- What a look tells, whatever it is: a number and a message without a body. -/
def LForm (e : Ending) (x : Int) (u : Nat → Int) : Prop := e = .returned (.tuple #[.int .i64 x, .agg #[.int .i64 (u 0), .int .i64 (u 1), .int .i64 (u 2), .int .i64 (u 3), .int .i64 (u 4), .int .i64 (u 5), .int .i64 (u 6), .int .i64 (u 7), .int .i64 (u 8), .int .i64 (u 9), .int .i64 (u 10), .int .i64 (u 11), .int .i64 (u 12), .int .i64 (u 13), .int .i64 (u 14), .int .i64 (u 15), .int .i64 (u 16), .slice none 0 0, .int .i64 (u 18), .int .i64 (u 19), .int .i64 (u 20)]])
theorem zeroU : (fun _ : Nat => (0 : Int)) = fun _ => 0 := rfl
theorem lookrep_form {ep cl sq a b c : Int} {e : Ending} (h : LookRep ep cl sq a b c e) : ∃ x u, LForm e x u := by
  obtain ⟨k, _, he⟩ := h
  cases k
  · exact ⟨0, fun _ => 0, he⟩
  · exact ⟨1, repV ep cl sq a b c, he⟩
theorem look_form {ep : Int} {k : Kp} {v : Nat → Int} {e : Ending} (h : LookPost ep k v e) : ∃ x u, LForm e x u := by
  unfold LookPost at h
  split at h
  · split at h
    · exact ⟨2, fun _ => 0, h⟩
    · split at h
      · exact ⟨0, fun _ => 0, h⟩
      · exact lookrep_form h
  · exact lookrep_form h
theorem lookrep_det {ep cl sq a b c : Int} {e e' : Ending} (h : LookRep ep cl sq a b c e) (h' : LookRep ep cl sq a b c e') : e = e' := by
  obtain ⟨k, hk, he⟩ := h
  obtain ⟨k', hk', he'⟩ := h'
  have : k = k' := Bool.eq_iff_iff.2 (hk.trans hk'.symm)
  rw [he, he', this]
theorem look_det {ep : Int} {k : Kp} {v : Nat → Int} {e e' : Ending} (h : LookPost ep k v e) (h' : LookPost ep k v e') : e = e' := by
  unfold LookPost at h h'
  split at h
  · rename_i h1; rw [if_pos h1] at h'
    split at h
    · rename_i h2; rw [if_pos h2] at h'; rw [h, h']
    · rename_i h2; rw [if_neg h2] at h'
      split at h
      · rename_i h3; rw [if_pos h3] at h'; rw [h, h']
      · rename_i h3; rw [if_neg h3] at h'; exact lookrep_det h h'
  · rename_i h1; rw [if_neg h1] at h'; exact lookrep_det h h'
/-- Both looks at any message, one answer. -/
def Look1 (ep : Int) (f : Int → Kp) (v : Nat → Int) (n : Nat) (last a b d : Int) (e : Ending) : Prop :=
  (¬ (v 0 = 7 ∧ OkL [⟨1, 0, 1099511627776⟩, ⟨15, 1, 16⟩, ⟨16, 1, 1099511627776⟩] v n 4096) ∧ LForm e 0 (fun _ => 0)) ∨ ((v 0 = 7 ∧ OkL [⟨1, 0, 1099511627776⟩, ⟨15, 1, 16⟩, ⟨16, 1, 1099511627776⟩] v n 4096) ∧ LookPost ep (lookK (f (v 15)) last a b d) v e)
theorem look1_form {ep : Int} {f : Int → Kp} {v : Nat → Int} {n : Nat} {last a b d : Int} {e : Ending} (h : Look1 ep f v n last a b d e) : ∃ x u, LForm e x u := by
  rcases h with ⟨_, h⟩ | ⟨_, h⟩
  · exact ⟨_, _, h⟩
  · exact look_form h
theorem look1_det {ep : Int} {f : Int → Kp} {v : Nat → Int} {n : Nat} {last a b d : Int} {e e' : Ending} (h : Look1 ep f v n last a b d e) (h' : Look1 ep f v n last a b d e') : e = e' := by
  rcases h with ⟨h0, h⟩ | ⟨h0, h⟩ <;> rcases h' with ⟨h0', h'⟩ | ⟨h0', h'⟩
  · exact Eq.trans h (Eq.symm h')
  · exact absurd h0' h0
  · exact absurd h0 h0'
  · exact look_det h h'
theorem look_both (g : Nat) (ep : Int) (M nn : Nat) (f : Int → Kp) (v : Nat → Int) (B : Option Addr) (n cb : Nat) (last a b d : Int) (w : World) (h : SAt w g ep M nn f) (hwf : (Lit.int .i64 (v 15)).wf = true) :
    Calls Try.prog 10 #[.pointer (some ⟨g, 0, none⟩), .agg #[.int .i64 (v 0), .int .i64 (v 1), .int .i64 (v 2), .int .i64 (v 3), .int .i64 (v 4), .int .i64 (v 5), .int .i64 (v 6), .int .i64 (v 7), .int .i64 (v 8), .int .i64 (v 9), .int .i64 (v 10), .int .i64 (v 11), .int .i64 (v 12), .int .i64 (v 13), .int .i64 (v 14), .int .i64 (v 15), .int .i64 (v 16), .slice B n cb, .int .i64 (v 18), .int .i64 (v 19), .int .i64 (v 20)], .int .i64 last, .agg #[.int .i64 a, .int .i64 b, .int .i64 d]] w fun e w' => Look1 ep f v n last a b d e ∧ Below w.heap.size w w' := by
  by_cases hk : v 0 = 7 ∧ OkL [⟨1, 0, 1099511627776⟩, ⟨15, 1, 16⟩, ⟨16, 1, 1099511627776⟩] v n 4096
  · exact (look_ok g ep M nn f v B n cb last a b d w h hk.1 hk.2 hwf).mono fun e w' h => ⟨.inr ⟨hk, h.1⟩, h.2⟩
  · exact (look_no g ep M nn f v B n cb last a b d w h hk).mono fun e w' h => ⟨.inl ⟨hk, h.1⟩, h.2⟩
theorem rlook_both (ep : Int) (base : Nat) (A : Option Addr) (n c : Nat) (L : List Ke) (f : Int → Kp) (v : Nat → Int) (B : Option Addr) (nb cb : Nat) (last a b d : Int) (w : World) (h : LAt w base A n c L) (hn : n ≤ 1000) (hf : ∀ k, f k = kp (lk L k)) :
    Calls Try.prog 11 #[.agg #[.int .i64 ep, .slice A n c], .agg #[.int .i64 (v 0), .int .i64 (v 1), .int .i64 (v 2), .int .i64 (v 3), .int .i64 (v 4), .int .i64 (v 5), .int .i64 (v 6), .int .i64 (v 7), .int .i64 (v 8), .int .i64 (v 9), .int .i64 (v 10), .int .i64 (v 11), .int .i64 (v 12), .int .i64 (v 13), .int .i64 (v 14), .int .i64 (v 15), .int .i64 (v 16), .slice B nb cb, .int .i64 (v 18), .int .i64 (v 19), .int .i64 (v 20)], .int .i64 last, .agg #[.int .i64 a, .int .i64 b, .int .i64 d]] w fun e w' => Look1 ep f v nb last a b d e ∧ Below w.heap.size w w' := by
  by_cases hk : v 0 = 7 ∧ OkL [⟨1, 0, 1099511627776⟩, ⟨15, 1, 16⟩, ⟨16, 1, 1099511627776⟩] v nb 4096
  · exact (rlook_ok ep base A n c L v B nb cb last a b d w h hn hk.1 hk.2).mono fun e w' h => ⟨.inr ⟨hk, by rw [hf]; exact h.1⟩, h.2⟩
  · exact (rlook_no ep A n c v B nb cb last a b d w hk).mono fun e w' h => ⟨.inl ⟨hk, h.1⟩, h.2⟩
end Go.Proofs.Ytlcbpodjmafoeaa
