/- What is put behind nothing; what a reader says of what it read. -/
import Derived.Test.YtjhjhklidofhgaaAwk01
namespace Go.Proofs.Ytjhjhklidofhgaa
open Go.RowKit

theorem eu_nil (n : Nat) (w : World) (hn : n < 18446744073709551616) :
    Calls Try.prog 14 #[.slice none 0 0, .int .u64 (n : Int)] w fun x w' => ∃ A2 c2, x = .returned (.slice A2 (vb n).length c2) ∧ w'.ownsRow w.heap.size 5 1 (.slice A2 (vb n).length c2) (vb n).length (cells8 (vb n)) ∧ Below w.heap.size w w' := by
  have h := eu_any none 0 0 [] n w (.emp (by omega)) rfl (by omega) hn
  simpa only [Nat.zero_add, List.nil_append] using h
theorem ei_nil (n : Int) (w : World) (hn : inI64 n) :
    Calls Try.prog 16 #[.slice none 0 0, .int .i64 n] w fun x w' => ∃ A2 c2, x = .returned (.slice A2 (vb (zz n)).length c2) ∧ w'.ownsRow w.heap.size 5 1 (.slice A2 (vb (zz n)).length c2) (vb (zz n)).length (cells8 (vb (zz n))) ∧ Below w.heap.size w w' := by
  have h := ei_any none 0 0 [] n w (.emp (by omega)) rfl (by omega) hn
  simpa only [Nat.zero_add, List.nil_append] using h
theorem et_nil (s : List UInt8) (w : World) (hs : s.length ≤ 100000000) :
    Calls Try.prog 19 #[.slice none 0 0, .string (str s)] w fun x w' => ∃ A2 c2, x = .returned (.slice A2 (vtext s).length c2) ∧ w'.ownsRow w.heap.size 5 1 (.slice A2 (vtext s).length c2) (vtext s).length (cells8 (vtext s)) ∧ Below w.heap.size w w' := by
  have h := et_any none 0 0 [] s w (.emp (by omega)) rfl (by omega) hs
  simpa only [Nat.zero_add, List.nil_append] using h

/-- What a read that goes well says of the bytes. -/
theorem ru_ok {l : List UInt8} (h : (ruS ⟨l, 0⟩).e = 0) : l = vb (ruN ⟨l, 0⟩) ++ (ruS ⟨l, 0⟩).l := by
  unfold ruS ruN at *
  rw [if_pos rfl] at *
  have h1 : (rdGo 0 0 l).1 = 0 := by simpa using h
  obtain ⟨n, h2, h3, _⟩ := rdGo_ok l 0 0 (rdGo 0 0 l).2.1 (rdGo 0 0 l).2.2 (Prod.ext h1 rfl)
  simp at h2
  rw [h2]
  exact h3
theorem ru_bad {s : Rd} (h0 : s.e = 0) (h : ¬ (ruS s).e = 0) : (ruS s).l = [] := by
  unfold ruS at *
  rw [if_pos h0] at *
  rcases rdGo_err s.l 0 0 with h1 | ⟨_, h1⟩
  · exact absurd (by simpa using h1) h
  · rw [h1]
/-- What was put is read. -/
theorem ru_put (n : Nat) (t : List UInt8) (hn : n < 18446744073709551616) : ruN ⟨vb n ++ t, 0⟩ = n ∧ ruS ⟨vb n ++ t, 0⟩ = ⟨t, 0⟩ := by
  have h := rdGo_vb n 0 0 n t (Nat.le_refl _) (by omega) (by simpa using hn) (fun h => by omega)
  unfold ruN ruS
  rw [if_pos rfl, if_pos rfl]
  simp only
  rw [h]
  exact ⟨by simp, rfl⟩
theorem ru_cut (n q : Nat) (hn : n < 18446744073709551616) (hq : q < (vb n).length) : ruN ⟨(vb n).take q, 0⟩ = 0 ∧ ruS ⟨(vb n).take q, 0⟩ = ⟨[], 10⟩ := by
  have h := rdGo_cut n 0 0 n q (Nat.le_refl _) (by omega) (by simpa using hn) hq
  unfold ruN ruS
  rw [if_pos rfl, if_pos rfl]
  simp only
  rw [h]
  exact ⟨rfl, rfl⟩
/-- The bytes of a row of the call's own, as a text. -/
theorem conv_l {w : World} {base n c : Nat} {A : Option Addr} {l : List UInt8} (h : w.ownsRow base 5 1 (.slice A n c) n (cells8 l)) : (convert 22 9 (.slice A n c)).run Try.prog w = .ok (.string (str l)) w :=
  run_string (bytesIn_of_own h).2 (bytesIn_of_own h).1 22 5 9 Try.underlying22 Try.underlying5 Try.underlying9
theorem conv_b {w : World} {B n c : Nat} {A : Option Addr} {l : List UInt8} (h : BytesIn w B A c l) (hn : n = l.length) : (convert 22 9 (.slice A n c)).run Try.prog w = .ok (.string (str l)) w :=
  run_string h hn 22 5 9 Try.underlying22 Try.underlying5 Try.underlying9
end Go.Proofs.Ytjhjhklidofhgaa
