/- Readers take a number of either sign. -/
import Derived.Test.YtkenaoejijpgpaaDoorRdV
namespace Go.Proofs.YtkenaoejijpgpaaDoor
open Go.RowKit

theorem ret_int {k : IntKind} {a b : Int} (h : a = b) : Ending.returned (.int k a) = .returned (.int k b) := by rw [h]

theorem half_even (n : Nat) (h : n < 18446744073709551616) : wrap64 (IntKind.u64.wrap ((n : Int) / 2)) = ((n / 2 : Nat) : Int) := by
  have e : IntKind.u64.wrap ((n : Int) / 2) = ((n / 2 : Nat) : Int) := by rw [IntKind.wrap_u64]; omega
  rw [e, wrap64_in _ (by omega) (by omega)]
theorem half_odd (n : Nat) (h : n < 18446744073709551616) : wrap64 (wrap64 (-wrap64 (IntKind.u64.wrap ((n : Int) / 2))) - 1) = -((n / 2 : Nat) : Int) - 1 := by
  rw [half_even n h, wrap64_in (-((n / 2 : Nat) : Int)) (by omega) (by omega), wrap64_in _ (by omega) (by omega)]
set_option maxHeartbeats 400000 in
theorem ri_any (B g : Nat) (s : Rd) (A : Option Addr) (c : Nat) (w : World) (h : RdAt 108 w B g s A c) :
    Calls Tryd.prog 43 #[.pointer (some ⟨g, 0, none⟩)] w fun x w' => x = .returned (.int .i64 (riN s)) ∧ RdTo 108 B g (ruS s) w w' := by
  have hl := h.glt
  obtain ⟨n, hn⟩ : ∃ n, n = ruN s := ⟨_, rfl⟩
  have HN := Lib.hid hn
  have HD := Lib.hid h
  clear h hn
  go_enter Tryd.func43, Tryd.ntmps43
  go_wp2_with fail
  refine (ru_any B g s A c w HD.out).mono ?_
  rintro e w' ⟨rfl, hr'⟩
  have HR' := Lib.hid hr'
  clear hr'
  rw [← HN.out]
  go_wp2_with fail
  go_ret
  refine ⟨ret_int ?_, HR'.out⟩
  rw [riN, ← HN.out]
  exact int_of n (by rw [HN.out]; exact ruN_lt s)
theorem ri_nil (w : World) : Calls Tryd.prog 43 #[.pointer none] w fun x w' => x = .returned (.int .i64 0) ∧ w = w' := by
  have e : bits .xor .i64 0 0 = 0 := i64_xor_0 0 (by omega) (by omega)
  have e2 : bits .and .u64 0 1 = 0 := by decide
  go_enter Tryd.func43, Tryd.ntmps43
  go_wp2_with fail
  refine (ru_nil w).mono ?_
  rintro e w' ⟨rfl, rfl⟩
  go_wp2_with fail
  go_ret
  exact ⟨rfl, rfl⟩

theorem rruint_err (B g : Nat) (s : Rd) (A : Option Addr) (c : Nat) (w : World) (h : RdAt 83 w B g s A c) (he : ¬ s.e = 0) :
    Calls Tryd.prog 74 #[.pointer (some ⟨g, 0, none⟩)] w fun x w' => x = .returned (.int .u64 (ruN s : Int)) ∧ RdTo 83 B g (ruS s) w w' := by
  have c1 := h.c1
  have hl := h.glt
  have E1 : Hid (ruN s = 0) := Lib.hid (by unfold ruN; rw [if_neg he])
  have E2 : Hid (ruS s = s) := Lib.hid (by unfold ruS; rw [if_neg he])
  have HD := Lib.hid h; clear h
  have q : (s.e == 0) = false := by rw [beq_eq_false_iff_ne]; exact he
  clear he
  generalize hE : s.e = E at c1 q
  clear hE
  go_enter Tryd.func74, Tryd.ntmps74
  go_wp2_with fail
  go_loop [5] (fun i => i = .int .i64 0) (fun _ => 0)
  case atStart => rfl
  case round =>
    subst hrel
    go_wp2_with fail
    go_ret
    exact ⟨by rw [E1.out]; rfl, A, c, by rw [E2.out]; exact HD.out, Chg.refl _ _⟩
/-- The next number, as the document has it. -/
theorem rru_any (B g : Nat) (s : Rd) (A : Option Addr) (c : Nat) (w : World) (h : RdAt 83 w B g s A c) :
    Calls Tryd.prog 74 #[.pointer (some ⟨g, 0, none⟩)] w fun x w' => x = .returned (.int .u64 (ruN s : Int)) ∧ RdTo 83 B g (ruS s) w w' := by
  by_cases he : s.e = 0
  · exact rruint_any B g s A c w h he
  · exact rruint_err B g s A c w h he
set_option maxHeartbeats 400000 in
theorem rri_any (B g : Nat) (s : Rd) (A : Option Addr) (c : Nat) (w : World) (h : RdAt 83 w B g s A c) :
    Calls Tryd.prog 48 #[.pointer (some ⟨g, 0, none⟩)] w fun x w' => x = .returned (.int .i64 (riN s)) ∧ RdTo 83 B g (ruS s) w w' := by
  have hl := h.glt
  obtain ⟨n, hn⟩ : ∃ n, n = ruN s := ⟨_, rfl⟩
  have HN := Lib.hid hn
  have HD := Lib.hid h
  clear h hn
  have hb : n < 18446744073709551616 := by rw [HN.out]; exact ruN_lt s
  have HB := Lib.hid hb
  by_cases h2 : n % 2 = 0
  · have q : ((n : Int) % 2 == 1) = false := by rw [beq_eq_false_iff_ne]; omega
    have E : Hid (unzz n = ((n / 2 : Nat) : Int)) := Lib.hid (by unfold unzz; rw [if_pos h2])
    clear h2 hb
    go_enter Tryd.func48, Tryd.ntmps48
    go_wp2_with fail
    refine (rru_any B g s A c w HD.out).mono ?_
    rintro e w' ⟨rfl, hr'⟩
    have HR' := Lib.hid hr'
    clear hr'
    rw [← HN.out]
    go_wp2_with fail
    go_ret
    refine ⟨ret_int ?_, HR'.out⟩
    rw [riN, ← HN.out, E.out]
    exact half_even n HB.out
  · have q : ((n : Int) % 2 == 1) = true := by rw [beq_iff_eq]; omega
    have E : Hid (unzz n = -((n / 2 : Nat) : Int) - 1) := Lib.hid (by unfold unzz; rw [if_neg h2])
    clear h2 hb
    go_enter Tryd.func48, Tryd.ntmps48
    go_wp2_with fail
    refine (rru_any B g s A c w HD.out).mono ?_
    rintro e w' ⟨rfl, hr'⟩
    have HR' := Lib.hid hr'
    clear hr'
    rw [← HN.out]
    go_wp2_with fail
    go_ret
    refine ⟨ret_int ?_, HR'.out⟩
    rw [riN, ← HN.out, E.out]
    exact half_odd n HB.out
end Go.Proofs.YtkenaoejijpgpaaDoor
