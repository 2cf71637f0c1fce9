/- Whether an amount may be. -/
import Derived.Test.YtoeamofemepgpaaMsg
namespace Go.Proofs.Ytoeamofemepgpaa
open Go.RowKit

def okb (x : Int) : Bool := decide (0 ≤ x) && decide (x ≤ 1073741824)
theorem right1 (S i : Nat) (d : Nat → Int) (w : World) (hi : i < 4) (hc : ∀ i, i < 4 → w.cell? ⟨S, i, none⟩ = some (.int .i64 (d i))) :
    Calls Try.prog 29 #[.int .i64 i, .pointer (some ⟨S, 0, none⟩)] w fun e w' => e = .returned (.bool (okb (d i))) ∧ w = w' := by
  have h0 : (0 : Int) ≤ (i : Int) := by omega
  have h4 : (i : Int) < 4 := by omega
  have hx := hc i hi
  clear hc
  generalize d i = x at hx ⊢
  by_cases hx0 : 0 ≤ x
  · go_enter Try.func29, Try.ntmps29
    go_wp2_with fail
    go_ret
    exact ⟨by simp [okb, hx0], rfl⟩
  · go_enter Try.func29, Try.ntmps29
    go_wp2_with fail
    go_ret
    exact ⟨by simp [okb]; omega, rfl⟩
/-- Each resource is asked, by a closure that only reads. -/
theorem vecall_right (S : Nat) (p : Nat → Bool) (w : World) (h : ∀ i : Nat, i < 4 → Calls Try.prog 29 #[.int .i64 i, .pointer (some ⟨S, 0, none⟩)] w fun e w' => e = .returned (.bool (p i)) ∧ w = w') :
    Calls Try.prog 28 #[.func (.func 29) #[] #[.pointer (some ⟨S, 0, none⟩)]] w fun e w' => e = .returned (.bool (p 0 && p 1 && p 2 && p 3)) ∧ w = w' := by
  have HC := Lib.hid h
  clear h
  go_enter Try.func28, Try.ntmps28
  go_wp2_with fail
  go_loopw [4] (fun i wr => ∃ j : Nat, j ≤ 4 ∧ i = .int .i64 j ∧ w = wr ∧ Hid (∀ i, i < j → p i = true)) (fun i _ => 4 - (intOf i).toNat)
  case atStart => exact ⟨0, by omega, rfl, rfl, Lib.hid (fun i hi => by omega)⟩
  case round =>
    obtain ⟨j, hj, rfl, rfl, HA⟩ := hrel
    by_cases hj4 : j < 4
    · have hj' : (j : Int) < 4 := by omega
      have H1 := Lib.hid (HC.out j hj4)
      obtain ⟨b, hb⟩ : ∃ b, p j = b := ⟨_, rfl⟩
      rw [hb] at H1
      have HBb := Lib.hid hb
      clear hb
      cases b
      · go_wp2_with fail
        refine H1.out.mono ?_
        rintro e w' ⟨rfl, rfl⟩
        go_wp2_with fail
        go_ret
        refine ⟨?_, rfl⟩
        have hj : j = 0 ∨ j = 1 ∨ j = 2 ∨ j = 3 := by omega
        rcases hj with rfl | rfl | rfl | rfl <;> simp [HBb.out]
      · go_wp2_with fail
        refine H1.out.mono ?_
        rintro e w' ⟨rfl, rfl⟩
        go_wp2_with fail
        go_roundw
        case rel => exact ⟨j + 1, by omega, by go_num, trivial, Lib.hid (fun i hi => by
          by_cases e : i = j
          · rw [e]; exact HBb.out
          · exact HA.out i (by omega))⟩
        case measure => simp [intOf]; omega
    · go_wp2_with fail
      go_ret
      have h0 := HA.out 0 (by omega)
      have h1 := HA.out 1 (by omega)
      have h2 := HA.out 2 (by omega)
      have h3 := HA.out 3 (by omega)
      exact ⟨by simp [h0, h1, h2, h3], rfl⟩
theorem right_any (d : Nat → Int) (w : World) :
    Calls Try.prog 21 #[.agg #[.int .i64 (d 0), .int .i64 (d 1), .int .i64 (d 2), .int .i64 (d 3)]] w fun e w' => e = .returned (.bool (okb (d 0) && okb (d 1) && okb (d 2) && okb (d 3))) ∧ Below w.heap.size w w' := by
  have hx := heap_alloc_new w (.cells #[.int .i64 (d 0), .int .i64 (d 1), .int .i64 (d 2), .int .i64 (d 3)] 26)
  have hc : ∀ i, i < 4 → (w.alloc (.cells #[.int .i64 (d 0), .int .i64 (d 1), .int .i64 (d 2), .int .i64 (d 3)] 26)).cell? ⟨w.heap.size, i, none⟩ = some (.int .i64 (d i)) := by
    intro i hi
    have hi : i = 0 ∨ i = 1 ∨ i = 2 ∨ i = 3 := by omega
    rcases hi with rfl | rfl | rfl | rfl <;> exact cellb hx rfl
  have HV := Lib.hid (vecall_right w.heap.size (fun i => okb (d i)) _ (fun i hi => right1 w.heap.size i d _ hi hc))
  have HB := Lib.hid ((Below.refl w.heap.size w).alloc (Nat.le_refl _) (.cells #[.int .i64 (d 0), .int .i64 (d 1), .int .i64 (d 2), .int .i64 (d 3)] 26))
  clear hx hc
  go_enter Try.func21, Try.ntmps21
  go_wp2_with fail
  refine HV.out.mono ?_
  rintro e w' ⟨rfl, rfl⟩
  go_wp2_with fail
  go_ret
  exact ⟨by simp, HB.out⟩
/-- An amount, and a reply, that are nothing. -/
theorem eq_vecs (a b c d a' b' c' d' : Int) (w : World) : (Op.equalIn 10000 26 (.agg #[.int .i64 a, .int .i64 b, .int .i64 c, .int .i64 d]) (.agg #[.int .i64 a', .int .i64 b', .int .i64 c', .int .i64 d'])).run Try.prog w = .ok (a == a' && b == b' && c == c' && d == d') w := by
  have u3 := Try.underlying3
  have a3 := Try.isAgg3
  have z3 := Try.sizeOf3
  rw [show (10000 : Nat) = 9999 + 1 from rfl, Op.equalIn]
  simp only [Sem.run_bind, run_underlying Try.underlying26, Result.andThen_ok]
  simp only [Std.Legacy.Range.forIn_eq_forIn_range', Std.Legacy.Range.size, Nat.sub_zero, Nat.add_sub_cancel, Nat.div_one, List.range'_succ, List.range'_zero, List.forIn_cons, List.forIn_nil]
  go_simp
  by_cases h1 : a = a' <;> by_cases h2 : b = b' <;> by_cases h3 : c = c' <;> by_cases h4 : d = d' <;> simp [h1, h2, h3, h4]
theorem eq_vec (a b c d : Int) (w : World) : (Go.binOp .eql 26 (.agg #[.int .i64 a, .int .i64 b, .int .i64 c, .int .i64 d]) (.agg #[.int .i64 0, .int .i64 0, .int .i64 0, .int .i64 0])).run Try.prog w = .ok (.bool (decide (a = 0 ∧ b = 0 ∧ c = 0 ∧ d = 0))) w := by
  rw [run_eql_struct, eq_vecs]
  by_cases h1 : a = 0 <;> by_cases h2 : b = 0 <;> by_cases h3 : c = 0 <;> by_cases h4 : d = 0 <;> simp [h1, h2, h3, h4]
theorem eq_rep (a b c : Int) (w : World) : (Go.binOp .eql 33 (.agg #[.int .i64 a, .int .i64 b, .int .i64 c]) (.agg #[.int .i64 0, .int .i64 0, .int .i64 0])).run Try.prog w = .ok (.bool (decide (a = 0 ∧ b = 0 ∧ c = 0))) w := by
  by_cases h1 : a = 0 <;> by_cases h2 : b = 0 <;> by_cases h3 : c = 0 <;> simp [go_sem, h1, h2, h3]
end Go.Proofs.Ytoeamofemepgpaa
