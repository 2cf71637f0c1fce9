/- The document's disk, as a value: New, Swap, Cut, Chop. -/
import Derived.Test.YtpkefkoimlecjaaDoorCommit2
namespace Go.Proofs.YtpkefkoimlecjaaDoor
open Go.RowKit

def rv (d : Dk) : Value := .agg #[.int .i64 (d.room : Int), .int .i64 d.c.e, .int .i64 d.c.h, .int .i64 d.c.u, .string (str d.log), .string (str d.snap), .string (str d.staged), .bool d.cut, .int .i64 d.at_]

set_option maxHeartbeats 400000 in
theorem rnew_any (r : Int) (w : World) : Calls Tryd.prog 17 #[.int .i64 r] w fun e w' => e = .returned (rv (fresh r)) ∧ Below w.heap.size w w' := by
  have hr : r < 0 ∨ (0 ≤ r ∧ r ≤ 1048576) ∨ 1048576 < r := by omega
  have key : ∀ n : Nat, n = clamp r → rv (fresh r) = .agg #[.int .i64 (n : Int), .int .i64 0, .int .i64 0, .int .i64 0, .string ⟨#[]⟩, .string ⟨#[]⟩, .string ⟨#[]⟩, .bool false, .int .i64 0] := by
    rintro n rfl
    rfl
  rcases hr with h | ⟨h, h'⟩ | h
  · have K := Lib.hid (key 0 (by simp [clamp]; omega))
    clear key
    go_enter Tryd.func17, Tryd.ntmps17
    go_wp2_with fail
    all_goals
      refine bodyPost_ret (v := rv (fresh r)) (by rw [K.out]; simp [results, Tryd.results17, go_sem]; omega) rfl ⟨rfl, ?_⟩
      exact (Below.refl _ _).alloc (Nat.le_refl _) _
  · obtain ⟨n, rfl⟩ := Int.eq_ofNat_of_zero_le (show 0 ≤ r by omega)
    have K := Lib.hid (key n (by simp [clamp]; omega))
    clear key
    go_enter Tryd.func17, Tryd.ntmps17
    go_wp2_with fail
    all_goals
      refine bodyPost_ret (v := rv (fresh n)) (by rw [K.out]; simp [results, Tryd.results17, go_sem]; omega) rfl ⟨rfl, ?_⟩
      exact (Below.refl _ _).alloc (Nat.le_refl _) _
  · have K := Lib.hid (key 1048576 (by simp [clamp]; omega))
    clear key
    go_enter Tryd.func17, Tryd.ntmps17
    go_wp2_with fail
    all_goals
      refine bodyPost_ret (v := rv (fresh r)) (by rw [K.out]; simp [results, Tryd.results17, go_sem]; omega) rfl ⟨rfl, ?_⟩
      exact (Below.refl _ _).alloc (Nat.le_refl _) _

/-- A text's part. -/
theorem str_take (l : List UInt8) (k : Nat) : (str l).extract 0 k = str (l.take k) := by
  unfold str
  ext1
  simp
theorem str_drop (l : List UInt8) (k n : Nat) (hn : n = l.length) : (str l).extract k n = str (l.drop k) := by
  subst hn
  unfold str
  ext1
  simp
  exact List.take_of_length_le (by simp)

theorem rswap_any (d : Dk) (o n : Cl) (w : World) :
    Calls Tryd.prog 30 #[rv d, .agg #[.int .i64 o.e, .int .i64 o.h, .int .i64 o.u], .agg #[.int .i64 n.e, .int .i64 n.h, .int .i64 n.u]] w fun e w' => e = .returned (.tuple #[rv { d with c := swapC d.c o n }, .int .i64 (swapE d.c o n)]) ∧ Below w.heap.size w w' := by
  obtain ⟨room, c, log, snap, staged, cut, at_⟩ := d
  unfold rv
  simp only
  by_cases h1 : n.e < o.e
  · have e1 : swapE c o n = 1 := if_pos (.inl h1)
    have e2 : swapC c o n = c := by unfold swapC; rw [e1]; rfl
    rw [e1, e2]
    clear e1 e2
    go_enter Tryd.func30, Tryd.ntmps30
    go_wp2_with fail
    refine bodyPost_ret (v := .tuple #[.agg #[.int .i64 (room : Int), .int .i64 c.e, .int .i64 c.h, .int .i64 c.u, .string (str log), .string (str snap), .string (str staged), .bool cut, .int .i64 at_], .int .i64 1]) (by simp [results, Tryd.results30, go_sem]) rfl ⟨rfl, ?_⟩
    exact (((((Below.refl w.heap.size w).alloc (Nat.le_refl _) _).alloc (by simp <;> omega) _).alloc (by simp <;> omega) _).alloc (by simp <;> omega) _)
  by_cases h2 : 1099511627776 < n.e
  · have e1 : swapE c o n = 1 := if_pos (.inr h2)
    have e2 : swapC c o n = c := by unfold swapC; rw [e1]; rfl
    rw [e1, e2]
    clear e1 e2
    go_enter Tryd.func30, Tryd.ntmps30
    go_wp2_with fail
    refine bodyPost_ret (v := .tuple #[.agg #[.int .i64 (room : Int), .int .i64 c.e, .int .i64 c.h, .int .i64 c.u, .string (str log), .string (str snap), .string (str staged), .bool cut, .int .i64 at_], .int .i64 1]) (by simp [results, Tryd.results30, go_sem]) rfl ⟨rfl, ?_⟩
    exact (((((Below.refl w.heap.size w).alloc (Nat.le_refl _) _).alloc (by simp <;> omega) _).alloc (by simp <;> omega) _).alloc (by simp <;> omega) _)
  have h12 : ¬ (n.e < o.e ∨ 1099511627776 < n.e) := by omega
  by_cases h3 : c = o
  · have e1 : swapE c o n = 0 := by unfold swapE; rw [if_neg h12, if_pos h3]
    have e2 : swapC c o n = n := by unfold swapC; rw [e1]; rfl
    rw [e1, e2]
    clear e1 e2 h12
    have hq := fun w => neq_cl c o w
    simp only [h3, not_true_eq_false, decide_false] at hq
    subst h3
    go_enter Tryd.func30, Tryd.ntmps30
    go_wp2_with fail
    refine bodyPost_ret (v := .tuple #[.agg #[.int .i64 (room : Int), .int .i64 n.e, .int .i64 n.h, .int .i64 n.u, .string (str log), .string (str snap), .string (str staged), .bool cut, .int .i64 at_], .int .i64 0]) (by simp [results, Tryd.results30, go_sem]) rfl ⟨rfl, ?_⟩
    exact (((((Below.refl w.heap.size w).alloc (Nat.le_refl _) _).alloc (by simp <;> omega) _).alloc (by simp <;> omega) _).alloc (by simp <;> omega) _)
  · have e1 : swapE c o n = 150 := by unfold swapE; rw [if_neg h12, if_neg h3]
    have e2 : swapC c o n = c := by unfold swapC; rw [e1]; rfl
    rw [e1, e2]
    clear e1 e2 h12
    have hq := fun w => neq_cl c o w
    simp only [h3, not_false_eq_true, decide_true] at hq
    clear h3
    go_enter Tryd.func30, Tryd.ntmps30
    go_wp2_with fail
    refine bodyPost_ret (v := .tuple #[.agg #[.int .i64 (room : Int), .int .i64 c.e, .int .i64 c.h, .int .i64 c.u, .string (str log), .string (str snap), .string (str staged), .bool cut, .int .i64 at_], .int .i64 150]) (by simp [results, Tryd.results30, go_sem]) rfl ⟨rfl, ?_⟩
    exact (((((Below.refl w.heap.size w).alloc (Nat.le_refl _) _).alloc (by simp <;> omega) _).alloc (by simp <;> omega) _).alloc (by simp <;> omega) _)

theorem rcut_any (d : Dk) (n : Int) (w : World) :
    Calls Tryd.prog 35 #[rv d, .int .i64 n] w fun e w' => e = .returned (rv { d with cut := true, at_ := n }) ∧ Below w.heap.size w w' := by
  obtain ⟨room, c, log, snap, staged, cut, at_⟩ := d
  unfold rv
  simp only
  go_enter Tryd.func35, Tryd.ntmps35
  go_wp2_with fail
  refine bodyPost_ret (v := .agg #[.int .i64 (room : Int), .int .i64 c.e, .int .i64 c.h, .int .i64 c.u, .string (str log), .string (str snap), .string (str staged), .bool true, .int .i64 n]) (by simp [results, Tryd.results35, go_sem]) rfl ⟨rfl, ?_⟩
  exact (((Below.refl w.heap.size w).alloc (Nat.le_refl _) _).alloc (by simp <;> omega) _)

theorem rchop_any (d : Dk) (ep n : Int) (w : World) (hl : d.log.length ≤ 1048576) :
    Calls Tryd.prog 32 #[rv d, .int .i64 ep, .int .i64 n] w fun e w' => e = .returned (.tuple #[rv (chD d ep n), .int .i64 (chE d ep n)]) ∧ Below w.heap.size w w' := by
  obtain ⟨room, c, log, snap, staged, cut, at_⟩ := d
  simp only at hl
  have hz : (str log).size = log.length := str_size log
  by_cases he : ep = c.e
  · by_cases h2 : n < 0 ∨ (log.length : Int) < n
    · have e1 : chE ⟨room, c, log, snap, staged, cut, at_⟩ ep n = 151 := by unfold chE coE; rw [if_pos he, if_pos h2]
      have e2 : chD ⟨room, c, log, snap, staged, cut, at_⟩ ep n = ⟨room, c, log, snap, staged, cut, at_⟩ := by unfold chD coD; rw [if_pos he, if_pos h2]
      rw [e1, e2]
      unfold rv
      simp only
      clear e1 e2
      subst he
      by_cases h3 : n < 0
      · clear h2
        go_enter Tryd.func32, Tryd.ntmps32
        go_wp2_with fail
        refine bodyPost_ret (v := .tuple #[.agg #[.int .i64 (room : Int), .int .i64 c.e, .int .i64 c.h, .int .i64 c.u, .string (str log), .string (str snap), .string (str staged), .bool cut, .int .i64 at_], .int .i64 151]) (by simp [results, Tryd.results32, go_sem]) rfl ⟨rfl, ?_⟩
        exact (((Below.refl w.heap.size w).alloc (Nat.le_refl _) _).alloc (by simp <;> omega) _)
      · have h4 : (log.length : Int) < n := by omega
        clear h2
        go_enter Tryd.func32, Tryd.ntmps32
        go_wp2_with fail
        refine bodyPost_ret (v := .tuple #[.agg #[.int .i64 (room : Int), .int .i64 c.e, .int .i64 c.h, .int .i64 c.u, .string (str log), .string (str snap), .string (str staged), .bool cut, .int .i64 at_], .int .i64 151]) (by simp [results, Tryd.results32, go_sem]) rfl ⟨rfl, ?_⟩
        exact (((Below.refl w.heap.size w).alloc (Nat.le_refl _) _).alloc (by simp <;> omega) _)
    · obtain ⟨k, rfl⟩ := Int.eq_ofNat_of_zero_le (show 0 ≤ n by omega)
      have e1 : chE ⟨room, c, log, snap, staged, cut, at_⟩ ep k = 0 := by unfold chE coE; rw [if_pos he, if_neg h2]
      have e2 : chD ⟨room, c, log, snap, staged, cut, at_⟩ ep k = ⟨room, c, log.take k, snap, staged, cut, at_⟩ := by unfold chD coD; rw [if_pos he, if_neg h2]; rfl
      have hk : k ≤ log.length := by omega
      rw [e1, e2]
      unfold rv
      simp only
      clear e1 e2 h2
      subst he
      go_enter Tryd.func32, Tryd.ntmps32
      go_wp2_with fail
      refine bodyPost_ret (v := .tuple #[.agg #[.int .i64 (room : Int), .int .i64 c.e, .int .i64 c.h, .int .i64 c.u, .string (str (log.take k)), .string (str snap), .string (str staged), .bool cut, .int .i64 at_], .int .i64 0]) (by simp [results, Tryd.results32, go_sem, str_take]) rfl ⟨rfl, ?_⟩
      exact (((Below.refl w.heap.size w).alloc (Nat.le_refl _) _).alloc (by simp <;> omega) _)
  · have e1 : chE ⟨room, c, log, snap, staged, cut, at_⟩ ep n = 150 := by unfold chE; rw [if_neg he]
    have e2 : chD ⟨room, c, log, snap, staged, cut, at_⟩ ep n = ⟨room, c, log, snap, staged, cut, at_⟩ := by unfold chD; rw [if_neg he]
    have q : (ep != c.e) = true := by rw [bne_iff_ne]; exact he
    rw [e1, e2]
    unfold rv
    simp only
    clear e1 e2 he
    go_enter Tryd.func32, Tryd.ntmps32
    go_wp2_with fail
    refine bodyPost_ret (v := .tuple #[.agg #[.int .i64 (room : Int), .int .i64 c.e, .int .i64 c.h, .int .i64 c.u, .string (str log), .string (str snap), .string (str staged), .bool cut, .int .i64 at_], .int .i64 150]) (by simp [results, Tryd.results32, go_sem]) rfl ⟨rfl, ?_⟩
    exact (((Below.refl w.heap.size w).alloc (Nat.le_refl _) _).alloc (by simp <;> omega) _)
end Go.Proofs.YtpkefkoimlecjaaDoor
