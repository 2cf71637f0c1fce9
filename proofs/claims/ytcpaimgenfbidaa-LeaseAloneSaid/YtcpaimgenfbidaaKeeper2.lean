/- A new keeper; a new disk; a keeper that is none. -/
import Derived.Test.YtcpaimgenfbidaaKeeper
import Derived.Test.YtcpaimgenfbidaaRTake
namespace Go.Proofs.Ytcpaimgenfbidaa
open Go.RowKit

set_option maxHeartbeats 1000000 in
theorem keeper_no (m n : Int) (w : World) (hb : (decide (0 ≤ m) && decide (m ≤ 16) && tk n) = false) :
    Calls Try.prog 15 #[.int .i64 m, .int .i64 n] w fun e w' => e = .returned (.pointer none) ∧ w = w' := by
  by_cases h1 : m < 0
  · go_enter Try.func15, Try.ntmps15
    go_wp2_with fail
    go_ret
    exact ⟨rfl, rfl⟩
  by_cases h2 : 16 < m
  · go_enter Try.func15, Try.ntmps15
    go_wp2_with fail
    go_ret
    exact ⟨rfl, rfl⟩
  have hk : tk n = false := by
    rw [decide_eq_true (show 0 ≤ m by omega), decide_eq_true (show m ≤ 16 by omega)] at hb
    simpa using hb
  clear hb
  go_enter Try.func15, Try.ntmps15
  go_wp2_with fail
  refine (tick_any n w).mono ?_
  rintro e w' ⟨rfl, rfl⟩
  rw [hk]
  go_wp2_with fail
  go_ret
  exact ⟨rfl, rfl⟩

/-- Of sixteen, the first k hold x. -/
def firsts (k : Nat) (x : Int) : List Int := (List.range 16).map fun i => if i < k then x else 0
theorem firsts_len (k : Nat) (x : Int) : (firsts k x).length = 16 := by simp [firsts]
theorem firsts_set (k : Nat) (x : Int) : (firsts k x).set k x = firsts (k + 1) x := by
  apply List.ext_getElem (by simp [firsts])
  intro i h1 h2
  have hi : i < 16 := by simpa [firsts] using h2
  rw [List.getElem_set]
  simp only [firsts, List.getElem_map, List.getElem_range]
  by_cases e : k = i
  · rw [if_pos e, if_pos (by omega)]
  · rw [if_neg e]
    by_cases e2 : i < k
    · rw [if_pos e2, if_pos (by omega)]
    · rw [if_neg e2, if_neg (by omega)]
theorem firsts_get (k i : Nat) (x : Int) (hi : i < 16) : (firsts k x).getD i 0 = if i < k then x else 0 := by
  simp [firsts, List.getD, hi]

set_option maxHeartbeats 1000000 in
theorem keeper_ok (m : Nat) (n : Int) (w : World) (hm : m ≤ 16) (hk : tk n = true) :
    Calls Try.prog 15 #[.int .i64 (m : Int), .int .i64 n] w fun e w' => e = .returned (.pointer (some ⟨w.heap.size, 0, none⟩)) ∧ KeepAt w' w.heap.size m (firsts m (n + 24)) ∧ Below w.heap.size w w' := by
  have hn0 : 0 ≤ n ∧ n < 1099511627776 := by simpa [tk] using hk
  obtain ⟨hn1, hn2⟩ := hn0
  have hm0 : (0 : Int) ≤ (m : Int) := by omega
  go_enter Try.func15, Try.ntmps15
  go_wp2_with fail
  refine (tick_any n w).mono ?_
  rintro e w' ⟨rfl, rfl⟩
  rw [hk]
  go_wp2_with fail
  have hkeep : KeepAt (w.alloc (.cells #[.int .i64 (m : Int), .int .i64 0, .int .i64 0, .int .i64 0, .int .i64 0, .int .i64 0, .int .i64 0, .int .i64 0, .int .i64 0, .int .i64 0, .int .i64 0, .int .i64 0, .int .i64 0, .int .i64 0, .int .i64 0, .int .i64 0, .int .i64 0] 64)) w.heap.size m (firsts 0 (n + 24)) := by
    refine ⟨firsts_len _ _, hm, ?_⟩
    rw [heap_alloc_new]
    rfl
  have HK := Lib.hid hkeep
  have hbel : Below w.heap.size w (w.alloc (.cells #[.int .i64 (m : Int), .int .i64 0, .int .i64 0, .int .i64 0, .int .i64 0, .int .i64 0, .int .i64 0, .int .i64 0, .int .i64 0, .int .i64 0, .int .i64 0, .int .i64 0, .int .i64 0, .int .i64 0, .int .i64 0, .int .i64 0, .int .i64 0] 64)) := (Below.refl _ _).alloc (Nat.le_refl _) _
  have HB := Lib.hid hbel
  clear hkeep hbel
  go_loopw [22] (fun i wr => ∃ k : Nat, k ≤ m ∧ i = .int .i64 k ∧ Hid (KeepAt wr w.heap.size m (firsts k (n + 24))) ∧ Hid (Below w.heap.size w wr)) (fun i _ => m - (intOf i).toNat)
  case atStart => exact ⟨0, Nat.zero_le _, rfl, HK, HB⟩
  case round =>
    clear HK HB
    obtain ⟨k, hkm, rfl, HK, HB⟩ := hrel
    by_cases hlt : k < m
    · have hc := HK.out.ci k (by omega)
      rw [firsts_get k k _ (by omega), if_neg (by omega)] at hc
      have hf := HK.out.fi (1 + k)
      have hk1 : (0 : Int) ≤ (k : Int) := by omega
      have hk2 : (k : Int) < 16 := by omega
      have hs := HK.out.set k (n + 24)
      rw [firsts_set] at hs
      have HS := Lib.hid hs
      have HB2 := Lib.hid (HB.out.setCell (p := ⟨w.heap.size, 1 + k, none⟩) (Nat.le_refl _) (.int .i64 (n + 24)))
      clear hs
      go_wp2_with fail
      go_roundw
      case rel => exact ⟨k + 1, by omega, by go_num, HS, HB2⟩
      case measure => simp [intOf]; omega
    · have hkm2 : k = m := by omega
      rw [hkm2] at HK
      clear hkm2
      go_wp2_with fail
      go_ret
      exact ⟨rfl, HK.out, HB.out⟩

/-- A new disk: its claim is none. -/
theorem new_any (r : Int) (w : World) : Calls Try.prog 9 #[.int .i64 r] w fun e w' => e = .returned (.pointer (some ⟨w.heap.size, 0, none⟩)) ∧ DiskAt w' w.heap.size ⟨0, 0, 0⟩ ∧ Below w.heap.size w w' := by
  go_enter Try.func9, Try.ntmps9
  go_wp2_with fail
  all_goals go_ret
  all_goals exact ⟨rfl, ⟨_, _, _, _, _, _, heap_alloc_new w _⟩, (Below.refl _ _).alloc (Nat.le_refl _) _⟩
end Go.Proofs.Ytcpaimgenfbidaa
