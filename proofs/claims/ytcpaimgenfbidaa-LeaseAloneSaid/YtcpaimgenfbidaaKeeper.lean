/- What nodes were granted: the keeper. -/
import Derived.Test.YtcpaimgenfbidaaTake
import Derived.Deep.RegionWith
namespace Go.Proofs.Ytcpaimgenfbidaa
open Go.RowKit

/-- Block g is a keeper of m nodes; us: up to which tick, of all sixteen. -/
def KeepAt (w : World) (g : Nat) (m : Nat) (us : List Int) : Prop :=
  us.length = 16 ∧ m ≤ 16 ∧ w.heap[g]? = some (.cells ((Value.int .i64 (m : Int) :: us.map (Value.int .i64)).toArray) 64 (0, 0))
theorem KeepAt.lt {w : World} {g m : Nat} {us : List Int} (h : KeepAt w g m us) : g < w.heap.size := (Array.getElem?_eq_some_iff.1 h.2.2).1
theorem KeepAt.chg {S : Nat → Prop} {w w' : World} {g m : Nat} {us : List Int} (h : KeepAt w g m us) (hc : Chg S w w') (hs : ¬ S g) : KeepAt w' g m us :=
  ⟨h.1, h.2.1, (hc.block g h.lt hs).trans h.2.2⟩
theorem KeepAt.c0 {w : World} {g m : Nat} {us : List Int} (h : KeepAt w g m us) : w.cell? ⟨g, 0, none⟩ = some (.int .i64 (m : Int)) := by simp [World.cell?, h.2.2]
theorem KeepAt.ci {w : World} {g m : Nat} {us : List Int} (h : KeepAt w g m us) (i : Nat) (hi : i < 16) : w.cell? ⟨g, 1 + i, none⟩ = some (.int .i64 (us.getD i 0)) := by
  have h1 := h.1
  rw [Nat.add_comm]
  simp [World.cell?, h.2.2, List.getElem?_eq_getElem (show i < us.length by omega)]
theorem KeepAt.fi {w : World} {g m : Nat} {us : List Int} (h : KeepAt w g m us) (i : Nat) : w.frozen? ⟨g, i, none⟩ = false := by simp [World.frozen?, h.2.2]
theorem KeepAt.set {w : World} {g m : Nat} {us : List Int} (h : KeepAt w g m us) (i : Nat) (x : Int) : KeepAt (w.setCell ⟨g, 1 + i, none⟩ (.int .i64 x)) g m (us.set i x) := by
  refine ⟨by rw [List.length_set]; exact h.1, h.2.1, ?_⟩
  rw [Nat.add_comm]
  simp [World.setCell, Array.getElem?_modify, h.2.2, List.map_set]

def hasS (m : Nat) (i : Int) : Bool := decide (0 ≤ i) && decide (i < m)

set_option maxHeartbeats 400000 in
theorem has_any (g m : Nat) (us : List Int) (i : Int) (w : World) (h : KeepAt w g m us) :
    Calls Try.prog 27 #[.pointer (some ⟨g, 0, none⟩), .int .i64 i] w fun e w' => e = .returned (.bool (hasS m i)) ∧ w = w' := by
  have h0 := h.c0
  by_cases h1 : 0 ≤ i
  · have e1 : hasS m i = decide (i < m) := by unfold hasS; rw [decide_eq_true h1]; rfl
    have E1 := Lib.hid e1
    clear e1 h
    go_enter Try.func27, Try.ntmps27
    go_wp2
    go_ret
    exact ⟨by rw [E1.out]; rfl, rfl⟩
  · have e1 : hasS m i = false := by unfold hasS; rw [decide_eq_false h1]; rfl
    have E1 := Lib.hid e1
    clear e1 h
    go_enter Try.func27, Try.ntmps27
    go_wp2
    go_ret
    exact ⟨by rw [E1.out]; rfl, rfl⟩

set_option maxHeartbeats 400000 in
theorem until_any (g m : Nat) (us : List Int) (i : Int) (w : World) (h : KeepAt w g m us) :
    Calls Try.prog 19 #[.pointer (some ⟨g, 0, none⟩), .int .i64 i] w fun e w' => e = .returned (.int .i64 (if hasS m i then us.getD i.toNat 0 else 0)) ∧ w = w' := by
  cases hT : hasS m i
  · go_enter Try.func19, Try.ntmps19
    go_wp2_with fail
    refine (has_any g m us i w h).mono ?_
    rintro e w' ⟨rfl, rfl⟩
    rw [hT]
    go_wp2_with fail
    go_ret
    exact ⟨rfl, rfl⟩
  · have h2 : 0 ≤ i ∧ i < m := by simpa [hasS] using hT
    obtain ⟨i, rfl⟩ := Int.eq_ofNat_of_zero_le h2.1
    have h3 : i < m := by omega
    have h4 := h.2.1
    have hc := h.ci i (by omega)
    have hi1 : (0 : Int) ≤ (i : Int) := by omega
    have hi2 : (i : Int) < 16 := by omega
    have H := Lib.hid h; clear h h2
    go_enter Try.func19, Try.ntmps19
    go_wp2_with fail
    refine (has_any g m us i w H.out).mono ?_
    rintro e w' ⟨rfl, rfl⟩
    rw [hT]
    go_wp2_with fail
    go_ret
    exact ⟨by simp, rfl⟩

set_option maxHeartbeats 400000 in
theorem lost_any (g m : Nat) (us : List Int) (i n : Int) (w : World) (h : KeepAt w g m us) :
    Calls Try.prog 20 #[.pointer (some ⟨g, 0, none⟩), .int .i64 i, .int .i64 n] w fun e w' => e = .returned (.bool (hasS m i && decide (us.getD i.toNat 0 ≤ n))) ∧ w = w' := by
  cases hT : hasS m i
  · go_enter Try.func20, Try.ntmps20
    go_wp2_with fail
    refine (has_any g m us i w h).mono ?_
    rintro e w' ⟨rfl, rfl⟩
    rw [hT]
    go_wp2_with fail
    go_ret
    exact ⟨rfl, rfl⟩
  · have h2 : 0 ≤ i ∧ i < m := by simpa [hasS] using hT
    obtain ⟨i, rfl⟩ := Int.eq_ofNat_of_zero_le h2.1
    have h3 : i < m := by omega
    have h4 := h.2.1
    have hc := h.ci i (by omega)
    have hi1 : (0 : Int) ≤ (i : Int) := by omega
    have hi2 : (i : Int) < 16 := by omega
    have H := Lib.hid h; clear h h2
    go_enter Try.func20, Try.ntmps20
    go_wp2_with fail
    refine (has_any g m us i w H.out).mono ?_
    rintro e w' ⟨rfl, rfl⟩
    rw [hT]
    go_wp2_with fail
    go_ret
    exact ⟨by simp, rfl⟩

set_option maxHeartbeats 1000000 in
theorem grant_no (g m : Nat) (us : List Int) (i n : Int) (w : World) (h : KeepAt w g m us) (hb : (hasS m i && tk n) = false) :
    Calls Try.prog 17 #[.pointer (some ⟨g, 0, none⟩), .int .i64 i, .int .i64 n] w fun e w' => e = .returned (.tuple #[.int .i64 0, .bool false]) ∧ w = w' := by
  cases hT : hasS m i
  · go_enter Try.func17, Try.ntmps17
    go_wp2_with fail
    refine (has_any g m us i w h).mono ?_
    rintro e w' ⟨rfl, rfl⟩
    rw [hT]
    go_wp2_with fail
    go_ret2
    exact ⟨rfl, rfl⟩
  · have hk : tk n = false := by simpa [hT] using hb
    clear hb
    go_enter Try.func17, Try.ntmps17
    go_wp2_with fail
    refine (has_any g m us i w h).mono ?_
    rintro e w' ⟨rfl, rfl⟩
    rw [hT]
    go_wp2_with fail
    refine (tick_any n w).mono ?_
    rintro e w' ⟨rfl, rfl⟩
    rw [hk]
    go_wp2_with fail
    go_ret2
    exact ⟨rfl, rfl⟩

set_option maxHeartbeats 1000000 in
theorem grant_ok (g m i : Nat) (us : List Int) (n : Int) (w : World) (h : KeepAt w g m us) (hi : i < m) (hk : tk n = true) :
    Calls Try.prog 17 #[.pointer (some ⟨g, 0, none⟩), .int .i64 (i : Int), .int .i64 n] w fun e w' => e = .returned (.tuple #[.int .i64 (n + 24), .bool true]) ∧ KeepAt w' g m (us.set i (max (us.getD i 0) (n + 24))) ∧ Chg (fun k => k = g) w w' := by
  have hT : hasS m i = true := by simp [hasS]; omega
  have h4 := h.2.1
  have hc := h.ci i (by omega)
  have hf := h.fi (1 + i)
  have hi1 : (0 : Int) ≤ (i : Int) := by omega
  have hi2 : (i : Int) < 16 := by omega
  have hn0 : 0 ≤ n ∧ n < 1099511627776 := by simpa [tk] using hk
  obtain ⟨hn1, hn2⟩ := hn0
  have H := Lib.hid h; clear h
  obtain ⟨U, hU⟩ : ∃ U, U = us.getD i 0 := ⟨_, rfl⟩
  rw [← hU] at hc ⊢
  clear hU
  by_cases hm : U < n + 24
  · have hmx : max U (n + 24) = n + 24 := by omega
    rw [hmx]
    have HS : Hid (KeepAt (w.setCell ⟨g, 1 + i, none⟩ (.int .i64 (n + 24))).drew g m (us.set i (n + 24))) := Lib.hid (H.out.set i _)
    have HC : Hid (Chg (fun k => k = g) w (w.setCell ⟨g, 1 + i, none⟩ (.int .i64 (n + 24))).drew) := Lib.hid (((Chg.refl (fun k => k = g) w).setCell (p := ⟨g, 1 + i, none⟩) (.inr rfl) _).drew)
    clear hmx
    go_enter Try.func17, Try.ntmps17
    go_wp2_with fail
    refine (has_any g m us i w H.out).mono ?_
    rintro e w' ⟨rfl, rfl⟩
    rw [hT]
    go_wp2_with fail
    refine (tick_any n w).mono ?_
    rintro e w' ⟨rfl, rfl⟩
    rw [hk]
    go_wp2_with fail
    go_region
    go_wp2_with fail
    go_ret2
    exact ⟨rfl, HS.out, HC.out⟩
  · have hmx : max U (n + 24) = U := by omega
    rw [hmx]
    have HS : Hid (KeepAt (w.setCell ⟨g, 1 + i, none⟩ (.int .i64 U)).drew g m (us.set i U)) := Lib.hid (H.out.set i _)
    have HC : Hid (Chg (fun k => k = g) w (w.setCell ⟨g, 1 + i, none⟩ (.int .i64 U)).drew) := Lib.hid (((Chg.refl (fun k => k = g) w).setCell (p := ⟨g, 1 + i, none⟩) (.inr rfl) _).drew)
    clear hmx
    go_enter Try.func17, Try.ntmps17
    go_wp2_with fail
    refine (has_any g m us i w H.out).mono ?_
    rintro e w' ⟨rfl, rfl⟩
    rw [hT]
    go_wp2_with fail
    refine (tick_any n w).mono ?_
    rintro e w' ⟨rfl, rfl⟩
    rw [hk]
    go_wp2_with fail
    go_region
    go_wp2_with fail
    go_ret2
    exact ⟨rfl, HS.out, HC.out⟩
end Go.Proofs.Ytcpaimgenfbidaa
