/- Taking the lead. -/
import Derived.Test.YtcpaimgenfbidaaTake
namespace Go.Proofs.Ytcpaimgenfbidaa
open Go.RowKit

def takeE (c : Cl) (h n : Int) : Int := if h < 0 ∨ tk n = false then 1 else if heldS c h n = true then 170 else if 1099511627776 ≤ c.e then 2 else 0
def takeC (c : Cl) (h n : Int) : Cl := if takeE c h n = 0 then ⟨c.e + 1, h, n + 40⟩ else ⟨0, 0, 0⟩
def takeD (c : Cl) (h n : Int) : Cl := if takeE c h n = 0 then takeC c h n else c

/-- What a step that changes block g alone leaves of the other cells, as two rules. -/
theorem chg_rules {w w' : World} {g : Nat} (h : Chg (fun k => k = g) w w') :
    (∀ b o, b < w.heap.size → b ≠ g → w'.cell? ⟨b, o, none⟩ = w.cell? ⟨b, o, none⟩) ∧ (∀ b o, b < w.heap.size → b ≠ g → w'.frozen? ⟨b, o, none⟩ = w.frozen? ⟨b, o, none⟩) :=
  ⟨fun b o h1 h2 => World.cell?_of_block (w := w) (a := ⟨b, o, none⟩) (h.block b h1 h2), fun b o h1 h2 => World.frozen?_of_block (w := w) (a := ⟨b, o, none⟩) (h.block b h1 h2)⟩

set_option maxHeartbeats 2000000 in
theorem take_any (g : Nat) (c : Cl) (h n : Int) (w : World) (hd : DiskAt w g c) (hb1 : -9223372036854775808 ≤ c.e) (hb2 : -9223372036854775808 ≤ c.u) :
    Calls Try.prog 12 #[.pointer (some ⟨g, 0, none⟩), .int .i64 h, .int .i64 n] w fun e w' => e = .returned (.tuple #[.agg #[.int .i64 (takeC c h n).e, .int .i64 (takeC c h n).h, .int .i64 (takeC c h n).u], .int .i64 (takeE c h n)]) ∧ DiskAt w' g (takeD c h n) ∧ Chg (fun k => k = g) w w' := by
  have hl := hd.lt
  have HD := Lib.hid hd; clear hd
  by_cases h1 : h < 0
  · have e1 : takeE c h n = 1 := by unfold takeE; rw [if_pos (.inl h1)]
    have e2 : takeC c h n = ⟨0, 0, 0⟩ := by unfold takeC; rw [if_neg (by rw [e1]; decide)]
    have e3 : takeD c h n = c := by unfold takeD; rw [if_neg (by rw [e1]; decide)]
    have E1 := Lib.hid e1
    have E2 := Lib.hid e2
    have E3 := Lib.hid e3
    clear e1 e2 e3
    go_enter Try.func12, Try.ntmps12
    go_wp2_with fail
    exact bodyPost_ret (v := .tuple #[.agg #[.int .i64 0, .int .i64 0, .int .i64 0], .int .i64 1]) (by simp [results, Try.results12, go_sem]) rfl ⟨by rw [E1.out, E2.out], by rw [E3.out]; exact HD.out.chg (((Chg.refl NoBlk w).alloc _)) (fun h => h), ((Chg.refl (fun k => k = g) w).alloc _)⟩
  cases hT : tk n
  · have e1 : takeE c h n = 1 := by unfold takeE; rw [if_pos (.inr hT)]
    have e2 : takeC c h n = ⟨0, 0, 0⟩ := by unfold takeC; rw [if_neg (by rw [e1]; decide)]
    have e3 : takeD c h n = c := by unfold takeD; rw [if_neg (by rw [e1]; decide)]
    have E1 := Lib.hid e1
    have E2 := Lib.hid e2
    have E3 := Lib.hid e3
    clear e1 e2 e3
    go_enter Try.func12, Try.ntmps12
    go_wp2_with fail
    refine (tick_any n _).mono ?_
    rintro e w' ⟨rfl, rfl⟩
    rw [hT]
    go_wp2_with fail
    exact bodyPost_ret (v := .tuple #[.agg #[.int .i64 0, .int .i64 0, .int .i64 0], .int .i64 1]) (by simp [results, Try.results12, go_sem]) rfl ⟨by rw [E1.out, E2.out], by rw [E3.out]; exact HD.out.chg (((Chg.refl NoBlk w).alloc _)) (fun h => h), ((Chg.refl (fun k => k = g) w).alloc _)⟩
  by_cases hH : heldS c h n = true
  · have e1 : takeE c h n = 170 := by unfold takeE; rw [if_neg (by rw [hT]; simp; omega), if_pos hH]
    have e2 : takeC c h n = ⟨0, 0, 0⟩ := by unfold takeC; rw [if_neg (by rw [e1]; decide)]
    have e3 : takeD c h n = c := by unfold takeD; rw [if_neg (by rw [e1]; decide)]
    have E1 := Lib.hid e1
    have E2 := Lib.hid e2
    have E3 := Lib.hid e3
    clear e1 e2 e3
    go_enter Try.func12, Try.ntmps12
    go_wp2_with fail
    refine (tick_any n _).mono ?_
    rintro e w' ⟨rfl, rfl⟩
    rw [hT]
    have hch : Chg NoBlk w (w.alloc (.cells #[.int .i64 0, .int .i64 0, .int .i64 0] 23)) := (Chg.refl _ _).alloc _
    have HC := Lib.hid hch; clear hch
    go_wp2_with fail
    refine (claim_any g c _ (HD.out.chg HC.out (fun h => h))).mono ?_
    rintro e w' ⟨rfl, rfl⟩
    go_wp2_with fail
    refine (held_any c h n _ hb2).mono ?_
    rintro e w' ⟨rfl, rfl⟩
    rw [hH]
    go_wp2_with fail
    exact bodyPost_ret (v := .tuple #[.agg #[.int .i64 0, .int .i64 0, .int .i64 0], .int .i64 170]) (by simp [results, Try.results12, go_sem]) rfl ⟨by rw [E1.out, E2.out], by rw [E3.out]; exact HD.out.chg ((((((Chg.refl NoBlk w).alloc _).alloc _).alloc _).alloc _)) (fun h => h), (((((Chg.refl (fun k => k = g) w).alloc _).alloc _).alloc _).alloc _)⟩
  by_cases h3 : 1099511627776 ≤ c.e
  · have e1 : takeE c h n = 2 := by unfold takeE; rw [if_neg (by rw [hT]; simp; omega), if_neg hH, if_pos h3]
    have e2 : takeC c h n = ⟨0, 0, 0⟩ := by unfold takeC; rw [if_neg (by rw [e1]; decide)]
    have e3 : takeD c h n = c := by unfold takeD; rw [if_neg (by rw [e1]; decide)]
    have E1 := Lib.hid e1
    have E2 := Lib.hid e2
    have E3 := Lib.hid e3
    clear e1 e2 e3
    have hHf : heldS c h n = false := by simpa using hH
    clear hH
    go_enter Try.func12, Try.ntmps12
    go_wp2_with fail
    refine (tick_any n _).mono ?_
    rintro e w' ⟨rfl, rfl⟩
    rw [hT]
    have hch : Chg NoBlk w (w.alloc (.cells #[.int .i64 0, .int .i64 0, .int .i64 0] 23)) := (Chg.refl _ _).alloc _
    have HC := Lib.hid hch; clear hch
    go_wp2_with fail
    refine (claim_any g c _ (HD.out.chg HC.out (fun h => h))).mono ?_
    rintro e w' ⟨rfl, rfl⟩
    go_wp2_with fail
    refine (held_any c h n _ hb2).mono ?_
    rintro e w' ⟨rfl, rfl⟩
    rw [hHf]
    go_wp2_with fail
    exact bodyPost_ret (v := .tuple #[.agg #[.int .i64 0, .int .i64 0, .int .i64 0], .int .i64 2]) (by simp [results, Try.results12, go_sem]) rfl ⟨by rw [E1.out, E2.out], by rw [E3.out]; exact HD.out.chg ((((((Chg.refl NoBlk w).alloc _).alloc _).alloc _).alloc _)) (fun h => h), (((((Chg.refl (fun k => k = g) w).alloc _).alloc _).alloc _).alloc _)⟩
  · have hn0 : 0 ≤ n ∧ n < 1099511627776 := by simpa [tk] using hT
    obtain ⟨hn1, hn2⟩ := hn0
    have hHf : heldS c h n = false := by simpa using hH
    have e1 : takeE c h n = 0 := by unfold takeE; rw [if_neg (by rw [hT]; simp; omega), if_neg hH, if_neg h3]
    have e2 : takeC c h n = ⟨c.e + 1, h, n + 40⟩ := if_pos e1
    have e3 : takeD c h n = ⟨c.e + 1, h, n + 40⟩ := by unfold takeD; rw [if_pos e1, e2]
    have E1 := Lib.hid e1
    have E2 := Lib.hid e2
    have E3 := Lib.hid e3
    clear e1 e2 e3 hH
    go_enter Try.func12, Try.ntmps12
    go_wp2_with fail
    refine (tick_any n _).mono ?_
    rintro e w' ⟨rfl, rfl⟩
    rw [hT]
    have hch : Chg NoBlk w (w.alloc (.cells #[.int .i64 0, .int .i64 0, .int .i64 0] 23)) := (Chg.refl _ _).alloc _
    have HC := Lib.hid hch; clear hch
    go_wp2_with fail
    refine (claim_any g c _ (HD.out.chg HC.out (fun h => h))).mono ?_
    rintro e w' ⟨rfl, rfl⟩
    go_wp2_with fail
    refine (held_any c h n _ hb2).mono ?_
    rintro e w' ⟨rfl, rfl⟩
    rw [hHf]
    go_wp2_with fail
    refine (swap_any g c c ⟨c.e + 1, h, n + 40⟩ _ (HD.out.chg ((((((Chg.refl NoBlk w).alloc _).alloc _).alloc _).alloc _).alloc _) (fun h => h))).mono ?_
    have hse : swapE c c ⟨c.e + 1, h, n + 40⟩ = 0 := by unfold swapE; rw [if_neg (by simp only; omega), if_pos rfl]
    have hsc : swapC c c ⟨c.e + 1, h, n + 40⟩ = ⟨c.e + 1, h, n + 40⟩ := if_pos hse
    rw [hse, hsc]
    clear hse hsc
    rintro e w5 ⟨rfl, hd5, hch5⟩
    have HD5 := Lib.hid hd5
    have HC5 := Lib.hid ((((((((Chg.refl (fun k => k = g) w).alloc _).alloc _).alloc _).alloc _).alloc _)).trans hch5)
    obtain ⟨r1, r2⟩ := chg_rules hch5
    have n0 : ¬ w.heap.size = g := by omega
    have n4 : ¬ w.heap.size + 4 = g := by omega
    have k0 : w5.cell? ⟨w.heap.size, 0, none⟩ = some (.int .i64 0) := (r1 _ 0 (by simp; omega) n0).trans (by simp [go_sem])
    have k1 : w5.cell? ⟨w.heap.size, 1, none⟩ = some (.int .i64 0) := (r1 _ 1 (by simp; omega) n0).trans (by simp [go_sem])
    have k2 : w5.cell? ⟨w.heap.size, 2, none⟩ = some (.int .i64 0) := (r1 _ 2 (by simp; omega) n0).trans (by simp [go_sem])
    have hch5s : w.heap.size + 5 ≤ w5.heap.size := by have := hch5.size; simpa using this
    clear hd5 hch5 HC
    go_wp2_with fail
    have hlt5 : w.heap.size < w5.heap.size := by have := HC5.out.size; have := HD5.out.lt; have h0 := hch5s; omega
    refine bodyPost_ret (v := .tuple #[.agg #[.int .i64 (c.e + 1), .int .i64 h, .int .i64 (n + 40)], .int .i64 0]) (by simp [results, Try.results12, go_sem, k0, k1, k2]) rfl ⟨by rw [E1.out, E2.out], ?_, ?_⟩
    · rw [E3.out]
      exact ((HD5.out.chg ((((Chg.refl (fun k => k = w.heap.size) w5).setCell (p := ⟨w.heap.size, 0, none⟩) (.inr rfl) _).setCell (p := ⟨w.heap.size, 1, none⟩) (.inr rfl) _).setCell (p := ⟨w.heap.size, 2, none⟩) (.inr rfl) _) (by omega)))
    · exact ((HC5.out.setCell (p := ⟨w.heap.size, 0, none⟩) (.inl (Nat.le_refl _)) _).setCell (p := ⟨w.heap.size, 1, none⟩) (.inl (Nat.le_refl _)) _).setCell (p := ⟨w.heap.size, 2, none⟩) (.inl (Nat.le_refl _)) _
end Go.Proofs.Ytcpaimgenfbidaa
