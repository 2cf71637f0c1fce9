/- Going on leading. -/
import Derived.Test.YtcpaimgenfbidaaRTake
namespace Go.Proofs.Ytcpaimgenfbidaa
open Go.RowKit

def renewE (d c : Cl) (n : Int) : Int := if tk n = false then 1 else if leadsS c n = false then 171 else if 1099511627776 < c.e then 1 else if d = c then 0 else 150
def renewC (d c : Cl) (n : Int) : Cl := if renewE d c n = 0 then ⟨c.e, c.h, if c.u < n + 40 then n + 40 else c.u⟩ else ⟨0, 0, 0⟩
def renewD (d c : Cl) (n : Int) : Cl := if renewE d c n = 0 then renewC d c n else d

set_option maxHeartbeats 2000000 in
theorem rrenew_any (d c : Cl) (n : Int) (w : World) (hb2 : -9223372036854775808 ≤ c.u) :
    Calls Try.prog 22 #[.agg #[.int .i64 d.e, .int .i64 d.h, .int .i64 d.u], .agg #[.int .i64 c.e, .int .i64 c.h, .int .i64 c.u], .int .i64 n] w fun e w' => e = .returned (.tuple #[.agg #[.int .i64 (renewC d c n).e, .int .i64 (renewC d c n).h, .int .i64 (renewC d c n).u], .int .i64 (renewE d c n)]) ∧ Below w.heap.size w w' := by
  have hba : Below w.heap.size w (((w.alloc (.cells #[.int .i64 d.e, .int .i64 d.h, .int .i64 d.u] 23)).alloc (.cells #[.int .i64 c.e, .int .i64 c.h, .int .i64 c.u] 23)).alloc (.cells #[.int .i64 0, .int .i64 0, .int .i64 0] 23)) := (((Below.refl _ w).alloc (by simp) _).alloc (by simp <;> omega) _).alloc (by simp <;> omega) _
  have HBA := Lib.hid hba; clear hba
  cases hT : tk n
  · have e1 : renewE d c n = 1 := by unfold renewE; rw [if_pos hT]
    have e2 : renewC d c n = ⟨0, 0, 0⟩ := by unfold renewC; rw [if_neg (by rw [e1]; decide)]
    have E1 := Lib.hid e1
    have E2 := Lib.hid e2
    clear e1 e2
    go_enter Try.func22, Try.ntmps22
    go_wp2_with fail
    refine (rtick_any n _).mono ?_
    rintro e w' ⟨rfl, rfl⟩
    rw [hT]
    go_wp2_with fail
    exact bodyPost_ret (v := .tuple #[.agg #[.int .i64 0, .int .i64 0, .int .i64 0], .int .i64 1]) (by simp [results, Try.results22, go_sem]) rfl ⟨by rw [E1.out, E2.out], HBA.out⟩
  have hn0 : 0 ≤ n ∧ n < 1099511627776 := by simpa [tk] using hT
  obtain ⟨hn1, hn2⟩ := hn0
  cases hL : leadsS c n
  · have e1 : renewE d c n = 171 := by unfold renewE; rw [if_neg (by rw [hT]; decide), if_pos hL]
    have e2 : renewC d c n = ⟨0, 0, 0⟩ := by unfold renewC; rw [if_neg (by rw [e1]; decide)]
    have E1 := Lib.hid e1
    have E2 := Lib.hid e2
    clear e1 e2
    go_enter Try.func22, Try.ntmps22
    go_wp2_with fail
    refine (rtick_any n _).mono ?_
    rintro e w' ⟨rfl, rfl⟩
    rw [hT]
    go_wp2_with fail
    refine (rleads_any c n _).mono ?_
    rintro e w' ⟨rfl, rfl⟩
    rw [hL]
    go_wp2_with fail
    exact bodyPost_ret (v := .tuple #[.agg #[.int .i64 0, .int .i64 0, .int .i64 0], .int .i64 171]) (by simp [results, Try.results22, go_sem]) rfl ⟨by rw [E1.out, E2.out], HBA.out.alloc (by simp <;> omega) _⟩
  have hce : 0 < c.e ∧ n < c.u := by simpa [leadsS] using hL
  obtain ⟨hc1, hc2⟩ := hce
  by_cases h3 : 1099511627776 < c.e
  · have e1 : renewE d c n = 1 := by unfold renewE; rw [if_neg (by rw [hT]; decide), if_neg (by rw [hL]; decide), if_pos h3]
    have e2 : renewC d c n = ⟨0, 0, 0⟩ := by unfold renewC; rw [if_neg (by rw [e1]; decide)]
    have E1 := Lib.hid e1
    have E2 := Lib.hid e2
    clear e1 e2
    go_enter Try.func22, Try.ntmps22
    go_wp2_with fail
    refine (rtick_any n _).mono ?_
    rintro e w' ⟨rfl, rfl⟩
    rw [hT]
    go_wp2_with fail
    refine (rleads_any c n _).mono ?_
    rintro e w' ⟨rfl, rfl⟩
    rw [hL]
    go_wp2_with fail
    exact bodyPost_ret (v := .tuple #[.agg #[.int .i64 0, .int .i64 0, .int .i64 0], .int .i64 1]) (by simp [results, Try.results22, go_sem]) rfl ⟨by rw [E1.out, E2.out], HBA.out.alloc (by simp <;> omega) _⟩
  by_cases h4 : d = c
  · have e1 : renewE d c n = 0 := by unfold renewE; rw [if_neg (by rw [hT]; decide), if_neg (by rw [hL]; decide), if_neg h3, if_pos h4]
    have e2 : renewC d c n = ⟨c.e, c.h, if c.u < n + 40 then n + 40 else c.u⟩ := by unfold renewC; rw [if_pos e1]
    have E1 := Lib.hid e1
    have E2 := Lib.hid e2
    clear e1 e2
    have hq := fun w => neq_cl d c w
    simp only [h4, not_true_eq_false, decide_false] at hq
    subst h4
    have h40 : -9223372036854775808 ≤ n + 40 := by omega
    have h41 : n + 40 ≤ 9223372036854775807 := by omega
    by_cases h5 : d.u < n + 40
    all_goals
      go_enter Try.func22, Try.ntmps22
      go_wp2_with fail
      refine (rtick_any n _).mono ?_
      rintro e w' ⟨rfl, rfl⟩
      rw [hT]
      go_wp2_with fail
      refine (rleads_any d n _).mono ?_
      rintro e w' ⟨rfl, rfl⟩
      rw [hL]
      go_wp2_with fail
      first
        | exact bodyPost_ret (v := .tuple #[.agg #[.int .i64 d.e, .int .i64 d.h, .int .i64 (n + 40)], .int .i64 0]) (by simp [results, Try.results22, go_sem]) rfl ⟨by rw [E1.out, E2.out, if_pos h5], ((((Below.refl _ w).alloc (by simp) _).alloc (by simp <;> omega) _).alloc (by simp <;> omega) _).alloc (by simp <;> omega) _⟩
        | exact bodyPost_ret (v := .tuple #[.agg #[.int .i64 d.e, .int .i64 d.h, .int .i64 d.u], .int .i64 0]) (by simp [results, Try.results22, go_sem]) rfl ⟨by rw [E1.out, E2.out, if_neg (by omega)], ((((Below.refl _ w).alloc (by simp) _).alloc (by simp <;> omega) _).alloc (by simp <;> omega) _).alloc (by simp <;> omega) _⟩
  · have e1 : renewE d c n = 150 := by unfold renewE; rw [if_neg (by rw [hT]; decide), if_neg (by rw [hL]; decide), if_neg h3, if_neg h4]
    have e2 : renewC d c n = ⟨0, 0, 0⟩ := by unfold renewC; rw [if_neg (by rw [e1]; decide)]
    have E1 := Lib.hid e1
    have E2 := Lib.hid e2
    clear e1 e2
    have hq := fun w => neq_cl d c w
    simp only [h4, not_false_eq_true, decide_true] at hq
    clear h4
    go_enter Try.func22, Try.ntmps22
    go_wp2_with fail
    refine (rtick_any n _).mono ?_
    rintro e w' ⟨rfl, rfl⟩
    rw [hT]
    go_wp2_with fail
    refine (rleads_any c n _).mono ?_
    rintro e w' ⟨rfl, rfl⟩
    rw [hL]
    go_wp2_with fail
    exact bodyPost_ret (v := .tuple #[.agg #[.int .i64 0, .int .i64 0, .int .i64 0], .int .i64 150]) (by simp [results, Try.results22, go_sem]) rfl ⟨by rw [E1.out, E2.out], ((((Below.refl _ w).alloc (by simp) _).alloc (by simp <;> omega) _).alloc (by simp <;> omega) _).alloc (by simp <;> omega) _⟩

set_option maxHeartbeats 2000000 in
theorem renew_any (g : Nat) (d c : Cl) (n : Int) (w : World) (hd : DiskAt w g d) :
    Calls Try.prog 21 #[.pointer (some ⟨g, 0, none⟩), .agg #[.int .i64 c.e, .int .i64 c.h, .int .i64 c.u], .int .i64 n] w fun e w' => e = .returned (.tuple #[.agg #[.int .i64 (renewC d c n).e, .int .i64 (renewC d c n).h, .int .i64 (renewC d c n).u], .int .i64 (renewE d c n)]) ∧ DiskAt w' g (renewD d c n) ∧ Chg (fun k => k = g) w w' := by
  have hl := hd.lt
  have HD := Lib.hid hd; clear hd
  cases hT : tk n
  · have e1 : renewE d c n = 1 := by unfold renewE; rw [if_pos hT]
    have e2 : renewC d c n = ⟨0, 0, 0⟩ := by unfold renewC; rw [if_neg (by rw [e1]; decide)]
    have e3 : renewD d c n = d := by unfold renewD; rw [if_neg (by rw [e1]; decide)]
    have E1 := Lib.hid e1
    have E2 := Lib.hid e2
    have E3 := Lib.hid e3
    clear e1 e2 e3
    go_enter Try.func21, Try.ntmps21
    go_wp2_with fail
    refine (tick_any n _).mono ?_
    rintro e w' ⟨rfl, rfl⟩
    rw [hT]
    go_wp2_with fail
    exact bodyPost_ret (v := .tuple #[.agg #[.int .i64 0, .int .i64 0, .int .i64 0], .int .i64 1]) (by simp [results, Try.results21, go_sem]) rfl ⟨by rw [E1.out, E2.out], by rw [E3.out]; exact HD.out.chg (((Chg.refl NoBlk w).alloc _).alloc _) (fun h => h), (((Chg.refl (fun k => k = g) w).alloc _).alloc _)⟩
  have hn0 : 0 ≤ n ∧ n < 1099511627776 := by simpa [tk] using hT
  obtain ⟨hn1, hn2⟩ := hn0
  cases hL : leadsS c n
  · have e1 : renewE d c n = 171 := by unfold renewE; rw [if_neg (by rw [hT]; decide), if_pos hL]
    have e2 : renewC d c n = ⟨0, 0, 0⟩ := by unfold renewC; rw [if_neg (by rw [e1]; decide)]
    have e3 : renewD d c n = d := by unfold renewD; rw [if_neg (by rw [e1]; decide)]
    have E1 := Lib.hid e1
    have E2 := Lib.hid e2
    have E3 := Lib.hid e3
    clear e1 e2 e3
    go_enter Try.func21, Try.ntmps21
    go_wp2_with fail
    refine (tick_any n _).mono ?_
    rintro e w' ⟨rfl, rfl⟩
    rw [hT]
    go_wp2_with fail
    refine (leads_any c n _).mono ?_
    rintro e w' ⟨rfl, rfl⟩
    rw [hL]
    go_wp2_with fail
    exact bodyPost_ret (v := .tuple #[.agg #[.int .i64 0, .int .i64 0, .int .i64 0], .int .i64 171]) (by simp [results, Try.results21, go_sem]) rfl ⟨by rw [E1.out, E2.out], by rw [E3.out]; exact HD.out.chg ((((Chg.refl NoBlk w).alloc _).alloc _).alloc _) (fun h => h), ((((Chg.refl (fun k => k = g) w).alloc _).alloc _).alloc _)⟩
  have hce : 0 < c.e ∧ n < c.u := by simpa [leadsS] using hL
  obtain ⟨hc1, hc2⟩ := hce
  have h40 : -9223372036854775808 ≤ n + 40 := by omega
  have h41 : n + 40 ≤ 9223372036854775807 := by omega
  have hswA : ∀ m, swapE d c ⟨c.e, c.h, m⟩ = renewE d c n := by
    intro m
    unfold swapE renewE
    simp [hT, hL]
  have hscA : swapC d c ⟨c.e, c.h, if c.u < n + 40 then n + 40 else c.u⟩ = renewD d c n := by
    unfold swapC renewD renewC
    rw [hswA]
    by_cases h : renewE d c n = 0
    · rw [if_pos h, if_pos h, if_pos h]
    · rw [if_neg h, if_neg h]
  have eC : renewE d c n = 0 → renewC d c n = ⟨c.e, c.h, if c.u < n + 40 then n + 40 else c.u⟩ := fun h => by unfold renewC; rw [if_pos h]
  have eC0 : renewE d c n ≠ 0 → renewC d c n = ⟨0, 0, 0⟩ := fun h => by unfold renewC; rw [if_neg h]
  have HE0 := Lib.hid eC0
  clear eC0
  by_cases h5 : c.u < n + 40
  · have HSC := Lib.hid (show swapC d c ⟨c.e, c.h, n + 40⟩ = renewD d c n by rw [← hscA, if_pos h5])
    have HSW := Lib.hid (hswA (n + 40))
    have HEC := Lib.hid (show renewE d c n = 0 → renewC d c n = ⟨c.e, c.h, n + 40⟩ from fun h => by rw [eC h, if_pos h5])
    clear hscA hswA eC
    go_enter Try.func21, Try.ntmps21
    go_wp2_with fail
    refine (tick_any n _).mono ?_
    rintro e w' ⟨rfl, rfl⟩
    rw [hT]
    go_wp2_with fail
    refine (leads_any c n _).mono ?_
    rintro e w' ⟨rfl, rfl⟩
    rw [hL]
    go_wp2_with fail
    refine (swap_any g d c ⟨c.e, c.h, n + 40⟩ _ (HD.out.chg (((((Chg.refl NoBlk w).alloc _).alloc _).alloc _).alloc _) (fun h => h))).mono ?_
    rw [HSW.out, HSC.out]
    rintro e w5 ⟨rfl, hd5, hch5⟩
    have HD5 := Lib.hid hd5
    have HC5 := Lib.hid (((((((Chg.refl (fun k => k = g) w).alloc _).alloc _).alloc _).alloc _)).trans hch5)
    obtain ⟨r1, r2⟩ := chg_rules hch5
    have n1 : ¬ w.heap.size + 1 = g := by omega
    have n3 : ¬ w.heap.size + 3 = g := by omega
    have k0 : w5.cell? ⟨w.heap.size + 1, 0, none⟩ = some (.int .i64 0) := (r1 _ 0 (by simp <;> omega) n1).trans (by simp [go_sem])
    have k1 : w5.cell? ⟨w.heap.size + 1, 1, none⟩ = some (.int .i64 0) := (r1 _ 1 (by simp <;> omega) n1).trans (by simp [go_sem])
    have k2 : w5.cell? ⟨w.heap.size + 1, 2, none⟩ = some (.int .i64 0) := (r1 _ 2 (by simp <;> omega) n1).trans (by simp [go_sem])
    have hs5 : w.heap.size + 4 ≤ w5.heap.size := by have := hch5.size; simpa using this
    clear hd5 hch5
    obtain ⟨E, hEq⟩ : ∃ E, E = renewE d c n := ⟨_, rfl⟩
    rw [← hEq] at HEC HE0 ⊢
    have HEq := Lib.hid hEq
    clear hEq HSW
    by_cases hE : E = 0
    · subst hE
      have HEC2 := Lib.hid (HEC.out rfl)
      clear HEC HE0
      go_wp2_with fail
      refine bodyPost_ret (v := .tuple #[.agg #[.int .i64 c.e, .int .i64 c.h, .int .i64 (n + 40)], .int .i64 0]) (by simp [results, Try.results21, go_sem, k0, k1, k2]) rfl ⟨by rw [← HEq.out, HEC2.out], ?_, ?_⟩
      · exact HD5.out.chg ((((Chg.refl (fun k => k = w.heap.size + 1) w5).setCell (p := ⟨w.heap.size + 1, 0, none⟩) (.inr rfl) _).setCell (p := ⟨w.heap.size + 1, 1, none⟩) (.inr rfl) _).setCell (p := ⟨w.heap.size + 1, 2, none⟩) (.inr rfl) _) (by omega)
      · exact ((HC5.out.setCell (p := ⟨w.heap.size + 1, 0, none⟩) (.inl (Nat.le_succ _)) _).setCell (p := ⟨w.heap.size + 1, 1, none⟩) (.inl (Nat.le_succ _)) _).setCell (p := ⟨w.heap.size + 1, 2, none⟩) (.inl (Nat.le_succ _)) _
    · have q : (E != 0) = true := by rw [bne_iff_ne]; exact hE
      have HEC2 := Lib.hid (HE0.out hE)
      clear HEC HE0
      go_wp2_with fail
      refine bodyPost_ret (v := .tuple #[.agg #[.int .i64 0, .int .i64 0, .int .i64 0], .int .i64 E]) (by simp [results, Try.results21, go_sem, k0, k1, k2]) rfl ⟨by rw [← HEq.out, HEC2.out], ?_, ?_⟩
      · exact HD5.out.chg ((((Chg.refl (fun k => k = w.heap.size + 1) w5).setCell (p := ⟨w.heap.size + 1, 0, none⟩) (.inr rfl) _).setCell (p := ⟨w.heap.size + 1, 1, none⟩) (.inr rfl) _).setCell (p := ⟨w.heap.size + 1, 2, none⟩) (.inr rfl) _) (by omega)
      · exact ((HC5.out.setCell (p := ⟨w.heap.size + 1, 0, none⟩) (.inl (Nat.le_succ _)) _).setCell (p := ⟨w.heap.size + 1, 1, none⟩) (.inl (Nat.le_succ _)) _).setCell (p := ⟨w.heap.size + 1, 2, none⟩) (.inl (Nat.le_succ _)) _
  · have HSC := Lib.hid (show swapC d c ⟨c.e, c.h, c.u⟩ = renewD d c n by rw [← hscA, if_neg h5])
    have HSW := Lib.hid (hswA (c.u))
    have HEC := Lib.hid (show renewE d c n = 0 → renewC d c n = ⟨c.e, c.h, c.u⟩ from fun h => by rw [eC h, if_neg h5])
    clear hscA hswA eC
    go_enter Try.func21, Try.ntmps21
    go_wp2_with fail
    refine (tick_any n _).mono ?_
    rintro e w' ⟨rfl, rfl⟩
    rw [hT]
    go_wp2_with fail
    refine (leads_any c n _).mono ?_
    rintro e w' ⟨rfl, rfl⟩
    rw [hL]
    go_wp2_with fail
    refine (swap_any g d c ⟨c.e, c.h, c.u⟩ _ (HD.out.chg (((((Chg.refl NoBlk w).alloc _).alloc _).alloc _).alloc _) (fun h => h))).mono ?_
    rw [HSW.out, HSC.out]
    rintro e w5 ⟨rfl, hd5, hch5⟩
    have HD5 := Lib.hid hd5
    have HC5 := Lib.hid (((((((Chg.refl (fun k => k = g) w).alloc _).alloc _).alloc _).alloc _)).trans hch5)
    obtain ⟨r1, r2⟩ := chg_rules hch5
    have n1 : ¬ w.heap.size + 1 = g := by omega
    have n3 : ¬ w.heap.size + 3 = g := by omega
    have k0 : w5.cell? ⟨w.heap.size + 1, 0, none⟩ = some (.int .i64 0) := (r1 _ 0 (by simp <;> omega) n1).trans (by simp [go_sem])
    have k1 : w5.cell? ⟨w.heap.size + 1, 1, none⟩ = some (.int .i64 0) := (r1 _ 1 (by simp <;> omega) n1).trans (by simp [go_sem])
    have k2 : w5.cell? ⟨w.heap.size + 1, 2, none⟩ = some (.int .i64 0) := (r1 _ 2 (by simp <;> omega) n1).trans (by simp [go_sem])
    have hs5 : w.heap.size + 4 ≤ w5.heap.size := by have := hch5.size; simpa using this
    clear hd5 hch5
    obtain ⟨E, hEq⟩ : ∃ E, E = renewE d c n := ⟨_, rfl⟩
    rw [← hEq] at HEC HE0 ⊢
    have HEq := Lib.hid hEq
    clear hEq HSW
    by_cases hE : E = 0
    · subst hE
      have HEC2 := Lib.hid (HEC.out rfl)
      clear HEC HE0
      go_wp2_with fail
      refine bodyPost_ret (v := .tuple #[.agg #[.int .i64 c.e, .int .i64 c.h, .int .i64 c.u], .int .i64 0]) (by simp [results, Try.results21, go_sem, k0, k1, k2]) rfl ⟨by rw [← HEq.out, HEC2.out], ?_, ?_⟩
      · exact HD5.out.chg ((((Chg.refl (fun k => k = w.heap.size + 1) w5).setCell (p := ⟨w.heap.size + 1, 0, none⟩) (.inr rfl) _).setCell (p := ⟨w.heap.size + 1, 1, none⟩) (.inr rfl) _).setCell (p := ⟨w.heap.size + 1, 2, none⟩) (.inr rfl) _) (by omega)
      · exact ((HC5.out.setCell (p := ⟨w.heap.size + 1, 0, none⟩) (.inl (Nat.le_succ _)) _).setCell (p := ⟨w.heap.size + 1, 1, none⟩) (.inl (Nat.le_succ _)) _).setCell (p := ⟨w.heap.size + 1, 2, none⟩) (.inl (Nat.le_succ _)) _
    · have q : (E != 0) = true := by rw [bne_iff_ne]; exact hE
      have HEC2 := Lib.hid (HE0.out hE)
      clear HEC HE0
      go_wp2_with fail
      refine bodyPost_ret (v := .tuple #[.agg #[.int .i64 0, .int .i64 0, .int .i64 0], .int .i64 E]) (by simp [results, Try.results21, go_sem, k0, k1, k2]) rfl ⟨by rw [← HEq.out, HEC2.out], ?_, ?_⟩
      · exact HD5.out.chg ((((Chg.refl (fun k => k = w.heap.size + 1) w5).setCell (p := ⟨w.heap.size + 1, 0, none⟩) (.inr rfl) _).setCell (p := ⟨w.heap.size + 1, 1, none⟩) (.inr rfl) _).setCell (p := ⟨w.heap.size + 1, 2, none⟩) (.inr rfl) _) (by omega)
      · exact ((HC5.out.setCell (p := ⟨w.heap.size + 1, 0, none⟩) (.inl (Nat.le_succ _)) _).setCell (p := ⟨w.heap.size + 1, 1, none⟩) (.inl (Nat.le_succ _)) _).setCell (p := ⟨w.heap.size + 1, 2, none⟩) (.inl (Nat.le_succ _)) _
end Go.Proofs.Ytcpaimgenfbidaa
