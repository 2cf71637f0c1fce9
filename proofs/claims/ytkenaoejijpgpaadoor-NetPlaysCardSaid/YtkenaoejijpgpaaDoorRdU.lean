/- A reader takes a number. -/
import Derived.Test.YtkenaoejijpgpaaDoorRdr
import Derived.Test.YtkenaoejijpgpaaDoorArith
namespace Go.Proofs.YtkenaoejijpgpaaDoor
open Go.RowKit

theorem ruS_step {k x D : Nat} {l : List UInt8} (hk : k < l.length) (hD : D = l[k].toNat) (h : rdGo 0 0 l = rdGo k x (l.drop k)) :
    rdGo 0 0 l = if (k = 9 ∧ 1 < D) ∨ (0 < k ∧ D = 0) then (11, 0, []) else if D < 128 then (0, x + D * 128 ^ k, l.drop (k + 1)) else rdGo (k + 1) (x + (D % 128) * 128 ^ k) (l.drop (k + 1)) := by
  rw [h, drop_cons8 l k hk, rdGo, hD]

set_option maxHeartbeats 1000000 in
set_option maxRecDepth 100000 in
theorem ruint_any (B g : Nat) (s : Rd) (A : Option Addr) (c : Nat) (w : World) (h : RdAt 108 w B g s A c) (he : s.e = 0) :
    Calls Tryd.prog 69 #[.pointer (some ⟨g, 0, none⟩)] w fun x w' => x = .returned (.int .u64 (ruN s : Int)) ∧ RdTo 108 B g (ruS s) w w' := by
  obtain ⟨l, e⟩ := s
  simp only at he
  subst he
  have c0 := h.c0
  have c1 := h.c1
  have f0 := h.fz 0
  have hl := h.glt
  have h1 := h.by_.le
  have h2 := h.by_.cap
  simp only at c0 c1 h1
  have HD := Lib.hid h; clear h
  obtain ⟨n, hn⟩ : ∃ n, n = l.length := ⟨_, rfl⟩
  rw [← hn] at c0 h1
  have HN := Lib.hid hn; clear hn
  have HF : ∀ e : Nat, Hid (e ≠ 0 → rdGo 0 0 l = (e, 0, []) → ruN ⟨l, 0⟩ = 0 ∧ ruS ⟨l, 0⟩ = rfail ⟨l, 0⟩ (e : Int)) := fun e => Lib.hid (fun he hr => by
    constructor
    · unfold ruN; rw [if_pos rfl, hr]
    · unfold ruS rfail; rw [if_pos rfl, if_pos ⟨rfl, by omega⟩, hr])
  have HF10 := HF 10
  have HF11 := HF 11
  clear HF
  go_enter Tryd.func69, Tryd.ntmps69
  go_wp2_with fail
  go_loop [3, 4] (fun m i => ∃ k x : Nat, k ≤ n ∧ k ≤ 9 ∧ i = .int .i64 k ∧ m = .int .u64 (x : Int) ∧ Hid (x < 128 ^ k) ∧ Hid (rdGo 0 0 l = rdGo k x (l.drop k))) (fun _ i => 10 - (intOf i).toNat)
  case atStart => exact ⟨0, 0, by omega, by omega, rfl, rfl, Lib.hid (by omega), Lib.hid rfl⟩
  case round =>
    obtain ⟨k, x, hk, hk9, rfl, rfl, HX, HR⟩ := hrel
    by_cases hkn : k < n
    · obtain ⟨b, off, rfl, hb, hc⟩ := HD.out.by_.at_ (k := k) (by simp only; rw [← HN.out]; exact hkn)
      have hc1 := hc k (by simp only; rw [← HN.out]; exact hkn)
      clear hc
      obtain ⟨D, hD⟩ : ∃ D, D = (l[k]'(by rw [← HN.out]; exact hkn)).toNat := ⟨_, rfl⟩
      simp only at hc1
      rw [← hD] at hc1
      have hd2 : D < 256 := by rw [hD]; exact UInt8.toNat_lt _
      have HR2 := Lib.hid (ruS_step (by rw [← HN.out]; exact hkn) hD HR.out)
      clear hD HR
      by_cases hbad : (k = 9 ∧ 1 < D) ∨ (0 < k ∧ D = 0)
      · have hr := HR2.out
        rw [if_pos hbad] at hr
        obtain ⟨E1, E2⟩ := HF11.out (by omega) hr
        have E1 := Lib.hid E1
        have E2 := Lib.hid E2
        clear HR2 hr HF10 HF11
        by_cases hb9 : k = 9 ∧ 1 < D
        · obtain ⟨hk9', hD1⟩ := hb9
          have q1 : ((k : Int) == 9) = true := by rw [beq_iff_eq]; omega
          have q2 : decide (1 < (D : Int)) = true := by rw [decide_eq_true_eq]; omega
          clear hk9' hbad
          go_wp2_with fail
          refine (fail_any B g ⟨l, 0⟩ (some ⟨b, off, none⟩) c 11 w HD.out).mono ?_
          rintro e w' ⟨rfl, A', c', hr', hch⟩
          have HR' := Lib.hid hr'
          have HC' := Lib.hid hch
          clear hr' hch
          go_wp2_with fail
          go_ret
          exact ⟨by rw [E1.out]; rfl, A', c', by rw [E2.out]; exact HR'.out, HC'.out⟩
        · have hk0 : 0 < k ∧ D = 0 := hbad.resolve_left hb9
          obtain ⟨hk0, hD0⟩ := hk0
          have q3 : ((D : Int) == 0) = true := by rw [beq_iff_eq]; omega
          have q2 : decide (1 < (D : Int)) = false := by rw [decide_eq_false_iff_not]; omega
          clear hb9 hbad
          by_cases hk9' : k = 9
          · have q1 : ((k : Int) == 9) = true := by rw [beq_iff_eq]; omega
            clear hk9' hD0
            go_wp2_with fail
            refine (fail_any B g ⟨l, 0⟩ (some ⟨b, off, none⟩) c 11 w HD.out).mono ?_
            rintro e w' ⟨rfl, A', c', hr', hch⟩
            have HR' := Lib.hid hr'
            have HC' := Lib.hid hch
            clear hr' hch
            go_wp2_with fail
            go_ret
            exact ⟨by rw [E1.out]; rfl, A', c', by rw [E2.out]; exact HR'.out, HC'.out⟩
          · have q1 : ((k : Int) == 9) = false := by rw [beq_eq_false_iff_ne]; omega
            clear hk9' hD0
            go_wp2_with fail
            refine (fail_any B g ⟨l, 0⟩ (some ⟨b, off, none⟩) c 11 w HD.out).mono ?_
            rintro e w' ⟨rfl, A', c', hr', hch⟩
            have HR' := Lib.hid hr'
            have HC' := Lib.hid hch
            clear hr' hch
            go_wp2_with fail
            go_ret
            exact ⟨by rw [E1.out]; rfl, A', c', by rw [E2.out]; exact HR'.out, HC'.out⟩
      · have hr := HR2.out
        rw [if_neg hbad] at hr
        obtain ⟨M, hM⟩ : ∃ M, M = D % 128 := ⟨_, rfl⟩
        have f1 : bits .and .u8 (D : Int) 127 = (M : Int) := by rw [hM]; exact and127 D hd2
        have hM2 : M < 128 := by omega
        have h9 : k = 9 → M ≤ 1 := fun h => by
          rcases Nat.lt_or_ge 1 D with h3 | h3
          · exact absurd (.inl ⟨h, h3⟩) hbad
          · omega
        obtain ⟨Y, hY⟩ : ∃ Y, Y = M * 128 ^ k := ⟨_, rfl⟩
        have hsum : x + Y < 18446744073709551616 := by rw [hY]; exact room k M x hk9 HX.out hM2 h9
        have F2 := Lib.hid (shl_u64 k M Y hk9 hY (by omega))
        obtain ⟨Z, hZ⟩ : ∃ Z, Z = x + Y := ⟨_, rfl⟩
        have F3 : Hid (bits .or .u64 (x : Int) (Y : Int) = (Z : Int)) := Lib.hid (by rw [hZ]; exact or_u64 k x Y M hY HX.out hsum)
        by_cases h128 : D < 128
        · have hMD : M = D := by omega
          rw [if_pos h128, ← hMD, ← hY, ← hZ] at hr
          have E1 : Hid (ruN ⟨l, 0⟩ = Z) := Lib.hid (by unfold ruN; rw [if_pos rfl, hr])
          have E2 : Hid (ruS ⟨l, 0⟩ = ⟨l.drop (k + 1), 0⟩) := Lib.hid (by unfold ruS; rw [if_pos rfl, hr]; rfl)
          have hD0 : 0 < k → D ≠ 0 := fun h h' => hbad (.inr ⟨h, h'⟩)
          clear hM hY hZ hsum hr hMD HR2 HF10 HF11
          by_cases hk0 : k = 0
          · have q1 : ((k : Int) == 9) = false := by rw [beq_eq_false_iff_ne]; omega
            have q4 : ¬ 0 < k := by omega
            clear hbad h9 hD0 hk0
            go_wp2_with (first | (refine wpList_shl rfl (.tmp 52) (.tmp 54) 100 3 rfl .u64 (M : Int) (7 * (k : Int)) (Y : Int) rfl rfl (by omega) F2.out ?_) | (refine wpList_or rfl (.tmp 49) (.tmp 55) 100 100 rfl .u64 (x : Int) (Y : Int) (Z : Int) rfl rfl F3.out ?_))
            all_goals
              go_ret
              exact ⟨by rw [E1.out]; rfl, _, _, by rw [E2.out]; exact rd_drop HD.out (by have := HN.out; omega) _ _ _ HN.out (by omega) (by omega) (by first | exact .inl ⟨rfl, by omega⟩ | exact .inr rfl), chg_g g 0 w _⟩
          · have q3 : ((D : Int) == 0) = false := by rw [beq_eq_false_iff_ne]; have := hD0 (by omega); omega
            have q4 : 0 < k := by omega
            by_cases hk9' : k = 9
            · have q1 : ((k : Int) == 9) = true := by rw [beq_iff_eq]; omega
              have q2 : decide (1 < (D : Int)) = false := by
                rw [decide_eq_false_iff_not]
                intro h3
                exact hbad (.inl ⟨hk9', by omega⟩)
              clear hk9' h9 hD0 hk0 hbad
              go_wp2_with (first | (refine wpList_shl rfl (.tmp 52) (.tmp 54) 100 3 rfl .u64 (M : Int) (7 * (k : Int)) (Y : Int) rfl rfl (by omega) F2.out ?_) | (refine wpList_or rfl (.tmp 49) (.tmp 55) 100 100 rfl .u64 (x : Int) (Y : Int) (Z : Int) rfl rfl F3.out ?_))
              all_goals
                go_ret
                exact ⟨by rw [E1.out]; rfl, _, _, by rw [E2.out]; exact rd_drop HD.out (by have := HN.out; omega) _ _ _ HN.out (by omega) (by omega) (by first | exact .inl ⟨rfl, by omega⟩ | exact .inr rfl), chg_g g 0 w _⟩
            · have q1 : ((k : Int) == 9) = false := by rw [beq_eq_false_iff_ne]; omega
              clear hk9' h9 hD0 hk0 hbad
              go_wp2_with (first | (refine wpList_shl rfl (.tmp 52) (.tmp 54) 100 3 rfl .u64 (M : Int) (7 * (k : Int)) (Y : Int) rfl rfl (by omega) F2.out ?_) | (refine wpList_or rfl (.tmp 49) (.tmp 55) 100 100 rfl .u64 (x : Int) (Y : Int) (Z : Int) rfl rfl F3.out ?_))
              all_goals
                go_ret
                exact ⟨by rw [E1.out]; rfl, _, _, by rw [E2.out]; exact rd_drop HD.out (by have := HN.out; omega) _ _ _ HN.out (by omega) (by omega) (by first | exact .inl ⟨rfl, by omega⟩ | exact .inr rfl), chg_g g 0 w _⟩
        · have hk8 : k < 9 := by
            rcases Nat.lt_or_ge k 9 with h | h
            · exact h
            · exact absurd (.inl ⟨by omega, by omega⟩) hbad
          have q1 : ((k : Int) == 9) = false := by rw [beq_eq_false_iff_ne]; omega
          have q2 : ((D : Int) == 0) = false := by rw [beq_eq_false_iff_ne]; omega
          rw [if_neg h128, ← hM, ← hY, ← hZ] at hr
          have HR3 := Lib.hid hr
          have HX3 : Hid (Z < 128 ^ (k + 1)) := Lib.hid (by
            have h3 : M * 128 ^ k ≤ 127 * 128 ^ k := Nat.mul_le_mul_right _ (by omega)
            have h4 := HX.out
            rw [pow_step]; omega)
          clear hbad hM hY hZ hsum hr h9 HR2
          go_wp2_with (first | (refine wpList_shl rfl (.tmp 52) (.tmp 54) 100 3 rfl .u64 (M : Int) (7 * (k : Int)) (Y : Int) rfl rfl (by omega) F2.out ?_) | (refine wpList_or rfl (.tmp 49) (.tmp 55) 100 100 rfl .u64 (x : Int) (Y : Int) (Z : Int) rfl rfl F3.out ?_))
          all_goals
            go_round
            case rel => exact ⟨k + 1, Z, by omega, by omega, by go_num, rfl, HX3, HR3⟩
            case measure => simp [intOf]; omega
    · have hk' : k = n := by omega
      have hr : rdGo 0 0 l = (10, 0, []) := by
        rw [HR.out, List.drop_eq_nil_of_le (by have := HN.out; omega)]; rfl
      obtain ⟨E1, E2⟩ := HF10.out (by omega) hr
      have E1 := Lib.hid E1
      have E2 := Lib.hid E2
      clear hr HF10 HF11 hk'
      go_wp2_with fail
      refine (fail_any B g ⟨l, 0⟩ A c 10 w HD.out).mono ?_
      rintro e w' ⟨rfl, A', c', hr', hch⟩
      have HR' := Lib.hid hr'
      have HC' := Lib.hid hch
      clear hr' hch
      go_wp2_with fail
      go_ret
      exact ⟨by rw [E1.out]; rfl, A', c', by rw [E2.out]; exact HR'.out, HC'.out⟩
end Go.Proofs.YtkenaoejijpgpaaDoor
