/- The document's reader: Fail, Uint. -/
import Derived.Test.YtkenaoejijpgpaaDoorRdU
namespace Go.Proofs.YtkenaoejijpgpaaDoor
open Go.RowKit

theorem ruint_err (B g : Nat) (s : Rd) (A : Option Addr) (c : Nat) (w : World) (h : RdAt 108 w B g s A c) (he : ¬ s.e = 0) :
    Calls Tryd.prog 69 #[.pointer (some ⟨g, 0, none⟩)] w fun x w' => x = .returned (.int .u64 (ruN s : Int)) ∧ RdTo 108 B g (ruS s) w w' := by
  have c1 := h.c1
  have hl := h.glt
  have E1 : Hid (ruN s = 0) := Lib.hid (by unfold ruN; rw [if_neg he])
  have E2 : Hid (ruS s = s) := Lib.hid (by unfold ruS; rw [if_neg he])
  have HD := Lib.hid h; clear h
  have q : (s.e != 0) = true := by rw [bne_iff_ne]; exact he
  clear he
  generalize hE : s.e = E at c1 q
  clear hE
  go_enter Tryd.func69, Tryd.ntmps69
  go_wp2_with fail
  go_ret
  exact ⟨by rw [E1.out]; rfl, A, c, by rw [E2.out]; exact HD.out, Chg.refl _ _⟩
/-- The next number. -/
theorem ru_any (B g : Nat) (s : Rd) (A : Option Addr) (c : Nat) (w : World) (h : RdAt 108 w B g s A c) :
    Calls Tryd.prog 69 #[.pointer (some ⟨g, 0, none⟩)] w fun x w' => x = .returned (.int .u64 (ruN s : Int)) ∧ RdTo 108 B g (ruS s) w w' := by
  by_cases he : s.e = 0
  · exact ruint_any B g s A c w h he
  · exact ruint_err B g s A c w h he
theorem ru_nil (w : World) : Calls Tryd.prog 69 #[.pointer none] w fun x w' => x = .returned (.int .u64 0) ∧ w = w' := by
  go_enter Tryd.func69, Tryd.ntmps69
  go_wp2_with fail
  go_ret
  exact ⟨rfl, rfl⟩

set_option maxHeartbeats 400000 in
theorem rrfail_any (B g : Nat) (s : Rd) (A : Option Addr) (c : Nat) (e : Int) (w : World) (h : RdAt 83 w B g s A c) :
    Calls Tryd.prog 75 #[.pointer (some ⟨g, 0, none⟩), .int .i64 e] w fun x w' => x = .returned (.tuple #[]) ∧ RdTo 83 B g (rfail s e) w w' := by
  have c0 := h.c0
  have c1 := h.c1
  have f0 := h.fz 0
  have f1 := h.fz 1
  have hl := h.glt
  have HD := Lib.hid h; clear h
  have HW : Hid (RdAt 83 ((w.setCell ⟨g, 1, none⟩ (.int .i64 e)).setCell ⟨g, 0, none⟩ (.slice none 0 0)) B g ⟨[], e⟩ none 0) := rd_fail HD.out e
  have HS : Hid (Chg (fun k => k = g) w ((w.setCell ⟨g, 1, none⟩ (.int .i64 e)).setCell ⟨g, 0, none⟩ (.slice none 0 0))) := (chg_g g 1 w _).setCell (p := ⟨g, 0, none⟩) (.inr rfl) _
  by_cases h1 : s.e = 0
  · by_cases h2 : e = 0
    · have e1 : rfail s e = s := by unfold rfail; rw [if_neg (by simp [h2])]
      have E1 := Lib.hid e1
      rw [h1] at c1
      have q : (e != 0) = false := by rw [h2]; rfl
      clear e1 h1 h2
      go_enter Tryd.func75, Tryd.ntmps75
      go_wp2
      go_end0
      exact ⟨rfl, A, c, by rw [E1.out]; exact HD.out, Chg.refl _ _⟩
    · have e1 : rfail s e = ⟨[], e⟩ := by unfold rfail; rw [if_pos ⟨h1, h2⟩]
      have E1 := Lib.hid e1
      rw [h1] at c1
      have q : (e != 0) = true := by rw [bne_iff_ne]; exact h2
      clear e1 h1 h2
      go_enter Tryd.func75, Tryd.ntmps75
      go_wp2
      go_end0
      exact ⟨rfl, none, 0, by rw [E1.out]; exact HW.out, HS.out⟩
  · have e1 : rfail s e = s := by unfold rfail; rw [if_neg (by simp [h1])]
    have E1 := Lib.hid e1
    have q : (s.e == 0) = false := by rw [beq_eq_false_iff_ne]; exact h1
    clear e1 h1
    generalize s.e = E at c1 q
    go_enter Tryd.func75, Tryd.ntmps75
    go_wp2
    go_end0
    exact ⟨rfl, A, c, by rw [E1.out]; exact HD.out, Chg.refl _ _⟩

set_option maxHeartbeats 1000000 in
set_option maxRecDepth 100000 in
theorem rruint_any (B g : Nat) (s : Rd) (A : Option Addr) (c : Nat) (w : World) (h : RdAt 83 w B g s A c) (he : s.e = 0) :
    Calls Tryd.prog 74 #[.pointer (some ⟨g, 0, none⟩)] w fun x w' => x = .returned (.int .u64 (ruN s : Int)) ∧ RdTo 83 B g (ruS s) w w' := by
  obtain ⟨l, e⟩ := s
  simp only at he
  subst he
  have c0 := h.c0
  have c1 := h.c1
  have f0 := h.fz 0
  have hl := h.glt
  have h1 := h.by_.le
  have h2 := h.by_.cap
  simp only at c0 c1 h1
  have HD := Lib.hid h; clear h
  obtain ⟨n, hn⟩ : ∃ n, n = l.length := ⟨_, rfl⟩
  rw [← hn] at c0 h1
  have HN := Lib.hid hn; clear hn
  have HF : ∀ e : Nat, Hid (e ≠ 0 → rdGo 0 0 l = (e, 0, []) → ruN ⟨l, 0⟩ = 0 ∧ ruS ⟨l, 0⟩ = rfail ⟨l, 0⟩ (e : Int)) := fun e => Lib.hid (fun he hr => by
    constructor
    · unfold ruN; rw [if_pos rfl, hr]
    · unfold ruS rfail; rw [if_pos rfl, if_pos ⟨rfl, by omega⟩, hr])
  have HF10 := HF 10
  have HF11 := HF 11
  clear HF
  go_enter Tryd.func74, Tryd.ntmps74
  go_wp2_with fail
  go_loop [3, 4, 5] (fun m q i => ∃ k x p : Nat, k ≤ n ∧ k ≤ 9 ∧ i = .int .i64 k ∧ m = .int .u64 (x : Int) ∧ q = .int .u64 (p : Int) ∧ Hid (p = 128 ^ k) ∧ Hid (x < 128 ^ k) ∧ Hid (rdGo 0 0 l = rdGo k x (l.drop k))) (fun _ _ i => 10 - (intOf i).toNat)
  case atStart => exact ⟨0, 0, 1, by omega, by omega, rfl, rfl, rfl, Lib.hid (by omega), Lib.hid (by omega), Lib.hid rfl⟩
  case round =>
    obtain ⟨k, x, p, hk, hk9, rfl, rfl, rfl, HP, HX, HR⟩ := hrel
    by_cases hkn : k < n
    · obtain ⟨b, off, rfl, hb, hc⟩ := HD.out.by_.at_ (k := k) (by simp only; rw [← HN.out]; exact hkn)
      have hc1 := hc k (by simp only; rw [← HN.out]; exact hkn)
      clear hc
      obtain ⟨D, hD⟩ : ∃ D, D = (l[k]'(by rw [← HN.out]; exact hkn)).toNat := ⟨_, rfl⟩
      simp only at hc1
      rw [← hD] at hc1
      have hd2 : D < 256 := by rw [hD]; exact UInt8.toNat_lt _
      have HR2 := Lib.hid (ruS_step (by rw [← HN.out]; exact hkn) hD HR.out)
      clear hD HR
      by_cases hbad : (k = 9 ∧ 1 < D) ∨ (0 < k ∧ D = 0)
      · have hr := HR2.out
        rw [if_pos hbad] at hr
        obtain ⟨E1, E2⟩ := HF11.out (by omega) hr
        have E1 := Lib.hid E1
        have E2 := Lib.hid E2
        clear HR2 hr HF10 HF11
        by_cases hb9 : k = 9 ∧ 1 < D
        · obtain ⟨hk9', hD1⟩ := hb9
          have q1 : ((k : Int) == 9) = true := by rw [beq_iff_eq]; omega
          have q2 : 1 < D := hD1
          clear hk9' hbad
          go_wp2_with fail
          refine (rrfail_any B g ⟨l, 0⟩ (some ⟨b, off, none⟩) c 11 w HD.out).mono ?_
          rintro e w' ⟨rfl, A', c', hr', hch⟩
          have HR' := Lib.hid hr'
          have HC' := Lib.hid hch
          clear hr' hch
          go_wp2_with fail
          go_ret
          exact ⟨by rw [E1.out]; rfl, A', c', by rw [E2.out]; exact HR'.out, HC'.out⟩
        · have hk0 : 0 < k ∧ D = 0 := hbad.resolve_left hb9
          obtain ⟨hk0, hD0⟩ := hk0
          have q3 : ((D : Int) == 0) = true := by rw [beq_iff_eq]; omega
          have q2 : ¬ 1 < D := by omega
          clear hb9 hbad
          by_cases hk9' : k = 9
          · have q1 : ((k : Int) == 9) = true := by rw [beq_iff_eq]; omega
            clear hk9' hD0
            go_wp2_with fail
            refine (rrfail_any B g ⟨l, 0⟩ (some ⟨b, off, none⟩) c 11 w HD.out).mono ?_
            rintro e w' ⟨rfl, A', c', hr', hch⟩
            have HR' := Lib.hid hr'
            have HC' := Lib.hid hch
            clear hr' hch
            go_wp2_with fail
            go_ret
            exact ⟨by rw [E1.out]; rfl, A', c', by rw [E2.out]; exact HR'.out, HC'.out⟩
          · have q1 : ((k : Int) == 9) = false := by rw [beq_eq_false_iff_ne]; omega
            clear hk9' hD0
            go_wp2_with fail
            refine (rrfail_any B g ⟨l, 0⟩ (some ⟨b, off, none⟩) c 11 w HD.out).mono ?_
            rintro e w' ⟨rfl, A', c', hr', hch⟩
            have HR' := Lib.hid hr'
            have HC' := Lib.hid hch
            clear hr' hch
            go_wp2_with fail
            go_ret
            exact ⟨by rw [E1.out]; rfl, A', c', by rw [E2.out]; exact HR'.out, HC'.out⟩
      · have hr := HR2.out
        rw [if_neg hbad] at hr
        obtain ⟨M, hM⟩ : ∃ M, M = D % 128 := ⟨_, rfl⟩
        have hM2 : M < 128 := by omega
        have hMi : ((D : Int) % 128) = (M : Int) := by omega
        have h9 : k = 9 → M ≤ 1 := fun h => by
          rcases Nat.lt_or_ge 1 D with h3 | h3
          · exact absurd (.inl ⟨h, h3⟩) hbad
          · omega
        obtain ⟨Y, hY⟩ : ∃ Y, Y = M * 128 ^ k := ⟨_, rfl⟩
        have hsum : x + Y < 18446744073709551616 := by rw [hY]; exact room k M x hk9 HX.out hM2 h9
        have F2 := Lib.hid (mul_u64 k p M Y HP.out hY (by omega))
        obtain ⟨Z, hZ⟩ : ∃ Z, Z = x + Y := ⟨_, rfl⟩
        have F3 : Hid (IntKind.u64.wrap ((x : Int) + (Y : Int)) = (Z : Int)) := Lib.hid (by rw [hZ]; exact add_u64 x Y hsum)
        by_cases h128 : D < 128
        · have hMD : M = D := by omega
          rw [if_pos h128, ← hMD, ← hY, ← hZ] at hr
          have E1 : Hid (ruN ⟨l, 0⟩ = Z) := Lib.hid (by unfold ruN; rw [if_pos rfl, hr])
          have E2 : Hid (ruS ⟨l, 0⟩ = ⟨l.drop (k + 1), 0⟩) := Lib.hid (by unfold ruS; rw [if_pos rfl, hr]; rfl)
          obtain ⟨P2, hP2⟩ : ∃ P2 : Int, IntKind.u64.wrap ((p : Int) * 128) = P2 := ⟨_, rfl⟩
          have F4 := Lib.hid hP2
          have hD0 : 0 < k → D ≠ 0 := fun h h' => hbad (.inr ⟨h, h'⟩)
          clear hM hsum hr hMD HR2 HF10 HF11 hP2
          by_cases hk0 : k = 0
          · by_cases hDz : D = 0
            · obtain rfl : D = 0 := hDz
              obtain rfl : M = 0 := by omega
              have F2' : Hid (IntKind.u64.wrap ((p : Int) * 0) = (Y : Int)) := Lib.hid (by simpa using F2.out)
              have hc2 : w.cell? ⟨b, off + k, none⟩ = some (.int .u8 0) := by simpa using hc1
              have q1 : ((k : Int) == 9) = false := by rw [beq_eq_false_iff_ne]; omega
              have q4 : ¬ 0 < k := by omega
              clear hbad h9 hD0 F2 hMi hM2 hd2 h128 hk0 hY hZ hc1
              go_wp2_with (first | (refine wpList_mul rfl (.tmp 47) (.tmp 50) 100 100 rfl (p : Int) 0 (Y : Int) rfl rfl F2'.out ?_) | (refine wpList_add rfl (.tmp 46) (.tmp 51) 100 100 rfl (x : Int) (Y : Int) (Z : Int) rfl rfl F3.out ?_) | (refine wpList_mul rfl (.tmp 53) (.const (.int .u64 128)) 100 100 rfl (p : Int) 128 P2 rfl rfl F4.out ?_))
              all_goals
                go_ret
                exact ⟨by rw [E1.out]; rfl, _, _, by rw [E2.out]; exact rd_drop HD.out (by have := HN.out; omega) _ _ _ HN.out (by omega) (by omega) (by first | exact .inl ⟨rfl, by omega⟩ | exact .inr rfl), chg_g g 0 w _⟩
            · have q1 : ((k : Int) == 9) = false := by rw [beq_eq_false_iff_ne]; omega
              have q3 : ((D : Int) == 0) = false := by rw [beq_eq_false_iff_ne]; omega
              have q4 : ¬ 0 < k := by omega
              clear hbad h9 hD0 hk0 hY hZ hDz
              go_wp2_with (first | (refine wpList_mul rfl (.tmp 47) (.tmp 50) 100 100 rfl (p : Int) (M : Int) (Y : Int) rfl rfl F2.out ?_) | (refine wpList_add rfl (.tmp 46) (.tmp 51) 100 100 rfl (x : Int) (Y : Int) (Z : Int) rfl rfl F3.out ?_) | (refine wpList_mul rfl (.tmp 53) (.const (.int .u64 128)) 100 100 rfl (p : Int) 128 P2 rfl rfl F4.out ?_))
              all_goals
                go_ret
                exact ⟨by rw [E1.out]; rfl, _, _, by rw [E2.out]; exact rd_drop HD.out (by have := HN.out; omega) _ _ _ HN.out (by omega) (by omega) (by first | exact .inl ⟨rfl, by omega⟩ | exact .inr rfl), chg_g g 0 w _⟩
          · have q3 : ((D : Int) == 0) = false := by rw [beq_eq_false_iff_ne]; have := hD0 (by omega); omega
            have q4 : 0 < k := by omega
            by_cases hk9' : k = 9
            · have q1 : ((k : Int) == 9) = true := by rw [beq_iff_eq]; omega
              have q2 : decide (1 < (D : Int)) = false := by
                rw [decide_eq_false_iff_not]
                intro h3
                exact hbad (.inl ⟨hk9', by omega⟩)
              clear hk9' h9 hD0 hk0 hbad hY hZ
              go_wp2_with (first | (refine wpList_mul rfl (.tmp 47) (.tmp 50) 100 100 rfl (p : Int) (M : Int) (Y : Int) rfl rfl F2.out ?_) | (refine wpList_add rfl (.tmp 46) (.tmp 51) 100 100 rfl (x : Int) (Y : Int) (Z : Int) rfl rfl F3.out ?_) | (refine wpList_mul rfl (.tmp 53) (.const (.int .u64 128)) 100 100 rfl (p : Int) 128 P2 rfl rfl F4.out ?_))
              all_goals
                go_ret
                exact ⟨by rw [E1.out]; rfl, _, _, by rw [E2.out]; exact rd_drop HD.out (by have := HN.out; omega) _ _ _ HN.out (by omega) (by omega) (by first | exact .inl ⟨rfl, by omega⟩ | exact .inr rfl), chg_g g 0 w _⟩
            · have q1 : ((k : Int) == 9) = false := by rw [beq_eq_false_iff_ne]; omega
              clear hk9' h9 hD0 hk0 hbad hY hZ
              go_wp2_with (first | (refine wpList_mul rfl (.tmp 47) (.tmp 50) 100 100 rfl (p : Int) (M : Int) (Y : Int) rfl rfl F2.out ?_) | (refine wpList_add rfl (.tmp 46) (.tmp 51) 100 100 rfl (x : Int) (Y : Int) (Z : Int) rfl rfl F3.out ?_) | (refine wpList_mul rfl (.tmp 53) (.const (.int .u64 128)) 100 100 rfl (p : Int) 128 P2 rfl rfl F4.out ?_))
              all_goals
                go_ret
                exact ⟨by rw [E1.out]; rfl, _, _, by rw [E2.out]; exact rd_drop HD.out (by have := HN.out; omega) _ _ _ HN.out (by omega) (by omega) (by first | exact .inl ⟨rfl, by omega⟩ | exact .inr rfl), chg_g g 0 w _⟩
        · have hk8 : k < 9 := by
            rcases Nat.lt_or_ge k 9 with h | h
            · exact h
            · exact absurd (.inl ⟨by omega, by omega⟩) hbad
          have q1 : ((k : Int) == 9) = false := by rw [beq_eq_false_iff_ne]; omega
          have q2 : ((D : Int) == 0) = false := by rw [beq_eq_false_iff_ne]; omega
          rw [if_neg h128, ← hM, ← hY, ← hZ] at hr
          have HR3 := Lib.hid hr
          obtain ⟨P3, hP3⟩ : ∃ P3, P3 = 128 ^ (k + 1) := ⟨_, rfl⟩
          have hP4 := mul128_u64 k p HP.out hk8
          rw [← hP3] at hP4
          have HP3 := Lib.hid hP3
          have F4 := Lib.hid hP4
          have HX3 : Hid (Z < 128 ^ (k + 1)) := Lib.hid (by
            have h3 : M * 128 ^ k ≤ 127 * 128 ^ k := Nat.mul_le_mul_right _ (by omega)
            have h4 := HX.out
            rw [pow_step]; omega)
          clear hbad hM hY hZ hsum hr h9 HR2 hP3 hP4
          go_wp2_with (first | (refine wpList_mul rfl (.tmp 47) (.tmp 50) 100 100 rfl (p : Int) (M : Int) (Y : Int) rfl rfl F2.out ?_) | (refine wpList_add rfl (.tmp 46) (.tmp 51) 100 100 rfl (x : Int) (Y : Int) (Z : Int) rfl rfl F3.out ?_) | (refine wpList_mul rfl (.tmp 53) (.const (.int .u64 128)) 100 100 rfl (p : Int) 128 (P3 : Int) rfl rfl F4.out ?_))
          all_goals
            go_round
            case rel => exact ⟨k + 1, Z, P3, by omega, by omega, by go_num, rfl, rfl, HP3, HX3, HR3⟩
            case measure => simp [intOf]; omega
    · have hk' : k = n := by omega
      have hr : rdGo 0 0 l = (10, 0, []) := by
        rw [HR.out, List.drop_eq_nil_of_le (by have := HN.out; omega)]; rfl
      obtain ⟨E1, E2⟩ := HF10.out (by omega) hr
      have E1 := Lib.hid E1
      have E2 := Lib.hid E2
      clear hr HF10 HF11 hk'
      go_wp2_with fail
      refine (rrfail_any B g ⟨l, 0⟩ A c 10 w HD.out).mono ?_
      rintro e w' ⟨rfl, A', c', hr', hch⟩
      have HR' := Lib.hid hr'
      have HC' := Lib.hid hch
      clear hr' hch
      go_wp2_with fail
      go_ret
      exact ⟨by rw [E1.out]; rfl, A', c', by rw [E2.out]; exact HR'.out, HC'.out⟩
end Go.Proofs.YtkenaoejijpgpaaDoor
