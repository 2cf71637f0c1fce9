/- The document's disk: Append. -/
import Derived.Test.YtpkefkoimlecjaaDoorRefA
import Derived.Test.YtpkefkoimlecjaaDoorHeldW
namespace Go.Proofs.YtpkefkoimlecjaaDoor
open Go.RowKit
attribute [local go_sem] str_append

theorem below_dr {B : Nat} {a b : World} (h : Below B a b) : Below B a b := h
theorem below_drw {B : Nat} {a b : World} (h : Below B a b) : Below B a b.drew := ⟨h.os, h.tape, h.output, h.size, h.block⟩

set_option maxHeartbeats 1000000 in
theorem rappend_any (d : Dk) (ep i : Int) (A : Option Addr) (c n : Nat) (l : List UInt8) (w : World) (h : BytesIn w w.heap.size A c l) (hn : n = l.length) (hl : d.log.length ≤ d.room) (hr : d.room ≤ 1048576) (hs : n ≤ 1048576) :
    Calls Tryd.prog 31 #[rv d, .int .i64 ep, .int .i64 i, .slice A n c] w fun e w' => e = .returned (.tuple #[rv (apD d ep i l), .int .i64 (apN d ep i l), .int .i64 (apE d ep i l)]) ∧ Below w.heap.size w w' := by
  obtain ⟨room, cl, log, snap, staged, cut, at_⟩ := d
  simp only at hl hr
  have hle := h.le
  have hcap := h.cap
  rw [← hn] at hle
  have hz : (str log).size = log.length := str_size log
  obtain ⟨N, hN⟩ : ∃ N, N = log.length := ⟨_, rfl⟩
  rw [← hN] at hz hl
  have HN := Lib.hid hN
  by_cases he : ep = cl.e
  · by_cases hi : i = N
    · by_cases h2 : room < N + n
      · have e1 : apE ⟨room, cl, log, snap, staged, cut, at_⟩ ep i l = 153 := by unfold apE appE; rw [if_pos he, if_pos (by rw [hi, hN]), if_pos (by rw [← hN, ← hn]; exact h2)]
        have e2 : apD ⟨room, cl, log, snap, staged, cut, at_⟩ ep i l = ⟨room, cl, log, snap, staged, cut, at_⟩ := by unfold apD appD; rw [if_pos he, if_pos (by rw [hi, hN]), if_pos (by rw [← hN, ← hn]; exact h2)]
        have e3 : apN ⟨room, cl, log, snap, staged, cut, at_⟩ ep i l = 0 := by unfold apN; rw [e1]; rfl
        rw [e1, e2, e3]
        clear e1 e2 e3 hn h hN
        subst he hi
        unfold rv
        simp only
        go_enter Tryd.func31, Tryd.ntmps31
        go_wp2_with fail
        refine bodyPost_ret (v := .tuple #[.agg #[.int .i64 (room : Int), .int .i64 cl.e, .int .i64 cl.h, .int .i64 cl.u, .string (str log), .string (str snap), .string (str staged), .bool cut, .int .i64 at_], .int .i64 0, .int .i64 153]) (by simp [results, Tryd.results31, go_sem]) rfl ⟨rfl, ?_⟩
        exact (((Below.refl w.heap.size w).alloc (Nat.le_refl _) _).alloc (by simp) _)
      · have hk : ∀ X Y, Calls Tryd.prog 37 #[rv ⟨room, cl, log, snap, staged, cut, at_⟩, .slice A n c] ((w.alloc X).alloc Y) fun e w' => e = .returned (.tuple #[rv ⟨room, cl, log, snap, staged, false, at_⟩, .string (str (l.take (took ⟨room, cl, log, snap, staged, cut, at_⟩ l.length))), .int .i64 (tookE ⟨room, cl, log, snap, staged, cut, at_⟩)]) ∧ ∃ X' Y', w' = ((((w.alloc X).alloc Y).alloc X').alloc Y').drew := fun X Y =>
          rdone_any ⟨room, cl, log, snap, staged, cut, at_⟩ A c n l _ ((h.below (((Below.refl w.heap.size w).alloc (Nat.le_refl _) X).alloc (by simp) Y) (Nat.le_refl _)).more (by simp <;> omega)) hn
        have HK := Lib.hid hk
        have e1 : apE ⟨room, cl, log, snap, staged, cut, at_⟩ ep i l = tookE ⟨room, cl, log, snap, staged, cut, at_⟩ := by unfold apE appE; rw [if_pos he, if_pos (by rw [hi, hN]), if_neg (by rw [← hN, ← hn]; exact h2)]
        have e2 : apD ⟨room, cl, log, snap, staged, cut, at_⟩ ep i l = ⟨room, cl, log ++ l.take (took ⟨room, cl, log, snap, staged, cut, at_⟩ l.length), snap, staged, false, at_⟩ := by unfold apD appD; rw [if_pos he, if_pos (by rw [hi, hN]), if_neg (by rw [← hN, ← hn]; exact h2)]
        have htl : (l.take (took ⟨room, cl, log, snap, staged, cut, at_⟩ l.length)).length ≤ n := by rw [hn, List.length_take]; omega
        have e3 : apN ⟨room, cl, log, snap, staged, cut, at_⟩ ep i l = if tookE ⟨room, cl, log, snap, staged, cut, at_⟩ = 0 then (((log ++ l.take (took ⟨room, cl, log, snap, staged, cut, at_⟩ l.length)).length : Nat) : Int) else 0 := by
          unfold apN
          rw [e1, e2]
        rw [e1, e2, e3]
        clear e1 e2 e3 hn h hN hk
        have hte : tookE ⟨room, cl, log, snap, staged, cut, at_⟩ = 0 ∨ tookE ⟨room, cl, log, snap, staged, cut, at_⟩ = 152 := by unfold tookE; split <;> simp
        revert HK hte htl
        generalize tookE ⟨room, cl, log, snap, staged, cut, at_⟩ = te
        generalize l.take (took ⟨room, cl, log, snap, staged, cut, at_⟩ l.length) = lt
        intro HK htl hte
        have hz2 : (str lt).size = lt.length := str_size lt
        have hz3 : (str (log ++ lt)).size = N + lt.length := by rw [str_size, List.length_append, HN.out]
        have hz4 : ¬ 9223372036854775807 < (str log).size + (str lt).size := by rw [hz, hz2]; omega
        have hz5 : (((log ++ lt).length : Nat) : Int) = (N : Int) + (lt.length : Int) := by rw [List.length_append, HN.out]; omega
        rw [hz5]
        clear hz5
        obtain ⟨M, hM⟩ : ∃ M, M = lt.length := ⟨_, rfl⟩
        rw [← hM] at hz2 hz3 htl ⊢
        clear hM
        subst he hi
        unfold rv
        simp only
        rcases hte with rfl | rfl
        · go_enter Tryd.func31, Tryd.ntmps31
          go_wp2_with fail
          refine (HK.out _ _).mono ?_
          rintro e w' ⟨rfl, X, Y, rfl⟩
          clear HK
          simp only [rv]
          go_wp2_with fail
          go_region
          all_goals (try go_wp2)
          all_goals
            refine bodyPost_ret (v := .tuple #[.agg #[.int .i64 (room : Int), .int .i64 cl.e, .int .i64 cl.h, .int .i64 cl.u, .string (str (log ++ lt)), .string (str snap), .string (str staged), .bool false, .int .i64 at_], .int .i64 ((N : Int) + M), .int .i64 0]) (by simp [results, Tryd.results31, go_sem]) rfl ⟨by simp, ?_⟩
            exact below_drw ((((((Below.refl w.heap.size w).alloc (Nat.le_refl _) _).alloc (by simp) _).alloc (by simp <;> omega) _).alloc (by simp <;> omega) _).drew.alloc (by simp <;> omega) _)
        · go_enter Tryd.func31, Tryd.ntmps31
          go_wp2_with fail
          refine (HK.out _ _).mono ?_
          rintro e w' ⟨rfl, X, Y, rfl⟩
          clear HK
          simp only [rv]
          go_wp2_with fail
          all_goals (try go_wp2)
          all_goals
            refine bodyPost_ret (v := .tuple #[.agg #[.int .i64 (room : Int), .int .i64 cl.e, .int .i64 cl.h, .int .i64 cl.u, .string (str (log ++ lt)), .string (str snap), .string (str staged), .bool false, .int .i64 at_], .int .i64 0, .int .i64 152]) (by simp [results, Tryd.results31, go_sem]) rfl ⟨by simp, ?_⟩
            exact below_dr ((((((Below.refl w.heap.size w).alloc (Nat.le_refl _) _).alloc (by simp) _).alloc (by simp <;> omega) _).alloc (by simp <;> omega) _).drew.alloc (by simp <;> omega) _)
    · have e1 : apE ⟨room, cl, log, snap, staged, cut, at_⟩ ep i l = 151 := by unfold apE appE; rw [if_pos he, if_neg (by rw [← hN]; exact hi)]
      have e2 : apD ⟨room, cl, log, snap, staged, cut, at_⟩ ep i l = ⟨room, cl, log, snap, staged, cut, at_⟩ := by unfold apD appD; rw [if_pos he, if_neg (by rw [← hN]; exact hi)]
      have e3 : apN ⟨room, cl, log, snap, staged, cut, at_⟩ ep i l = 0 := by unfold apN; rw [e1]; rfl
      have q : (i != (N : Int)) = true := by rw [bne_iff_ne]; exact hi
      rw [e1, e2, e3]
      clear e1 e2 e3 hn h hN hi
      subst he
      unfold rv
      simp only
      go_enter Tryd.func31, Tryd.ntmps31
      go_wp2_with fail
      refine bodyPost_ret (v := .tuple #[.agg #[.int .i64 (room : Int), .int .i64 cl.e, .int .i64 cl.h, .int .i64 cl.u, .string (str log), .string (str snap), .string (str staged), .bool cut, .int .i64 at_], .int .i64 0, .int .i64 151]) (by simp [results, Tryd.results31, go_sem]) rfl ⟨rfl, ?_⟩
      exact (((Below.refl w.heap.size w).alloc (Nat.le_refl _) _).alloc (by simp) _)
  · have e1 : apE ⟨room, cl, log, snap, staged, cut, at_⟩ ep i l = 150 := by unfold apE; rw [if_neg he]
    have e2 : apD ⟨room, cl, log, snap, staged, cut, at_⟩ ep i l = ⟨room, cl, log, snap, staged, cut, at_⟩ := by unfold apD; rw [if_neg he]
    have e3 : apN ⟨room, cl, log, snap, staged, cut, at_⟩ ep i l = 0 := by unfold apN; rw [e1]; rfl
    have q : (ep != cl.e) = true := by rw [bne_iff_ne]; exact he
    rw [e1, e2, e3]
    clear e1 e2 e3 hn h hN he
    unfold rv
    simp only
    go_enter Tryd.func31, Tryd.ntmps31
    go_wp2_with fail
    refine bodyPost_ret (v := .tuple #[.agg #[.int .i64 (room : Int), .int .i64 cl.e, .int .i64 cl.h, .int .i64 cl.u, .string (str log), .string (str snap), .string (str staged), .bool cut, .int .i64 at_], .int .i64 0, .int .i64 150]) (by simp [results, Tryd.results31, go_sem]) rfl ⟨rfl, ?_⟩
    exact (((Below.refl w.heap.size w).alloc (Nat.le_refl _) _).alloc (by simp) _)
end Go.Proofs.YtpkefkoimlecjaaDoor
