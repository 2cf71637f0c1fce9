/- The document's disk: done, Append, Stage. -/
import Derived.Test.YtpkefkoimlecjaaDoorRefD
namespace Go.Proofs.YtpkefkoimlecjaaDoor
open Go.RowKit

theorem cut_min (a : Int) (n : Nat) : ((min (max a 0) n).toNat : Int) = min (max a 0) n := by omega

set_option maxHeartbeats 1000000 in
theorem rdone_any (d : Dk) (A : Option Addr) (c n : Nat) (l : List UInt8) (w : World) (h : BytesIn w w.heap.size A c l) (hn : n = l.length) :
    Calls Tryd.prog 37 #[rv d, .slice A n c] w fun e w' => e = .returned (.tuple #[rv { d with cut := false }, .string (str (l.take (took d l.length))), .int .i64 (tookE d)]) ∧ ∃ X Y, w' = ((w.alloc X).alloc Y).drew := by
  obtain ⟨room, cl, log, snap, staged, cut, at_⟩ := d
  have hle := h.le
  have hcap := h.cap
  rcases cut with _ | _
  · have hz : ∀ X Y, (convert 22 9 (.slice A n c)).run Tryd.prog ((w.alloc X).alloc Y).drew = .ok (.string (str l)) ((w.alloc X).alloc Y).drew := fun X Y =>
      run_string (h.below (((Below.refl w.heap.size w).alloc (Nat.le_refl _) X).alloc (by simp) Y) (Nat.le_refl _)).drew hn 22 5 9 Tryd.underlying22 Tryd.underlying5 Tryd.underlying9
    have e1 : l.take (took ⟨room, cl, log, snap, staged, false, at_⟩ l.length) = l := by unfold took; simp
    have e2 : tookE ⟨room, cl, log, snap, staged, false, at_⟩ = 0 := rfl
    rw [e1, e2]
    clear e1 e2 h hn
    unfold rv
    simp only
    go_enter Tryd.func37, Tryd.ntmps37
    go_wp2_with fail
    go_region
    all_goals go_wp2
    all_goals
      refine bodyPost_ret (v := .tuple #[.agg #[.int .i64 (room : Int), .int .i64 cl.e, .int .i64 cl.h, .int .i64 cl.u, .string (str log), .string (str snap), .string (str staged), .bool false, .int .i64 at_], .string (str l), .int .i64 0]) (by simp [results, Tryd.results37, go_sem]) rfl ⟨rfl, _, _, rfl⟩
  · obtain ⟨k, hk⟩ : ∃ k : Nat, (k : Int) = min (max at_ 0) n := ⟨(min (max at_ 0) n).toNat, by omega⟩
    have hkn : k ≤ n := by omega
    have hz : ∀ X Y, (convert 22 9 (.slice A k c)).run Tryd.prog ((w.alloc X).alloc Y).drew = .ok (.string (str (l.take k))) ((w.alloc X).alloc Y).drew := fun X Y =>
      run_string (h.below (((Below.refl w.heap.size w).alloc (Nat.le_refl _) X).alloc (by simp) Y) (Nat.le_refl _)).take.drew (by rw [List.length_take]; omega) 22 5 9 Tryd.underlying22 Tryd.underlying5 Tryd.underlying9
    have e1 : took ⟨room, cl, log, snap, staged, true, at_⟩ l.length = k := by unfold took; simp only [if_true]; rw [← hn]; omega
    have e2 : tookE ⟨room, cl, log, snap, staged, true, at_⟩ = 152 := rfl
    rw [e1, e2]
    have hk' := hk.symm
    have hnc : n ≤ c := by omega
    clear e1 e2 h hn hk hle
    unfold rv
    simp only
    go_enter Tryd.func37, Tryd.ntmps37
    go_wp2_with fail
    go_region
    all_goals go_wp2
    all_goals
      refine bodyPost_ret (v := .tuple #[.agg #[.int .i64 (room : Int), .int .i64 cl.e, .int .i64 cl.h, .int .i64 cl.u, .string (str log), .string (str snap), .string (str staged), .bool false, .int .i64 at_], .string (str (l.take k)), .int .i64 152]) (by simp [results, Tryd.results37, go_sem]) rfl ⟨rfl, _, _, rfl⟩

set_option maxHeartbeats 1000000 in
theorem rstage_any (d : Dk) (ep : Int) (A : Option Addr) (c n : Nat) (l : List UInt8) (w : World) (h : BytesIn w w.heap.size A c l) (hn : n = l.length) :
    Calls Tryd.prog 33 #[rv d, .int .i64 ep, .slice A n c] w fun e w' => e = .returned (.tuple #[rv (sgD d ep l), .int .i64 (sgE d ep l)]) ∧ Below w.heap.size w w' := by
  obtain ⟨room, cl, log, snap, staged, cut, at_⟩ := d
  have hle := h.le
  have hcap := h.cap
  rw [← hn] at hle
  by_cases he : ep = cl.e
  · by_cases h2 : room < l.length
    · have e1 : sgE ⟨room, cl, log, snap, staged, cut, at_⟩ ep l = 153 := by unfold sgE stE; rw [if_pos he, if_pos h2]
      have e2 : sgD ⟨room, cl, log, snap, staged, cut, at_⟩ ep l = ⟨room, cl, log, snap, staged, cut, at_⟩ := by unfold sgD stD; rw [if_pos he, if_pos h2]
      rw [e1, e2]
      rw [← hn] at h2
      clear e1 e2 hn h
      subst he
      unfold rv
      simp only
      go_enter Tryd.func33, Tryd.ntmps33
      go_wp2_with fail
      refine bodyPost_ret (v := .tuple #[.agg #[.int .i64 (room : Int), .int .i64 cl.e, .int .i64 cl.h, .int .i64 cl.u, .string (str log), .string (str snap), .string (str staged), .bool cut, .int .i64 at_], .int .i64 153]) (by simp [results, Tryd.results33, go_sem]) rfl ⟨rfl, ?_⟩
      exact (((Below.refl w.heap.size w).alloc (Nat.le_refl _) _).alloc (by simp) _)
    · have e1 : sgE ⟨room, cl, log, snap, staged, cut, at_⟩ ep l = tookE ⟨room, cl, log, snap, staged, cut, at_⟩ := by unfold sgE stE; rw [if_pos he, if_neg h2]
      have e2 : sgD ⟨room, cl, log, snap, staged, cut, at_⟩ ep l = ⟨room, cl, log, snap, l.take (took ⟨room, cl, log, snap, staged, cut, at_⟩ l.length), false, at_⟩ := by unfold sgD stD; rw [if_pos he, if_neg h2]
      rw [e1, e2]
      have hk : ∀ X Y, Calls Tryd.prog 37 #[rv ⟨room, cl, log, snap, staged, cut, at_⟩, .slice A n c] ((w.alloc X).alloc Y) fun e w' => e = .returned (.tuple #[rv ⟨room, cl, log, snap, staged, false, at_⟩, .string (str (l.take (took ⟨room, cl, log, snap, staged, cut, at_⟩ l.length))), .int .i64 (tookE ⟨room, cl, log, snap, staged, cut, at_⟩)]) ∧ ∃ X' Y', w' = ((((w.alloc X).alloc Y).alloc X').alloc Y').drew := fun X Y =>
        rdone_any ⟨room, cl, log, snap, staged, cut, at_⟩ A c n l _ ((h.below (((Below.refl w.heap.size w).alloc (Nat.le_refl _) X).alloc (by simp) Y) (Nat.le_refl _)).more (by simp <;> omega)) hn
      have HK := Lib.hid hk
      rw [← hn] at h2
      clear e1 e2 hn h hk
      revert HK
      generalize tookE ⟨room, cl, log, snap, staged, cut, at_⟩ = te
      generalize l.take (took ⟨room, cl, log, snap, staged, cut, at_⟩ l.length) = lt
      intro HK
      subst he
      unfold rv
      simp only
      go_enter Tryd.func33, Tryd.ntmps33
      go_wp2_with fail
      refine (HK.out _ _).mono ?_
      rintro e w' ⟨rfl, X, Y, rfl⟩
      clear HK
      simp only [rv]
      go_wp2_with fail
      refine bodyPost_ret (v := .tuple #[.agg #[.int .i64 (room : Int), .int .i64 cl.e, .int .i64 cl.h, .int .i64 cl.u, .string (str log), .string (str snap), .string (str lt), .bool false, .int .i64 at_], .int .i64 te]) (by simp [results, Tryd.results33, go_sem]) rfl ⟨rfl, ?_⟩
      exact (((((Below.refl w.heap.size w).alloc (Nat.le_refl _) _).alloc (by simp) _).alloc (by simp <;> omega) _).alloc (by simp <;> omega) _).drew.alloc (by simp <;> omega) _
  · have e1 : sgE ⟨room, cl, log, snap, staged, cut, at_⟩ ep l = 150 := by unfold sgE; rw [if_neg he]
    have e2 : sgD ⟨room, cl, log, snap, staged, cut, at_⟩ ep l = ⟨room, cl, log, snap, staged, cut, at_⟩ := by unfold sgD; rw [if_neg he]
    have q : (ep != cl.e) = true := by rw [bne_iff_ne]; exact he
    rw [e1, e2]
    clear e1 e2 he hn h
    unfold rv
    simp only
    go_enter Tryd.func33, Tryd.ntmps33
    go_wp2_with fail
    refine bodyPost_ret (v := .tuple #[.agg #[.int .i64 (room : Int), .int .i64 cl.e, .int .i64 cl.h, .int .i64 cl.u, .string (str log), .string (str snap), .string (str staged), .bool cut, .int .i64 at_], .int .i64 150]) (by simp [results, Tryd.results33, go_sem]) rfl ⟨rfl, ?_⟩
    exact (((Below.refl w.heap.size w).alloc (Nat.le_refl _) _).alloc (by simp) _)
end Go.Proofs.YtpkefkoimlecjaaDoor
