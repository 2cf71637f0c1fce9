/- What is cut short ends in an error (plain). -/
import Derived.Test.YtjhjhklidofhgaaRdR
import Derived.Test.YtjhjhklidofhgaaEncN
namespace Go.Proofs.Ytjhjhklidofhgaa

theorem ru_e (e : Int) (he : ¬ e = 0) (l : List UInt8) : ruN ⟨l, e⟩ = 0 ∧ ruS ⟨l, e⟩ = ⟨l, e⟩ := by
  unfold ruN ruS
  rw [if_neg he, if_neg he]
  exact ⟨rfl, rfl⟩
theorem rc_e (e most : Int) (he : ¬ e = 0) (l : List UInt8) : rcN ⟨l, e⟩ most = 0 ∧ rcS ⟨l, e⟩ most = ⟨l, e⟩ := by
  obtain ⟨h1, h2⟩ := ru_e e he l
  unfold rcN rcS
  rw [h1, h2, if_neg (by omega), if_neg (by omega)]
  exact ⟨rfl, rfl⟩
theorem rt_e (e most : Int) (he : ¬ e = 0) (l : List UInt8) : rtS ⟨l, e⟩ most = ⟨l, e⟩ := by
  unfold rtS
  rw [(rc_e e most he l).2, if_neg he]
theorem rs_e (e most : Int) (he : ¬ e = 0) (l : List UInt8) : rsS ⟨l, e⟩ most = ⟨l, e⟩ := by
  unfold rsS
  rw [(rc_e e most he l).1, (rc_e e most he l).2]
  rfl
theorem rr_e (n : Nat) (e : Int) (he : ¬ e = 0) (l : List UInt8) : rrS n ⟨l, e⟩ = ⟨l, e⟩ := by
  cases n with
  | zero => rfl
  | succ n => rw [rrS, if_neg he]
theorem take_pre {α : Type} (a b : List α) (q : Nat) (h : q ≤ a.length) : (a ++ b).take q = a.take q := List.take_append_of_le_length h
theorem take_suf {α : Type} (a b : List α) (q : Nat) (h : ¬ q ≤ a.length) : (a ++ b).take q = a ++ b.take (q - a.length) := by
  rw [List.take_append, List.take_of_length_le (by omega)]
theorem take_suf' {α : Type} (a b : List α) (q : Nat) (h : ¬ q < a.length) : (a ++ b).take q = a ++ b.take (q - a.length) := by
  rw [List.take_append, List.take_of_length_le (by omega)]
theorem rr_cut (xs : List Int) : ∀ q, (∀ n ∈ xs, inI64 n) → q < (vrow xs).length → rrS xs.length ⟨(vrow xs).take q, 0⟩ = ⟨[], 10⟩ := by
  induction xs with
  | nil => intro q _ h; simp [vrow] at h
  | cons n xs ih =>
    intro q hin hq
    have hz := zz_lt n (hin n List.mem_cons_self).1 (hin n List.mem_cons_self).2
    rw [vrow] at hq ⊢
    rw [List.length_append] at hq
    rw [List.length_cons, rrS, if_pos rfl]
    by_cases h : q < (vb (zz n)).length
    · rw [take_pre _ _ _ (by omega), (ru_cut (zz n) q hz h).2]
      exact rr_e _ 10 (by omega) []
    · rw [take_suf' _ _ _ h, (ru_put (zz n) _ hz).2]
      exact ih _ (fun m hm => hin m (List.mem_cons_of_mem _ hm)) (by omega)
theorem rs_cut (xs : List Int) (q : Nat) (most : Int) (hin : ∀ n ∈ xs, inI64 n) (hx : xs.length ≤ 1000) (hm : 1000 ≤ most) (hq : q < (vints xs).length) : rsS ⟨(vints xs).take q, 0⟩ most = ⟨[], 10⟩ := by
  have htop : ¬ top most < xs.length := by unfold top; omega
  unfold vints at hq ⊢
  rw [List.length_append] at hq
  unfold rsS rcN rcS
  by_cases h : q < (vb xs.length).length
  · obtain ⟨h1, h2⟩ := ru_cut xs.length q (by omega) h
    rw [take_pre _ _ _ (by omega), h1, h2, if_neg (by omega), if_neg (by omega)]
    rfl
  · obtain ⟨h1, h2⟩ := ru_put xs.length ((vrow xs).take (q - (vb xs.length).length)) (by omega)
    rw [take_suf' _ _ _ h, h1, h2, if_neg htop, if_neg htop]
    exact rr_cut xs _ hin (by omega)
theorem all_cut (N : Nat) (s : List UInt8) (xs : List Int) (q : Nat) (hN : N < 18446744073709551616) (hs : s.length ≤ 1000) (hx : xs.length ≤ 1000) (hin : ∀ n ∈ xs, inI64 n) (hq : q < (vb N ++ vtext s ++ vints xs).length) :
    rsS (rtS (ruS ⟨(vb N ++ vtext s ++ vints xs).take q, 0⟩) 1000) 1000 = ⟨[], 10⟩ := by
  rw [List.append_assoc] at hq ⊢
  rw [List.length_append] at hq
  have htop : ¬ top 1000 < s.length := by unfold top; omega
  by_cases h : q < (vb N).length
  · rw [take_pre _ _ _ (by omega), (ru_cut N q hN h).2, rt_e 10 1000 (by omega), rs_e 10 1000 (by omega)]
  · rw [take_suf' _ _ _ h, (ru_put N _ hN).2]
    generalize hq1 : q - (vb N).length = q1
    have hq1' : q1 < (vtext s ++ vints xs).length := by omega
    unfold vtext at hq1' ⊢
    rw [List.append_assoc] at hq1' ⊢
    rw [List.length_append] at hq1'
    by_cases h2 : q1 < (vb s.length).length
    · obtain ⟨h3, h4⟩ := ru_cut s.length q1 (by omega) h2
      have e : rtS ⟨(vb s.length).take q1, 0⟩ 1000 = ⟨[], 10⟩ := by
        have e1 : rcS ⟨(vb s.length).take q1, 0⟩ 1000 = ⟨[], 10⟩ := by unfold rcS; rw [h3, h4, if_neg (by omega)]
        unfold rtS
        rw [e1, if_neg (by simp)]
      rw [take_pre _ _ _ (by omega), e, rs_e 10 1000 (by omega)]
    · obtain ⟨h3, h4⟩ := ru_put s.length ((s ++ vints xs).take (q1 - (vb s.length).length)) (by omega)
      rw [take_suf' _ _ _ h2]
      generalize hq2 : q1 - (vb s.length).length = q2 at h3 h4 ⊢
      have hq2' : q2 < (s ++ vints xs).length := by omega
      rw [List.length_append] at hq2'
      have e1 : rcS ⟨vb s.length ++ (s ++ vints xs).take q2, 0⟩ 1000 = ⟨(s ++ vints xs).take q2, 0⟩ := by unfold rcS; rw [h3, h4, if_neg htop]
      have e2 : rcN ⟨vb s.length ++ (s ++ vints xs).take q2, 0⟩ 1000 = s.length := by unfold rcN; rw [h3, if_neg htop]
      by_cases h5 : q2 < s.length
      · have e3 : rtS ⟨vb s.length ++ (s ++ vints xs).take q2, 0⟩ 1000 = ⟨[], 10⟩ := by
          unfold rtS
          rw [e1, e2, if_pos rfl, if_neg (by simp only [List.length_take, List.length_append]; omega)]
        rw [e3, rs_e 10 1000 (by omega)]
      · have e3 : rtS ⟨vb s.length ++ (s ++ vints xs).take q2, 0⟩ 1000 = ⟨(vints xs).take (q2 - s.length), 0⟩ := by
          unfold rtS
          rw [e1, e2, if_pos rfl, if_pos (by simp only [List.length_take, List.length_append]; omega)]
          simp only
          rw [take_suf' _ _ _ h5, List.drop_left]
        rw [e3]
        exact rs_cut xs _ 1000 hin hx (by omega) (by omega)
end Go.Proofs.Ytjhjhklidofhgaa
