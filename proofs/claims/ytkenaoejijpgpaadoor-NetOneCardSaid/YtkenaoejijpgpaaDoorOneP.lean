/- What is unpacked is packed as it was, in plain words. -/
import Derived.Test.YtkenaoejijpgpaaDoorBackP
namespace Go.Proofs.YtkenaoejijpgpaaDoor
open Go.RowKit

theorem ruS_e {s : Rd} (h : (ruS s).e = 0) : s.e = 0 ∧ s.l = vb (ruN s) ++ (ruS s).l := by
  obtain ⟨l, e⟩ := s
  by_cases h0 : e = 0
  · subst h0
    exact ⟨rfl, ru_ok h⟩
  · exfalso
    unfold ruS at h
    rw [if_neg h0] at h
    exact h0 h
theorem rdF_keep (fs : List FD) : ∀ (p : Rd × (Nat → Int)) (i : Nat), i ∉ fs.map (·.off) → (rdF fs p).2 i = p.2 i := by
  induction fs with
  | nil => intro p i _; rfl
  | cons f fs ih =>
    intro p i h
    rw [List.map_cons, List.mem_cons, not_or] at h
    rw [rdF, ih _ i h.2]
    simp only [setv]
    rw [if_neg h.1]
theorem rdF_ok (fs : List FD) : ∀ (p : Rd × (Nat → Int)), (fs.map (·.off)).Nodup → (rdF fs p).1.e = 0 → p.1.e = 0 ∧ p.1.l = vrow (fs.map fun f => (rdF fs p).2 f.off) ++ (rdF fs p).1.l := by
  induction fs with
  | nil => intro p _ h; exact ⟨h, rfl⟩
  | cons f fs ih =>
    intro p hn h
    rw [List.map_cons, List.nodup_cons] at hn
    rw [rdF] at h
    obtain ⟨h1, h2⟩ := ih _ hn.2 h
    simp only at h1 h2
    obtain ⟨h3, h4⟩ := ruS_e h1
    refine ⟨h3, ?_⟩
    rw [List.map_cons, vrow, rdF, List.append_assoc, ← h2]
    have e : (rdF fs (ruS p.1, setv p.2 f.off (riN p.1))).2 f.off = riN p.1 := by
      rw [rdF_keep fs _ _ hn.1]
      simp [setv]
    rw [e]
    have e2 : zz (riN p.1) = ruN p.1 := zz_unzz _
    rw [e2]
    exact h4
theorem rfail_e {s : Rd} {x : Int} (hx : ¬ x = 0) (h : (rfail s x).e = 0) : False := by
  unfold rfail at h
  by_cases h0 : s.e = 0
  · rw [if_pos ⟨h0, hx⟩] at h; exact hx h
  · rw [if_neg (fun h => h0 h.1)] at h; exact h0 h
theorem rt_ok {s : Rd} (h : (rtS s 4096).e = 0) : s.e = 0 ∧ s.l = vtext (rtL s 4096) ++ (rtS s 4096).l := by
  have hc : (rcS s 4096).e = 0 := by
    unfold rtS at h
    by_cases h0 : (rcS s 4096).e = 0
    · exact h0
    · rw [if_neg h0] at h; exact h
  have ht : ¬ top 4096 < ruN s := by
    intro h1
    unfold rcS at hc
    rw [if_pos h1] at hc
    exact rfail_e (by decide) hc
  have hr : rcS s 4096 = ruS s := by unfold rcS; rw [if_neg ht]
  have hn : rcN s 4096 = ruN s := by unfold rcN; rw [if_neg ht]
  rw [hr] at hc
  obtain ⟨h3, h4⟩ := ruS_e hc
  have hle : ruN s ≤ (ruS s).l.length := by
    unfold rtS at h
    rw [hr, if_pos hc, hn] at h
    by_cases h0 : ruN s ≤ (ruS s).l.length
    · exact h0
    · rw [if_neg h0] at h; cases h
  refine ⟨h3, ?_⟩
  have e1 : rtL s 4096 = (ruS s).l.take (ruN s) := by unfold rtL; rw [hr, hn, if_pos ⟨hc, hle⟩]
  have e2 : (rtS s 4096).l = (ruS s).l.drop (ruN s) := by unfold rtS; rw [hr, hn, if_pos hc, if_pos hle]
  rw [e1, e2]
  unfold vtext
  rw [List.length_take, Nat.min_eq_left hle, List.append_assoc, List.take_append_drop]
  exact h4
theorem u8_ofNat_toNat (c : UInt8) (n : Nat) (h : n % 256 = c.toNat) : UInt8.ofNat n = c := UInt8.toNat_inj.1 (by rw [UInt8.toNat_ofNat']; exact h)
theorem be4_num4 (l : List UInt8) (h : 4 ≤ l.length) : be4 (num4 l) = l.take 4 := by
  match l, h with
  | a :: b :: c :: d :: r, _ =>
    have h0 := a.toNat_lt
    have h1 := b.toNat_lt
    have h2 := c.toNat_lt
    have h3 := d.toNat_lt
    have e : num4 (a :: b :: c :: d :: r) = 16777216 * a.toNat + 65536 * b.toNat + 256 * c.toNat + d.toNat := rfl
    unfold be4
    rw [e, u8_ofNat_toNat a _ (by omega), u8_ofNat_toNat b _ (by omega), u8_ofNat_toNat c _ (by omega), u8_ofNat_toNat d _ (by omega)]
    rfl
theorem frame_body {l : List UInt8} (h : lookE l = 0) (hl : l.length = num4 l + 8) : frameOf (bodyOf l) = l := by
  have hok := lookE_ok h
  have hbl := bodyOf_length h
  have h1 : be4 (bodyOf l).length ++ bodyOf l = l.take (num4 l + 4) := by
    rw [hbl, be4_num4 l hok.1]
    unfold bodyOf
    rw [← List.take_append_drop 4 (l.take (num4 l + 4)), List.take_take, Nat.min_eq_left (by omega), List.drop_take]
    simp
  have h2 : num4 (l.drop (num4 l + 4)) = crc (l.take (num4 l + 4)) := by
    unfold lookE at h
    rw [if_neg (by omega), if_neg (by omega), if_neg (by omega)] at h
    by_cases h3 : num4 (l.drop (num4 l + 4)) = crc (l.take (num4 l + 4))
    · exact h3
    · rw [if_neg h3] at h; cases h
  unfold frameOf
  rw [h1, ← h2, be4_num4 _ (by rw [List.length_drop]; omega), List.take_of_length_le (l := l.drop (num4 l + 4)) (by rw [List.length_drop]; omega), List.take_append_drop]
/-- What is unpacked may be, and is packed as it was. -/
theorem unp_pack {l : List UInt8} (h : upE l = 0) : OkM (outV l) (outT l).length ∧ frameOf (bodyV (outV l) (outT l)) = l := by
  have hov : outV l = (upF l).2 := by unfold outV; rw [if_pos h]
  have hot : outT l = upT l := by unfold outT; rw [if_pos h]
  rw [hov, hot]
  unfold upE at h
  by_cases hE' : ¬ lookE l = 0
  · rw [if_pos hE'] at h; exact absurd (by omega) hE'
  have hE := Classical.not_not.1 hE'
  rw [if_neg hE'] at h
  by_cases hr : num4 l + 8 < l.length
  · rw [if_pos hr] at h; cases h
  rw [if_neg hr] at h
  by_cases he' : ¬ (rendS (upR l)).e = 0
  · rw [if_pos he'] at h; exact absurd h he'
  have he := Classical.not_not.1 he'
  rw [if_neg he'] at h
  have hok : OkM (upF l).2 (upT l).length := by
    by_cases hok : OkM (upF l).2 (upT l).length
    · exact hok
    · rw [if_neg hok] at h; cases h
  refine ⟨hok, ?_⟩
  have hlen : l.length = num4 l + 8 := by have := lookE_ok hE; omega
  have hR : (upR l).e = 0 ∧ (upR l).l = [] := by
    unfold rendS at he
    by_cases h0 : 0 < (upR l).l.length
    · rw [if_pos h0] at he; exact (rfail_e (by decide) he).elim
    · rw [if_neg h0] at he; exact ⟨he, List.eq_nil_of_length_eq_zero (by omega)⟩
  have h0 : (upF l).2 0 = upK l := by
    unfold upF
    rw [rdF_keep _ _ 0 (fun hm => by
      obtain ⟨f, hf, e⟩ := List.mem_map.1 hm
      have := (flK_off (upK l) f hf).1
      omega)]
    rfl
  have hF : (upF l).1.e = 0 ∧ (upF l).1.l = if upK l = 7 then vtext (upT l) else [] := by
    by_cases h7 : upK l = 7
    · have e1 : upR l = rtS (upF l).1 4096 := by unfold upR; rw [if_pos h7]
      have e2 : upT l = rtL (upF l).1 4096 := by unfold upT; rw [if_pos h7]
      rw [e1] at hR
      obtain ⟨h1, h2⟩ := rt_ok hR.1
      rw [if_pos h7, e2]
      rw [hR.2, List.append_nil] at h2
      exact ⟨h1, h2⟩
    · have e1 : upR l = (upF l).1 := by unfold upR; rw [if_neg h7]
      rw [e1] at hR
      rw [if_neg h7]
      exact hR
  obtain ⟨h1, h2⟩ := rdF_ok (flK (upK l)) (up0 l) (flK_nd _) hF.1
  have hk : kB (upK l) = true := by
    cases hk : kB (upK l)
    · exfalso
      unfold up0 at h1
      rw [if_neg (by rw [hk]; decide)] at h1
      exact rfail_e (by decide) h1
    · rfl
  have e0 : (up0 l).1 = ruS (bodyRd l) := by unfold up0; rw [if_pos hk]
  rw [e0] at h1 h2
  obtain ⟨_, h4⟩ := ruS_e h1
  have hb : bodyV (upF l).2 (upT l) = bodyOf l := by
    unfold bodyV numsK
    rw [h0, vrow]
    have e2 : zz (upK l) = ruN (bodyRd l) := zz_unzz _
    rw [e2]
    have h5 : bodyOf l = vb (ruN (bodyRd l)) ++ (ruS (bodyRd l)).l := h4
    rw [h5, h2]
    have e3 : (rdF (flK (upK l)) (up0 l)) = upF l := rfl
    rw [e3, hF.2, List.append_assoc]
  rw [hb]
  exact frame_body hE hlen
theorem upE_len {l : List UInt8} (h : upE l = 0) : 8 < l.length ∧ l.length ≤ 65544 := by
  obtain ⟨h1, h2⟩ := unp_pack h
  have h3 := bodyV_len h1
  rw [← h2, frameOf_length]
  refine ⟨?_, by omega⟩
  unfold bodyV numsK
  rw [vrow]
  have := vb_pos (zz (outV l 0))
  simp only [List.length_append]
  omega
/-- A frame in which a bit of the body or the sum is turned. -/
theorem turned_sum {l : List UInt8} (h : upE l = 0) (k : Nat) (h4 : 4 ≤ k) (hk : k < l.length) (c : UInt8) (hc : l[k]? ≠ some c) : upE (l.set k c) = 20 := by
  obtain ⟨h1, h2⟩ := unp_pack h
  have h3 := bodyV_len h1
  have h5 := look_turn (bodyV (outV l) (outT l)) h3 k h4 (by rw [h2]; exact hk) c (by rw [h2]; exact hc)
  rw [h2] at h5
  unfold upE
  rw [if_pos (by rw [h5]; decide), h5]
  rfl
end Go.Proofs.YtkenaoejijpgpaaDoor
