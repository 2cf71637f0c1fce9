/- What is packed is unpacked, in plain words. -/
import Derived.Test.YtkenaoejijpgpaaDoorUnp0
import Derived.Test.YtkenaoejijpgpaaDoorFrmT
namespace Go.Proofs.YtkenaoejijpgpaaDoor
open Go.RowKit

/-- What a read that goes well says of the bytes. -/
theorem ru_ok {l : List UInt8} (h : (ruS ⟨l, 0⟩).e = 0) : l = vb (ruN ⟨l, 0⟩) ++ (ruS ⟨l, 0⟩).l := by
  unfold ruS ruN at *
  rw [if_pos rfl] at *
  have h1 : (rdGo 0 0 l).1 = 0 := by simpa using h
  obtain ⟨n, h2, h3, _⟩ := rdGo_ok l 0 0 (rdGo 0 0 l).2.1 (rdGo 0 0 l).2.2 (Prod.ext h1 rfl)
  simp at h2
  rw [h2]
  exact h3
theorem ru_bad {s : Rd} (h0 : s.e = 0) (h : ¬ (ruS s).e = 0) : (ruS s).l = [] := by
  unfold ruS at *
  rw [if_pos h0] at *
  rcases rdGo_err s.l 0 0 with h1 | ⟨_, h1⟩
  · exact absurd (by simpa using h1) h
  · rw [h1]
/-- What was put is read. -/
theorem ru_put (n : Nat) (t : List UInt8) (hn : n < 18446744073709551616) : ruN ⟨vb n ++ t, 0⟩ = n ∧ ruS ⟨vb n ++ t, 0⟩ = ⟨t, 0⟩ := by
  have h := rdGo_vb n 0 0 n t (Nat.le_refl _) (by omega) (by simpa using hn) (fun h => by omega)
  unfold ruN ruS
  rw [if_pos rfl, if_pos rfl]
  simp only
  rw [h]
  exact ⟨by simp, rfl⟩
theorem num4_frame (l r : List UInt8) (hl : l.length ≤ 65536) : num4 (frameOf l ++ r) = l.length := by
  rw [frame_split, List.append_assoc]; exact num4_be4 _ (by omega) _
theorem take_frame (l r : List UInt8) : (frameOf l ++ r).take (l.length + 4) = be4 l.length ++ l := by
  have hX : (be4 l.length ++ l).length = l.length + 4 := by simp [be4_length]; omega
  unfold frameOf
  rw [← hX, List.append_assoc, List.take_left]
theorem drop_frame (l r : List UInt8) : (frameOf l ++ r).drop (l.length + 4) = be4 (crc (be4 l.length ++ l)) ++ r := by
  have hX : (be4 l.length ++ l).length = l.length + 4 := by simp [be4_length]; omega
  unfold frameOf
  rw [← hX, List.append_assoc, List.drop_left]
theorem look_frame (l r : List UInt8) (hl : l.length ≤ 65536) : lookE (frameOf l ++ r) = 0 := by
  have hlen : (frameOf l ++ r).length = l.length + 8 + r.length := by rw [List.length_append, frameOf_length]
  unfold lookE
  rw [hlen, num4_frame l r hl, if_neg (by omega), if_neg (by omega), if_neg (by omega), if_pos (by rw [drop_frame, take_frame, num4_be4 _ (crc_lt _)])]
theorem body_frame (l r : List UInt8) (hl : l.length ≤ 65536) : bodyOf (frameOf l ++ r) = l := by
  unfold bodyOf
  rw [num4_frame l r hl, frame_split, List.append_assoc, List.append_assoc]
  have : (be4 l.length).length = 4 := be4_length _
  rw [← this, List.drop_left, List.take_left]
theorem ri_put (x : Int) (t : List UInt8) (hx : inI64 x) : riN ⟨vb (zz x) ++ t, 0⟩ = x ∧ ruS ⟨vb (zz x) ++ t, 0⟩ = ⟨t, 0⟩ := by
  obtain ⟨h1, h2⟩ := ru_put (zz x) t (zz_lt x hx.1 hx.2)
  exact ⟨by unfold riN; rw [h1, unzz_zz], h2⟩
/-- All numbers of a row of fields are set as in v. -/
def setAll (v : Nat → Int) : List FD → (Nat → Int) → (Nat → Int)
  | [], a => a
  | f :: l, a => setAll v l (setv a f.off (v f.off))
theorem setAll_get (v : Nat → Int) (fs : List FD) : ∀ (a : Nat → Int) (i : Nat), setAll v fs a i = if i ∈ fs.map (·.off) then v i else a i := by
  induction fs with
  | nil => intro a i; simp [setAll]
  | cons f fs ih =>
    intro a i
    rw [setAll, ih, List.map_cons]
    by_cases h1 : i ∈ fs.map (·.off)
    · rw [if_pos h1, if_pos (List.mem_cons_of_mem _ h1)]
    · rw [if_neg h1]
      unfold setv
      by_cases h2 : i = f.off
      · rw [if_pos h2, if_pos (by simp [h2]), h2]
      · rw [if_neg h2, if_neg (by simp only [List.mem_cons]; exact fun h => h.elim h2 h1)]
theorem rdF_put (v : Nat → Int) (fs : List FD) (t : List UInt8) : ∀ (a : Nat → Int), (∀ f ∈ fs, inI64 (v f.off)) → rdF fs (⟨vrow (fs.map fun f => v f.off) ++ t, 0⟩, a) = (⟨t, 0⟩, setAll v fs a) := by
  induction fs with
  | nil => intro a _; rfl
  | cons f fs ih =>
    intro a h
    simp only [List.map_cons, vrow, rdF, List.append_assoc]
    obtain ⟨h1, h2⟩ := ri_put (v f.off) (vrow (fs.map fun f => v f.off) ++ t) (h f List.mem_cons_self)
    rw [h1, h2]
    exact ih _ (fun f' hf' => h f' (List.mem_cons_of_mem _ hf'))
theorem rt_put (s : List UInt8) (t : List UInt8) (hs : s.length ≤ 4096) : rtL ⟨vtext s ++ t, 0⟩ 4096 = s ∧ rtS ⟨vtext s ++ t, 0⟩ 4096 = ⟨t, 0⟩ := by
  obtain ⟨h1, h2⟩ := ru_put s.length (s ++ t) (by omega)
  have e : vtext s ++ t = vb s.length ++ (s ++ t) := by unfold vtext; rw [List.append_assoc]
  have ht : top 4096 = 4096 := rfl
  have hc1 : rcN ⟨vtext s ++ t, 0⟩ 4096 = s.length := by unfold rcN; rw [e, h1, ht, if_neg (by omega)]
  have hc2 : rcS ⟨vtext s ++ t, 0⟩ 4096 = ⟨s ++ t, 0⟩ := by unfold rcS; rw [e, h1, ht, if_neg (by omega), h2]
  refine ⟨?_, ?_⟩
  · unfold rtL
    rw [hc1, hc2, if_pos ⟨rfl, by simp⟩]
    simp
  · unfold rtS
    rw [hc1, hc2, if_pos rfl, if_pos (by simp)]
    simp
/-- Whether a message may be, its cells tell. -/
theorem okM_same {v v' : Nat → Int} {n : Nat} (h : OkM v n) (he : ∀ i, i ≤ 20 → i ≠ 17 → v i = v' i) : OkM v' n := by
  have e0 : v' 0 = v 0 := (he 0 (by omega) (by omega)).symm
  have hoff := flK_off (v 0)
  have hz : ∀ i, i ≤ 20 → i ≠ 17 → zap (flK (v 0)) v' i = zap (flK (v 0)) v i := fun i hi h17 => by unfold zap; split <;> simp [he i hi h17]
  obtain ⟨h1, h2, h3, ⟨z1, ⟨z2, z3, z4, z5⟩, z6, z7, z8⟩, h5⟩ := h
  refine ⟨by rw [e0]; exact h1, ?_, ?_, ?_, by rw [e0]; exact h5⟩
  · unfold fitV at *
    rw [← he 11 (by omega) (by omega), ← he 12 (by omega) (by omega), ← he 13 (by omega) (by omega), ← he 14 (by omega) (by omega)]
    exact h2
  · rw [e0]
    intro f hf
    rw [← he f.off (hoff f hf).2.1 (hoff f hf).2.2]
    exact h3 f hf
  · rw [e0]
    have hno : ∀ f ∈ noL, f.off ≤ 20 ∧ f.off ≠ 17 := by decide
    exact ⟨fun f hf => (hz f.off (hno f hf).1 (hno f hf).2).trans (z1 f hf), ⟨(hz 11 (by omega) (by omega)).trans z2, (hz 12 (by omega) (by omega)).trans z3, (hz 13 (by omega) (by omega)).trans z4, (hz 14 (by omega) (by omega)).trans z5⟩, (hz 18 (by omega) (by omega)).trans z6, (hz 19 (by omega) (by omega)).trans z7, (hz 20 (by omega) (by omega)).trans z8⟩
/-- What is packed is unpacked. -/
theorem pack_unp {v : Nat → Int} {t : List UInt8} (h : OkM v t.length) : upE (frameOf (bodyV v t)) = 0 ∧ outT (frameOf (bodyV v t)) = t ∧ ∀ i, i ≤ 20 → i ≠ 17 → outV (frameOf (bodyV v t)) i = v i := by
  have hl := bodyV_len h
  have hE : lookE (frameOf (bodyV v t)) = 0 := by have := look_frame (bodyV v t) [] hl; rwa [List.append_nil] at this
  have hB : bodyOf (frameOf (bodyV v t)) = bodyV v t := by have := body_frame (bodyV v t) [] hl; rwa [List.append_nil] at this
  have hNu : num4 (frameOf (bodyV v t)) = (bodyV v t).length := by have := num4_frame (bodyV v t) [] hl; rwa [List.append_nil] at this
  obtain ⟨hin0, hin⟩ := okM_in h
  obtain ⟨tl, htl⟩ : ∃ tl, tl = if v 0 = 7 then vtext t else [] := ⟨_, rfl⟩
  have hbody : bodyV v t = vb (zz (v 0)) ++ (vrow ((flK (v 0)).map fun f => v f.off) ++ tl) := by
    unfold bodyV numsK
    rw [vrow, List.append_assoc, htl]
  obtain ⟨k1, k2⟩ := ri_put (v 0) (vrow ((flK (v 0)).map fun f => v f.off) ++ tl) hin0
  have hK : upK (frameOf (bodyV v t)) = v 0 := by unfold upK bodyRd; rw [hB, hbody, k1]
  have h0 : up0 (frameOf (bodyV v t)) = (⟨vrow ((flK (v 0)).map fun f => v f.off) ++ tl, 0⟩, fun i => if i = 0 then v 0 else 0) := by
    unfold up0
    rw [hK, if_pos h.1]
    unfold bodyRd
    rw [hB, hbody, k2]
  have hF : upF (frameOf (bodyV v t)) = (⟨tl, 0⟩, setAll v (flK (v 0)) fun i => if i = 0 then v 0 else 0) := by
    unfold upF
    rw [hK, h0]
    exact rdF_put v _ tl _ hin
  have hT : upT (frameOf (bodyV v t)) = t ∧ upR (frameOf (bodyV v t)) = ⟨[], 0⟩ := by
    unfold upT upR
    rw [hK, hF]
    by_cases h7 : v 0 = 7
    · rw [if_pos h7, if_pos h7]
      rw [if_pos h7] at htl
      have := rt_put t [] (okM_len h)
      rw [List.append_nil] at this
      rw [htl]
      exact this
    · rw [if_neg h7, if_neg h7]
      rw [if_neg h7] at htl
      have h5 := h.2.2.2.2
      unfold mostK at h5
      rw [if_neg h7] at h5
      exact ⟨(List.eq_nil_of_length_eq_zero (by omega)).symm, by rw [htl]⟩
  have hV : ∀ i, i ≤ 20 → i ≠ 17 → (upF (frameOf (bodyV v t))).2 i = v i := by
    intro i hi h17
    rw [hF]
    simp only
    rw [setAll_get]
    by_cases hm : i ∈ (flK (v 0)).map (·.off)
    · rw [if_pos hm]
    · rw [if_neg hm]
      by_cases hi0 : i = 0
      · rw [if_pos hi0, hi0]
      · rw [if_neg hi0]
        have hz := h.2.2.2.1
        have e : zap (flK (v 0)) v i = v i := by unfold zap; rw [if_neg hm]
        rw [← e]
        obtain ⟨z1, ⟨z2, z3, z4, z5⟩, z6, z7, z8⟩ := hz
        have q : i = 1 ∨ i = 2 ∨ i = 3 ∨ i = 4 ∨ i = 5 ∨ i = 6 ∨ i = 7 ∨ i = 8 ∨ i = 9 ∨ i = 10 ∨ i = 11 ∨ i = 12 ∨ i = 13 ∨ i = 14 ∨ i = 15 ∨ i = 16 ∨ i = 18 ∨ i = 19 ∨ i = 20 := by omega
        rcases q with rfl | rfl | rfl | rfl | rfl | rfl | rfl | rfl | rfl | rfl | rfl | rfl | rfl | rfl | rfl | rfl | rfl | rfl | rfl
        all_goals first
          | exact z2.symm | exact z3.symm | exact z4.symm | exact z5.symm | exact z6.symm | exact z7.symm | exact z8.symm
          | exact (z1 ⟨_, 0, 0⟩ (by simp [noL])).symm
  have hOk : OkM (upF (frameOf (bodyV v t))).2 t.length := okM_same h (fun i hi h17 => (hV i hi h17).symm)
  have hup : upE (frameOf (bodyV v t)) = 0 := by
    unfold upE
    rw [if_neg (fun h => h hE), if_neg (by rw [hNu, frameOf_length]; omega), if_neg (by rw [hT.2]; simp [rendS]), hT.1, if_pos hOk]
  exact ⟨hup, by unfold outT; rw [if_pos hup]; exact hT.1, fun i hi h17 => by unfold outV; rw [if_pos hup]; exact hV i hi h17⟩

end Go.Proofs.YtkenaoejijpgpaaDoor
