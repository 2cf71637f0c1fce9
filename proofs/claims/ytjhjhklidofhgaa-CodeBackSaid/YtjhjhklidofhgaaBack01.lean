/- What was put is read back, thing by thing (plain). -/
import Derived.Test.YtjhjhklidofhgaaOpen01
import Derived.Test.YtjhjhklidofhgaaStep01
namespace Go.Proofs.Ytjhjhklidofhgaa

def encW (d : Wd) : List UInt8 := ((vb d.N ++ vb (zz d.I)) ++ vtext d.s) ++ vints d.xs
def encs : List Wd → List UInt8
  | [] => []
  | d :: ds => encW d ++ encs ds
theorem encs_snoc (ds : List Wd) (d : Wd) : encs (ds ++ [d]) = encs ds ++ encW d := by
  induction ds with
  | nil => simp [encs]
  | cons e ds ih => simp [encs, ih]
def small (d : Wd) : Prop := d.s.length ≤ 1000 ∧ d.xs.length ≤ 1000
def fineW (d : Wd) : Prop := d.N < 18446744073709551616 ∧ inI64 d.I ∧ ∀ n ∈ d.xs, inI64 n
theorem encW_len (d : Wd) (h : small d) (hf : fineW d) : (encW d).length ≤ 11040 := by
  have h1 := vb_len10 d.N hf.1
  have h2 := vb_len10 (zz d.I) (zz_lt d.I hf.2.1.1 hf.2.1.2)
  have h3 := vb_len10 d.s.length (by have := h.1; omega)
  have h4 := vb_len10 d.xs.length (by have := h.2; omega)
  have h5 := vrow_len d.xs hf.2.2
  have h6 := h.1
  have h7 := h.2
  unfold encW vtext vints
  simp only [List.length_append]
  omega
theorem encs_len (ds : List Wd) (h : ∀ d ∈ ds, small d ∧ fineW d) : (encs ds).length ≤ 11040 * ds.length := by
  induction ds with
  | nil => simp [encs]
  | cons d ds ih =>
    have h1 := ih (fun e he => h e (List.mem_cons_of_mem _ he))
    have h2 := encW_len d (h d List.mem_cons_self).1 (h d List.mem_cons_self).2
    rw [encs, List.length_append, List.length_cons]
    omega
theorem rr_ok (xs : List Int) (t : List UInt8) (h : ∀ n ∈ xs, inI64 n) : rrS xs.length ⟨vrow xs ++ t, 0⟩ = ⟨t, 0⟩ ∧ rrL xs.length ⟨vrow xs ++ t, 0⟩ = xs := by
  induction xs with
  | nil => exact ⟨rfl, rfl⟩
  | cons n xs ih =>
    obtain ⟨h1, h2⟩ := ih (fun m hm => h m (List.mem_cons_of_mem _ hm))
    have hz := zz_lt n (h n List.mem_cons_self).1 (h n List.mem_cons_self).2
    have e : vrow (n :: xs) ++ t = vb (zz n) ++ (vrow xs ++ t) := by rw [vrow, List.append_assoc]
    obtain ⟨h3, h4⟩ := ru_put (zz n) (vrow xs ++ t) hz
    rw [e, List.length_cons, rrS, rrL, if_pos rfl, if_pos rfl, h4, h1, h2]
    refine ⟨rfl, ?_⟩
    unfold riN
    rw [h3, unzz_zz]
theorem rs_ok (xs : List Int) (t : List UInt8) (most : Int) (hm : ¬ top most < xs.length) (hl : xs.length ≤ 1000) (h : ∀ n ∈ xs, inI64 n) : rsL ⟨vints xs ++ t, 0⟩ most = xs ∧ rsS ⟨vints xs ++ t, 0⟩ most = ⟨t, 0⟩ := by
  obtain ⟨h1, h2⟩ := ru_put xs.length (vrow xs ++ t) (by omega)
  obtain ⟨h3, h4⟩ := rr_ok xs t h
  have e0 : vints xs ++ t = vb xs.length ++ (vrow xs ++ t) := by unfold vints; rw [List.append_assoc]
  rw [e0]
  have e1 : rcS ⟨vb xs.length ++ (vrow xs ++ t), 0⟩ most = ⟨vrow xs ++ t, 0⟩ := by unfold rcS; rw [h1, if_neg hm, h2]
  have e2 : rcN ⟨vb xs.length ++ (vrow xs ++ t), 0⟩ most = xs.length := by unfold rcN; rw [h1, if_neg hm]
  have e3 : rsS ⟨vb xs.length ++ (vrow xs ++ t), 0⟩ most = ⟨t, 0⟩ := by unfold rsS; rw [e1, e2, h3]
  refine ⟨?_, e3⟩
  unfold rsL
  rw [e3, if_pos rfl, e1, e2, h4]
theorem rt_ok (s t : List UInt8) (most : Int) (hs : s.length ≤ 1000) (h : ¬ top most < s.length) : rtL ⟨vtext s ++ t, 0⟩ most = s ∧ rtS ⟨vtext s ++ t, 0⟩ most = ⟨t, 0⟩ := by
  obtain ⟨h1, h2⟩ := ru_put s.length (s ++ t) (by omega)
  have e0 : vtext s ++ t = vb s.length ++ (s ++ t) := by unfold vtext; rw [List.append_assoc]
  rw [e0]
  have e1 : rcS ⟨vb s.length ++ (s ++ t), 0⟩ most = ⟨s ++ t, 0⟩ := by unfold rcS; rw [h1, if_neg h, h2]
  have e2 : rcN ⟨vb s.length ++ (s ++ t), 0⟩ most = s.length := by unfold rcN; rw [h1, if_neg h]
  unfold rtL rtS
  rw [e1, e2]
  simp only
  rw [if_pos ⟨trivial, by rw [List.length_append]; omega⟩, if_pos trivial, if_pos (by rw [List.length_append]; omega)]
  simp
/-- One thing is read back. -/
theorem enc_read (d : Wd) (t : List UInt8) (h : small d) (hf : fineW d) : ∃ s1 s2 s3 : Rd,
    ruN ⟨encW d ++ t, 0⟩ = d.N ∧ ruS ⟨encW d ++ t, 0⟩ = s1 ∧ riN s1 = d.I ∧ ruS s1 = s2 ∧ rtL s2 1000 = d.s ∧ rtS s2 1000 = s3 ∧ rsL s3 1000 = d.xs ∧ rsS s3 1000 = ⟨t, 0⟩ := by
  have e0 : encW d ++ t = vb d.N ++ (vb (zz d.I) ++ (vtext d.s ++ (vints d.xs ++ t))) := by unfold encW; simp only [List.append_assoc]
  obtain ⟨h1, h2⟩ := ru_put d.N (vb (zz d.I) ++ (vtext d.s ++ (vints d.xs ++ t))) hf.1
  obtain ⟨h3, h4⟩ := ru_put (zz d.I) (vtext d.s ++ (vints d.xs ++ t)) (zz_lt d.I hf.2.1.1 hf.2.1.2)
  obtain ⟨h5, h6⟩ := rt_ok d.s (vints d.xs ++ t) 1000 h.1 (by unfold top; have := h.1; omega)
  obtain ⟨h7, h8⟩ := rs_ok d.xs t 1000 (by unfold top; have := h.2; omega) h.2 hf.2.2
  rw [e0]
  refine ⟨_, _, _, h1, h2, ?_, h4, h5, h6, h7, h8⟩
  unfold riN
  rw [h3, unzz_zz]
theorem encs_drop (ds : List Wd) (k : Nat) (h : k < ds.length) : encs (ds.drop k) = encW ds[k] ++ encs (ds.drop (k + 1)) := by
  rw [List.drop_eq_getElem_cons h]; rfl
theorem encs_take (ds : List Wd) (k : Nat) (h : k < ds.length) : encs (ds.take (k + 1)) = encs (ds.take k) ++ encW ds[k] := by
  rw [List.take_succ_eq_append_getElem h, encs_snoc]
end Go.Proofs.Ytjhjhklidofhgaa
