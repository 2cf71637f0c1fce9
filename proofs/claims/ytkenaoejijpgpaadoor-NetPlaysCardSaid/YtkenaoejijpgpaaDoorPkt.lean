/- A message's packet. -/
import Derived.Test.YtkenaoejijpgpaaDoorChk
import Derived.Test.YtkenaoejijpgpaaDoorEncT
import Derived.Test.YtkenaoejijpgpaaDoorFrmA
namespace Go.Proofs.YtkenaoejijpgpaaDoor
open Go.RowKit

def numsJ (l : List FD) (v : Nat → Int) (j : Nat) : List Int := v 0 :: (l.take j).map fun f => v f.off
theorem numsJ_next {l : List FD} {j : Nat} {f : FD} (v : Nat → Int) (hf : l[j]? = some f) : numsJ l v (j + 1) = numsJ l v j ++ [v f.off] := by
  unfold numsJ
  rw [List.take_add_one, hf]
  simp
/-- The numbers of a message's packet. -/
def numsK (v : Nat → Int) : List Int := v 0 :: (flK (v 0)).map fun f => v f.off
theorem numsJ_all {l : List FD} {j : Nat} (v : Nat → Int) (h : l.length ≤ j) : numsJ l v j = v 0 :: l.map fun f => v f.off := by
  unfold numsJ
  rw [List.take_of_length_le h]
/-- A message's bytes, without the frame. -/
def bodyV (v : Nat → Int) (t : List UInt8) : List UInt8 := vrow (numsK v) ++ if v 0 = 7 then vtext t else []
theorem okM_in {v : Nat → Int} {n : Nat} (h : OkM v n) : inI64 (v 0) ∧ ∀ f ∈ flK (v 0), inI64 (v f.off) := by
  refine ⟨?_, fun f hf => ?_⟩
  · rcases kB_cases h.1 with e | e | e | e | e | e | e | e <;> rw [e] <;> unfold inI64 <;> omega
  · have h1 := h.2.2.1 f hf
    have h2 := flK_in (v 0) f hf
    unfold inI64; omega
theorem okM_len {v : Nat → Int} {n : Nat} (h : OkM v n) : n ≤ 4096 := by
  have := h.2.2.2.2
  unfold mostK at this
  split at this <;> omega
theorem okM_nums {v : Nat → Int} {n : Nat} (h : OkM v n) : ∀ x ∈ numsK v, inI64 x := by
  intro x hx
  simp only [numsK, List.mem_cons, List.mem_map] at hx
  rcases hx with rfl | ⟨f, hf, rfl⟩
  · exact (okM_in h).1
  · exact (okM_in h).2 f hf
theorem vtext_len (t : List UInt8) (h : t.length ≤ 100000000) : (vtext t).length ≤ 10 + t.length := by
  unfold vtext
  rw [List.length_append]
  have := vb_len10 t.length (by omega)
  omega
theorem bodyV_len {v : Nat → Int} {t : List UInt8} (h : OkM v t.length) : (bodyV v t).length ≤ 65536 := by
  have h1 := vrow_len (numsK v) (okM_nums h)
  have h2 := okM_len h
  have h3 := vtext_len t (by omega)
  have h4 := flK_len (v 0)
  have h5 : (numsK v).length ≤ 11 := by unfold numsK; simp; omega
  unfold bodyV
  rw [List.length_append]
  split
  · omega
  · simp; omega

end Go.Proofs.YtkenaoejijpgpaaDoor
