/-
  What stands in the log stays; behind a cut it has a beginning of what was told: for every room, every list of writings and every stop DiskKeeps returns true.
-/
import Derived.Test.YtpkefkoimlecjaaRows
import Derived.Test.YtpkefkoimlecjaaLawKeeps
import Derived.WalkKit
import Derived.ProofKit
import Derived.OpenShut
import Derived.ShutString
import Derived.ChangeOld
import Derived.Below
import Derived.ChangeArms
import Derived.ChangeSame
import Derived.Lib.SmallJoins
import Derived.Deep.Matrix
namespace Go.Proofs.Ytpkefkoimlecjaa.diskKeeps
open Go.ChangeShapes Go.WideShapes Go.ChangeAt Go.RowKit Go.Joins
open Go.ChangeMaps (open_string shut_string)
theorem own : ownKnob Try.prog.godebug = none := by kernel_rfl
theorem laidOut : laidOutB Try.prog = true := by kernel_rfl
theorem trod_bool_mk {H : Type} {enc : TypeId × Value → H} {P : Program} {w : World} {base : Nat} {spare : Nat → Bool} {held : Bool} {t : TypeId} {b : Bool} (m : Nat) (ht : P.underlying t = some .bool) : DataW.trod enc P w base spare held (m + 1) t [.bool b] = some (.lit (.bool b), []) := by simp [DataW.trod, ht]
set_option maxRecDepth 100000 in
theorem lifted (os : Os) (started : os.Started) (H : Type) (enc : TypeId × Value → H) :
    ReturnsInHanded {} Try.checked os 4 .any (Rows.diskKeepsSpec.pre6 enc Try.prog Try.f4 Rows.diskKeepsRow.domain false) (Rows.diskKeepsSpec.post enc Try.prog Try.f4 false true false false) := by
  refine returnsInHanded_of_change (C := Try.checked) own started (by kernel_rfl) Try.func4
    (ChangeSpec.witness6 (enc := enc) (C := Try.checked) false ⟨#[], #[.int .i64 0, .slice none 0 0, .agg #[.int .i64 0, .int .i64 0, .bool false]], []⟩ 8 (by kernel_rfl) (by kernel_rfl) (by kernel_rfl) (by kernel_rfl)) ?_
  intro W base args ds gs before hval0 hW hcnd _
  have hval : ∀ (j : Nat) t v, Try.f4.params[j]? = some t → args[j]? = some v → Value.okWide Try.prog W .any base t v := hval0
  have hW' := hW
  obtain ⟨p, q, hA0, hV, rfl, hfz, hnd⟩ := hW
  have hA : DataW.TrodAll enc Try.prog W 0 (fun _ => true) true Try.f4.params.toList args.toList ds p := hA0
  rw [Try.params4] at hA hval
  obtain ⟨v0, vs0, d0, ds0, p0, q0, hargs, rfl, rfl, h0, r0⟩ := trodAll_cons hA
  obtain ⟨v1, vs1, d1, ds1, p1, q1, rfl, rfl, rfl, h1, r1⟩ := trodAll_cons r0
  obtain ⟨v2, vs2, d2, ds2, p2, q2, rfl, rfl, rfl, h2, r2⟩ := trodAll_cons r1
  obtain ⟨rfl, rfl, rfl⟩ := trodAll_nil r2
  obtain rfl : args = #[v0, v1, v2] := by cases args; simp_all
  obtain ⟨rfl, rfl⟩ := trodVars_none hV
  obtain ⟨x0, rfl, rfl, rfl, wx0⟩ := open_int Try.underlying3 (hval 0 3 v0 rfl rfl) h0
  obtain ⟨a1, len1, cap1, rfl⟩ := okWide_slice Try.underlying36 (hval 1 36 v1 rfl rfl)
  have k1 := h1
  have lt1 : ∀ x ∈ p1, x.block < W.heap.size := by obtain ⟨m, hm⟩ := k1; exact DataW.trod_lt m _ _ _ hm
  obtain ⟨vs1, ls1, hv1, hr1, hl1, hm1⟩ : ∃ (vs : List Value) (ls : List (List UInt8)), CellsIn W W.heap.size 1 a1 len1 vs ∧ RowsIn W W.heap.size vs ls ∧ len1 = ls.length ∧ len1 ≤ 9223372036854775807 := by
    obtain ⟨fuel, hf⟩ := h1
    rcases Go.Deep.open_int_rows Try.underlying36 Try.underlying31 Try.underlying5 (by kernel_rfl) (by kernel_rfl) hf with ⟨hcs, _⟩ | ⟨x, l, c, _, _, _, _, hcs, _, hl, hm, _, hall⟩
    · simp [Value.cells] at hcs
      obtain ⟨rfl, rfl, rfl⟩ := hcs
      exact ⟨[], [], ⟨rfl, .inl rfl⟩, ⟨rfl, fun i hi => by simp at hi⟩, rfl, by omega⟩
    · simp [Value.cells] at hcs
      obtain ⟨rfl, rfl, rfl⟩ := hcs
      obtain ⟨vs, ls, g1, g2, g3⟩ := rowsIn_open hl hall
      exact ⟨vs, ls, g1, g2, g3, by unfold maxLen at hm; omega⟩
  obtain ⟨u2_0, u2_1, u2_2, y2_0, y2_1, y2_2, n2, rfl, rfl, rfl, t2_0, t2_1, t2_2⟩ := open_agg3 Try.underlying38 (by kernel_rfl) (by kernel_rfl) (hval 2 38 v2 rfl rfl) h2
  obtain ⟨x2_0, e2_0, rfl, wx2_0⟩ := DataW.trod_int Try.underlying3 t2_0
  obtain rfl : u2_0 = _ := List.head_eq_of_cons_eq e2_0
  obtain ⟨x2_1, e2_1, rfl, wx2_1⟩ := DataW.trod_int Try.underlying3 t2_1
  obtain rfl : u2_1 = _ := List.head_eq_of_cons_eq e2_1
  obtain ⟨x2_2, e2_2, rfl⟩ := DataW.trod_bool Try.underlying4 t2_2
  obtain rfl : u2_2 = _ := List.head_eq_of_cons_eq e2_2
  clear hA0 hval0
  refine (law_keeps x0 x2_0 x2_1 x2_2 a1 len1 cap1 vs1 ls1 W hv1 hr1 hl1 hm1).mono fun e W' ⟨he, bel⟩ => ?_
  subst he
  exact ⟨_, rfl, _, _, _, [], _, [], hW', trodAll_mk1 (shut_bool Try.underlying4 _), (trodAll_cons_mk (shut_int Try.underlying3 wx0) (trodAll_cons_mk (Below.trod laidOut (by kernel_rfl) (of_decide_eq_true (by kernel_rfl)) k1 bel lt1) (trodAll_cons_mk (shut_agg3 Try.underlying38 (by kernel_rfl) (by kernel_rfl) ⟨1, trod_int_mk 0 Try.underlying3 wx2_0⟩ ⟨1, trod_int_mk 0 Try.underlying3 wx2_1⟩ ⟨1, trod_bool_mk 0 Try.underlying4⟩) trodAll_mk0))), rfl, bel.frame _, fun h => by cases h⟩
theorem over : Rows.diskKeepsRow.holds Try.pinned (OpenSpec.ofChange Rows.diskKeepsSpec) :=
  OpenClaim.holds_of_wide 4 Try.f4 rfl rfl rfl rfl rfl rfl rfl ⟨rfl, rfl, rfl, rfl, rfl⟩ rfl rfl rfl rfl rfl (by kernel_rfl) Try.func4 (by kernel_rfl)
    (of_decide_eq_true (by kernel_rfl)) (by unfold Func.isWrapper; first | (rw [if_pos (by decide +kernel)]; kernel_rfl) | (rw [if_neg (by decide +kernel)]; exact ⟨rfl, rfl⟩))
    (fun os started H enc _ => lifted os started H enc)
/-- The statement. -/
theorem proved : Rows.DiskKeepsSaid := over
end Go.Proofs.Ytpkefkoimlecjaa.diskKeeps
