/-
  Without a disk nobody leads; a keeper that is none has granted nothing: for every three arguments LeaseNone returns true.
-/
import Derived.Test.YtcpaimgenfbidaaRows
import Derived.Test.YtcpaimgenfbidaaLawNone
import Derived.WalkKit
import Derived.ProofKit
import Derived.OpenShut
import Derived.ShutString
import Derived.ChangeOld
import Derived.Below
import Derived.ChangeArms
import Derived.ChangeSame
import Derived.Lib.SmallJoins
namespace Go.Proofs.Ytcpaimgenfbidaa.leaseNone
open Go.ChangeShapes Go.WideShapes Go.ChangeAt Go.RowKit Go.Joins
open Go.ChangeMaps (open_string shut_string)
theorem own : ownKnob Try.prog.godebug = none := by kernel_rfl
theorem laidOut : laidOutB Try.prog = true := by kernel_rfl
set_option maxRecDepth 100000 in
theorem lifted (os : Os) (started : os.Started) (H : Type) (enc : TypeId × Value → H) :
    ReturnsInHanded {} Try.checked os 7 .any (Rows.leaseNoneSpec.pre6 enc Try.prog Try.f7 Rows.leaseNoneRow.domain false) (Rows.leaseNoneSpec.post enc Try.prog Try.f7 false true false false) := by
  refine returnsInHanded_of_change (C := Try.checked) own started (by kernel_rfl) Try.func7
    (ChangeSpec.witness6 (enc := enc) (C := Try.checked) false ⟨#[], #[.agg #[.int .i64 0, .int .i64 0, .int .i64 0], .int .i64 0, .int .i64 0], []⟩ 8 (by kernel_rfl) (by kernel_rfl) (by kernel_rfl) (by kernel_rfl)) ?_
  intro W base args ds gs before hval0 hW hcnd _
  have hval : ∀ (j : Nat) t v, Try.f7.params[j]? = some t → args[j]? = some v → Value.okWide Try.prog W .any base t v := hval0
  have hW' := hW
  obtain ⟨p, q, hA0, hV, rfl, hfz, hnd⟩ := hW
  have hA : DataW.TrodAll enc Try.prog W 0 (fun _ => true) true Try.f7.params.toList args.toList ds p := hA0
  rw [Try.params7] at hA hval
  obtain ⟨v0, vs0, d0, ds0, p0, q0, hargs, rfl, rfl, h0, r0⟩ := trodAll_cons hA
  obtain ⟨v1, vs1, d1, ds1, p1, q1, rfl, rfl, rfl, h1, r1⟩ := trodAll_cons r0
  obtain ⟨v2, vs2, d2, ds2, p2, q2, rfl, rfl, rfl, h2, r2⟩ := trodAll_cons r1
  obtain ⟨rfl, rfl, rfl⟩ := trodAll_nil r2
  obtain rfl : args = #[v0, v1, v2] := by cases args; simp_all
  obtain ⟨rfl, rfl⟩ := trodVars_none hV
  obtain ⟨u0_0, u0_1, u0_2, y0_0, y0_1, y0_2, n0, rfl, rfl, rfl, t0_0, t0_1, t0_2⟩ := open_agg3 Try.underlying23 (by kernel_rfl) (by kernel_rfl) (hval 0 23 v0 rfl rfl) h0
  obtain ⟨x0_0, e0_0, rfl, wx0_0⟩ := DataW.trod_int Try.underlying3 t0_0
  obtain rfl : u0_0 = _ := List.head_eq_of_cons_eq e0_0
  obtain ⟨x0_1, e0_1, rfl, wx0_1⟩ := DataW.trod_int Try.underlying3 t0_1
  obtain rfl : u0_1 = _ := List.head_eq_of_cons_eq e0_1
  obtain ⟨x0_2, e0_2, rfl, wx0_2⟩ := DataW.trod_int Try.underlying3 t0_2
  obtain rfl : u0_2 = _ := List.head_eq_of_cons_eq e0_2
  obtain ⟨x1, rfl, rfl, rfl, wx1⟩ := open_int Try.underlying3 (hval 1 3 v1 rfl rfl) h1
  obtain ⟨x2, rfl, rfl, rfl, wx2⟩ := open_int Try.underlying3 (hval 2 3 v2 rfl rfl) h2
  clear hA0 hval0
  refine (law_none ⟨x0_0, x0_1, x0_2⟩ x1 x2 W).mono fun e W' ⟨he, bel⟩ => ?_
  subst he
  exact ⟨_, rfl, _, _, _, [], _, [], hW', trodAll_mk1 (shut_bool Try.underlying4 _), (trodAll_cons_mk (shut_agg3 Try.underlying23 (by kernel_rfl) (by kernel_rfl) ⟨1, trod_int_mk 0 Try.underlying3 wx0_0⟩ ⟨1, trod_int_mk 0 Try.underlying3 wx0_1⟩ ⟨1, trod_int_mk 0 Try.underlying3 wx0_2⟩) (trodAll_cons_mk (shut_int Try.underlying3 wx1) (trodAll_cons_mk (shut_int Try.underlying3 wx2) trodAll_mk0))), rfl, bel.frame _, fun h => by cases h⟩
theorem over : Rows.leaseNoneRow.holds Try.pinned (OpenSpec.ofChange Rows.leaseNoneSpec) :=
  OpenClaim.holds_of_wide 7 Try.f7 rfl rfl rfl rfl rfl rfl rfl ⟨rfl, rfl, rfl, rfl, rfl⟩ rfl rfl rfl rfl rfl (by kernel_rfl) Try.func7 (by kernel_rfl)
    (of_decide_eq_true (by kernel_rfl)) (by unfold Func.isWrapper; first | (rw [if_pos (by decide +kernel)]; kernel_rfl) | (rw [if_neg (by decide +kernel)]; exact ⟨rfl, rfl⟩))
    (fun os started H enc _ => lifted os started H enc)
/-- The statement. -/
theorem proved : Rows.LeaseNoneSaid := over
end Go.Proofs.Ytcpaimgenfbidaa.leaseNone
