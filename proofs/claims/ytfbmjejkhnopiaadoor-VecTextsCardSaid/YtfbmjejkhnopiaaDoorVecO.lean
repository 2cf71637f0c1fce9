/- An amount that came in; a table that stands third on the list of what is laid. -/
import Derived.Test.YtfbmjejkhnopiaaDoorVecA
import Derived.Lib.LaidTab
import Derived.Lib.ItoaNum
import Derived.Lib.SmallJoins
import Derived.Laws.IdiomArrays
import Derived.WideShapes
import Derived.ChangeSlices
import Derived.ChangeArms
import Derived.Deep.Slices
namespace Go.Proofs.YtfbmjejkhnopiaaDoor
open Go.RowKit Go.Joins Go.ChangeShapes Go.Deep

theorem okWide_array {P : Program} {w : World} {r : Reach} {base : Nat} {t : TypeId} {v : Value} {n : Nat} {e : TypeId} (ht : P.underlying t = some (.array n e)) (h : Value.okWide P w r base t v) : ∃ cs, v = .agg cs ∧ cs.size = P.cellsOf t := by
  simp only [Value.okWide, ht] at h
  obtain ⟨cs, h1, h2, _⟩ := h
  exact ⟨cs, h1, h2⟩
/-- An amount by value is four integers. -/
theorem vec_open {H : Type} {enc : TypeId × Value → H} {w : World} {base b0 : Nat} {r : Reach} {spare : Nat → Bool} {held : Bool} {v : Value} {d : DataW H} {p : List MemPlace}
    (hv : Value.okWide Tryd.prog w r b0 23 v) (h : DataW.Trod enc Tryd.prog w base spare held 23 v d p) :
    ∃ a : Nat → Int, v = .agg #[.int .i64 (a 0), .int .i64 (a 1), .int .i64 (a 2), .int .i64 (a 3)] ∧ ∀ i, i < 4 → (-9223372036854775808 ≤ a i ∧ a i ≤ 9223372036854775807) := by
  obtain ⟨cs, rfl, hsz⟩ := okWide_array Tryd.underlying23 hv
  obtain ⟨c0, c1, c2, c3, rfl⟩ := array4 (hsz.trans (show Tryd.prog.cellsOf 23 = 4 by kernel_rfl))
  obtain ⟨fuel, hf⟩ := h
  obtain ⟨a0, a1, a2, a3, na, _, s0, s1, s2, s3⟩ := trod_array4 Tryd.underlying23 (show Tryd.prog.cellsOf 3 = 1 by kernel_rfl) hf
  obtain ⟨d0, f0, _, w0⟩ := DataW.trod_int Tryd.underlying3 s0
  obtain ⟨d1, f1, _, w1⟩ := DataW.trod_int Tryd.underlying3 s1
  obtain ⟨d2, f2, _, w2⟩ := DataW.trod_int Tryd.underlying3 s2
  obtain ⟨d3, f3, _, w3⟩ := DataW.trod_int Tryd.underlying3 s3
  have b : ∀ x, (Lit.int .i64 x).wf = true → (-9223372036854775808 ≤ x ∧ x ≤ 9223372036854775807) := fun x h => by
    have h : (decide ((-9223372036854775808 : Int) ≤ x) && decide (x ≤ 9223372036854775807)) = true := h
    simpa using h
  refine ⟨fun i => [d0, d1, d2, d3].getD i 0, ?_, ?_⟩
  · rw [List.head_eq_of_cons_eq f0, List.head_eq_of_cons_eq f1, List.head_eq_of_cons_eq f2, List.head_eq_of_cons_eq f3]; rfl
  · intro i hi
    have hi : i = 0 ∨ i = 1 ∨ i = 2 ∨ i = 3 := by omega
    rcases hi with rfl | rfl | rfl | rfl
    · exact b _ w0
    · exact b _ w1
    · exact b _ w2
    · exact b _ w3
theorem tab_third {W : World} {x y : String × DataW Unit} {rest : List (String × DataW Unit)}
    (h : laidMet Tryd.prog (x :: y :: ("internal/strconv.uint64pow10", Lib.tabData .u64 Lib.pow10Tab) :: rest) W) : Lib.TabIs Tryd.prog W "internal/strconv.uint64pow10" .u64 Lib.pow10Tab := by
  obtain ⟨ps, hl, _⟩ := h
  obtain ⟨_, _, _, _, _, _, _, _, _, _, hl, _⟩ := hl
  obtain ⟨_, _, _, _, _, _, _, _, _, _, hl, _⟩ := hl
  obtain ⟨g', t', cs, fuel, p, q, hg', ht', hvar, hd, _, _⟩ := hl
  obtain rfl := Option.some.inj ((show Tryd.prog.globalNamed "internal/strconv.uint64pow10" = some 1 by kernel_rfl).symm.trans hg')
  obtain rfl := Option.some.inj ((show (Tryd.prog.globals[1]?).map (·.type) = some 66 by kernel_rfl).symm.trans ht')
  unfold Lib.TabIs
  rw [hvar, ← Lib.cells_of_tab Tryd.underlying66 Tryd.underlying53 (show Tryd.prog.cellsOf 53 = 1 by kernel_rfl) (show Tryd.prog.cellsOf 66 = 20 by kernel_rfl) hd]
end Go.Proofs.YtfbmjejkhnopiaaDoor
