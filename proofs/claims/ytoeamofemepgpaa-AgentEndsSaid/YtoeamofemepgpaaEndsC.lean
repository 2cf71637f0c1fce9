/- Chapter 20: AgentEnds, the test whether a message is a part's launch, over any frame. -/
import Derived.Test.YtoeamofemepgpaaLive22
import Derived.BigQuiet
import Derived.Deep.QuietTactic
namespace Go.Proofs.Ytoeamofemepgpaa
open Go.RowKit

def SL : Code → Code | .seq a _ => a | c => c
def SR : Code → Code | .seq _ b => b | c => c
def SB : Code → Code | .loop b => b | .block _ b => b | c => c
def bodyOf (f : Func) : Code := f.body.getD .skip

def lexOf : Code → Bool | .region _ ops _ => Region.lexB .any ops | _ => false
theorem lex33 : lexOf (SL (SR (SB (SL (SR (SB (SB (SR (SL (SR (SR (SB (SL (SR (SB (SB (SR (SL (SR (SR (SR (SR (SR (SR (SR (SB (SL (SR (SB (SB (SR (SL (SR (SR (SR (SR (SR (SR (SR (SR (SR (bodyOf Try.f5)))))))))))))))))))))))))))))))))))))))))) = true := by kernel_rfl
set_option maxRecDepth 100000 in
set_option maxHeartbeats 16000000 in
theorem cond_reg {wm : World} {Q : Exit → Act → World → Prop} {b0 off len cap G m rc k q Pm x : Nat} {bt2 sn jb at_ be en d0 d1 d2 d3 kd1 : Int} {Kq : Nat} {v1 : Nat → Int} (hk0 : (0 : Int) ≤ (k : Int)) (hk1 : (k : Int) < (m : Int)) (hq0 : (0 : Int) ≤ (q : Int)) (hq2 : (q : Int) < (len : Int)) (ekq : bits .and .i64 kd1 7 = (Kq : Int)) {y8 y9 : Int} (hy8 : IntKind.i64.wrap (v1 8 + 8) = y8) (hy9 : IntKind.i64.wrap (be + v1 9) = y9) (HTX : Hid (q = x → (2 : Int) ≤ (Kq : Int) ∧ (Kq : Int) ≤ 4 ∧ v1 0 = 3 ∧ v1 6 = jb ∧ v1 7 = at_ ∧ bt2 < v1 8 ∧ sn < v1 8 ∧ be ≤ y8 ∧ en ≤ y9 ∧ d0 = v1 11 ∧ d1 = v1 12 ∧ d2 = v1 13 ∧ d3 = v1 14))
  (cd : wm.cell? ⟨b0, off + q * 25, none⟩ = some (.int .i64 kd1)) (m0 : wm.cell? ⟨Pm, 0, none⟩ = some (.int .i64 (v1 0))) (m6 : wm.cell? ⟨Pm, 6, none⟩ = some (.int .i64 (v1 6))) (m7 : wm.cell? ⟨Pm, 7, none⟩ = some (.int .i64 (v1 7))) (m8 : wm.cell? ⟨Pm, 8, none⟩ = some (.int .i64 (v1 8))) (m9 : wm.cell? ⟨Pm, 9, none⟩ = some (.int .i64 (v1 9))) (m11 : wm.cell? ⟨Pm, 11, none⟩ = some (.int .i64 (v1 11))) (m12 : wm.cell? ⟨Pm, 12, none⟩ = some (.int .i64 (v1 12))) (m13 : wm.cell? ⟨Pm, 13, none⟩ = some (.int .i64 (v1 13))) (m14 : wm.cell? ⟨Pm, 14, none⟩ = some (.int .i64 (v1 14)))
  (r0 : wm.cell? ⟨G, k * 8, none⟩ = some (.int .i64 jb)) (r1 : wm.cell? ⟨G, k * 8 + 1, none⟩ = some (.int .i64 at_)) (r2 : wm.cell? ⟨G, k * 8 + 2, none⟩ = some (.int .i64 d0)) (r3 : wm.cell? ⟨G, k * 8 + 2 + 1, none⟩ = some (.int .i64 d1)) (r4 : wm.cell? ⟨G, k * 8 + 2 + 2, none⟩ = some (.int .i64 d2)) (r5 : wm.cell? ⟨G, k * 8 + 2 + 3, none⟩ = some (.int .i64 d3)) (r6 : wm.cell? ⟨G, k * 8 + 6, none⟩ = some (.int .i64 be)) (r7 : wm.cell? ⟨G, k * 8 + 7, none⟩ = some (.int .i64 en))
  {u0 u2 u3 u4 u5 u6 u7 u8 u9 u10 u12 u13 u14 u16 u19 u22 u23 u24 u25 u26 u27 u28 u29 u30 u31 u32 u33 u34 u35 u36 u37 u38 u39 u40 u41 u42 u43 u44 u45 u46 u47 u48 u49 u50 u51 u52 u53 u54 u55 u56 u57 u58 u59 u60 u61 u62 u63 u64 u65 u66 u67 u68 u69 u70 u71 u72 u73 u74 u75 u76 u77 u78 u79 u80 u81 u82 u83 u84 u85 u86 u87 u88 u89 u90 u91 u92 u93 u94 u95 u96 u97 u98 u99 u100 u101 u102 u103 u104 u105 u106 u107 u108 u109 u110 u111 u112 u113 u114 u115 u116 u117 u118 u119 u120 u121 u122 u123 u124 u125 u126 u127 u128 u129 u130 u131 u132 u133 u134 u135 u136 u137 u138 u139 u140 u141 u142 u143 u144 u145 u146 u147 u148 u149 u150 u151 u152 u153 u154 u155 u156 u157 u158 u159 u160 u161 u162 u163 u164 u165 u166 u167 u168 u169 u170 u171 u172 u173 u174 u175 u176 u177 u178 u179 u180 u181 u182 u183 u184 u185 u186 u187 u188 u189 u190 u191 u192 u193 u194 u195 u196 u197 u198 u199 u200 u201 u202 u203 u204 u205 u206 u207 u208 u209 u210 u211 u212 u213 u214 u215 u216 u217 u218 u219 u220 u221 u222 u223 u224 u225 u226 u227 u228 u229 u230 u231 u232 u233 u234 u235 u236 u237 u238 u239 u240 u241 u242 u243 : Value}
  (hQ : Hid (∀ (bq : Bool) (n : Nat) (t144 t145 t146 t147 t148 t149 t150 t151 t152 t153 t154 t155 t156 t157 t158 t159 t160 t161 t162 t163 t164 t165 t166 t167 t168 t169 t170 t171 t172 t173 t174 t175 t176 t177 t178 t179 t180 t181 t182 t183 t184 t185 t186 t187 t188 t189 t190 t191 t192 t193 t194 t195 t196 t197 t198 t199 t200 t201 t202 t203 t204 t205 t206 t207 t208 t209 t210 t211 t212 t213 t214 t215 t216 t217 t218 t219 t220 t221 t222 t223 t224 t225 t226 t227 t228 t229 t230 t231 t232 : Value), (q = x → bq = true) → Q .normal { tmps := #[u0, .slice (some ⟨b0, off, none⟩) len cap, u2, u3, u4, u5, u6, u7, u8, u9, u10, .int .i64 bt2, u12, u13, u14, .int .i64 sn, u16, .slice (some ⟨G, 0, none⟩) m rc, .int .i64 k, u19, .int .i64 q, .pointer (some ⟨Pm, 0, none⟩), u22, u23, u24, u25, u26, u27, u28, u29, u30, u31, u32, u33, u34, u35, u36, u37, u38, u39, u40, u41, u42, u43, u44, u45, u46, u47, u48, u49, u50, u51, u52, u53, u54, u55, u56, u57, u58, u59, u60, u61, u62, u63, u64, u65, u66, u67, u68, u69, u70, u71, u72, u73, u74, u75, u76, u77, u78, u79, u80, u81, u82, u83, u84, u85, u86, u87, u88, u89, u90, u91, u92, u93, u94, u95, u96, u97, u98, u99, u100, u101, u102, u103, u104, u105, u106, u107, u108, u109, u110, u111, u112, u113, u114, u115, u116, u117, u118, u119, u120, u121, u122, u123, u124, u125, u126, u127, u128, u129, u130, u131, u132, u133, u134, u135, u136, u137, u138, u139, u140, u141, u142, u143, t144, t145, t146, t147, t148, t149, t150, t151, t152, t153, t154, t155, t156, t157, t158, t159, t160, t161, t162, t163, t164, t165, t166, t167, t168, t169, t170, t171, t172, t173, t174, t175, t176, t177, t178, t179, t180, t181, t182, t183, t184, t185, t186, t187, t188, t189, t190, t191, t192, t193, t194, t195, t196, t197, t198, t199, t200, t201, t202, t203, t204, t205, t206, t207, t208, t209, t210, t211, t212, t213, t214, t215, t216, t217, t218, t219, t220, t221, t222, t223, t224, t225, t226, t227, t228, t229, t230, t231, t232, .bool bq, u234, u235, u236, u237, u238, u239, u240, u241, u242, u243], defers := [] } (wm.drewN n))) :
    Code.wp Try.prog (SL (SR (SB (SL (SR (SB (SB (SR (SL (SR (SR (SB (SL (SR (SB (SB (SR (SL (SR (SR (SR (SR (SR (SR (SR (SB (SL (SR (SB (SB (SR (SL (SR (SR (SR (SR (SR (SR (SR (SR (SR (bodyOf Try.f5)))))))))))))))))))))))))))))))))))))))))) Q { tmps := #[u0, .slice (some ⟨b0, off, none⟩) len cap, u2, u3, u4, u5, u6, u7, u8, u9, u10, .int .i64 bt2, u12, u13, u14, .int .i64 sn, u16, .slice (some ⟨G, 0, none⟩) m rc, .int .i64 k, u19, .int .i64 q, .pointer (some ⟨Pm, 0, none⟩), u22, u23, u24, u25, u26, u27, u28, u29, u30, u31, u32, u33, u34, u35, u36, u37, u38, u39, u40, u41, u42, u43, u44, u45, u46, u47, u48, u49, u50, u51, u52, u53, u54, u55, u56, u57, u58, u59, u60, u61, u62, u63, u64, u65, u66, u67, u68, u69, u70, u71, u72, u73, u74, u75, u76, u77, u78, u79, u80, u81, u82, u83, u84, u85, u86, u87, u88, u89, u90, u91, u92, u93, u94, u95, u96, u97, u98, u99, u100, u101, u102, u103, u104, u105, u106, u107, u108, u109, u110, u111, u112, u113, u114, u115, u116, u117, u118, u119, u120, u121, u122, u123, u124, u125, u126, u127, u128, u129, u130, u131, u132, u133, u134, u135, u136, u137, u138, u139, u140, u141, u142, u143, u144, u145, u146, u147, u148, u149, u150, u151, u152, u153, u154, u155, u156, u157, u158, u159, u160, u161, u162, u163, u164, u165, u166, u167, u168, u169, u170, u171, u172, u173, u174, u175, u176, u177, u178, u179, u180, u181, u182, u183, u184, u185, u186, u187, u188, u189, u190, u191, u192, u193, u194, u195, u196, u197, u198, u199, u200, u201, u202, u203, u204, u205, u206, u207, u208, u209, u210, u211, u212, u213, u214, u215, u216, u217, u218, u219, u220, u221, u222, u223, u224, u225, u226, u227, u228, u229, u230, u231, u232, u233, u234, u235, u236, u237, u238, u239, u240, u241, u242, u243], defers := [] } wm := by
  have hvv := fun w => eq_vv d0 d1 d2 d3 (v1 11) (v1 12) (v1 13) (v1 14) w
  simp only [SL, SR, SB, bodyOf, Try.f5, Option.getD_some, List.append_eq, List.cons_append, List.nil_append]
  have hlex := lex33
  simp only [lexOf, SL, SR, SB, bodyOf, Try.f5, Option.getD_some, List.append_eq, List.cons_append, List.nil_append] at hlex
  refine wp_region_quiet_lit (by kernel_rfl) hlex ?_
  clear hlex
  by_cases g0 : (2 : Int) ≤ (Kq : Int)
  rotate_left
  · have gf : decide ((2 : Int) ≤ (Kq : Int)) = false := decide_eq_false g0
    have HF : Hid (¬ q = x) := Lib.hid (fun e => g0 (HTX.out e).1)
    iterate 90 (go_big_quiet_step (fail))
    refine wpQuiet_nil ?_
    intro _ hw'
    obtain ⟨nq, hw''⟩ := hw'
    subst hw''
    exact hQ.out false nq _ _ _ _ _ _ _ _ _ _ _ _ _ _ _ _ _ _ _ _ _ _ _ _ _ _ _ _ _ _ _ _ _ _ _ _ _ _ _ _ _ _ _ _ _ _ _ _ _ _ _ _ _ _ _ _ _ _ _ _ _ _ _ _ _ _ _ _ _ _ _ _ _ _ _ _ _ _ _ _ _ _ _ _ _ _ _ _ _ (fun e => absurd e HF.out)
  iterate 8 (go_big_quiet_step (fail))
  by_cases g1 : (Kq : Int) ≤ (4 : Int)
  rotate_left
  · have gf : decide ((Kq : Int) ≤ (4 : Int)) = false := decide_eq_false g1
    have HF : Hid (¬ q = x) := Lib.hid (fun e => g1 (HTX.out e).2.1)
    iterate 82 (go_big_quiet_step (fail))
    refine wpQuiet_nil ?_
    intro _ hw'
    obtain ⟨nq, hw''⟩ := hw'
    subst hw''
    exact hQ.out false nq _ _ _ _ _ _ _ _ _ _ _ _ _ _ _ _ _ _ _ _ _ _ _ _ _ _ _ _ _ _ _ _ _ _ _ _ _ _ _ _ _ _ _ _ _ _ _ _ _ _ _ _ _ _ _ _ _ _ _ _ _ _ _ _ _ _ _ _ _ _ _ _ _ _ _ _ _ _ _ _ _ _ _ _ _ _ _ _ _ (fun e => absurd e HF.out)
  iterate 8 (go_big_quiet_step (fail))
  by_cases g2 : v1 0 = 3
  rotate_left
  · have gf : decide (v1 0 = 3) = false := decide_eq_false g2
    have gb : (v1 0  ==  3) = false := beq_eq_false_iff_ne.2 g2
    have HF : Hid (¬ q = x) := Lib.hid (fun e => g2 (HTX.out e).2.2.1)
    iterate 74 (go_big_quiet_step (fail))
    refine wpQuiet_nil ?_
    intro _ hw'
    obtain ⟨nq, hw''⟩ := hw'
    subst hw''
    exact hQ.out false nq _ _ _ _ _ _ _ _ _ _ _ _ _ _ _ _ _ _ _ _ _ _ _ _ _ _ _ _ _ _ _ _ _ _ _ _ _ _ _ _ _ _ _ _ _ _ _ _ _ _ _ _ _ _ _ _ _ _ _ _ _ _ _ _ _ _ _ _ _ _ _ _ _ _ _ _ _ _ _ _ _ _ _ _ _ _ _ _ _ (fun e => absurd e HF.out)
  rw [g2] at m0
  iterate 5 (go_big_quiet_step (fail))
  by_cases g3 : v1 6 = jb
  rotate_left
  · have gf : decide (v1 6 = jb) = false := decide_eq_false g3
    have gb : (v1 6  ==  jb) = false := beq_eq_false_iff_ne.2 g3
    have HF : Hid (¬ q = x) := Lib.hid (fun e => g3 (HTX.out e).2.2.2.1)
    iterate 69 (go_big_quiet_step (fail))
    refine wpQuiet_nil ?_
    intro _ hw'
    obtain ⟨nq, hw''⟩ := hw'
    subst hw''
    exact hQ.out false nq _ _ _ _ _ _ _ _ _ _ _ _ _ _ _ _ _ _ _ _ _ _ _ _ _ _ _ _ _ _ _ _ _ _ _ _ _ _ _ _ _ _ _ _ _ _ _ _ _ _ _ _ _ _ _ _ _ _ _ _ _ _ _ _ _ _ _ _ _ _ _ _ _ _ _ _ _ _ _ _ _ _ _ _ _ _ _ _ _ (fun e => absurd e HF.out)
  rw [g3] at m6
  iterate 10 (go_big_quiet_step (fail))
  by_cases g4 : v1 7 = at_
  rotate_left
  · have gf : decide (v1 7 = at_) = false := decide_eq_false g4
    have gb : (v1 7  ==  at_) = false := beq_eq_false_iff_ne.2 g4
    have HF : Hid (¬ q = x) := Lib.hid (fun e => g4 (HTX.out e).2.2.2.2.1)
    iterate 59 (go_big_quiet_step (fail))
    refine wpQuiet_nil ?_
    intro _ hw'
    obtain ⟨nq, hw''⟩ := hw'
    subst hw''
    exact hQ.out false nq _ _ _ _ _ _ _ _ _ _ _ _ _ _ _ _ _ _ _ _ _ _ _ _ _ _ _ _ _ _ _ _ _ _ _ _ _ _ _ _ _ _ _ _ _ _ _ _ _ _ _ _ _ _ _ _ _ _ _ _ _ _ _ _ _ _ _ _ _ _ _ _ _ _ _ _ _ _ _ _ _ _ _ _ _ _ _ _ _ (fun e => absurd e HF.out)
  rw [g4] at m7
  iterate 10 (go_big_quiet_step (fail))
  by_cases g5 : bt2 < v1 8
  rotate_left
  · have gf : decide (bt2 < v1 8) = false := decide_eq_false g5
    have HF : Hid (¬ q = x) := Lib.hid (fun e => g5 (HTX.out e).2.2.2.2.2.1)
    iterate 49 (go_big_quiet_step (fail))
    refine wpQuiet_nil ?_
    intro _ hw'
    obtain ⟨nq, hw''⟩ := hw'
    subst hw''
    exact hQ.out false nq _ _ _ _ _ _ _ _ _ _ _ _ _ _ _ _ _ _ _ _ _ _ _ _ _ _ _ _ _ _ _ _ _ _ _ _ _ _ _ _ _ _ _ _ _ _ _ _ _ _ _ _ _ _ _ _ _ _ _ _ _ _ _ _ _ _ _ _ _ _ _ _ _ _ _ _ _ _ _ _ _ _ _ _ _ _ _ _ _ (fun e => absurd e HF.out)
  iterate 6 (go_big_quiet_step (fail))
  by_cases g6 : sn < v1 8
  rotate_left
  · have gf : decide (sn < v1 8) = false := decide_eq_false g6
    have HF : Hid (¬ q = x) := Lib.hid (fun e => g6 (HTX.out e).2.2.2.2.2.2.1)
    iterate 43 (go_big_quiet_step (fail))
    refine wpQuiet_nil ?_
    intro _ hw'
    obtain ⟨nq, hw''⟩ := hw'
    subst hw''
    exact hQ.out false nq _ _ _ _ _ _ _ _ _ _ _ _ _ _ _ _ _ _ _ _ _ _ _ _ _ _ _ _ _ _ _ _ _ _ _ _ _ _ _ _ _ _ _ _ _ _ _ _ _ _ _ _ _ _ _ _ _ _ _ _ _ _ _ _ _ _ _ _ _ _ _ _ _ _ _ _ _ _ _ _ _ _ _ _ _ _ _ _ _ (fun e => absurd e HF.out)
  iterate 6 (go_big_quiet_step (fail))
  by_cases g7 : be ≤ y8
  rotate_left
  · have gf : decide (be ≤ y8) = false := decide_eq_false g7
    have HF : Hid (¬ q = x) := Lib.hid (fun e => g7 (HTX.out e).2.2.2.2.2.2.2.1)
    iterate 37 (go_big_quiet_step (fail))
    refine wpQuiet_nil ?_
    intro _ hw'
    obtain ⟨nq, hw''⟩ := hw'
    subst hw''
    exact hQ.out false nq _ _ _ _ _ _ _ _ _ _ _ _ _ _ _ _ _ _ _ _ _ _ _ _ _ _ _ _ _ _ _ _ _ _ _ _ _ _ _ _ _ _ _ _ _ _ _ _ _ _ _ _ _ _ _ _ _ _ _ _ _ _ _ _ _ _ _ _ _ _ _ _ _ _ _ _ _ _ _ _ _ _ _ _ _ _ _ _ _ (fun e => absurd e HF.out)
  iterate 11 (go_big_quiet_step (fail))
  by_cases g8 : en ≤ y9
  rotate_left
  · have gf : decide (en ≤ y9) = false := decide_eq_false g8
    have HF : Hid (¬ q = x) := Lib.hid (fun e => g8 (HTX.out e).2.2.2.2.2.2.2.2.1)
    iterate 26 (go_big_quiet_step (fail))
    refine wpQuiet_nil ?_
    intro _ hw'
    obtain ⟨nq, hw''⟩ := hw'
    subst hw''
    exact hQ.out false nq _ _ _ _ _ _ _ _ _ _ _ _ _ _ _ _ _ _ _ _ _ _ _ _ _ _ _ _ _ _ _ _ _ _ _ _ _ _ _ _ _ _ _ _ _ _ _ _ _ _ _ _ _ _ _ _ _ _ _ _ _ _ _ _ _ _ _ _ _ _ _ _ _ _ _ _ _ _ _ _ _ _ _ _ _ _ _ _ _ (fun e => absurd e HF.out)
  iterate 16 (go_big_quiet_step (fail))
  iterate 10 (go_big_quiet_step (fail))
  refine wpQuiet_nil ?_
  intro _ hw'
  obtain ⟨nq, hw''⟩ := hw'
  subst hw''
  exact hQ.out _ nq _ _ _ _ _ _ _ _ _ _ _ _ _ _ _ _ _ _ _ _ _ _ _ _ _ _ _ _ _ _ _ _ _ _ _ _ _ _ _ _ _ _ _ _ _ _ _ _ _ _ _ _ _ _ _ _ _ _ _ _ _ _ _ _ _ _ _ _ _ _ _ _ _ _ _ _ _ _ _ _ _ _ _ _ _ _ _ _ _ (fun e => by obtain ⟨a1, a2, a3, a4⟩ := (HTX.out e).2.2.2.2.2.2.2.2.2; rw [a1, a2, a3, a4]; simp)
end Go.Proofs.Ytoeamofemepgpaa
