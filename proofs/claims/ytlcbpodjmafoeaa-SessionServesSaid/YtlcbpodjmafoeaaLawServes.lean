/- The law SessionServes: the walk. -/
import Derived.Test.YtlcbpodjmafoeaaServ0
import Derived.Deep.LoopGhost
namespace Go.Proofs.Ytlcbpodjmafoeaa
open Go.RowKit

theorem mid_of {w : World} {b : Nat} {t : TypeId} {fr : Nat × Nat} {C : Array Value} (pre l post : List Value) (hb : w.heap[b]? = some (.cells C t fr)) (hC : C = (pre ++ (l ++ post)).toArray) : w.rangeAt b pre.length l := fun j v hj => by
  subst hC
  refine cellb hb ?_
  have hlt := (List.getElem?_eq_some_iff.1 hj).1
  rw [List.getElem?_toArray, List.getElem?_append_right (by omega), show pre.length + j - pre.length = j by omega, List.getElem?_append_left hlt]
  exact hj
theorem alloc2_first (w : World) (o1 o2 : Obj) : ((w.alloc o1).alloc o2).heap[w.heap.size]? = some o1 := (Below.heap_alloc _ _ _ (by simp)).trans (heap_alloc_new w o1)
theorem alloc2_second (w : World) (o1 o2 : Obj) : ((w.alloc o1).alloc o2).heap[w.heap.size + 1]? = some o2 := by simpa using heap_alloc_new (w.alloc o1) o2
theorem setRow_alloc2_first (w : World) (c c' : Array Value) (t : TypeId) (o : Obj) : ((w.alloc (.cells c t)).alloc o).setRow w.heap.size c' = (w.alloc (.cells c' t)).alloc o := by
  have h := World.setRow_alloc_new w c c' t
  have h2 : ((w.alloc (.cells c t)).alloc o).setRow w.heap.size c' = ((w.alloc (.cells c t)).setRow w.heap.size c').alloc o := by
    simp only [World.setRow, World.alloc]
    congr 1
    apply Array.ext_getElem?
    intro i
    simp only [Array.getElem?_modify, Array.getElem?_push, Array.size_modify, Array.size_push]
    by_cases h : i = w.heap.size + 1
    · subst h
      simp
    · simp [h]
  rw [h2, h]
theorem setRow_alloc2_second (w : World) (c c' : Array Value) (t : TypeId) (o : Obj) : ((w.alloc o).alloc (.cells c t)).setRow (w.heap.size + 1) c' = (w.alloc o).alloc (.cells c' t) := by
  have h := World.setRow_alloc_new (w.alloc o) c c' t
  simpa using h
set_option maxRecDepth 100000 in
theorem serves_out (ep : Int) (A0 : Option Addr) (len cap : Nat) (w : World) (h : ep < 1 ∨ 1099511627776 < ep) :
    Calls Try.prog 3 #[.int .i64 ep, .slice A0 len cap] w fun e w' => e = .returned (.bool true) ∧ Below w.heap.size w w' := by
  have key : ep < 1 ∨ (¬ ep < 1 ∧ 1099511627776 < ep) := by omega
  rcases key with h1 | ⟨h1, h2⟩
  all_goals
    have HN := Lib.hid h
    clear h
    go_enter Try.func3, Try.ntmps3
    go_wp2_with fail
    refine (awake_any w).mono ?_
    rintro e w1 ⟨rfl, hb⟩
    have HB := Lib.hid hb
    clear hb
    go_wp2_with fail
    refine (news_no ep w1 HN.out).mono ?_
    rintro e w' ⟨rfl, rfl⟩
    go_wp2_with fail
    go_ret
    exact ⟨rfl, HB.out⟩
set_option maxRecDepth 100000 in
set_option maxHeartbeats 16000000 in
theorem serves_in (ep : Int) (A0 : Option Addr) (len cap : Nat) (gs : List St) (w : World) (h1 : 1 ≤ ep) (h2 : ep ≤ 1099511627776) (hlen : len = gs.length) (hp : StepsIn w w.heap.size A0 gs) :
    Calls Try.prog 3 #[.int .i64 ep, .slice A0 len cap] w fun e w' => e = .returned (.bool true) ∧ Below w.heap.size w w' := by
  have t1 : ¬ ep < 1 := by omega
  have t2 : ¬ 1099511627776 < ep := by omega
  have HP := Lib.hid hp
  have HLEN := Lib.hid hlen
  clear hp hlen
  go_enter Try.func3, Try.ntmps3
  go_wp2_with fail
  refine (awake_any w).mono ?_
  rintro e w1 ⟨rfl, hb⟩
  have HB_1 := Lib.hid hb
  clear hb
  go_wp2_with fail
  obtain ⟨M, hM⟩ : ∃ M, M = w1.heap.size := ⟨_, rfl⟩
  have hns := news_any ep w1 h1 h2
  rw [← hM] at hns
  have hwM : w.heap.size ≤ M := by have := HB_1.out.size; omega
  refine hns.mono ?_
  clear hns
  rintro e w2 ⟨rfl, hs, hb⟩
  have HB_2 := Lib.hid (HB_1.out.trans (hb.mono hwM))
  have HS_2 := Lib.hid hs
  clear hs hb hM HB_1
  obtain ⟨P7, hP7⟩ : ∃ x, x = w2.heap.size := ⟨_, rfl⟩
  have hMP7 : M + 1 < P7 := by have := HS_2.out.glt; omega
  have hal : Below w2.heap.size w2 (w2.alloc (.cells #[.int .i64 ep, .slice none 0 0] 28)) := (Below.refl _ _).alloc (Nat.le_refl _) _
  have hnew : (w2.alloc (.cells #[.int .i64 ep, .slice none 0 0] 28)).heap[P7]? = some (.cells #[.int .i64 ep, .slice none 0 0] 28 (0, 0)) := by rw [hP7]; exact heap_alloc_new _ _
  have HB_3 : Hid (Below w.heap.size w (w2.alloc (.cells #[.int .i64 ep, .slice none 0 0] 28))) := Lib.hid (HB_2.out.trans (hal.mono HB_2.out.size))
  have HS_3 : Hid (SAt (w2.alloc (.cells #[.int .i64 ep, .slice none 0 0] 28)) (M + 1) ep M 0 (fun _ => ⟨0, 0, 0, 0⟩)) := Lib.hid (HS_2.out.below hal)
  clear hal HB_2 HS_2
  have HP7_3 : Hid ((w2.alloc (.cells #[.int .i64 ep, .slice none 0 0] 28)).heap[P7]? = some (.cells #[.int .i64 ep, .slice none 0 0] 28 (0, 0))) := Lib.hid hnew
  clear hnew
  go_upto_region 10 with (fail)
  rw [← hP7]
  clear hP7
  generalize w2.alloc (.cells #[.int .i64 ep, .slice none 0 0] 28) = w3 at HB_3 HS_3 HP7_3 ⊢
  have HL_3 : Hid (LAt w3 w.heap.size none 0 0 []) := Lib.hid ⟨rfl, World.ownsRow_nil _ _ _ _⟩
  go_wp2_with fail
  go_loopg [8] len (fun gk s8 wr => ∃ (j nn n c : Nat) (A : Option Addr) (L : List Ke) (f : Int → Kp), j ≤ len ∧ j ≤ 40 ∧ gk = len - j ∧ s8 = .int .i64 j ∧ nn ≤ j ∧ n ≤ j ∧ Hid (SAt wr (M + 1) ep M nn f) ∧ Hid (LAt wr w.heap.size A n c L) ∧ Hid (wr.heap[P7]? = some (.cells #[.int .i64 ep, .slice A n c] 28 (0, 0))) ∧ Hid (∀ k, f k = kp (lk L k)) ∧ Hid (Below w.heap.size w wr))
  case atStart => exact ⟨0, 0, 0, 0, none, [], _, Nat.zero_le _, by omega, rfl, rfl, by omega, by omega, HS_3, HL_3, HP7_3, Lib.hid (fun k => rfl), HB_3⟩
  case round =>
    clear HS_3 HL_3 HP7_3 HB_3
    obtain ⟨w4, rfl⟩ : ∃ x : World, x = wr := ⟨_, rfl⟩
    obtain ⟨j, nn, n, c, A, L, f, hj, hj40, rfl, rfl, hnn, hn, HS_4, HL_4, HP7_4, HF, HB_4⟩ := hrel
    by_cases hjl : j < len
    rotate_left
    · have q1 : ¬ (j : Int) < (len : Int) := by omega
      go_wp2_with fail
      go_ret
      exact ⟨rfl, HB_4.out⟩
    have q1 : (j : Int) < (len : Int) := by omega
    by_cases hj39 : j < 40
    rotate_left
    · have q2 : ¬ (j : Int) < 40 := by omega
      go_wp2_with fail
      go_ret
      exact ⟨rfl, HB_4.out⟩
    have q2 : (j : Int) < 40 := by omega
    have q0 : (0 : Int) ≤ (j : Int) := by omega
    obtain ⟨b0, off, s, rfl, hb0, hs, hws, hwc, hrg⟩ : ∃ b0 off s, A0 = some ⟨b0, off, none⟩ ∧ b0 < w.heap.size ∧ gs[j]? = some s ∧ (Lit.int .i64 (s.v 15)).wf = true ∧ (Lit.int .i64 s.cl).wf = true ∧ w4.rangeAt b0 (off + j * 28) (stc s) := by
      have hjg : j < gs.length := by rw [← HLEN.out]; exact hjl
      have hp4 := HP.out.below HB_4.out (Nat.le_refl _)
      rcases hp4.2 with e | ⟨b, off, e, hb, hr⟩
      · rw [e] at hjg; simp at hjg
      · have hg : gs[j]? = some gs[j] := List.getElem?_eq_getElem hjg
        have hm := hp4.1 gs[j] (List.getElem_mem _)
        exact ⟨b, off, gs[j], e, hb, hg, hm.1, hm.2, hr j _ hg⟩
    have HRG := Lib.hid hrg
    have HWS := Lib.hid hws
    have HWC := Lib.hid hwc
    clear hrg hws hwc hs hb0
    obtain ⟨look, v, B, nb, cb, last, a, b, d, cl, sq⟩ := s
    simp only at HWS HWC
    have HRG' : Hid (w4.rangeAt b0 (off + j * 28) [.bool look, .int .i64 (v 0), .int .i64 (v 1), .int .i64 (v 2), .int .i64 (v 3), .int .i64 (v 4), .int .i64 (v 5), .int .i64 (v 6), .int .i64 (v 7), .int .i64 (v 8), .int .i64 (v 9), .int .i64 (v 10), .int .i64 (v 11), .int .i64 (v 12), .int .i64 (v 13), .int .i64 (v 14), .int .i64 (v 15), .int .i64 (v 16), .slice B nb cb, .int .i64 (v 18), .int .i64 (v 19), .int .i64 (v 20), .int .i64 last, .int .i64 a, .int .i64 b, .int .i64 d, .int .i64 cl, .int .i64 sq]) := HRG
    obtain ⟨P9, hP9⟩ : ∃ x, x = w4.heap.size := ⟨_, rfl⟩
    have hP79 : P7 < P9 := by have := ltb HP7_4.out; omega
    have hal : Below w4.heap.size w4 (w4.alloc (.cells #[.bool look, .int .i64 (v 0), .int .i64 (v 1), .int .i64 (v 2), .int .i64 (v 3), .int .i64 (v 4), .int .i64 (v 5), .int .i64 (v 6), .int .i64 (v 7), .int .i64 (v 8), .int .i64 (v 9), .int .i64 (v 10), .int .i64 (v 11), .int .i64 (v 12), .int .i64 (v 13), .int .i64 (v 14), .int .i64 (v 15), .int .i64 (v 16), .slice B nb cb, .int .i64 (v 18), .int .i64 (v 19), .int .i64 (v 20), .int .i64 last, .int .i64 a, .int .i64 b, .int .i64 d, .int .i64 cl, .int .i64 sq] 38)) := (Below.refl _ _).alloc (Nat.le_refl _) _
    have hnew : (w4.alloc (.cells #[.bool look, .int .i64 (v 0), .int .i64 (v 1), .int .i64 (v 2), .int .i64 (v 3), .int .i64 (v 4), .int .i64 (v 5), .int .i64 (v 6), .int .i64 (v 7), .int .i64 (v 8), .int .i64 (v 9), .int .i64 (v 10), .int .i64 (v 11), .int .i64 (v 12), .int .i64 (v 13), .int .i64 (v 14), .int .i64 (v 15), .int .i64 (v 16), .slice B nb cb, .int .i64 (v 18), .int .i64 (v 19), .int .i64 (v 20), .int .i64 last, .int .i64 a, .int .i64 b, .int .i64 d, .int .i64 cl, .int .i64 sq] 38)).heap[P9]? = some (.cells #[.bool look, .int .i64 (v 0), .int .i64 (v 1), .int .i64 (v 2), .int .i64 (v 3), .int .i64 (v 4), .int .i64 (v 5), .int .i64 (v 6), .int .i64 (v 7), .int .i64 (v 8), .int .i64 (v 9), .int .i64 (v 10), .int .i64 (v 11), .int .i64 (v 12), .int .i64 (v 13), .int .i64 (v 14), .int .i64 (v 15), .int .i64 (v 16), .slice B nb cb, .int .i64 (v 18), .int .i64 (v 19), .int .i64 (v 20), .int .i64 last, .int .i64 a, .int .i64 b, .int .i64 d, .int .i64 cl, .int .i64 sq] 38 (0, 0)) := by rw [hP9]; exact heap_alloc_new _ _
    have HB_5 : Hid (Below w.heap.size w (w4.alloc (.cells #[.bool look, .int .i64 (v 0), .int .i64 (v 1), .int .i64 (v 2), .int .i64 (v 3), .int .i64 (v 4), .int .i64 (v 5), .int .i64 (v 6), .int .i64 (v 7), .int .i64 (v 8), .int .i64 (v 9), .int .i64 (v 10), .int .i64 (v 11), .int .i64 (v 12), .int .i64 (v 13), .int .i64 (v 14), .int .i64 (v 15), .int .i64 (v 16), .slice B nb cb, .int .i64 (v 18), .int .i64 (v 19), .int .i64 (v 20), .int .i64 last, .int .i64 a, .int .i64 b, .int .i64 d, .int .i64 cl, .int .i64 sq] 38))) := Lib.hid (HB_4.out.trans (hal.mono HB_4.out.size))
    have HS_5 : Hid (SAt (w4.alloc (.cells #[.bool look, .int .i64 (v 0), .int .i64 (v 1), .int .i64 (v 2), .int .i64 (v 3), .int .i64 (v 4), .int .i64 (v 5), .int .i64 (v 6), .int .i64 (v 7), .int .i64 (v 8), .int .i64 (v 9), .int .i64 (v 10), .int .i64 (v 11), .int .i64 (v 12), .int .i64 (v 13), .int .i64 (v 14), .int .i64 (v 15), .int .i64 (v 16), .slice B nb cb, .int .i64 (v 18), .int .i64 (v 19), .int .i64 (v 20), .int .i64 last, .int .i64 a, .int .i64 b, .int .i64 d, .int .i64 cl, .int .i64 sq] 38)) (M + 1) ep M nn f) := Lib.hid (HS_4.out.below hal)
    have HL_5 : Hid (LAt (w4.alloc (.cells #[.bool look, .int .i64 (v 0), .int .i64 (v 1), .int .i64 (v 2), .int .i64 (v 3), .int .i64 (v 4), .int .i64 (v 5), .int .i64 (v 6), .int .i64 (v 7), .int .i64 (v 8), .int .i64 (v 9), .int .i64 (v 10), .int .i64 (v 11), .int .i64 (v 12), .int .i64 (v 13), .int .i64 (v 14), .int .i64 (v 15), .int .i64 (v 16), .slice B nb cb, .int .i64 (v 18), .int .i64 (v 19), .int .i64 (v 20), .int .i64 last, .int .i64 a, .int .i64 b, .int .i64 d, .int .i64 cl, .int .i64 sq] 38)) w.heap.size A n c L) := Lib.hid (HL_4.out.below hal)
    have HP7_5 : Hid ((w4.alloc (.cells #[.bool look, .int .i64 (v 0), .int .i64 (v 1), .int .i64 (v 2), .int .i64 (v 3), .int .i64 (v 4), .int .i64 (v 5), .int .i64 (v 6), .int .i64 (v 7), .int .i64 (v 8), .int .i64 (v 9), .int .i64 (v 10), .int .i64 (v 11), .int .i64 (v 12), .int .i64 (v 13), .int .i64 (v 14), .int .i64 (v 15), .int .i64 (v 16), .slice B nb cb, .int .i64 (v 18), .int .i64 (v 19), .int .i64 (v 20), .int .i64 last, .int .i64 a, .int .i64 b, .int .i64 d, .int .i64 cl, .int .i64 sq] 38)).heap[P7]? = some (.cells #[.int .i64 ep, .slice A n c] 28 (0, 0))) := Lib.hid ((hal.block P7 (ltb HP7_4.out)).trans HP7_4.out)
    clear hal HB_4 HS_4 HL_4 HP7_4
    have HP9_5 : Hid ((w4.alloc (.cells #[.bool look, .int .i64 (v 0), .int .i64 (v 1), .int .i64 (v 2), .int .i64 (v 3), .int .i64 (v 4), .int .i64 (v 5), .int .i64 (v 6), .int .i64 (v 7), .int .i64 (v 8), .int .i64 (v 9), .int .i64 (v 10), .int .i64 (v 11), .int .i64 (v 12), .int .i64 (v 13), .int .i64 (v 14), .int .i64 (v 15), .int .i64 (v 16), .slice B nb cb, .int .i64 (v 18), .int .i64 (v 19), .int .i64 (v 20), .int .i64 last, .int .i64 a, .int .i64 b, .int .i64 d, .int .i64 cl, .int .i64 sq] 38)).heap[P9]? = some (.cells #[.bool look, .int .i64 (v 0), .int .i64 (v 1), .int .i64 (v 2), .int .i64 (v 3), .int .i64 (v 4), .int .i64 (v 5), .int .i64 (v 6), .int .i64 (v 7), .int .i64 (v 8), .int .i64 (v 9), .int .i64 (v 10), .int .i64 (v 11), .int .i64 (v 12), .int .i64 (v 13), .int .i64 (v 14), .int .i64 (v 15), .int .i64 (v 16), .slice B nb cb, .int .i64 (v 18), .int .i64 (v 19), .int .i64 (v 20), .int .i64 last, .int .i64 a, .int .i64 b, .int .i64 d, .int .i64 cl, .int .i64 sq] 38 (0, 0))) := Lib.hid hnew
    clear hnew
    go_upto_region 14 with (first | (refine wpList_load_mid rfl 38 (.tmp 48) rfl b0 (off + j * 28) rfl [.bool look, .int .i64 (v 0), .int .i64 (v 1), .int .i64 (v 2), .int .i64 (v 3), .int .i64 (v 4), .int .i64 (v 5), .int .i64 (v 6), .int .i64 (v 7), .int .i64 (v 8), .int .i64 (v 9), .int .i64 (v 10), .int .i64 (v 11), .int .i64 (v 12), .int .i64 (v 13), .int .i64 (v 14), .int .i64 (v 15), .int .i64 (v 16), .slice B nb cb, .int .i64 (v 18), .int .i64 (v 19), .int .i64 (v 20), .int .i64 last, .int .i64 a, .int .i64 b, .int .i64 d, .int .i64 cl, .int .i64 sq] _ HRG'.out Try.underlying38 rfl (by kernel_rfl) ?_) | (refine wpList_store_row rfl 38 (.tmp 9) (.tmp 49) rfl w4.heap.size _ rfl rfl 38 _ (heap_alloc_new w4 _) (by kernel_rfl) rfl (by simp [Value.oneCell']) ?_; rw [World.setRow_alloc_new]))
    rw [← hP9]
    clear hP9
    generalize w4.alloc (.cells #[.bool look, .int .i64 (v 0), .int .i64 (v 1), .int .i64 (v 2), .int .i64 (v 3), .int .i64 (v 4), .int .i64 (v 5), .int .i64 (v 6), .int .i64 (v 7), .int .i64 (v 8), .int .i64 (v 9), .int .i64 (v 10), .int .i64 (v 11), .int .i64 (v 12), .int .i64 (v 13), .int .i64 (v 14), .int .i64 (v 15), .int .i64 (v 16), .slice B nb cb, .int .i64 (v 18), .int .i64 (v 19), .int .i64 (v 20), .int .i64 last, .int .i64 a, .int .i64 b, .int .i64 d, .int .i64 cl, .int .i64 sq] 38) = w5 at HB_5 HS_5 HL_5 HP7_5 HP9_5 ⊢
    have c18 : w5.cell? ⟨P9, 18, none⟩ = some (.slice B nb cb) := cellb (i := 18) HP9_5.out rfl
    by_cases hnb : 5000 < nb
    · have q3 : (5000 : Int) < (nb : Int) := by omega
      go_wp2_with fail
      go_ret
      exact ⟨rfl, HB_5.out⟩
    have q3 : ¬ (5000 : Int) < (nb : Int) := by omega
    have c0 : w5.cell? ⟨P9, 0, none⟩ = some (.bool look) := cellb (i := 0) HP9_5.out rfl
    have HN1000 : Hid (n ≤ 1000) := Lib.hid (by omega)
    cases look
    · skip
      have m26 : w5.cell? ⟨P9, 26, none⟩ = some (.int .i64 cl) := cellb (i := 26) HP9_5.out rfl
      have m27 : w5.cell? ⟨P9, 27, none⟩ = some (.int .i64 sq) := cellb (i := 27) HP9_5.out rfl
      have HM23 : Hid (w5.rangeAt P9 23 [.int .i64 a, .int .i64 b, .int .i64 d]) := Lib.hid (mid_of [.bool false, .int .i64 (v 0), .int .i64 (v 1), .int .i64 (v 2), .int .i64 (v 3), .int .i64 (v 4), .int .i64 (v 5), .int .i64 (v 6), .int .i64 (v 7), .int .i64 (v 8), .int .i64 (v 9), .int .i64 (v 10), .int .i64 (v 11), .int .i64 (v 12), .int .i64 (v 13), .int .i64 (v 14), .int .i64 (v 15), .int .i64 (v 16), .slice B nb cb, .int .i64 (v 18), .int .i64 (v 19), .int .i64 (v 20), .int .i64 last] [.int .i64 a, .int .i64 b, .int .i64 d] [.int .i64 cl, .int .i64 sq] HP9_5.out rfl)
      go_wp2_with (refine wpList_load_mid rfl 34 (.tmp 94) rfl P9 23 rfl [.int .i64 a, .int .i64 b, .int .i64 d] _ HM23.out Try.underlying34 rfl (by kernel_rfl) ?_)
      have HN : Hid (n = L.length) := Lib.hid HL_5.out.1
      refine (done_any (M + 1) ep M nn f cl sq a b d w5 HS_5.out HWC.out (by unfold maxLen; omega)).mono ?_
      rintro e w6 ⟨k, hk, he, hs, hg⟩
      obtain ⟨u, hu⟩ : ∃ u : Nat → Int, (if k = true then (#[.int .i64 8, .int .i64 ep, .int .i64 0, .int .i64 0, .int .i64 0, .int .i64 0, .int .i64 0, .int .i64 0, .int .i64 0, .int .i64 0, .int .i64 0, .int .i64 0, .int .i64 0, .int .i64 0, .int .i64 0, .int .i64 cl, .int .i64 sq, .slice none 0 0, .int .i64 a, .int .i64 b, .int .i64 d] : Array Value) else #[.int .i64 0, .int .i64 0, .int .i64 0, .int .i64 0, .int .i64 0, .int .i64 0, .int .i64 0, .int .i64 0, .int .i64 0, .int .i64 0, .int .i64 0, .int .i64 0, .int .i64 0, .int .i64 0, .int .i64 0, .int .i64 0, .int .i64 0, .slice none 0 0, .int .i64 0, .int .i64 0, .int .i64 0]) = #[.int .i64 (u 0), .int .i64 (u 1), .int .i64 (u 2), .int .i64 (u 3), .int .i64 (u 4), .int .i64 (u 5), .int .i64 (u 6), .int .i64 (u 7), .int .i64 (u 8), .int .i64 (u 9), .int .i64 (u 10), .int .i64 (u 11), .int .i64 (u 12), .int .i64 (u 13), .int .i64 (u 14), .int .i64 (u 15), .int .i64 (u 16), .slice none 0 0, .int .i64 (u 18), .int .i64 (u 19), .int .i64 (u 20)] := by
        cases k
        · exact ⟨fun _ => 0, rfl⟩
        · exact ⟨repV ep cl sq a b d, rfl⟩
      rw [hu] at he
      subst he
      have HK := Lib.hid hk
      have HU := Lib.hid hu
      have HS' := Lib.hid hs
      have hmap : ∃ es clock, w5.heap[M]? = some (.map es clock) := by
        obtain ⟨D, ⟨es, clock, hb, _⟩, _⟩ := HS_5.out.map
        exact ⟨_, _, hb⟩
      clear hk hu hs m26 m27 HM23 c0 c18
      clear HS_5
      have HB_6 : Hid (Below w.heap.size w w6) := Lib.hid (HB_5.out.grown hg HB_5.out.size (fun k hk => by injection hk with hk; omega))
      have HL_6 : Hid (LAt w6 w.heap.size A n c L) := Lib.hid (HL_5.out.grown hg hmap)
      have HP7_6 : Hid (w6.heap[P7]? = some (.cells #[.int .i64 ep, .slice A n c] 28 (0, 0))) := Lib.hid ((grown_block hg (ltb HP7_5.out) (by omega)).trans HP7_5.out)
      have HP9_6 : Hid (w6.heap[P9]? = some (.cells #[.bool false, .int .i64 (v 0), .int .i64 (v 1), .int .i64 (v 2), .int .i64 (v 3), .int .i64 (v 4), .int .i64 (v 5), .int .i64 (v 6), .int .i64 (v 7), .int .i64 (v 8), .int .i64 (v 9), .int .i64 (v 10), .int .i64 (v 11), .int .i64 (v 12), .int .i64 (v 13), .int .i64 (v 14), .int .i64 (v 15), .int .i64 (v 16), .slice B nb cb, .int .i64 (v 18), .int .i64 (v 19), .int .i64 (v 20), .int .i64 last, .int .i64 a, .int .i64 b, .int .i64 d, .int .i64 cl, .int .i64 sq] 38 (0, 0))) := Lib.hid ((grown_block hg (ltb HP9_5.out) (by omega)).trans HP9_5.out)
      clear hg HB_5 HL_5 HP7_5 HP9_5
      clear hmap
      have HS'_6 := HS'
      clear HS'
      obtain ⟨P14, hP14⟩ : ∃ x, x = w6.heap.size := ⟨_, rfl⟩
      have hP914 : P9 < P14 := by have := ltb HP9_6.out; omega
      have hal : Below w6.heap.size w6 (w6.alloc (.cells #[.int .i64 (u 0), .int .i64 (u 1), .int .i64 (u 2), .int .i64 (u 3), .int .i64 (u 4), .int .i64 (u 5), .int .i64 (u 6), .int .i64 (u 7), .int .i64 (u 8), .int .i64 (u 9), .int .i64 (u 10), .int .i64 (u 11), .int .i64 (u 12), .int .i64 (u 13), .int .i64 (u 14), .int .i64 (u 15), .int .i64 (u 16), .slice none 0 0, .int .i64 (u 18), .int .i64 (u 19), .int .i64 (u 20)] 36)) := (Below.refl _ _).alloc (Nat.le_refl _) _
      have hnew : (w6.alloc (.cells #[.int .i64 (u 0), .int .i64 (u 1), .int .i64 (u 2), .int .i64 (u 3), .int .i64 (u 4), .int .i64 (u 5), .int .i64 (u 6), .int .i64 (u 7), .int .i64 (u 8), .int .i64 (u 9), .int .i64 (u 10), .int .i64 (u 11), .int .i64 (u 12), .int .i64 (u 13), .int .i64 (u 14), .int .i64 (u 15), .int .i64 (u 16), .slice none 0 0, .int .i64 (u 18), .int .i64 (u 19), .int .i64 (u 20)] 36)).heap[P14]? = some (.cells #[.int .i64 (u 0), .int .i64 (u 1), .int .i64 (u 2), .int .i64 (u 3), .int .i64 (u 4), .int .i64 (u 5), .int .i64 (u 6), .int .i64 (u 7), .int .i64 (u 8), .int .i64 (u 9), .int .i64 (u 10), .int .i64 (u 11), .int .i64 (u 12), .int .i64 (u 13), .int .i64 (u 14), .int .i64 (u 15), .int .i64 (u 16), .slice none 0 0, .int .i64 (u 18), .int .i64 (u 19), .int .i64 (u 20)] 36 (0, 0)) := by rw [hP14]; exact heap_alloc_new _ _
      have HB_7 : Hid (Below w.heap.size w (w6.alloc (.cells #[.int .i64 (u 0), .int .i64 (u 1), .int .i64 (u 2), .int .i64 (u 3), .int .i64 (u 4), .int .i64 (u 5), .int .i64 (u 6), .int .i64 (u 7), .int .i64 (u 8), .int .i64 (u 9), .int .i64 (u 10), .int .i64 (u 11), .int .i64 (u 12), .int .i64 (u 13), .int .i64 (u 14), .int .i64 (u 15), .int .i64 (u 16), .slice none 0 0, .int .i64 (u 18), .int .i64 (u 19), .int .i64 (u 20)] 36))) := Lib.hid (HB_6.out.trans (hal.mono HB_6.out.size))
      have HL_7 : Hid (LAt (w6.alloc (.cells #[.int .i64 (u 0), .int .i64 (u 1), .int .i64 (u 2), .int .i64 (u 3), .int .i64 (u 4), .int .i64 (u 5), .int .i64 (u 6), .int .i64 (u 7), .int .i64 (u 8), .int .i64 (u 9), .int .i64 (u 10), .int .i64 (u 11), .int .i64 (u 12), .int .i64 (u 13), .int .i64 (u 14), .int .i64 (u 15), .int .i64 (u 16), .slice none 0 0, .int .i64 (u 18), .int .i64 (u 19), .int .i64 (u 20)] 36)) w.heap.size A n c L) := Lib.hid (HL_6.out.below hal)
      have HP7_7 : Hid ((w6.alloc (.cells #[.int .i64 (u 0), .int .i64 (u 1), .int .i64 (u 2), .int .i64 (u 3), .int .i64 (u 4), .int .i64 (u 5), .int .i64 (u 6), .int .i64 (u 7), .int .i64 (u 8), .int .i64 (u 9), .int .i64 (u 10), .int .i64 (u 11), .int .i64 (u 12), .int .i64 (u 13), .int .i64 (u 14), .int .i64 (u 15), .int .i64 (u 16), .slice none 0 0, .int .i64 (u 18), .int .i64 (u 19), .int .i64 (u 20)] 36)).heap[P7]? = some (.cells #[.int .i64 ep, .slice A n c] 28 (0, 0))) := Lib.hid ((hal.block P7 (ltb HP7_6.out)).trans HP7_6.out)
      have HP9_7 : Hid ((w6.alloc (.cells #[.int .i64 (u 0), .int .i64 (u 1), .int .i64 (u 2), .int .i64 (u 3), .int .i64 (u 4), .int .i64 (u 5), .int .i64 (u 6), .int .i64 (u 7), .int .i64 (u 8), .int .i64 (u 9), .int .i64 (u 10), .int .i64 (u 11), .int .i64 (u 12), .int .i64 (u 13), .int .i64 (u 14), .int .i64 (u 15), .int .i64 (u 16), .slice none 0 0, .int .i64 (u 18), .int .i64 (u 19), .int .i64 (u 20)] 36)).heap[P9]? = some (.cells #[.bool false, .int .i64 (v 0), .int .i64 (v 1), .int .i64 (v 2), .int .i64 (v 3), .int .i64 (v 4), .int .i64 (v 5), .int .i64 (v 6), .int .i64 (v 7), .int .i64 (v 8), .int .i64 (v 9), .int .i64 (v 10), .int .i64 (v 11), .int .i64 (v 12), .int .i64 (v 13), .int .i64 (v 14), .int .i64 (v 15), .int .i64 (v 16), .slice B nb cb, .int .i64 (v 18), .int .i64 (v 19), .int .i64 (v 20), .int .i64 last, .int .i64 a, .int .i64 b, .int .i64 d, .int .i64 cl, .int .i64 sq] 38 (0, 0))) := Lib.hid ((hal.block P9 (ltb HP9_6.out)).trans HP9_6.out)
      have HS'_7 : Hid (SAt (w6.alloc (.cells #[.int .i64 (u 0), .int .i64 (u 1), .int .i64 (u 2), .int .i64 (u 3), .int .i64 (u 4), .int .i64 (u 5), .int .i64 (u 6), .int .i64 (u 7), .int .i64 (u 8), .int .i64 (u 9), .int .i64 (u 10), .int .i64 (u 11), .int .i64 (u 12), .int .i64 (u 13), .int .i64 (u 14), .int .i64 (u 15), .int .i64 (u 16), .slice none 0 0, .int .i64 (u 18), .int .i64 (u 19), .int .i64 (u 20)] 36)) (M + 1) ep M (nn + 1) (if k = true then kput f cl ⟨sq, a, b, d⟩ else f)) := Lib.hid (HS'_6.out.below hal)
      clear hal HB_6 HL_6 HP7_6 HP9_6 HS'_6
      have HP14_7 : Hid ((w6.alloc (.cells #[.int .i64 (u 0), .int .i64 (u 1), .int .i64 (u 2), .int .i64 (u 3), .int .i64 (u 4), .int .i64 (u 5), .int .i64 (u 6), .int .i64 (u 7), .int .i64 (u 8), .int .i64 (u 9), .int .i64 (u 10), .int .i64 (u 11), .int .i64 (u 12), .int .i64 (u 13), .int .i64 (u 14), .int .i64 (u 15), .int .i64 (u 16), .slice none 0 0, .int .i64 (u 18), .int .i64 (u 19), .int .i64 (u 20)] 36)).heap[P14]? = some (.cells #[.int .i64 (u 0), .int .i64 (u 1), .int .i64 (u 2), .int .i64 (u 3), .int .i64 (u 4), .int .i64 (u 5), .int .i64 (u 6), .int .i64 (u 7), .int .i64 (u 8), .int .i64 (u 9), .int .i64 (u 10), .int .i64 (u 11), .int .i64 (u 12), .int .i64 (u 13), .int .i64 (u 14), .int .i64 (u 15), .int .i64 (u 16), .slice none 0 0, .int .i64 (u 18), .int .i64 (u 19), .int .i64 (u 20)] 36 (0, 0))) := Lib.hid hnew
      clear hnew
      have m26 : (w6.alloc (.cells #[.int .i64 (u 0), .int .i64 (u 1), .int .i64 (u 2), .int .i64 (u 3), .int .i64 (u 4), .int .i64 (u 5), .int .i64 (u 6), .int .i64 (u 7), .int .i64 (u 8), .int .i64 (u 9), .int .i64 (u 10), .int .i64 (u 11), .int .i64 (u 12), .int .i64 (u 13), .int .i64 (u 14), .int .i64 (u 15), .int .i64 (u 16), .slice none 0 0, .int .i64 (u 18), .int .i64 (u 19), .int .i64 (u 20)] 36)).cell? ⟨P9, 26, none⟩ = some (.int .i64 cl) := cellb (i := 26) HP9_7.out rfl
      have m27 : (w6.alloc (.cells #[.int .i64 (u 0), .int .i64 (u 1), .int .i64 (u 2), .int .i64 (u 3), .int .i64 (u 4), .int .i64 (u 5), .int .i64 (u 6), .int .i64 (u 7), .int .i64 (u 8), .int .i64 (u 9), .int .i64 (u 10), .int .i64 (u 11), .int .i64 (u 12), .int .i64 (u 13), .int .i64 (u 14), .int .i64 (u 15), .int .i64 (u 16), .slice none 0 0, .int .i64 (u 18), .int .i64 (u 19), .int .i64 (u 20)] 36)).cell? ⟨P9, 27, none⟩ = some (.int .i64 sq) := cellb (i := 27) HP9_7.out rfl
      have HM23 : Hid ((w6.alloc (.cells #[.int .i64 (u 0), .int .i64 (u 1), .int .i64 (u 2), .int .i64 (u 3), .int .i64 (u 4), .int .i64 (u 5), .int .i64 (u 6), .int .i64 (u 7), .int .i64 (u 8), .int .i64 (u 9), .int .i64 (u 10), .int .i64 (u 11), .int .i64 (u 12), .int .i64 (u 13), .int .i64 (u 14), .int .i64 (u 15), .int .i64 (u 16), .slice none 0 0, .int .i64 (u 18), .int .i64 (u 19), .int .i64 (u 20)] 36)).rangeAt P9 23 [.int .i64 a, .int .i64 b, .int .i64 d]) := Lib.hid (mid_of [.bool false, .int .i64 (v 0), .int .i64 (v 1), .int .i64 (v 2), .int .i64 (v 3), .int .i64 (v 4), .int .i64 (v 5), .int .i64 (v 6), .int .i64 (v 7), .int .i64 (v 8), .int .i64 (v 9), .int .i64 (v 10), .int .i64 (v 11), .int .i64 (v 12), .int .i64 (v 13), .int .i64 (v 14), .int .i64 (v 15), .int .i64 (v 16), .slice B nb cb, .int .i64 (v 18), .int .i64 (v 19), .int .i64 (v 20), .int .i64 last] [.int .i64 a, .int .i64 b, .int .i64 d] [.int .i64 cl, .int .i64 sq] HP9_7.out rfl)
      go_wp2_with (first | (refine wpList_store_row rfl 36 (.tmp 14) (.tmp 97) rfl w6.heap.size _ rfl rfl 36 _ (heap_alloc_new w6 _) (by kernel_rfl) rfl (by simp [Value.oneCell']) ?_; rw [World.setRow_alloc_new]) | (refine wpList_load_row rfl 28 (.tmp 7) rfl P7 rfl 28 _ (0, 0) _ HP7_7.out Try.underlying28 rfl (by kernel_rfl) ?_) | (refine wpList_load_mid rfl 34 (.tmp 105) rfl P9 23 rfl [.int .i64 a, .int .i64 b, .int .i64 d] _ HM23.out Try.underlying34 rfl (by kernel_rfl) ?_))
      clear m26 m27 HM23
      rw [← hP14]
      clear hP14
      generalize w6.alloc (.cells #[.int .i64 (u 0), .int .i64 (u 1), .int .i64 (u 2), .int .i64 (u 3), .int .i64 (u 4), .int .i64 (u 5), .int .i64 (u 6), .int .i64 (u 7), .int .i64 (u 8), .int .i64 (u 9), .int .i64 (u 10), .int .i64 (u 11), .int .i64 (u 12), .int .i64 (u 13), .int .i64 (u 14), .int .i64 (u 15), .int .i64 (u 16), .slice none 0 0, .int .i64 (u 18), .int .i64 (u 19), .int .i64 (u 20)] 36) = w7 at HB_7 HL_7 HP7_7 HP9_7 HS'_7 HP14_7 ⊢
      refine (rdone_any ep w.heap.size A n c L cl sq a b d w7 HL_7.out (by omega) HB_7.out.size).mono ?_
      rintro e w8 ⟨k', A', n', c', hk, he, hl, hb⟩
      have ek : k = k' := Bool.eq_iff_iff.2 (HK.out.trans (by rw [hk, HF.out]; rfl))
      subst ek
      rw [HU.out] at he
      subst he
      have HL' := Lib.hid hl
      clear hk hl
      clear HL_7
      have HB_8 : Hid (Below w.heap.size w w8) := Lib.hid (HB_7.out.trans (hb.mono HB_7.out.size))
      have HP7_8 : Hid (w8.heap[P7]? = some (.cells #[.int .i64 ep, .slice A n c] 28 (0, 0))) := Lib.hid ((hb.block P7 (ltb HP7_7.out)).trans HP7_7.out)
      have HP9_8 : Hid (w8.heap[P9]? = some (.cells #[.bool false, .int .i64 (v 0), .int .i64 (v 1), .int .i64 (v 2), .int .i64 (v 3), .int .i64 (v 4), .int .i64 (v 5), .int .i64 (v 6), .int .i64 (v 7), .int .i64 (v 8), .int .i64 (v 9), .int .i64 (v 10), .int .i64 (v 11), .int .i64 (v 12), .int .i64 (v 13), .int .i64 (v 14), .int .i64 (v 15), .int .i64 (v 16), .slice B nb cb, .int .i64 (v 18), .int .i64 (v 19), .int .i64 (v 20), .int .i64 last, .int .i64 a, .int .i64 b, .int .i64 d, .int .i64 cl, .int .i64 sq] 38 (0, 0))) := Lib.hid ((hb.block P9 (ltb HP9_7.out)).trans HP9_7.out)
      have HS'_8 : Hid (SAt w8 (M + 1) ep M (nn + 1) (if k = true then kput f cl ⟨sq, a, b, d⟩ else f)) := Lib.hid (HS'_7.out.below hb)
      have HP14_8 : Hid (w8.heap[P14]? = some (.cells #[.int .i64 (u 0), .int .i64 (u 1), .int .i64 (u 2), .int .i64 (u 3), .int .i64 (u 4), .int .i64 (u 5), .int .i64 (u 6), .int .i64 (u 7), .int .i64 (u 8), .int .i64 (u 9), .int .i64 (u 10), .int .i64 (u 11), .int .i64 (u 12), .int .i64 (u 13), .int .i64 (u 14), .int .i64 (u 15), .int .i64 (u 16), .slice none 0 0, .int .i64 (u 18), .int .i64 (u 19), .int .i64 (u 20)] 36 (0, 0))) := Lib.hid ((hb.block P14 (ltb HP14_7.out)).trans HP14_7.out)
      clear hb HB_7 HP7_7 HP9_7 HS'_7 HP14_7
      have HL'_8 := HL'
      clear HL'
      obtain ⟨P16, hP16⟩ : ∃ x, x = w8.heap.size := ⟨_, rfl⟩
      have hP1416 : P14 < P16 := by have := ltb HP14_8.out; omega
      have hal : Below w8.heap.size w8 ((w8.alloc (.cells #[.int .i64 ep, .slice A' n' c'] 28)).alloc (.cells #[.int .i64 (u 0), .int .i64 (u 1), .int .i64 (u 2), .int .i64 (u 3), .int .i64 (u 4), .int .i64 (u 5), .int .i64 (u 6), .int .i64 (u 7), .int .i64 (u 8), .int .i64 (u 9), .int .i64 (u 10), .int .i64 (u 11), .int .i64 (u 12), .int .i64 (u 13), .int .i64 (u 14), .int .i64 (u 15), .int .i64 (u 16), .slice none 0 0, .int .i64 (u 18), .int .i64 (u 19), .int .i64 (u 20)] 36)) := ((Below.refl _ _).alloc (Nat.le_refl _) _).alloc (by simp) _
      have hnew : ((w8.alloc (.cells #[.int .i64 ep, .slice A' n' c'] 28)).alloc (.cells #[.int .i64 (u 0), .int .i64 (u 1), .int .i64 (u 2), .int .i64 (u 3), .int .i64 (u 4), .int .i64 (u 5), .int .i64 (u 6), .int .i64 (u 7), .int .i64 (u 8), .int .i64 (u 9), .int .i64 (u 10), .int .i64 (u 11), .int .i64 (u 12), .int .i64 (u 13), .int .i64 (u 14), .int .i64 (u 15), .int .i64 (u 16), .slice none 0 0, .int .i64 (u 18), .int .i64 (u 19), .int .i64 (u 20)] 36)).heap[P16]? = some (.cells #[.int .i64 ep, .slice A' n' c'] 28 (0, 0)) := by rw [hP16]; exact alloc2_first _ _ _
      have hnew2 : ((w8.alloc (.cells #[.int .i64 ep, .slice A' n' c'] 28)).alloc (.cells #[.int .i64 (u 0), .int .i64 (u 1), .int .i64 (u 2), .int .i64 (u 3), .int .i64 (u 4), .int .i64 (u 5), .int .i64 (u 6), .int .i64 (u 7), .int .i64 (u 8), .int .i64 (u 9), .int .i64 (u 10), .int .i64 (u 11), .int .i64 (u 12), .int .i64 (u 13), .int .i64 (u 14), .int .i64 (u 15), .int .i64 (u 16), .slice none 0 0, .int .i64 (u 18), .int .i64 (u 19), .int .i64 (u 20)] 36)).heap[P16 + 1]? = some (.cells #[.int .i64 (u 0), .int .i64 (u 1), .int .i64 (u 2), .int .i64 (u 3), .int .i64 (u 4), .int .i64 (u 5), .int .i64 (u 6), .int .i64 (u 7), .int .i64 (u 8), .int .i64 (u 9), .int .i64 (u 10), .int .i64 (u 11), .int .i64 (u 12), .int .i64 (u 13), .int .i64 (u 14), .int .i64 (u 15), .int .i64 (u 16), .slice none 0 0, .int .i64 (u 18), .int .i64 (u 19), .int .i64 (u 20)] 36 (0, 0)) := by rw [hP16]; exact alloc2_second _ _ _
      have HB_9 : Hid (Below w.heap.size w ((w8.alloc (.cells #[.int .i64 ep, .slice A' n' c'] 28)).alloc (.cells #[.int .i64 (u 0), .int .i64 (u 1), .int .i64 (u 2), .int .i64 (u 3), .int .i64 (u 4), .int .i64 (u 5), .int .i64 (u 6), .int .i64 (u 7), .int .i64 (u 8), .int .i64 (u 9), .int .i64 (u 10), .int .i64 (u 11), .int .i64 (u 12), .int .i64 (u 13), .int .i64 (u 14), .int .i64 (u 15), .int .i64 (u 16), .slice none 0 0, .int .i64 (u 18), .int .i64 (u 19), .int .i64 (u 20)] 36))) := Lib.hid (HB_8.out.trans (hal.mono HB_8.out.size))
      have HP7_9 : Hid (((w8.alloc (.cells #[.int .i64 ep, .slice A' n' c'] 28)).alloc (.cells #[.int .i64 (u 0), .int .i64 (u 1), .int .i64 (u 2), .int .i64 (u 3), .int .i64 (u 4), .int .i64 (u 5), .int .i64 (u 6), .int .i64 (u 7), .int .i64 (u 8), .int .i64 (u 9), .int .i64 (u 10), .int .i64 (u 11), .int .i64 (u 12), .int .i64 (u 13), .int .i64 (u 14), .int .i64 (u 15), .int .i64 (u 16), .slice none 0 0, .int .i64 (u 18), .int .i64 (u 19), .int .i64 (u 20)] 36)).heap[P7]? = some (.cells #[.int .i64 ep, .slice A n c] 28 (0, 0))) := Lib.hid ((hal.block P7 (ltb HP7_8.out)).trans HP7_8.out)
      have HP9_9 : Hid (((w8.alloc (.cells #[.int .i64 ep, .slice A' n' c'] 28)).alloc (.cells #[.int .i64 (u 0), .int .i64 (u 1), .int .i64 (u 2), .int .i64 (u 3), .int .i64 (u 4), .int .i64 (u 5), .int .i64 (u 6), .int .i64 (u 7), .int .i64 (u 8), .int .i64 (u 9), .int .i64 (u 10), .int .i64 (u 11), .int .i64 (u 12), .int .i64 (u 13), .int .i64 (u 14), .int .i64 (u 15), .int .i64 (u 16), .slice none 0 0, .int .i64 (u 18), .int .i64 (u 19), .int .i64 (u 20)] 36)).heap[P9]? = some (.cells #[.bool false, .int .i64 (v 0), .int .i64 (v 1), .int .i64 (v 2), .int .i64 (v 3), .int .i64 (v 4), .int .i64 (v 5), .int .i64 (v 6), .int .i64 (v 7), .int .i64 (v 8), .int .i64 (v 9), .int .i64 (v 10), .int .i64 (v 11), .int .i64 (v 12), .int .i64 (v 13), .int .i64 (v 14), .int .i64 (v 15), .int .i64 (v 16), .slice B nb cb, .int .i64 (v 18), .int .i64 (v 19), .int .i64 (v 20), .int .i64 last, .int .i64 a, .int .i64 b, .int .i64 d, .int .i64 cl, .int .i64 sq] 38 (0, 0))) := Lib.hid ((hal.block P9 (ltb HP9_8.out)).trans HP9_8.out)
      have HS'_9 : Hid (SAt ((w8.alloc (.cells #[.int .i64 ep, .slice A' n' c'] 28)).alloc (.cells #[.int .i64 (u 0), .int .i64 (u 1), .int .i64 (u 2), .int .i64 (u 3), .int .i64 (u 4), .int .i64 (u 5), .int .i64 (u 6), .int .i64 (u 7), .int .i64 (u 8), .int .i64 (u 9), .int .i64 (u 10), .int .i64 (u 11), .int .i64 (u 12), .int .i64 (u 13), .int .i64 (u 14), .int .i64 (u 15), .int .i64 (u 16), .slice none 0 0, .int .i64 (u 18), .int .i64 (u 19), .int .i64 (u 20)] 36)) (M + 1) ep M (nn + 1) (if k = true then kput f cl ⟨sq, a, b, d⟩ else f)) := Lib.hid (HS'_8.out.below hal)
      have HP14_9 : Hid (((w8.alloc (.cells #[.int .i64 ep, .slice A' n' c'] 28)).alloc (.cells #[.int .i64 (u 0), .int .i64 (u 1), .int .i64 (u 2), .int .i64 (u 3), .int .i64 (u 4), .int .i64 (u 5), .int .i64 (u 6), .int .i64 (u 7), .int .i64 (u 8), .int .i64 (u 9), .int .i64 (u 10), .int .i64 (u 11), .int .i64 (u 12), .int .i64 (u 13), .int .i64 (u 14), .int .i64 (u 15), .int .i64 (u 16), .slice none 0 0, .int .i64 (u 18), .int .i64 (u 19), .int .i64 (u 20)] 36)).heap[P14]? = some (.cells #[.int .i64 (u 0), .int .i64 (u 1), .int .i64 (u 2), .int .i64 (u 3), .int .i64 (u 4), .int .i64 (u 5), .int .i64 (u 6), .int .i64 (u 7), .int .i64 (u 8), .int .i64 (u 9), .int .i64 (u 10), .int .i64 (u 11), .int .i64 (u 12), .int .i64 (u 13), .int .i64 (u 14), .int .i64 (u 15), .int .i64 (u 16), .slice none 0 0, .int .i64 (u 18), .int .i64 (u 19), .int .i64 (u 20)] 36 (0, 0))) := Lib.hid ((hal.block P14 (ltb HP14_8.out)).trans HP14_8.out)
      have HL'_9 : Hid (LAt ((w8.alloc (.cells #[.int .i64 ep, .slice A' n' c'] 28)).alloc (.cells #[.int .i64 (u 0), .int .i64 (u 1), .int .i64 (u 2), .int .i64 (u 3), .int .i64 (u 4), .int .i64 (u 5), .int .i64 (u 6), .int .i64 (u 7), .int .i64 (u 8), .int .i64 (u 9), .int .i64 (u 10), .int .i64 (u 11), .int .i64 (u 12), .int .i64 (u 13), .int .i64 (u 14), .int .i64 (u 15), .int .i64 (u 16), .slice none 0 0, .int .i64 (u 18), .int .i64 (u 19), .int .i64 (u 20)] 36)) w.heap.size A' n' c' (if k = true then L ++ [⟨cl, sq, a, b, d⟩] else L)) := Lib.hid (HL'_8.out.below hal)
      clear hal HB_8 HP7_8 HP9_8 HS'_8 HP14_8 HL'_8
      have HP16_9 : Hid (((w8.alloc (.cells #[.int .i64 ep, .slice A' n' c'] 28)).alloc (.cells #[.int .i64 (u 0), .int .i64 (u 1), .int .i64 (u 2), .int .i64 (u 3), .int .i64 (u 4), .int .i64 (u 5), .int .i64 (u 6), .int .i64 (u 7), .int .i64 (u 8), .int .i64 (u 9), .int .i64 (u 10), .int .i64 (u 11), .int .i64 (u 12), .int .i64 (u 13), .int .i64 (u 14), .int .i64 (u 15), .int .i64 (u 16), .slice none 0 0, .int .i64 (u 18), .int .i64 (u 19), .int .i64 (u 20)] 36)).heap[P16]? = some (.cells #[.int .i64 ep, .slice A' n' c'] 28 (0, 0))) := Lib.hid hnew
      have HP16b_9 : Hid (((w8.alloc (.cells #[.int .i64 ep, .slice A' n' c'] 28)).alloc (.cells #[.int .i64 (u 0), .int .i64 (u 1), .int .i64 (u 2), .int .i64 (u 3), .int .i64 (u 4), .int .i64 (u 5), .int .i64 (u 6), .int .i64 (u 7), .int .i64 (u 8), .int .i64 (u 9), .int .i64 (u 10), .int .i64 (u 11), .int .i64 (u 12), .int .i64 (u 13), .int .i64 (u 14), .int .i64 (u 15), .int .i64 (u 16), .slice none 0 0, .int .i64 (u 18), .int .i64 (u 19), .int .i64 (u 20)] 36)).heap[(P16 + 1)]? = some (.cells #[.int .i64 (u 0), .int .i64 (u 1), .int .i64 (u 2), .int .i64 (u 3), .int .i64 (u 4), .int .i64 (u 5), .int .i64 (u 6), .int .i64 (u 7), .int .i64 (u 8), .int .i64 (u 9), .int .i64 (u 10), .int .i64 (u 11), .int .i64 (u 12), .int .i64 (u 13), .int .i64 (u 14), .int .i64 (u 15), .int .i64 (u 16), .slice none 0 0, .int .i64 (u 18), .int .i64 (u 19), .int .i64 (u 20)] 36 (0, 0))) := Lib.hid hnew2
      clear hnew hnew2
      go_upto_region 23 with (first | (refine wpList_store_row rfl 28 (.tmp 16) (.tmp 108) rfl w8.heap.size _ rfl rfl 28 _ (alloc2_first w8 _ _) (by kernel_rfl) rfl (by simp [Value.oneCell']) ?_; rw [setRow_alloc2_first]) | (refine wpList_store_row rfl 36 (.tmp 17) (.tmp 109) rfl (w8.heap.size + 1) _ rfl rfl 36 _ (alloc2_second w8 _ _) (by kernel_rfl) rfl (by simp [Value.oneCell']) ?_; rw [setRow_alloc2_second]))
      rw [← hP16]
      clear hP16
      generalize (w8.alloc (.cells #[.int .i64 ep, .slice A' n' c'] 28)).alloc (.cells #[.int .i64 (u 0), .int .i64 (u 1), .int .i64 (u 2), .int .i64 (u 3), .int .i64 (u 4), .int .i64 (u 5), .int .i64 (u 6), .int .i64 (u 7), .int .i64 (u 8), .int .i64 (u 9), .int .i64 (u 10), .int .i64 (u 11), .int .i64 (u 12), .int .i64 (u 13), .int .i64 (u 14), .int .i64 (u 15), .int .i64 (u 16), .slice none 0 0, .int .i64 (u 18), .int .i64 (u 19), .int .i64 (u 20)] 36) = w9 at HB_9 HP7_9 HP9_9 HS'_9 HP14_9 HL'_9 HP16_9 HP16b_9 ⊢
      have HL0 := HL'_9
      have HP70 := HP7_9
      have HP160 := HP16_9
      have hch : Chg (fun k => k = P7) w9 (w9.setRow P7 #[.int .i64 ep, .slice A' n' c']) := (Chg.refl (fun k => k = P7) w9).setRow (.inr rfl) _
      have hs7 : Hid ((w9.setRow P7 #[.int .i64 ep, .slice A' n' c']).heap[P7]? = some (.cells #[.int .i64 ep, .slice A' n' c'] 28 (0, 0))) := Lib.hid (setRow_heap w9 P7 _ _ _ _ HP7_9.out)
      have HS9 := Lib.hid (HS'_9.out.offY HP7_9.out (by omega) #[.int .i64 ep, .slice A' n' c'])
      clear HS'_9
      have HB_10 : Hid (Below w.heap.size w (w9.setRow P7 #[.int .i64 ep, .slice A' n' c'])) := Lib.hid (HB_9.out.trans (hch.below HB_9.out.size (fun k hk e => by omega)))
      have HP9_10 : Hid ((w9.setRow P7 #[.int .i64 ep, .slice A' n' c']).heap[P9]? = some (.cells #[.bool false, .int .i64 (v 0), .int .i64 (v 1), .int .i64 (v 2), .int .i64 (v 3), .int .i64 (v 4), .int .i64 (v 5), .int .i64 (v 6), .int .i64 (v 7), .int .i64 (v 8), .int .i64 (v 9), .int .i64 (v 10), .int .i64 (v 11), .int .i64 (v 12), .int .i64 (v 13), .int .i64 (v 14), .int .i64 (v 15), .int .i64 (v 16), .slice B nb cb, .int .i64 (v 18), .int .i64 (v 19), .int .i64 (v 20), .int .i64 last, .int .i64 a, .int .i64 b, .int .i64 d, .int .i64 cl, .int .i64 sq] 38 (0, 0))) := Lib.hid ((hch.block P9 (ltb HP9_9.out) (by omega)).trans HP9_9.out)
      have HP14_10 : Hid ((w9.setRow P7 #[.int .i64 ep, .slice A' n' c']).heap[P14]? = some (.cells #[.int .i64 (u 0), .int .i64 (u 1), .int .i64 (u 2), .int .i64 (u 3), .int .i64 (u 4), .int .i64 (u 5), .int .i64 (u 6), .int .i64 (u 7), .int .i64 (u 8), .int .i64 (u 9), .int .i64 (u 10), .int .i64 (u 11), .int .i64 (u 12), .int .i64 (u 13), .int .i64 (u 14), .int .i64 (u 15), .int .i64 (u 16), .slice none 0 0, .int .i64 (u 18), .int .i64 (u 19), .int .i64 (u 20)] 36 (0, 0))) := Lib.hid ((hch.block P14 (ltb HP14_9.out) (by omega)).trans HP14_9.out)
      have HL'_10 : Hid (LAt (w9.setRow P7 #[.int .i64 ep, .slice A' n' c']) w.heap.size A' n' c' (if k = true then L ++ [⟨cl, sq, a, b, d⟩] else L)) := Lib.hid (HL'_9.out.off HP7_9.out (by decide) hch)
      have HP16_10 : Hid ((w9.setRow P7 #[.int .i64 ep, .slice A' n' c']).heap[P16]? = some (.cells #[.int .i64 ep, .slice A' n' c'] 28 (0, 0))) := Lib.hid ((hch.block P16 (ltb HP16_9.out) (by omega)).trans HP16_9.out)
      have HP16b_10 : Hid ((w9.setRow P7 #[.int .i64 ep, .slice A' n' c']).heap[(P16 + 1)]? = some (.cells #[.int .i64 (u 0), .int .i64 (u 1), .int .i64 (u 2), .int .i64 (u 3), .int .i64 (u 4), .int .i64 (u 5), .int .i64 (u 6), .int .i64 (u 7), .int .i64 (u 8), .int .i64 (u 9), .int .i64 (u 10), .int .i64 (u 11), .int .i64 (u 12), .int .i64 (u 13), .int .i64 (u 14), .int .i64 (u 15), .int .i64 (u 16), .slice none 0 0, .int .i64 (u 18), .int .i64 (u 19), .int .i64 (u 20)] 36 (0, 0))) := Lib.hid ((hch.block (P16 + 1) (ltb HP16b_9.out) (by omega)).trans HP16b_9.out)
      clear hch HB_9 HP9_9 HP14_9 HL'_9 HP16_9 HP16b_9
      go_upto_region 24 with (first | (refine wpList_load_row rfl 28 (.tmp 16) rfl P16 rfl 28 _ (0, 0) _ HP160.out Try.underlying28 rfl (by kernel_rfl) ?_) | (refine wpList_store_row rfl 28 (.tmp 7) (.tmp 111) rfl P7 _ rfl rfl 28 _ HP70.out (by kernel_rfl) rfl (by simp [Value.oneCell']) ?_))
      clear HL0 HP70 HP160 HP7_9
      have HP7_10 := hs7
      have HS'_10 := HS9
      clear hs7 HS9
      generalize w9.setRow P7 #[.int .i64 ep, .slice A' n' c'] = w10 at HB_10 HP9_10 HP14_10 HL'_10 HP16_10 HP16b_10 HP7_10 HS'_10 ⊢
      go_wp2_with (first | (refine wpList_load_g rfl 36 (.tmp 14) rfl P14 rfl 36 _ (0, 0) _ HP14_10.out Try.underlying36 rfl (by kernel_rfl) ?_) | (refine wpList_load_g rfl 36 (.tmp 17) rfl (P16 + 1) rfl 36 _ (0, 0) _ HP16b_10.out Try.underlying36 rfl (by kernel_rfl) ?_))
      refine (same_eq u none none 0 0 0 [] w10 (.emp (by omega)) (.emp (by omega)) rfl).mono ?_
      rintro e w11 ⟨rfl, hb⟩
      clear HP9_10 HP14_10 HP16_10 HP16b_10
      have HB_11 : Hid (Below w.heap.size w w11) := Lib.hid (HB_10.out.trans (hb.mono HB_10.out.size))
      have HL'_11 : Hid (LAt w11 w.heap.size A' n' c' (if k = true then L ++ [⟨cl, sq, a, b, d⟩] else L)) := Lib.hid (HL'_10.out.below hb)
      have HP7_11 : Hid (w11.heap[P7]? = some (.cells #[.int .i64 ep, .slice A' n' c'] 28 (0, 0))) := Lib.hid ((hb.block P7 (ltb HP7_10.out)).trans HP7_10.out)
      have HS'_11 : Hid (SAt w11 (M + 1) ep M (nn + 1) (if k = true then kput f cl ⟨sq, a, b, d⟩ else f)) := Lib.hid (HS'_10.out.below hb)
      clear hb HB_10 HL'_10 HP7_10 HS'_10
      go_wp2_with fail
      go_roundg (len - (j + 1))
      case measure => omega
      case rel => exact ⟨j + 1, nn + 1, n', c', A', _, _, by omega, by omega, rfl, by go_num, by omega, by have h1 := HL'_11.out.1; have h2 := HN.out; cases k <;> simp at h1 <;> omega, HS'_11, HL'_11, HP7_11, Lib.hid (fun q => by
        have h := HF.out q
        cases k
        · exact h
        · simp only [if_true]
          rw [lk_append]
          unfold kput
          by_cases e : q = cl
          · subst e; simp [kp]
          · have e' : ¬ cl = q := fun x => e x.symm
            simp [e, e', h]), HB_11⟩
    · skip
      have m22 : w5.cell? ⟨P9, 22, none⟩ = some (.int .i64 last) := cellb (i := 22) HP9_5.out rfl
      have HM1 : Hid (w5.rangeAt P9 1 [.int .i64 (v 0), .int .i64 (v 1), .int .i64 (v 2), .int .i64 (v 3), .int .i64 (v 4), .int .i64 (v 5), .int .i64 (v 6), .int .i64 (v 7), .int .i64 (v 8), .int .i64 (v 9), .int .i64 (v 10), .int .i64 (v 11), .int .i64 (v 12), .int .i64 (v 13), .int .i64 (v 14), .int .i64 (v 15), .int .i64 (v 16), .slice B nb cb, .int .i64 (v 18), .int .i64 (v 19), .int .i64 (v 20)]) := Lib.hid (mid_of [.bool true] [.int .i64 (v 0), .int .i64 (v 1), .int .i64 (v 2), .int .i64 (v 3), .int .i64 (v 4), .int .i64 (v 5), .int .i64 (v 6), .int .i64 (v 7), .int .i64 (v 8), .int .i64 (v 9), .int .i64 (v 10), .int .i64 (v 11), .int .i64 (v 12), .int .i64 (v 13), .int .i64 (v 14), .int .i64 (v 15), .int .i64 (v 16), .slice B nb cb, .int .i64 (v 18), .int .i64 (v 19), .int .i64 (v 20)] [.int .i64 last, .int .i64 a, .int .i64 b, .int .i64 d, .int .i64 cl, .int .i64 sq] HP9_5.out rfl)
      have HM23 : Hid (w5.rangeAt P9 23 [.int .i64 a, .int .i64 b, .int .i64 d]) := Lib.hid (mid_of [.bool true, .int .i64 (v 0), .int .i64 (v 1), .int .i64 (v 2), .int .i64 (v 3), .int .i64 (v 4), .int .i64 (v 5), .int .i64 (v 6), .int .i64 (v 7), .int .i64 (v 8), .int .i64 (v 9), .int .i64 (v 10), .int .i64 (v 11), .int .i64 (v 12), .int .i64 (v 13), .int .i64 (v 14), .int .i64 (v 15), .int .i64 (v 16), .slice B nb cb, .int .i64 (v 18), .int .i64 (v 19), .int .i64 (v 20), .int .i64 last] [.int .i64 a, .int .i64 b, .int .i64 d] [.int .i64 cl, .int .i64 sq] HP9_5.out rfl)
      go_wp2_with (first | (refine wpList_load_mid rfl 36 (.tmp 59) rfl P9 1 rfl [.int .i64 (v 0), .int .i64 (v 1), .int .i64 (v 2), .int .i64 (v 3), .int .i64 (v 4), .int .i64 (v 5), .int .i64 (v 6), .int .i64 (v 7), .int .i64 (v 8), .int .i64 (v 9), .int .i64 (v 10), .int .i64 (v 11), .int .i64 (v 12), .int .i64 (v 13), .int .i64 (v 14), .int .i64 (v 15), .int .i64 (v 16), .slice B nb cb, .int .i64 (v 18), .int .i64 (v 19), .int .i64 (v 20)] _ HM1.out Try.underlying36 rfl (by kernel_rfl) ?_) | (refine wpList_load_mid rfl 34 (.tmp 63) rfl P9 23 rfl [.int .i64 a, .int .i64 b, .int .i64 d] _ HM23.out Try.underlying34 rfl (by kernel_rfl) ?_))
      refine (look_both (M + 1) ep M nn f v B nb cb last a b d w5 HS_5.out HWS.out).mono ?_
      rintro e w6 ⟨hp, hb⟩
      obtain ⟨x, u, he⟩ := look1_form hp
      have HLK := Lib.hid hp
      unfold LForm at he
      subst he
      clear hp m22 HM1 HM23 c0 c18
      have HB_6 : Hid (Below w.heap.size w w6) := Lib.hid (HB_5.out.trans (hb.mono HB_5.out.size))
      have HS_6 : Hid (SAt w6 (M + 1) ep M nn f) := Lib.hid (HS_5.out.below hb)
      have HL_6 : Hid (LAt w6 w.heap.size A n c L) := Lib.hid (HL_5.out.below hb)
      have HP7_6 : Hid (w6.heap[P7]? = some (.cells #[.int .i64 ep, .slice A n c] 28 (0, 0))) := Lib.hid ((hb.block P7 (ltb HP7_5.out)).trans HP7_5.out)
      have HP9_6 : Hid (w6.heap[P9]? = some (.cells #[.bool true, .int .i64 (v 0), .int .i64 (v 1), .int .i64 (v 2), .int .i64 (v 3), .int .i64 (v 4), .int .i64 (v 5), .int .i64 (v 6), .int .i64 (v 7), .int .i64 (v 8), .int .i64 (v 9), .int .i64 (v 10), .int .i64 (v 11), .int .i64 (v 12), .int .i64 (v 13), .int .i64 (v 14), .int .i64 (v 15), .int .i64 (v 16), .slice B nb cb, .int .i64 (v 18), .int .i64 (v 19), .int .i64 (v 20), .int .i64 last, .int .i64 a, .int .i64 b, .int .i64 d, .int .i64 cl, .int .i64 sq] 38 (0, 0))) := Lib.hid ((hb.block P9 (ltb HP9_5.out)).trans HP9_5.out)
      clear hb HB_5 HS_5 HL_5 HP7_5 HP9_5
      obtain ⟨P11, hP11⟩ : ∃ x, x = w6.heap.size := ⟨_, rfl⟩
      have hal : Below w6.heap.size w6 (w6.alloc (.cells #[.int .i64 (u 0), .int .i64 (u 1), .int .i64 (u 2), .int .i64 (u 3), .int .i64 (u 4), .int .i64 (u 5), .int .i64 (u 6), .int .i64 (u 7), .int .i64 (u 8), .int .i64 (u 9), .int .i64 (u 10), .int .i64 (u 11), .int .i64 (u 12), .int .i64 (u 13), .int .i64 (u 14), .int .i64 (u 15), .int .i64 (u 16), .slice none 0 0, .int .i64 (u 18), .int .i64 (u 19), .int .i64 (u 20)] 36)) := (Below.refl _ _).alloc (Nat.le_refl _) _
      have hnew : (w6.alloc (.cells #[.int .i64 (u 0), .int .i64 (u 1), .int .i64 (u 2), .int .i64 (u 3), .int .i64 (u 4), .int .i64 (u 5), .int .i64 (u 6), .int .i64 (u 7), .int .i64 (u 8), .int .i64 (u 9), .int .i64 (u 10), .int .i64 (u 11), .int .i64 (u 12), .int .i64 (u 13), .int .i64 (u 14), .int .i64 (u 15), .int .i64 (u 16), .slice none 0 0, .int .i64 (u 18), .int .i64 (u 19), .int .i64 (u 20)] 36)).heap[P11]? = some (.cells #[.int .i64 (u 0), .int .i64 (u 1), .int .i64 (u 2), .int .i64 (u 3), .int .i64 (u 4), .int .i64 (u 5), .int .i64 (u 6), .int .i64 (u 7), .int .i64 (u 8), .int .i64 (u 9), .int .i64 (u 10), .int .i64 (u 11), .int .i64 (u 12), .int .i64 (u 13), .int .i64 (u 14), .int .i64 (u 15), .int .i64 (u 16), .slice none 0 0, .int .i64 (u 18), .int .i64 (u 19), .int .i64 (u 20)] 36 (0, 0)) := by rw [hP11]; exact heap_alloc_new _ _
      have HB_7 : Hid (Below w.heap.size w (w6.alloc (.cells #[.int .i64 (u 0), .int .i64 (u 1), .int .i64 (u 2), .int .i64 (u 3), .int .i64 (u 4), .int .i64 (u 5), .int .i64 (u 6), .int .i64 (u 7), .int .i64 (u 8), .int .i64 (u 9), .int .i64 (u 10), .int .i64 (u 11), .int .i64 (u 12), .int .i64 (u 13), .int .i64 (u 14), .int .i64 (u 15), .int .i64 (u 16), .slice none 0 0, .int .i64 (u 18), .int .i64 (u 19), .int .i64 (u 20)] 36))) := Lib.hid (HB_6.out.trans (hal.mono HB_6.out.size))
      have HS_7 : Hid (SAt (w6.alloc (.cells #[.int .i64 (u 0), .int .i64 (u 1), .int .i64 (u 2), .int .i64 (u 3), .int .i64 (u 4), .int .i64 (u 5), .int .i64 (u 6), .int .i64 (u 7), .int .i64 (u 8), .int .i64 (u 9), .int .i64 (u 10), .int .i64 (u 11), .int .i64 (u 12), .int .i64 (u 13), .int .i64 (u 14), .int .i64 (u 15), .int .i64 (u 16), .slice none 0 0, .int .i64 (u 18), .int .i64 (u 19), .int .i64 (u 20)] 36)) (M + 1) ep M nn f) := Lib.hid (HS_6.out.below hal)
      have HL_7 : Hid (LAt (w6.alloc (.cells #[.int .i64 (u 0), .int .i64 (u 1), .int .i64 (u 2), .int .i64 (u 3), .int .i64 (u 4), .int .i64 (u 5), .int .i64 (u 6), .int .i64 (u 7), .int .i64 (u 8), .int .i64 (u 9), .int .i64 (u 10), .int .i64 (u 11), .int .i64 (u 12), .int .i64 (u 13), .int .i64 (u 14), .int .i64 (u 15), .int .i64 (u 16), .slice none 0 0, .int .i64 (u 18), .int .i64 (u 19), .int .i64 (u 20)] 36)) w.heap.size A n c L) := Lib.hid (HL_6.out.below hal)
      have HP7_7 : Hid ((w6.alloc (.cells #[.int .i64 (u 0), .int .i64 (u 1), .int .i64 (u 2), .int .i64 (u 3), .int .i64 (u 4), .int .i64 (u 5), .int .i64 (u 6), .int .i64 (u 7), .int .i64 (u 8), .int .i64 (u 9), .int .i64 (u 10), .int .i64 (u 11), .int .i64 (u 12), .int .i64 (u 13), .int .i64 (u 14), .int .i64 (u 15), .int .i64 (u 16), .slice none 0 0, .int .i64 (u 18), .int .i64 (u 19), .int .i64 (u 20)] 36)).heap[P7]? = some (.cells #[.int .i64 ep, .slice A n c] 28 (0, 0))) := Lib.hid ((hal.block P7 (ltb HP7_6.out)).trans HP7_6.out)
      have HP9_7 : Hid ((w6.alloc (.cells #[.int .i64 (u 0), .int .i64 (u 1), .int .i64 (u 2), .int .i64 (u 3), .int .i64 (u 4), .int .i64 (u 5), .int .i64 (u 6), .int .i64 (u 7), .int .i64 (u 8), .int .i64 (u 9), .int .i64 (u 10), .int .i64 (u 11), .int .i64 (u 12), .int .i64 (u 13), .int .i64 (u 14), .int .i64 (u 15), .int .i64 (u 16), .slice none 0 0, .int .i64 (u 18), .int .i64 (u 19), .int .i64 (u 20)] 36)).heap[P9]? = some (.cells #[.bool true, .int .i64 (v 0), .int .i64 (v 1), .int .i64 (v 2), .int .i64 (v 3), .int .i64 (v 4), .int .i64 (v 5), .int .i64 (v 6), .int .i64 (v 7), .int .i64 (v 8), .int .i64 (v 9), .int .i64 (v 10), .int .i64 (v 11), .int .i64 (v 12), .int .i64 (v 13), .int .i64 (v 14), .int .i64 (v 15), .int .i64 (v 16), .slice B nb cb, .int .i64 (v 18), .int .i64 (v 19), .int .i64 (v 20), .int .i64 last, .int .i64 a, .int .i64 b, .int .i64 d, .int .i64 cl, .int .i64 sq] 38 (0, 0))) := Lib.hid ((hal.block P9 (ltb HP9_6.out)).trans HP9_6.out)
      clear hal HB_6 HS_6 HL_6 HP7_6 HP9_6
      have HP11_7 : Hid ((w6.alloc (.cells #[.int .i64 (u 0), .int .i64 (u 1), .int .i64 (u 2), .int .i64 (u 3), .int .i64 (u 4), .int .i64 (u 5), .int .i64 (u 6), .int .i64 (u 7), .int .i64 (u 8), .int .i64 (u 9), .int .i64 (u 10), .int .i64 (u 11), .int .i64 (u 12), .int .i64 (u 13), .int .i64 (u 14), .int .i64 (u 15), .int .i64 (u 16), .slice none 0 0, .int .i64 (u 18), .int .i64 (u 19), .int .i64 (u 20)] 36)).heap[P11]? = some (.cells #[.int .i64 (u 0), .int .i64 (u 1), .int .i64 (u 2), .int .i64 (u 3), .int .i64 (u 4), .int .i64 (u 5), .int .i64 (u 6), .int .i64 (u 7), .int .i64 (u 8), .int .i64 (u 9), .int .i64 (u 10), .int .i64 (u 11), .int .i64 (u 12), .int .i64 (u 13), .int .i64 (u 14), .int .i64 (u 15), .int .i64 (u 16), .slice none 0 0, .int .i64 (u 18), .int .i64 (u 19), .int .i64 (u 20)] 36 (0, 0))) := Lib.hid hnew
      clear hnew
      have m22 : (w6.alloc (.cells #[.int .i64 (u 0), .int .i64 (u 1), .int .i64 (u 2), .int .i64 (u 3), .int .i64 (u 4), .int .i64 (u 5), .int .i64 (u 6), .int .i64 (u 7), .int .i64 (u 8), .int .i64 (u 9), .int .i64 (u 10), .int .i64 (u 11), .int .i64 (u 12), .int .i64 (u 13), .int .i64 (u 14), .int .i64 (u 15), .int .i64 (u 16), .slice none 0 0, .int .i64 (u 18), .int .i64 (u 19), .int .i64 (u 20)] 36)).cell? ⟨P9, 22, none⟩ = some (.int .i64 last) := cellb (i := 22) HP9_7.out rfl
      have HM1 : Hid ((w6.alloc (.cells #[.int .i64 (u 0), .int .i64 (u 1), .int .i64 (u 2), .int .i64 (u 3), .int .i64 (u 4), .int .i64 (u 5), .int .i64 (u 6), .int .i64 (u 7), .int .i64 (u 8), .int .i64 (u 9), .int .i64 (u 10), .int .i64 (u 11), .int .i64 (u 12), .int .i64 (u 13), .int .i64 (u 14), .int .i64 (u 15), .int .i64 (u 16), .slice none 0 0, .int .i64 (u 18), .int .i64 (u 19), .int .i64 (u 20)] 36)).rangeAt P9 1 [.int .i64 (v 0), .int .i64 (v 1), .int .i64 (v 2), .int .i64 (v 3), .int .i64 (v 4), .int .i64 (v 5), .int .i64 (v 6), .int .i64 (v 7), .int .i64 (v 8), .int .i64 (v 9), .int .i64 (v 10), .int .i64 (v 11), .int .i64 (v 12), .int .i64 (v 13), .int .i64 (v 14), .int .i64 (v 15), .int .i64 (v 16), .slice B nb cb, .int .i64 (v 18), .int .i64 (v 19), .int .i64 (v 20)]) := Lib.hid (mid_of [.bool true] [.int .i64 (v 0), .int .i64 (v 1), .int .i64 (v 2), .int .i64 (v 3), .int .i64 (v 4), .int .i64 (v 5), .int .i64 (v 6), .int .i64 (v 7), .int .i64 (v 8), .int .i64 (v 9), .int .i64 (v 10), .int .i64 (v 11), .int .i64 (v 12), .int .i64 (v 13), .int .i64 (v 14), .int .i64 (v 15), .int .i64 (v 16), .slice B nb cb, .int .i64 (v 18), .int .i64 (v 19), .int .i64 (v 20)] [.int .i64 last, .int .i64 a, .int .i64 b, .int .i64 d, .int .i64 cl, .int .i64 sq] HP9_7.out rfl)
      have HM23 : Hid ((w6.alloc (.cells #[.int .i64 (u 0), .int .i64 (u 1), .int .i64 (u 2), .int .i64 (u 3), .int .i64 (u 4), .int .i64 (u 5), .int .i64 (u 6), .int .i64 (u 7), .int .i64 (u 8), .int .i64 (u 9), .int .i64 (u 10), .int .i64 (u 11), .int .i64 (u 12), .int .i64 (u 13), .int .i64 (u 14), .int .i64 (u 15), .int .i64 (u 16), .slice none 0 0, .int .i64 (u 18), .int .i64 (u 19), .int .i64 (u 20)] 36)).rangeAt P9 23 [.int .i64 a, .int .i64 b, .int .i64 d]) := Lib.hid (mid_of [.bool true, .int .i64 (v 0), .int .i64 (v 1), .int .i64 (v 2), .int .i64 (v 3), .int .i64 (v 4), .int .i64 (v 5), .int .i64 (v 6), .int .i64 (v 7), .int .i64 (v 8), .int .i64 (v 9), .int .i64 (v 10), .int .i64 (v 11), .int .i64 (v 12), .int .i64 (v 13), .int .i64 (v 14), .int .i64 (v 15), .int .i64 (v 16), .slice B nb cb, .int .i64 (v 18), .int .i64 (v 19), .int .i64 (v 20), .int .i64 last] [.int .i64 a, .int .i64 b, .int .i64 d] [.int .i64 cl, .int .i64 sq] HP9_7.out rfl)
      go_wp2_with (first | (refine wpList_store_row rfl 36 (.tmp 11) (.tmp 67) rfl w6.heap.size _ rfl rfl 36 _ (heap_alloc_new w6 _) (by kernel_rfl) rfl (by simp [Value.oneCell']) ?_; rw [World.setRow_alloc_new]) | (refine wpList_load_row rfl 28 (.tmp 7) rfl P7 rfl 28 _ (0, 0) _ HP7_7.out Try.underlying28 rfl (by kernel_rfl) ?_) | (refine wpList_load_mid rfl 36 (.tmp 70) rfl P9 1 rfl [.int .i64 (v 0), .int .i64 (v 1), .int .i64 (v 2), .int .i64 (v 3), .int .i64 (v 4), .int .i64 (v 5), .int .i64 (v 6), .int .i64 (v 7), .int .i64 (v 8), .int .i64 (v 9), .int .i64 (v 10), .int .i64 (v 11), .int .i64 (v 12), .int .i64 (v 13), .int .i64 (v 14), .int .i64 (v 15), .int .i64 (v 16), .slice B nb cb, .int .i64 (v 18), .int .i64 (v 19), .int .i64 (v 20)] _ HM1.out Try.underlying36 rfl (by kernel_rfl) ?_) | (refine wpList_load_mid rfl 34 (.tmp 74) rfl P9 23 rfl [.int .i64 a, .int .i64 b, .int .i64 d] _ HM23.out Try.underlying34 rfl (by kernel_rfl) ?_))
      clear m22 HM1 HM23
      rw [← hP11]
      clear hP11
      generalize w6.alloc (.cells #[.int .i64 (u 0), .int .i64 (u 1), .int .i64 (u 2), .int .i64 (u 3), .int .i64 (u 4), .int .i64 (u 5), .int .i64 (u 6), .int .i64 (u 7), .int .i64 (u 8), .int .i64 (u 9), .int .i64 (u 10), .int .i64 (u 11), .int .i64 (u 12), .int .i64 (u 13), .int .i64 (u 14), .int .i64 (u 15), .int .i64 (u 16), .slice none 0 0, .int .i64 (u 18), .int .i64 (u 19), .int .i64 (u 20)] 36) = w7 at HB_7 HS_7 HL_7 HP7_7 HP9_7 HP11_7 ⊢
      refine (rlook_both ep w.heap.size A n c L f v B nb cb last a b d w7 HL_7.out HN1000.out HF.out).mono ?_
      rintro e w8 ⟨hp, hb⟩
      have he := look1_det HLK.out hp
      subst he
      clear hp HLK
      have HB_8 : Hid (Below w.heap.size w w8) := Lib.hid (HB_7.out.trans (hb.mono HB_7.out.size))
      have HS_8 : Hid (SAt w8 (M + 1) ep M nn f) := Lib.hid (HS_7.out.below hb)
      have HL_8 : Hid (LAt w8 w.heap.size A n c L) := Lib.hid (HL_7.out.below hb)
      have HP7_8 : Hid (w8.heap[P7]? = some (.cells #[.int .i64 ep, .slice A n c] 28 (0, 0))) := Lib.hid ((hb.block P7 (ltb HP7_7.out)).trans HP7_7.out)
      have HP9_8 : Hid (w8.heap[P9]? = some (.cells #[.bool true, .int .i64 (v 0), .int .i64 (v 1), .int .i64 (v 2), .int .i64 (v 3), .int .i64 (v 4), .int .i64 (v 5), .int .i64 (v 6), .int .i64 (v 7), .int .i64 (v 8), .int .i64 (v 9), .int .i64 (v 10), .int .i64 (v 11), .int .i64 (v 12), .int .i64 (v 13), .int .i64 (v 14), .int .i64 (v 15), .int .i64 (v 16), .slice B nb cb, .int .i64 (v 18), .int .i64 (v 19), .int .i64 (v 20), .int .i64 last, .int .i64 a, .int .i64 b, .int .i64 d, .int .i64 cl, .int .i64 sq] 38 (0, 0))) := Lib.hid ((hb.block P9 (ltb HP9_7.out)).trans HP9_7.out)
      have HP11_8 : Hid (w8.heap[P11]? = some (.cells #[.int .i64 (u 0), .int .i64 (u 1), .int .i64 (u 2), .int .i64 (u 3), .int .i64 (u 4), .int .i64 (u 5), .int .i64 (u 6), .int .i64 (u 7), .int .i64 (u 8), .int .i64 (u 9), .int .i64 (u 10), .int .i64 (u 11), .int .i64 (u 12), .int .i64 (u 13), .int .i64 (u 14), .int .i64 (u 15), .int .i64 (u 16), .slice none 0 0, .int .i64 (u 18), .int .i64 (u 19), .int .i64 (u 20)] 36 (0, 0))) := Lib.hid ((hb.block P11 (ltb HP11_7.out)).trans HP11_7.out)
      clear hb HB_7 HS_7 HL_7 HP7_7 HP9_7 HP11_7
      obtain ⟨P13, hP13⟩ : ∃ x, x = w8.heap.size := ⟨_, rfl⟩
      have hal : Below w8.heap.size w8 (w8.alloc (.cells #[.int .i64 (u 0), .int .i64 (u 1), .int .i64 (u 2), .int .i64 (u 3), .int .i64 (u 4), .int .i64 (u 5), .int .i64 (u 6), .int .i64 (u 7), .int .i64 (u 8), .int .i64 (u 9), .int .i64 (u 10), .int .i64 (u 11), .int .i64 (u 12), .int .i64 (u 13), .int .i64 (u 14), .int .i64 (u 15), .int .i64 (u 16), .slice none 0 0, .int .i64 (u 18), .int .i64 (u 19), .int .i64 (u 20)] 36)) := (Below.refl _ _).alloc (Nat.le_refl _) _
      have hnew : (w8.alloc (.cells #[.int .i64 (u 0), .int .i64 (u 1), .int .i64 (u 2), .int .i64 (u 3), .int .i64 (u 4), .int .i64 (u 5), .int .i64 (u 6), .int .i64 (u 7), .int .i64 (u 8), .int .i64 (u 9), .int .i64 (u 10), .int .i64 (u 11), .int .i64 (u 12), .int .i64 (u 13), .int .i64 (u 14), .int .i64 (u 15), .int .i64 (u 16), .slice none 0 0, .int .i64 (u 18), .int .i64 (u 19), .int .i64 (u 20)] 36)).heap[P13]? = some (.cells #[.int .i64 (u 0), .int .i64 (u 1), .int .i64 (u 2), .int .i64 (u 3), .int .i64 (u 4), .int .i64 (u 5), .int .i64 (u 6), .int .i64 (u 7), .int .i64 (u 8), .int .i64 (u 9), .int .i64 (u 10), .int .i64 (u 11), .int .i64 (u 12), .int .i64 (u 13), .int .i64 (u 14), .int .i64 (u 15), .int .i64 (u 16), .slice none 0 0, .int .i64 (u 18), .int .i64 (u 19), .int .i64 (u 20)] 36 (0, 0)) := by rw [hP13]; exact heap_alloc_new _ _
      have HB_9 : Hid (Below w.heap.size w (w8.alloc (.cells #[.int .i64 (u 0), .int .i64 (u 1), .int .i64 (u 2), .int .i64 (u 3), .int .i64 (u 4), .int .i64 (u 5), .int .i64 (u 6), .int .i64 (u 7), .int .i64 (u 8), .int .i64 (u 9), .int .i64 (u 10), .int .i64 (u 11), .int .i64 (u 12), .int .i64 (u 13), .int .i64 (u 14), .int .i64 (u 15), .int .i64 (u 16), .slice none 0 0, .int .i64 (u 18), .int .i64 (u 19), .int .i64 (u 20)] 36))) := Lib.hid (HB_8.out.trans (hal.mono HB_8.out.size))
      have HS_9 : Hid (SAt (w8.alloc (.cells #[.int .i64 (u 0), .int .i64 (u 1), .int .i64 (u 2), .int .i64 (u 3), .int .i64 (u 4), .int .i64 (u 5), .int .i64 (u 6), .int .i64 (u 7), .int .i64 (u 8), .int .i64 (u 9), .int .i64 (u 10), .int .i64 (u 11), .int .i64 (u 12), .int .i64 (u 13), .int .i64 (u 14), .int .i64 (u 15), .int .i64 (u 16), .slice none 0 0, .int .i64 (u 18), .int .i64 (u 19), .int .i64 (u 20)] 36)) (M + 1) ep M nn f) := Lib.hid (HS_8.out.below hal)
      have HL_9 : Hid (LAt (w8.alloc (.cells #[.int .i64 (u 0), .int .i64 (u 1), .int .i64 (u 2), .int .i64 (u 3), .int .i64 (u 4), .int .i64 (u 5), .int .i64 (u 6), .int .i64 (u 7), .int .i64 (u 8), .int .i64 (u 9), .int .i64 (u 10), .int .i64 (u 11), .int .i64 (u 12), .int .i64 (u 13), .int .i64 (u 14), .int .i64 (u 15), .int .i64 (u 16), .slice none 0 0, .int .i64 (u 18), .int .i64 (u 19), .int .i64 (u 20)] 36)) w.heap.size A n c L) := Lib.hid (HL_8.out.below hal)
      have HP7_9 : Hid ((w8.alloc (.cells #[.int .i64 (u 0), .int .i64 (u 1), .int .i64 (u 2), .int .i64 (u 3), .int .i64 (u 4), .int .i64 (u 5), .int .i64 (u 6), .int .i64 (u 7), .int .i64 (u 8), .int .i64 (u 9), .int .i64 (u 10), .int .i64 (u 11), .int .i64 (u 12), .int .i64 (u 13), .int .i64 (u 14), .int .i64 (u 15), .int .i64 (u 16), .slice none 0 0, .int .i64 (u 18), .int .i64 (u 19), .int .i64 (u 20)] 36)).heap[P7]? = some (.cells #[.int .i64 ep, .slice A n c] 28 (0, 0))) := Lib.hid ((hal.block P7 (ltb HP7_8.out)).trans HP7_8.out)
      have HP9_9 : Hid ((w8.alloc (.cells #[.int .i64 (u 0), .int .i64 (u 1), .int .i64 (u 2), .int .i64 (u 3), .int .i64 (u 4), .int .i64 (u 5), .int .i64 (u 6), .int .i64 (u 7), .int .i64 (u 8), .int .i64 (u 9), .int .i64 (u 10), .int .i64 (u 11), .int .i64 (u 12), .int .i64 (u 13), .int .i64 (u 14), .int .i64 (u 15), .int .i64 (u 16), .slice none 0 0, .int .i64 (u 18), .int .i64 (u 19), .int .i64 (u 20)] 36)).heap[P9]? = some (.cells #[.bool true, .int .i64 (v 0), .int .i64 (v 1), .int .i64 (v 2), .int .i64 (v 3), .int .i64 (v 4), .int .i64 (v 5), .int .i64 (v 6), .int .i64 (v 7), .int .i64 (v 8), .int .i64 (v 9), .int .i64 (v 10), .int .i64 (v 11), .int .i64 (v 12), .int .i64 (v 13), .int .i64 (v 14), .int .i64 (v 15), .int .i64 (v 16), .slice B nb cb, .int .i64 (v 18), .int .i64 (v 19), .int .i64 (v 20), .int .i64 last, .int .i64 a, .int .i64 b, .int .i64 d, .int .i64 cl, .int .i64 sq] 38 (0, 0))) := Lib.hid ((hal.block P9 (ltb HP9_8.out)).trans HP9_8.out)
      have HP11_9 : Hid ((w8.alloc (.cells #[.int .i64 (u 0), .int .i64 (u 1), .int .i64 (u 2), .int .i64 (u 3), .int .i64 (u 4), .int .i64 (u 5), .int .i64 (u 6), .int .i64 (u 7), .int .i64 (u 8), .int .i64 (u 9), .int .i64 (u 10), .int .i64 (u 11), .int .i64 (u 12), .int .i64 (u 13), .int .i64 (u 14), .int .i64 (u 15), .int .i64 (u 16), .slice none 0 0, .int .i64 (u 18), .int .i64 (u 19), .int .i64 (u 20)] 36)).heap[P11]? = some (.cells #[.int .i64 (u 0), .int .i64 (u 1), .int .i64 (u 2), .int .i64 (u 3), .int .i64 (u 4), .int .i64 (u 5), .int .i64 (u 6), .int .i64 (u 7), .int .i64 (u 8), .int .i64 (u 9), .int .i64 (u 10), .int .i64 (u 11), .int .i64 (u 12), .int .i64 (u 13), .int .i64 (u 14), .int .i64 (u 15), .int .i64 (u 16), .slice none 0 0, .int .i64 (u 18), .int .i64 (u 19), .int .i64 (u 20)] 36 (0, 0))) := Lib.hid ((hal.block P11 (ltb HP11_8.out)).trans HP11_8.out)
      clear hal HB_8 HS_8 HL_8 HP7_8 HP9_8 HP11_8
      have HP13_9 : Hid ((w8.alloc (.cells #[.int .i64 (u 0), .int .i64 (u 1), .int .i64 (u 2), .int .i64 (u 3), .int .i64 (u 4), .int .i64 (u 5), .int .i64 (u 6), .int .i64 (u 7), .int .i64 (u 8), .int .i64 (u 9), .int .i64 (u 10), .int .i64 (u 11), .int .i64 (u 12), .int .i64 (u 13), .int .i64 (u 14), .int .i64 (u 15), .int .i64 (u 16), .slice none 0 0, .int .i64 (u 18), .int .i64 (u 19), .int .i64 (u 20)] 36)).heap[P13]? = some (.cells #[.int .i64 (u 0), .int .i64 (u 1), .int .i64 (u 2), .int .i64 (u 3), .int .i64 (u 4), .int .i64 (u 5), .int .i64 (u 6), .int .i64 (u 7), .int .i64 (u 8), .int .i64 (u 9), .int .i64 (u 10), .int .i64 (u 11), .int .i64 (u 12), .int .i64 (u 13), .int .i64 (u 14), .int .i64 (u 15), .int .i64 (u 16), .slice none 0 0, .int .i64 (u 18), .int .i64 (u 19), .int .i64 (u 20)] 36 (0, 0))) := Lib.hid hnew
      clear hnew
      go_upto_region 19 with (refine wpList_store_row rfl 36 (.tmp 13) (.tmp 78) rfl w8.heap.size _ rfl rfl 36 _ (heap_alloc_new w8 _) (by kernel_rfl) rfl (by simp [Value.oneCell']) ?_; rw [World.setRow_alloc_new])
      rw [← hP13]
      clear hP13
      generalize w8.alloc (.cells #[.int .i64 (u 0), .int .i64 (u 1), .int .i64 (u 2), .int .i64 (u 3), .int .i64 (u 4), .int .i64 (u 5), .int .i64 (u 6), .int .i64 (u 7), .int .i64 (u 8), .int .i64 (u 9), .int .i64 (u 10), .int .i64 (u 11), .int .i64 (u 12), .int .i64 (u 13), .int .i64 (u 14), .int .i64 (u 15), .int .i64 (u 16), .slice none 0 0, .int .i64 (u 18), .int .i64 (u 19), .int .i64 (u 20)] 36) = w9 at HB_9 HS_9 HL_9 HP7_9 HP9_9 HP11_9 HP13_9 ⊢
      go_wp2_with (first | (refine wpList_load_g rfl 36 (.tmp 11) rfl P11 rfl 36 _ (0, 0) _ HP11_9.out Try.underlying36 rfl (by kernel_rfl) ?_) | (refine wpList_load_g rfl 36 (.tmp 13) rfl P13 rfl 36 _ (0, 0) _ HP13_9.out Try.underlying36 rfl (by kernel_rfl) ?_))
      refine (same_eq u none none 0 0 0 [] w9 (.emp (by omega)) (.emp (by omega)) rfl).mono ?_
      rintro e w10 ⟨rfl, hb⟩
      clear HP9_9 HP11_9 HP13_9
      have HB_10 : Hid (Below w.heap.size w w10) := Lib.hid (HB_9.out.trans (hb.mono HB_9.out.size))
      have HS_10 : Hid (SAt w10 (M + 1) ep M nn f) := Lib.hid (HS_9.out.below hb)
      have HL_10 : Hid (LAt w10 w.heap.size A n c L) := Lib.hid (HL_9.out.below hb)
      have HP7_10 : Hid (w10.heap[P7]? = some (.cells #[.int .i64 ep, .slice A n c] 28 (0, 0))) := Lib.hid ((hb.block P7 (ltb HP7_9.out)).trans HP7_9.out)
      clear hb HB_9 HS_9 HL_9 HP7_9
      go_wp2_with fail
      go_roundg (len - (j + 1))
      case measure => omega
      case rel => exact ⟨j + 1, nn, n, c, A, L, f, by omega, by omega, rfl, by go_num, by omega, by omega, HS_10, HL_10, HP7_10, HF, HB_10⟩
theorem law_serves (ep : Int) (A0 : Option Addr) (len cap : Nat) (gs : List St) (w : World) (hlen : len = gs.length) (hp : StepsIn w w.heap.size A0 gs) :
    Calls Try.prog 3 #[.int .i64 ep, .slice A0 len cap] w fun e w' => e = .returned (.bool true) ∧ Below w.heap.size w w' := by
  by_cases h1 : 1 ≤ ep
  · by_cases h2 : ep ≤ 1099511627776
    · exact serves_in ep A0 len cap gs w h1 h2 hlen hp
    · exact serves_out ep A0 len cap w (.inr (by omega))
  · exact serves_out ep A0 len cap w (.inl (by omega))
end Go.Proofs.Ytlcbpodjmafoeaa
