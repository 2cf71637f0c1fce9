/- What becomes of a message that asks and may be. -/
import Derived.Test.YtlcbpodjmafoeaaLook
import Derived.Deep.Cut
namespace Go.Proofs.Ytlcbpodjmafoeaa
open Go.RowKit

theorem eq_kept (q a b c : Int) (w : World) : (Go.binOp .eql 84 (.agg #[.int .i64 q, .int .i64 a, .int .i64 b, .int .i64 c]) (.agg #[.int .i64 0, .int .i64 0, .int .i64 0, .int .i64 0])).run Try.prog w = .ok (.bool (decide (q = 0 ∧ a = 0 ∧ b = 0 ∧ c = 0))) w := by
  by_cases h1 : q = 0 <;> by_cases h2 : a = 0 <;> by_cases h3 : b = 0 <;> by_cases h4 : c = 0 <;> simp [go_sem, h1, h2, h3, h4]
theorem SAt.offX {w : World} {g : Nat} {ep : Int} {M n X : Nat} {f : Int → Kp} {cs : Array Value} {t : TypeId} {fr : Nat × Nat} (h : SAt w g ep M n f) (hx : w.heap[X]? = some (.cells cs t fr)) (hg : X ≠ g) (cs' : Array Value) : SAt (w.setRow X cs') g ep M n f := by
  refine ⟨(setRow_other w X g cs' (fun e => hg e.symm)).trans h.blk, h.map.kept (row := some X) ⟨rfl, rfl, rfl, by simp, fun i _ hi => setRow_other w X i cs' (fun e => hi (by rw [e]))⟩ (fun e => ?_)⟩
  injection e with e
  obtain ⟨D, ⟨es, clock, hb, _⟩, _⟩ := h.map
  rw [e, hx] at hb
  cases hb
def LookRep (ep cl sq a b c : Int) (e : Ending) : Prop := ∃ k : Bool, (k = true ↔ OkR ep cl sq a b c) ∧ e = .returned (.tuple #[.int .i64 (if k = true then 1 else 0), .agg (if k = true then #[.int .i64 8, .int .i64 ep, .int .i64 0, .int .i64 0, .int .i64 0, .int .i64 0, .int .i64 0, .int .i64 0, .int .i64 0, .int .i64 0, .int .i64 0, .int .i64 0, .int .i64 0, .int .i64 0, .int .i64 0, .int .i64 cl, .int .i64 sq, .slice none 0 0, .int .i64 a, .int .i64 b, .int .i64 c] else #[.int .i64 0, .int .i64 0, .int .i64 0, .int .i64 0, .int .i64 0, .int .i64 0, .int .i64 0, .int .i64 0, .int .i64 0, .int .i64 0, .int .i64 0, .int .i64 0, .int .i64 0, .int .i64 0, .int .i64 0, .int .i64 0, .int .i64 0, .slice none 0 0, .int .i64 0, .int .i64 0, .int .i64 0])])
def LookPost (ep : Int) (k : Kp) (v : Nat → Int) (e : Ending) : Prop :=
  if v 1 = ep then (if k.q < v 16 then e = .returned (.tuple #[.int .i64 2, .agg #[.int .i64 0, .int .i64 0, .int .i64 0, .int .i64 0, .int .i64 0, .int .i64 0, .int .i64 0, .int .i64 0, .int .i64 0, .int .i64 0, .int .i64 0, .int .i64 0, .int .i64 0, .int .i64 0, .int .i64 0, .int .i64 0, .int .i64 0, .slice none 0 0, .int .i64 0, .int .i64 0, .int .i64 0]]) else if v 16 < k.q then e = .returned (.tuple #[.int .i64 0, .agg #[.int .i64 0, .int .i64 0, .int .i64 0, .int .i64 0, .int .i64 0, .int .i64 0, .int .i64 0, .int .i64 0, .int .i64 0, .int .i64 0, .int .i64 0, .int .i64 0, .int .i64 0, .int .i64 0, .int .i64 0, .int .i64 0, .int .i64 0, .slice none 0 0, .int .i64 0, .int .i64 0, .int .i64 0]]) else LookRep ep (v 15) (v 16) k.a k.b k.c e) else LookRep ep (v 15) (v 16) 190 0 0 e
set_option maxRecDepth 100000 in
set_option maxHeartbeats 8000000 in
theorem look_ok (g : Nat) (ep : Int) (M nn : Nat) (f : Int → Kp) (v : Nat → Int) (B : Option Addr) (n cb : Nat) (last a b c : Int) (w : World) (h : SAt w g ep M nn f) (h0 : v 0 = 7) (hok : OkL [⟨1, 0, 1099511627776⟩, ⟨15, 1, 16⟩, ⟨16, 1, 1099511627776⟩] v n 4096) (hwf : (Lit.int .i64 (v 15)).wf = true) :
    Calls Try.prog 10 #[.pointer (some ⟨g, 0, none⟩), .agg #[.int .i64 (v 0), .int .i64 (v 1), .int .i64 (v 2), .int .i64 (v 3), .int .i64 (v 4), .int .i64 (v 5), .int .i64 (v 6), .int .i64 (v 7), .int .i64 (v 8), .int .i64 (v 9), .int .i64 (v 10), .int .i64 (v 11), .int .i64 (v 12), .int .i64 (v 13), .int .i64 (v 14), .int .i64 (v 15), .int .i64 (v 16), .slice B n cb, .int .i64 (v 18), .int .i64 (v 19), .int .i64 (v 20)], .int .i64 last, .agg #[.int .i64 a, .int .i64 b, .int .i64 c]] w fun e w' => LookPost ep (lookK (f (v 15)) last a b c) v e ∧ Below w.heap.size w w' := by
  have hgl := h.glt
  obtain ⟨W, hW⟩ : ∃ W, W = ((w.alloc (.cells #[.int .i64 (v 0), .int .i64 (v 1), .int .i64 (v 2), .int .i64 (v 3), .int .i64 (v 4), .int .i64 (v 5), .int .i64 (v 6), .int .i64 (v 7), .int .i64 (v 8), .int .i64 (v 9), .int .i64 (v 10), .int .i64 (v 11), .int .i64 (v 12), .int .i64 (v 13), .int .i64 (v 14), .int .i64 (v 15), .int .i64 (v 16), .slice B n cb, .int .i64 (v 18), .int .i64 (v 19), .int .i64 (v 20)] 36)).alloc (.cells #[.int .i64 a, .int .i64 b, .int .i64 c] 34)).alloc (.cells #[.int .i64 0, .int .i64 0, .int .i64 0, .int .i64 0, .int .i64 0, .int .i64 0, .int .i64 0, .int .i64 0, .int .i64 0, .int .i64 0, .int .i64 0, .int .i64 0, .int .i64 0, .int .i64 0, .int .i64 0, .int .i64 0, .int .i64 0, .slice none 0 0, .int .i64 0, .int .i64 0, .int .i64 0] 36) := ⟨_, rfl⟩
  obtain ⟨S, hS⟩ : ∃ S, S = w.heap.size := ⟨_, rfl⟩
  have hb : Below w.heap.size w W := by rw [hW]; exact (((Below.refl w.heap.size w).alloc (Nat.le_refl _) _).alloc (by simp) _).alloc (by simp; omega) _
  have hm : MAt W S v B n cb := by
    have := heap_alloc_new w (.cells #[.int .i64 (v 0), .int .i64 (v 1), .int .i64 (v 2), .int .i64 (v 3), .int .i64 (v 4), .int .i64 (v 5), .int .i64 (v 6), .int .i64 (v 7), .int .i64 (v 8), .int .i64 (v 9), .int .i64 (v 10), .int .i64 (v 11), .int .i64 (v 12), .int .i64 (v 13), .int .i64 (v 14), .int .i64 (v 15), .int .i64 (v 16), .slice B n cb, .int .i64 (v 18), .int .i64 (v 19), .int .i64 (v 20)] 36)
    show W.heap[S]? = _
    rw [hW, hS]; exact (Below.heap_alloc _ _ _ (by simp; omega)).trans ((Below.heap_alloc _ _ _ (by simp)).trans this)
  have ht : W.heap[S + 1]? = some (.cells #[.int .i64 a, .int .i64 b, .int .i64 c] 34 (0, 0)) := by
    have := heap_alloc_new (w.alloc (.cells #[.int .i64 (v 0), .int .i64 (v 1), .int .i64 (v 2), .int .i64 (v 3), .int .i64 (v 4), .int .i64 (v 5), .int .i64 (v 6), .int .i64 (v 7), .int .i64 (v 8), .int .i64 (v 9), .int .i64 (v 10), .int .i64 (v 11), .int .i64 (v 12), .int .i64 (v 13), .int .i64 (v 14), .int .i64 (v 15), .int .i64 (v 16), .slice B n cb, .int .i64 (v 18), .int .i64 (v 19), .int .i64 (v 20)] 36)) (.cells #[.int .i64 a, .int .i64 b, .int .i64 c] 34)
    rw [hW, hS]; exact (Below.heap_alloc _ _ _ (by simp)).trans (by simpa using this)
  have hq : W.heap[S + 1 + 1]? = some (.cells #[.int .i64 0, .int .i64 0, .int .i64 0, .int .i64 0, .int .i64 0, .int .i64 0, .int .i64 0, .int .i64 0, .int .i64 0, .int .i64 0, .int .i64 0, .int .i64 0, .int .i64 0, .int .i64 0, .int .i64 0, .int .i64 0, .int .i64 0, .slice none 0 0, .int .i64 0, .int .i64 0, .int .i64 0] 36 (0, 0)) := by
    have := heap_alloc_new ((w.alloc (.cells #[.int .i64 (v 0), .int .i64 (v 1), .int .i64 (v 2), .int .i64 (v 3), .int .i64 (v 4), .int .i64 (v 5), .int .i64 (v 6), .int .i64 (v 7), .int .i64 (v 8), .int .i64 (v 9), .int .i64 (v 10), .int .i64 (v 11), .int .i64 (v 12), .int .i64 (v 13), .int .i64 (v 14), .int .i64 (v 15), .int .i64 (v 16), .slice B n cb, .int .i64 (v 18), .int .i64 (v 19), .int .i64 (v 20)] 36)).alloc (.cells #[.int .i64 a, .int .i64 b, .int .i64 c] 34)) (.cells #[.int .i64 0, .int .i64 0, .int .i64 0, .int .i64 0, .int .i64 0, .int .i64 0, .int .i64 0, .int .i64 0, .int .i64 0, .int .i64 0, .int .i64 0, .int .i64 0, .int .i64 0, .int .i64 0, .int .i64 0, .int .i64 0, .int .i64 0, .slice none 0 0, .int .i64 0, .int .i64 0, .int .i64 0] 36)
    rw [hW, hS]; simpa using this
  have m0 := cellb (i := 0) hm rfl
  have HB := Lib.hid hb
  have HM := Lib.hid hm
  have HQ := Lib.hid hq
  have HT := Lib.hid ht
  have HS := Lib.hid (h.below hb)
  have HSW : Hid (w.heap.size = S) := Lib.hid hS.symm
  have q0 : (v 0 != 7) = false := by simp [h0]
  have HOK := Lib.hid hok
  have H0 := Lib.hid h0
  clear hb hm hq ht h hok h0
  go_enter Try.func10, Try.ntmps10
  go_upto_region 1 with fail
  rw [← hS]
  rw [← hW]
  clear hW hS
  go_wp2_with (refine wpList_load_g rfl 36 (.tmp 5) rfl S rfl 36 _ (0, 0) _ HM.out Try.underlying36 rfl (by kernel_rfl) ?_)
  refine (check_7 v B n cb W H0.out).mono ?_
  rintro e w5 ⟨k, rfl, hk, hb⟩
  have hkt : k = true := hk.2 HOK.out
  subst hkt
  clear hk
  have HM5 := Lib.hid (HM.out.below hb (ltb HM.out))
  have HQ5 := Lib.hid ((hb.block (S + 1 + 1) (ltb HQ.out)).trans HQ.out)
  have HT5 := Lib.hid ((hb.block (S + 1) (ltb HT.out)).trans HT.out)
  have HS5 := Lib.hid (HS.out.below hb)
  have HB5 := Lib.hid (HB.out.trans (hb.mono HB.out.size))
  clear hb m0 HM HQ HT HS HB
  obtain ⟨X, hX⟩ : ∃ X, X = w5.heap.size := ⟨_, rfl⟩
  obtain ⟨W6, hW6⟩ : ∃ W6, W6 = w5.alloc (.cells #[.int .i64 190, .int .i64 0, .int .i64 0] 34) := ⟨_, rfl⟩
  have hal : Below w5.heap.size w5 W6 := by rw [hW6]; exact (Below.refl _ _).alloc (Nat.le_refl _) _
  have hx6 : W6.heap[X]? = some (.cells #[.int .i64 190, .int .i64 0, .int .i64 0] 34 (0, 0)) := by rw [hW6, hX]; exact heap_alloc_new _ _
  have HX6 := Lib.hid hx6
  have HM6 := Lib.hid (HM5.out.below hal (ltb HM5.out))
  have HQ6 := Lib.hid ((hal.block (S + 1 + 1) (ltb HQ5.out)).trans HQ5.out)
  have HT6 := Lib.hid ((hal.block (S + 1) (ltb HT5.out)).trans HT5.out)
  have HS6 := Lib.hid (HS5.out.below hal)
  have HB6 := Lib.hid (HB5.out.trans (hal.mono HB5.out.size))
  have hSX : S + 1 + 1 < X := by have := ltb HQ5.out; omega
  clear hal hx6 HM5 HQ5 HT5 HS5 HB5 q0
  go_upto_region 4 with fail
  rw [← hX]
  rw [← hW6]
  clear hW6 hX
  have m1 : W6.cell? ⟨S, 1, none⟩ = some (.int .i64 (v 1)) := cellb (i := 1) HM6.out rfl
  have g0 : W6.cell? ⟨g, 0, none⟩ = some (.int .i64 ep) := cellb (i := 0) HS6.out.blk rfl
  go_quiet (fail)
  obtain ⟨W7, hW7⟩ : ∃ W7, W7 = W6.drewN nq := ⟨_, rfl⟩
  have HM7 : Hid (MAt W7 S v B n cb) := by rw [hW7]; exact HM6
  have HQ7 : Hid (W7.heap[S + 1 + 1]? = some (.cells #[.int .i64 0, .int .i64 0, .int .i64 0, .int .i64 0, .int .i64 0, .int .i64 0, .int .i64 0, .int .i64 0, .int .i64 0, .int .i64 0, .int .i64 0, .int .i64 0, .int .i64 0, .int .i64 0, .int .i64 0, .int .i64 0, .int .i64 0, .slice none 0 0, .int .i64 0, .int .i64 0, .int .i64 0] 36 (0, 0))) := by rw [hW7]; exact HQ6
  have HT7 : Hid (W7.heap[S + 1]? = some (.cells #[.int .i64 a, .int .i64 b, .int .i64 c] 34 (0, 0))) := by rw [hW7]; exact HT6
  have HX7 : Hid (W7.heap[X]? = some (.cells #[.int .i64 190, .int .i64 0, .int .i64 0] 34 (0, 0))) := by rw [hW7]; exact HX6
  have HB7 : Hid (Below w.heap.size w W7) := by rw [hW7]; exact Lib.hid (below_dn (n := nq) HB6.out)
  have HS7 : Hid (SAt W7 g ep M nn f) := by rw [hW7]; exact Lib.hid (HS6.out.below (below_dn (n := nq) (Below.refl _ _)))
  rw [← hW7]
  clear hW7 HM6 HQ6 HT6 HX6 HB6 HS6 m1 g0
  rcases Classical.em (v 1 = ep) with he | he

  rotate_left
  · have b1 : (v 1 == ep) = false := by simp [he]
    have HE := Lib.hid he
    clear he
    have m15 : W7.cell? ⟨S, 15, none⟩ = some (.int .i64 (v 15)) := cellb (i := 15) HM7.out rfl
    have m16 : W7.cell? ⟨S, 16, none⟩ = some (.int .i64 (v 16)) := cellb (i := 16) HM7.out rfl
    have x0 : W7.cell? ⟨X, 0, none⟩ = some (.int .i64 190) := cellb (i := 0) HX7.out rfl
    have x1 : W7.cell? ⟨X, 1, none⟩ = some (.int .i64 0) := cellb (i := 1) HX7.out rfl
    have x2 : W7.cell? ⟨X, 2, none⟩ = some (.int .i64 0) := cellb (i := 2) HX7.out rfl
    go_wp2_with fail
    clear m15 m16 x0 x1 x2
    refine (reply_any g ep M nn f (v 15) (v 16) 190 0 0 W7 HS7.out).mono ?_
    rintro e w8 ⟨k, hk, rfl, hb⟩
    have HK := Lib.hid hk
    have HQ8 := Lib.hid ((hb.block (S + 1 + 1) (ltb HQ7.out)).trans HQ7.out)
    have HB8 := Lib.hid (HB7.out.trans (hb.mono HB7.out.size))
    clear hk hb
    cases k
    · simp only [Bool.false_eq_true, if_false]
      have HQ9 := Lib.hid ((Below.heap_alloc w8 (.cells #[.int .i64 0, .int .i64 0, .int .i64 0, .int .i64 0, .int .i64 0, .int .i64 0, .int .i64 0, .int .i64 0, .int .i64 0, .int .i64 0, .int .i64 0, .int .i64 0, .int .i64 0, .int .i64 0, .int .i64 0, .int .i64 0, .int .i64 0, .slice none 0 0, .int .i64 0, .int .i64 0, .int .i64 0] 36) (S + 1 + 1) (ltb HQ8.out)).trans HQ8.out)
      have HB9 := Lib.hid (HB8.out.alloc HB8.out.size (.cells #[.int .i64 0, .int .i64 0, .int .i64 0, .int .i64 0, .int .i64 0, .int .i64 0, .int .i64 0, .int .i64 0, .int .i64 0, .int .i64 0, .int .i64 0, .int .i64 0, .int .i64 0, .int .i64 0, .int .i64 0, .int .i64 0, .int .i64 0, .slice none 0 0, .int .i64 0, .int .i64 0, .int .i64 0] 36))
      have HRET := Lib.hid (setRow_heap _ (S + 1 + 1) _ #[.int .i64 0, .int .i64 0, .int .i64 0, .int .i64 0, .int .i64 0, .int .i64 0, .int .i64 0, .int .i64 0, .int .i64 0, .int .i64 0, .int .i64 0, .int .i64 0, .int .i64 0, .int .i64 0, .int .i64 0, .int .i64 0, .int .i64 0, .slice none 0 0, .int .i64 0, .int .i64 0, .int .i64 0] _ _ HQ9.out)
      have HBF := Lib.hid (below_setRow (g := S + 1 + 1) HB9.out (by have := HSW.out; omega) #[.int .i64 0, .int .i64 0, .int .i64 0, .int .i64 0, .int .i64 0, .int .i64 0, .int .i64 0, .int .i64 0, .int .i64 0, .int .i64 0, .int .i64 0, .int .i64 0, .int .i64 0, .int .i64 0, .int .i64 0, .int .i64 0, .int .i64 0, .slice none 0 0, .int .i64 0, .int .i64 0, .int .i64 0])
      go_wp2_with (first | (refine wpList_store_row rfl 36 (.tmp 12) (.tmp 76) rfl w8.heap.size _ rfl rfl 36 _ (heap_alloc_new w8 _) (by kernel_rfl) rfl (by simp [Value.oneCell']) ?_; rw [World.setRow_alloc_new]) | (refine wpList_store_row rfl 36 (.tmp 9) (.tmp 80) rfl (S + 1 + 1) _ rfl rfl 36 _ HQ9.out (by kernel_rfl) rfl (by simp [Value.oneCell']) ?_))
      refine bodyPost_ret (v := .tuple #[.int .i64 0, .agg #[.int .i64 0, .int .i64 0, .int .i64 0, .int .i64 0, .int .i64 0, .int .i64 0, .int .i64 0, .int .i64 0, .int .i64 0, .int .i64 0, .int .i64 0, .int .i64 0, .int .i64 0, .int .i64 0, .int .i64 0, .int .i64 0, .int .i64 0, .slice none 0 0, .int .i64 0, .int .i64 0, .int .i64 0]]) (results_look _ _ (S + 1 + 1) _ rfl HRET.out rfl) rfl ?_
      refine ⟨?_, HBF.out⟩
      unfold LookPost; rw [if_neg HE.out]
      exact ⟨false, HK.out, rfl⟩
    · simp only [if_true]
      have HQ9 := Lib.hid ((Below.heap_alloc w8 (.cells #[.int .i64 8, .int .i64 ep, .int .i64 0, .int .i64 0, .int .i64 0, .int .i64 0, .int .i64 0, .int .i64 0, .int .i64 0, .int .i64 0, .int .i64 0, .int .i64 0, .int .i64 0, .int .i64 0, .int .i64 0, .int .i64 (v 15), .int .i64 (v 16), .slice none 0 0, .int .i64 190, .int .i64 0, .int .i64 0] 36) (S + 1 + 1) (ltb HQ8.out)).trans HQ8.out)
      have HB9 := Lib.hid (HB8.out.alloc HB8.out.size (.cells #[.int .i64 8, .int .i64 ep, .int .i64 0, .int .i64 0, .int .i64 0, .int .i64 0, .int .i64 0, .int .i64 0, .int .i64 0, .int .i64 0, .int .i64 0, .int .i64 0, .int .i64 0, .int .i64 0, .int .i64 0, .int .i64 (v 15), .int .i64 (v 16), .slice none 0 0, .int .i64 190, .int .i64 0, .int .i64 0] 36))
      have HY9 := Lib.hid (heap_alloc_new w8 (.cells #[.int .i64 8, .int .i64 ep, .int .i64 0, .int .i64 0, .int .i64 0, .int .i64 0, .int .i64 0, .int .i64 0, .int .i64 0, .int .i64 0, .int .i64 0, .int .i64 0, .int .i64 0, .int .i64 0, .int .i64 0, .int .i64 (v 15), .int .i64 (v 16), .slice none 0 0, .int .i64 190, .int .i64 0, .int .i64 0] 36))
      obtain ⟨Y, hY⟩ : ∃ Y, Y = w8.heap.size := ⟨_, rfl⟩
      rw [← hY] at HY9
      go_wp2_with (refine wpList_store_row rfl 36 (.tmp 12) (.tmp 76) rfl w8.heap.size _ rfl rfl 36 _ (heap_alloc_new w8 _) (by kernel_rfl) rfl (by simp [Value.oneCell']) ?_; rw [World.setRow_alloc_new])
      rw [← hY]
      have hYS : Y ≠ S + 1 + 1 := by have := ltb HQ8.out; omega
      clear hY HQ8 HB8
      generalize w8.alloc (.cells #[.int .i64 8, .int .i64 ep, .int .i64 0, .int .i64 0, .int .i64 0, .int .i64 0, .int .i64 0, .int .i64 0, .int .i64 0, .int .i64 0, .int .i64 0, .int .i64 0, .int .i64 0, .int .i64 0, .int .i64 0, .int .i64 (v 15), .int .i64 (v 16), .slice none 0 0, .int .i64 190, .int .i64 0, .int .i64 0] 36) = w9 at HQ9 HB9 HY9 ⊢
      have d0 : w9.drew.heap[Y]? = some (.cells #[.int .i64 8, .int .i64 ep, .int .i64 0, .int .i64 0, .int .i64 0, .int .i64 0, .int .i64 0, .int .i64 0, .int .i64 0, .int .i64 0, .int .i64 0, .int .i64 0, .int .i64 0, .int .i64 0, .int .i64 0, .int .i64 (v 15), .int .i64 (v 16), .slice none 0 0, .int .i64 190, .int .i64 0, .int .i64 0] 36 (0, 0)) := HY9.out
      have HQd : Hid (w9.drew.heap[S + 1 + 1]? = some (.cells #[.int .i64 0, .int .i64 0, .int .i64 0, .int .i64 0, .int .i64 0, .int .i64 0, .int .i64 0, .int .i64 0, .int .i64 0, .int .i64 0, .int .i64 0, .int .i64 0, .int .i64 0, .int .i64 0, .int .i64 0, .int .i64 0, .int .i64 0, .slice none 0 0, .int .i64 0, .int .i64 0, .int .i64 0] 36 (0, 0))) := HQ9
      refine wp_region_noPanic ?_
      refine wp_region_held_drew (S := fun w' => w'.heap[Y]? = some (.cells #[.int .i64 8, .int .i64 ep, .int .i64 0, .int .i64 0, .int .i64 0, .int .i64 0, .int .i64 0, .int .i64 0, .int .i64 0, .int .i64 0, .int .i64 0, .int .i64 0, .int .i64 0, .int .i64 0, .int .i64 0, .int .i64 (v 15), .int .i64 (v 16), .slice none 0 0, .int .i64 190, .int .i64 0, .int .i64 0] 36 (0, 0))) (by kernel_rfl) ?_ (fun hHeld => ?_)
      · try dsimp only
        (refine ?_ <;> (first | with_reducible assumption))
      refine wpAnyH_take (i := 0) (v := ?_) (by (simp only [List.getElem?_toArray, List.getElem?_cons_zero]; rfl)) (by kernel_rfl) (by kernel_rfl) (by kernel_rfl) (fun _ _ _ h => h) (Or.inl ⟨by rfl, ?_⟩) (by assumption) ?_
      rotate_left
      · intro w hSw
        try dsimp only at hSw
        refine take_load (x := .tmp 12) (ty := 36) ?_ Y ?_ 36 _ (0, 0) _ hSw Try.underlying36 rfl (by kernel_rfl)
        all_goals rfl
      try simp only [Act.put, List.setIfInBounds_toArray, List.set_cons_zero, List.set_cons_succ]
      refine wpAnyH_take (i := 1) (v := ?_) (by (simp only [List.getElem?_toArray, List.getElem?_cons_succ, List.getElem?_cons_zero]; rfl)) (by kernel_rfl) (by kernel_rfl) (by kernel_rfl) (fun _ _ _ h => h) (Or.inl ⟨by rfl, ?_⟩) (by assumption) ?_
      rotate_left
      · (intro w hSw; (try dsimp only at hSw); go_simp; try with_reducible rfl)
      try simp only [Act.put, List.setIfInBounds_toArray, List.set_cons_zero, List.set_cons_succ]
      refine wpAnyH_ready (rs := [2]) (by kernel_rfl) (by simp) ?_
      refine AllReadyH.cons (by (simp only [List.getElem?_toArray, List.getElem?_cons_succ, List.getElem?_cons_zero]; rfl)) (fun K hK => ?_) AllReadyH.nil
      refine wp_store_row 36 (.tmp 9) (.tmp 81) rfl (S + 1 + 1) _ rfl rfl 36 _ HQd.out (by kernel_rfl) rfl (by simp [Value.oneCell']) ?_
      have y0 : (w9.drew.setRow (S + 1 + 1) #[.int .i64 8, .int .i64 ep, .int .i64 0, .int .i64 0, .int .i64 0, .int .i64 0, .int .i64 0, .int .i64 0, .int .i64 0, .int .i64 0, .int .i64 0, .int .i64 0, .int .i64 0, .int .i64 0, .int .i64 0, .int .i64 (v 15), .int .i64 (v 16), .slice none 0 0, .int .i64 190, .int .i64 0, .int .i64 0]).heap[Y]? = some (.cells #[.int .i64 8, .int .i64 ep, .int .i64 0, .int .i64 0, .int .i64 0, .int .i64 0, .int .i64 0, .int .i64 0, .int .i64 0, .int .i64 0, .int .i64 0, .int .i64 0, .int .i64 0, .int .i64 0, .int .i64 0, .int .i64 (v 15), .int .i64 (v 16), .slice none 0 0, .int .i64 190, .int .i64 0, .int .i64 0] 36 (0, 0)) := (setRow_other _ _ _ _ hYS).trans d0
      refine hK.out _ _ ?_ (fun hHeld => ?_)
      · try dsimp only
        (refine ?_ <;> (first | with_reducible assumption))
      clear hK K
      try simp only [Act.put]
      refine wpAnyH_done (by kernel_rfl) ?_ _
      refine NoPanic.normal ?_
      clear hHeld d0 y0
      have HRET := Lib.hid (setRow_heap w9.drew (S + 1 + 1) _ #[.int .i64 8, .int .i64 ep, .int .i64 0, .int .i64 0, .int .i64 0, .int .i64 0, .int .i64 0, .int .i64 0, .int .i64 0, .int .i64 0, .int .i64 0, .int .i64 0, .int .i64 0, .int .i64 0, .int .i64 0, .int .i64 (v 15), .int .i64 (v 16), .slice none 0 0, .int .i64 190, .int .i64 0, .int .i64 0] _ _ HQd.out)
      have HBF := Lib.hid (below_setRow (g := S + 1 + 1) HB9.out.drew (by have := HSW.out; omega) #[.int .i64 8, .int .i64 ep, .int .i64 0, .int .i64 0, .int .i64 0, .int .i64 0, .int .i64 0, .int .i64 0, .int .i64 0, .int .i64 0, .int .i64 0, .int .i64 0, .int .i64 0, .int .i64 0, .int .i64 0, .int .i64 (v 15), .int .i64 (v 16), .slice none 0 0, .int .i64 190, .int .i64 0, .int .i64 0])
      go_wp2_with fail
      refine bodyPost_ret (v := .tuple #[.int .i64 1, .agg #[.int .i64 8, .int .i64 ep, .int .i64 0, .int .i64 0, .int .i64 0, .int .i64 0, .int .i64 0, .int .i64 0, .int .i64 0, .int .i64 0, .int .i64 0, .int .i64 0, .int .i64 0, .int .i64 0, .int .i64 0, .int .i64 (v 15), .int .i64 (v 16), .slice none 0 0, .int .i64 190, .int .i64 0, .int .i64 0]]) (results_look _ _ (S + 1 + 1) _ rfl HRET.out rfl) rfl ?_
      refine ⟨?_, HBF.out⟩
      unfold LookPost; rw [if_neg HE.out]
      exact ⟨true, ⟨fun _ => HK.out.1 trivial, fun _ => rfl⟩, rfl⟩
  · have b1 : (v 1 == ep) = true := by simp [he]
    have HE := Lib.hid he
    clear he
    obtain ⟨k0, hk0⟩ : ∃ k, k = f (v 15) := ⟨_, rfl⟩
    obtain ⟨kq, k1, k2, k3⟩ := k0
    have hlk : ∀ W : World, SAt W g ep M nn f → (Instr.lookup 79 (.map (some M)) (.int .i64 (v 15)) false).run Try.prog W = .ok (.agg #[.int .i64 kq, .int .i64 k1, .int .i64 k2, .int .i64 k3]) W := fun W h => by
      have := h.map.look (v 15) hwf
      rw [← hk0] at this
      exact this
    have HF15 := Lib.hid hk0.symm
    have HLK := Lib.hid hlk
    clear hlk hk0
    go_wp2_with fail
    have HSd : Hid (SAt W7.drew g ep M nn f) := Lib.hid (HS7.out.below (Below.refl W7.heap.size W7).drew)
    have d0 : W7.drew.cell? ⟨g, 1, none⟩ = some (.map (some M)) := cellb (i := 1) HSd.out.blk rfl
    have d1 : W7.drew.cell? ⟨S, 15, none⟩ = some (.int .i64 (v 15)) := cellb (i := 15) HM7.out rfl
    have d2 := HLK.out _ HSd.out
    refine wp_region_noPanic ?_
    refine wp_region_held_drew (S := fun w' => w'.cell? ⟨g, 1, none⟩ = some (.map (some M)) ∧ w'.cell? ⟨S, 15, none⟩ = some (.int .i64 (v 15)) ∧ (Instr.lookup 79 (.map (some M)) (.int .i64 (v 15)) false).run Try.prog w' = .ok (.agg #[.int .i64 kq, .int .i64 k1, .int .i64 k2, .int .i64 k3]) w') (by kernel_rfl) ?_ (fun hHeld => ?_)
    · try dsimp only
      (refine ⟨?_, ?_, ?_⟩ <;> (first | with_reducible assumption))
    refine wpAnyH_take (i := 0) (v := ?_) (by (simp only [List.getElem?_toArray, List.getElem?_cons_zero]; rfl)) (by kernel_rfl) (by kernel_rfl) (by kernel_rfl) (fun _ _ _ h => h) (Or.inl ⟨by rfl, ?_⟩) (by assumption) ?_
    rotate_left
    · (intro w hSw; (try dsimp only at hSw); go_simp; try with_reducible rfl)
    try simp only [Act.put, List.setIfInBounds_toArray, List.set_cons_zero, List.set_cons_succ]
    refine wpAnyH_take (i := 1) (v := ?_) (by (simp only [List.getElem?_toArray, List.getElem?_cons_succ, List.getElem?_cons_zero]; rfl)) (by kernel_rfl) (by kernel_rfl) (by kernel_rfl) (fun _ _ _ h => h) (Or.inl ⟨by rfl, ?_⟩) (by assumption) ?_
    rotate_left
    · (intro w hSw; (try dsimp only at hSw); go_simp; try with_reducible rfl)
    try simp only [Act.put, List.setIfInBounds_toArray, List.set_cons_zero, List.set_cons_succ]
    refine wpAnyH_take (i := 2) (v := ?_) (by (simp only [List.getElem?_toArray, List.getElem?_cons_succ, List.getElem?_cons_zero]; rfl)) (by kernel_rfl) (by kernel_rfl) (by kernel_rfl) (fun _ _ _ h => h) (Or.inl ⟨by rfl, ?_⟩) (by assumption) ?_
    rotate_left
    · (intro w hSw; (try dsimp only at hSw); go_simp; try with_reducible rfl)
    try simp only [Act.put, List.setIfInBounds_toArray, List.set_cons_zero, List.set_cons_succ]
    refine wpAnyH_take (i := 3) (v := ?_) (by (simp only [List.getElem?_toArray, List.getElem?_cons_succ, List.getElem?_cons_zero]; rfl)) (by kernel_rfl) (by kernel_rfl) (by kernel_rfl) (fun _ _ _ h => h) (Or.inl ⟨by rfl, ?_⟩) (by assumption) ?_
    rotate_left
    · (intro w hSw; (try dsimp only at hSw); go_simp; try with_reducible rfl)
    try simp only [Act.put, List.setIfInBounds_toArray, List.set_cons_zero, List.set_cons_succ]
    refine wpAnyH_take (i := 4) (v := ?_) (by (simp only [List.getElem?_toArray, List.getElem?_cons_succ, List.getElem?_cons_zero]; rfl)) (by kernel_rfl) (by kernel_rfl) (by kernel_rfl) (fun _ _ _ h => h) (Or.inl ⟨by rfl, ?_⟩) (by assumption) ?_
    rotate_left
    · (intro w hSw; (try dsimp only at hSw); go_simp; try with_reducible rfl)
    try simp only [Act.put, List.setIfInBounds_toArray, List.set_cons_zero, List.set_cons_succ]
    refine wpAnyH_take (i := 5) (v := ?_) (by (simp only [List.getElem?_toArray, List.getElem?_cons_succ, List.getElem?_cons_zero]; rfl)) (by kernel_rfl) (by kernel_rfl) (by kernel_rfl) (fun _ _ _ h => h) (Or.inl ⟨by rfl, ?_⟩) (by assumption) ?_
    rotate_left
    · (intro w hSw; (try dsimp only at hSw); go_simp; try with_reducible rfl)
    try simp only [Act.put, List.setIfInBounds_toArray, List.set_cons_zero, List.set_cons_succ]
    refine wpAnyH_take (i := 6) (v := ?_) (by (simp only [List.getElem?_toArray, List.getElem?_cons_succ, List.getElem?_cons_zero]; rfl)) (by kernel_rfl) (by kernel_rfl) (by kernel_rfl) (fun _ _ _ h => h) (Or.inl ⟨by rfl, ?_⟩) (by assumption) ?_
    rotate_left
    · (intro w hSw; (try dsimp only at hSw); go_simp; try with_reducible rfl)
    try simp only [Act.put, List.setIfInBounds_toArray, List.set_cons_zero, List.set_cons_succ]
    refine wpAnyH_ready (rs := [7]) (by kernel_rfl) (by simp) ?_
    refine AllReadyH.cons (by (simp only [List.getElem?_toArray, List.getElem?_cons_succ, List.getElem?_cons_zero]; rfl)) (fun K hK => ?_) AllReadyH.nil
    go_simp
    obtain ⟨Y, hY⟩ : ∃ x, x = W7.heap.size := ⟨_, rfl⟩
    have hy8 : (W7.alloc (.cells #[.int .i64 0, .int .i64 0, .int .i64 0, .int .i64 0] 84)).drew.heap[Y]? = some (.cells #[.int .i64 0, .int .i64 0, .int .i64 0, .int .i64 0] 84 (0, 0)) := by rw [hY]; exact heap_alloc_new W7 _
    have hb8 : Below W7.heap.size W7 (W7.alloc (.cells #[.int .i64 0, .int .i64 0, .int .i64 0, .int .i64 0] 84)).drew := ((Below.refl W7.heap.size W7).alloc (Nat.le_refl _) _).drew
    have e0 : (W7.alloc (.cells #[.int .i64 0, .int .i64 0, .int .i64 0, .int .i64 0] 84)).drew.cell? ⟨g, 1, none⟩ = some (.map (some M)) := keepA (w := W7) d0
    have e1 : (W7.alloc (.cells #[.int .i64 0, .int .i64 0, .int .i64 0, .int .i64 0] 84)).drew.cell? ⟨S, 15, none⟩ = some (.int .i64 (v 15)) := keepA (w := W7) d1
    have e2 : (Instr.lookup 79 (.map (some M)) (.int .i64 (v 15)) false).run Try.prog (W7.alloc (.cells #[.int .i64 0, .int .i64 0, .int .i64 0, .int .i64 0] 84)).drew = .ok (.agg #[.int .i64 kq, .int .i64 k1, .int .i64 k2, .int .i64 k3]) (W7.alloc (.cells #[.int .i64 0, .int .i64 0, .int .i64 0, .int .i64 0] 84)).drew := HLK.out _ (HS7.out.below hb8)
    rw [← hY]
    have HY8 := Lib.hid hy8
    have HB8 := Lib.hid hb8
    have HYW := Lib.hid hY
    clear hy8 hb8 hY
    generalize (W7.alloc (.cells #[.int .i64 0, .int .i64 0, .int .i64 0, .int .i64 0] 84)).drew = w8 at e0 e1 e2 HY8 HB8 ⊢
    refine hK.out _ _ ?_ (fun hHeld => ?_)
    · try dsimp only
      (refine ⟨?_, ?_, ?_⟩ <;> (first | with_reducible assumption))
    clear hK K
    try simp only [Act.put, List.setIfInBounds_toArray, List.set_cons_zero, List.set_cons_succ]
    refine wpAnyH_ready (rs := [8]) (by kernel_rfl) (by simp) ?_
    refine AllReadyH.cons (by (simp only [List.getElem?_toArray, List.getElem?_cons_succ, List.getElem?_cons_zero]; rfl)) (fun K hK => ?_) AllReadyH.nil
    have hb9 : Below W7.heap.size W7 (w8.setRow Y #[.int .i64 kq, .int .i64 k1, .int .i64 k2, .int .i64 k3]) := below_setRow HB8.out (by have := HYW.out; omega) _
    refine wp_store_row 84 (.tmp 11) (.tmp 41) rfl Y _ rfl rfl 84 _ HY8.out (by kernel_rfl) rfl (by simp [Value.oneCell']) ?_
    have y0 : (w8.setRow Y #[.int .i64 kq, .int .i64 k1, .int .i64 k2, .int .i64 k3]).cell? ⟨g, 1, none⟩ = some (.map (some M)) := (hb9.cell (p := ⟨g, 1, none⟩) HS7.out.glt).trans d0
    have y1 : (w8.setRow Y #[.int .i64 kq, .int .i64 k1, .int .i64 k2, .int .i64 k3]).cell? ⟨S, 15, none⟩ = some (.int .i64 (v 15)) := (hb9.cell (p := ⟨S, 15, none⟩) (ltb HM7.out)).trans d1
    have y2 : (Instr.lookup 79 (.map (some M)) (.int .i64 (v 15)) false).run Try.prog (w8.setRow Y #[.int .i64 kq, .int .i64 k1, .int .i64 k2, .int .i64 k3]) = .ok (.agg #[.int .i64 kq, .int .i64 k1, .int .i64 k2, .int .i64 k3]) (w8.setRow Y #[.int .i64 kq, .int .i64 k1, .int .i64 k2, .int .i64 k3]) := HLK.out _ (HS7.out.below hb9)
    refine hK.out _ _ ?_ (fun hHeld => ?_)
    · try dsimp only
      (refine ⟨?_, ?_, ?_⟩ <;> (first | with_reducible assumption))
    clear hK K
    try simp only [Act.put]
    refine wpAnyH_done (by kernel_rfl) ?_ _
    refine NoPanic.normal ?_
    clear hHeld d0 d1 d2 e0 e1 e2 y0 y1 y2
    have HB9 := Lib.hid hb9
    have HY9 := Lib.hid (setRow_heap w8 Y _ #[.int .i64 kq, .int .i64 k1, .int .i64 k2, .int .i64 k3] _ _ HY8.out)
    clear hb9 HY8 HB8
    generalize (w8.setRow Y #[.int .i64 kq, .int .i64 k1, .int .i64 k2, .int .i64 k3]) = w9 at HB9 HY9 ⊢
    have hYg : S + 1 + 1 < Y ∧ X < Y := by have := HYW.out; have := ltb HQ7.out; have := ltb HX7.out; omega
    obtain ⟨hYS, hXY⟩ := hYg
    have HM9 := Lib.hid (HM7.out.below HB9.out (ltb HM7.out))
    have HQ9 := Lib.hid ((HB9.out.block (S + 1 + 1) (ltb HQ7.out)).trans HQ7.out)
    have HT9 := Lib.hid ((HB9.out.block (S + 1) (ltb HT7.out)).trans HT7.out)
    have HX9 := Lib.hid ((HB9.out.block X (ltb HX7.out)).trans HX7.out)
    have HS9 := Lib.hid (HS7.out.below HB9.out)
    have HBW9 := Lib.hid (HB7.out.trans (HB9.out.mono HB7.out.size))
    clear HM7 HQ7 HT7 HX7 HS7 HB7 HB9 HSd HLK HYW b1
    have p0 : w9.cell? ⟨Y, 0, none⟩ = some (.int .i64 kq) := cellb (i := 0) HY9.out rfl
    have p1 : w9.cell? ⟨Y, 1, none⟩ = some (.int .i64 k1) := cellb (i := 1) HY9.out rfl
    have p2 : w9.cell? ⟨Y, 2, none⟩ = some (.int .i64 k2) := cellb (i := 2) HY9.out rfl
    have p3 : w9.cell? ⟨Y, 3, none⟩ = some (.int .i64 k3) := cellb (i := 3) HY9.out rfl
    have z0 : w9.cell? ⟨S + 1, 0, none⟩ = some (.int .i64 a) := cellb (i := 0) HT9.out rfl
    have z1 : w9.cell? ⟨S + 1, 1, none⟩ = some (.int .i64 b) := cellb (i := 1) HT9.out rfl
    have z2 : w9.cell? ⟨S + 1, 2, none⟩ = some (.int .i64 c) := cellb (i := 2) HT9.out rfl
    have m16 : w9.cell? ⟨S, 16, none⟩ = some (.int .i64 (v 16)) := cellb (i := 16) HM9.out rfl
    rcases Classical.em (kq = 0 ∧ k1 = 0 ∧ k2 = 0 ∧ k3 = 0) with hz | hz
    · have qe : ∀ w, (Go.binOp .eql 84 (.agg #[.int .i64 kq, .int .i64 k1, .int .i64 k2, .int .i64 k3]) (.agg #[.int .i64 0, .int .i64 0, .int .i64 0, .int .i64 0])).run Try.prog w = .ok (.bool true) w := fun w => by rw [eq_kept]; simp [hz]
      have HKK : Hid (lookK (f (v 15)) last a b c = ⟨last, a, b, c⟩) := Lib.hid (by rw [HF15.out]; unfold lookK; rw [if_pos (.inl hz)])
      clear hz
      obtain ⟨w10, hw10⟩ : ∃ W, W = w9.setRow Y #[.int .i64 last, .int .i64 a, .int .i64 b, .int .i64 c] := ⟨_, rfl⟩
      have HY10 : Hid (w10.heap[Y]? = some (.cells #[.int .i64 last, .int .i64 a, .int .i64 b, .int .i64 c] 84 (0, 0))) := Lib.hid (by rw [hw10]; exact setRow_heap _ Y _ _ _ _ HY9.out)
      have HM10 : Hid (MAt w10 S v B n cb) := Lib.hid (by rw [hw10]; exact (setRow_other _ Y S _ (by omega)).trans HM9.out)
      have HQ10 : Hid (w10.heap[S + 1 + 1]? = some (.cells #[.int .i64 0, .int .i64 0, .int .i64 0, .int .i64 0, .int .i64 0, .int .i64 0, .int .i64 0, .int .i64 0, .int .i64 0, .int .i64 0, .int .i64 0, .int .i64 0, .int .i64 0, .int .i64 0, .int .i64 0, .int .i64 0, .int .i64 0, .slice none 0 0, .int .i64 0, .int .i64 0, .int .i64 0] 36 (0, 0))) := Lib.hid (by rw [hw10]; exact (setRow_other _ Y (S + 1 + 1) _ (by omega)).trans HQ9.out)
      have HX10 : Hid (w10.heap[X]? = some (.cells #[.int .i64 190, .int .i64 0, .int .i64 0] 34 (0, 0))) := Lib.hid (by rw [hw10]; exact (setRow_other _ Y X _ (by omega)).trans HX9.out)
      have HB10 : Hid (Below w.heap.size w w10) := Lib.hid (by rw [hw10]; exact below_setRow HBW9.out (by have := HSW.out; omega) _)
      have HS10 : Hid (SAt w10 g ep M nn f) := Lib.hid (by rw [hw10]; exact SAt.offX HS9.out HY9.out (by have := HSW.out; omega) _)
      go_upto_region 8 with (refine wpList_store_row rfl 84 (.tmp 11) (.tmp 53) rfl Y _ rfl rfl 84 _ HY9.out (by kernel_rfl) rfl (by simp [Value.oneCell']) ?_)
      rw [← hw10]
      clear hw10 p0 p1 p2 p3 m16 z0 z1 z2
      have p0 : w10.cell? ⟨Y, 0, none⟩ = some (.int .i64 last) := cellb (i := 0) HY10.out rfl
      have p1 : w10.cell? ⟨Y, 1, none⟩ = some (.int .i64 a) := cellb (i := 1) HY10.out rfl
      have p2 : w10.cell? ⟨Y, 2, none⟩ = some (.int .i64 b) := cellb (i := 2) HY10.out rfl
      have p3 : w10.cell? ⟨Y, 3, none⟩ = some (.int .i64 c) := cellb (i := 3) HY10.out rfl
      have m16 : w10.cell? ⟨S, 16, none⟩ = some (.int .i64 (v 16)) := cellb (i := 16) HM10.out rfl
      rcases Classical.em (last < v 16) with g1 | g1
      · have G1 := Lib.hid g1
        have HRET := Lib.hid (setRow_heap _ (S + 1 + 1) _ #[.int .i64 0, .int .i64 0, .int .i64 0, .int .i64 0, .int .i64 0, .int .i64 0, .int .i64 0, .int .i64 0, .int .i64 0, .int .i64 0, .int .i64 0, .int .i64 0, .int .i64 0, .int .i64 0, .int .i64 0, .int .i64 0, .int .i64 0, .slice none 0 0, .int .i64 0, .int .i64 0, .int .i64 0] _ _ HQ10.out)
        have HBF := Lib.hid (below_setRow (g := S + 1 + 1) HB10.out (by have := HSW.out; omega) #[.int .i64 0, .int .i64 0, .int .i64 0, .int .i64 0, .int .i64 0, .int .i64 0, .int .i64 0, .int .i64 0, .int .i64 0, .int .i64 0, .int .i64 0, .int .i64 0, .int .i64 0, .int .i64 0, .int .i64 0, .int .i64 0, .int .i64 0, .slice none 0 0, .int .i64 0, .int .i64 0, .int .i64 0])
        go_wp2_with (refine wpList_store_row rfl 36 (.tmp 9) (.tmp 59) rfl (S + 1 + 1) _ rfl rfl 36 _ HQ10.out (by kernel_rfl) rfl (by simp [Value.oneCell']) ?_)
        refine bodyPost_ret (v := .tuple #[.int .i64 2, .agg #[.int .i64 0, .int .i64 0, .int .i64 0, .int .i64 0, .int .i64 0, .int .i64 0, .int .i64 0, .int .i64 0, .int .i64 0, .int .i64 0, .int .i64 0, .int .i64 0, .int .i64 0, .int .i64 0, .int .i64 0, .int .i64 0, .int .i64 0, .slice none 0 0, .int .i64 0, .int .i64 0, .int .i64 0]]) (results_look _ _ (S + 1 + 1) _ rfl HRET.out rfl) rfl ?_
        refine ⟨?_, HBF.out⟩
        unfold LookPost
        rw [if_pos HE.out, HKK.out, if_pos G1.out]
      rcases Classical.em (v 16 < last) with g2 | g2
      · have G1 := Lib.hid g1
        have G2 := Lib.hid g2
        have HRET := Lib.hid (setRow_heap _ (S + 1 + 1) _ #[.int .i64 0, .int .i64 0, .int .i64 0, .int .i64 0, .int .i64 0, .int .i64 0, .int .i64 0, .int .i64 0, .int .i64 0, .int .i64 0, .int .i64 0, .int .i64 0, .int .i64 0, .int .i64 0, .int .i64 0, .int .i64 0, .int .i64 0, .slice none 0 0, .int .i64 0, .int .i64 0, .int .i64 0] _ _ HQ10.out)
        have HBF := Lib.hid (below_setRow (g := S + 1 + 1) HB10.out (by have := HSW.out; omega) #[.int .i64 0, .int .i64 0, .int .i64 0, .int .i64 0, .int .i64 0, .int .i64 0, .int .i64 0, .int .i64 0, .int .i64 0, .int .i64 0, .int .i64 0, .int .i64 0, .int .i64 0, .int .i64 0, .int .i64 0, .int .i64 0, .int .i64 0, .slice none 0 0, .int .i64 0, .int .i64 0, .int .i64 0])
        go_wp2_with (refine wpList_store_row rfl 36 (.tmp 9) (.tmp 65) rfl (S + 1 + 1) _ rfl rfl 36 _ HQ10.out (by kernel_rfl) rfl (by simp [Value.oneCell']) ?_)
        refine bodyPost_ret (v := .tuple #[.int .i64 0, .agg #[.int .i64 0, .int .i64 0, .int .i64 0, .int .i64 0, .int .i64 0, .int .i64 0, .int .i64 0, .int .i64 0, .int .i64 0, .int .i64 0, .int .i64 0, .int .i64 0, .int .i64 0, .int .i64 0, .int .i64 0, .int .i64 0, .int .i64 0, .slice none 0 0, .int .i64 0, .int .i64 0, .int .i64 0]]) (results_look _ _ (S + 1 + 1) _ rfl HRET.out rfl) rfl ?_
        refine ⟨?_, HBF.out⟩
        unfold LookPost
        rw [if_pos HE.out, HKK.out, if_neg (show ¬ last < v 16 by have := G1.out; omega), if_pos G2.out]
      have G1 := Lib.hid g1
      have G2 := Lib.hid g2
      obtain ⟨w11, hw11⟩ : ∃ W, W = w10.setRow X #[.int .i64 a, .int .i64 b, .int .i64 c] := ⟨_, rfl⟩
      have HX11 : Hid (w11.heap[X]? = some (.cells #[.int .i64 a, .int .i64 b, .int .i64 c] 34 (0, 0))) := Lib.hid (by rw [hw11]; exact setRow_heap _ X _ _ _ _ HX10.out)
      have HM11 : Hid (MAt w11 S v B n cb) := Lib.hid (by rw [hw11]; exact (setRow_other _ X S _ (by omega)).trans HM10.out)
      have HQ11 : Hid (w11.heap[S + 1 + 1]? = some (.cells #[.int .i64 0, .int .i64 0, .int .i64 0, .int .i64 0, .int .i64 0, .int .i64 0, .int .i64 0, .int .i64 0, .int .i64 0, .int .i64 0, .int .i64 0, .int .i64 0, .int .i64 0, .int .i64 0, .int .i64 0, .int .i64 0, .int .i64 0, .slice none 0 0, .int .i64 0, .int .i64 0, .int .i64 0] 36 (0, 0))) := Lib.hid (by rw [hw11]; exact (setRow_other _ X (S + 1 + 1) _ (by omega)).trans HQ10.out)
      have HB11 : Hid (Below w.heap.size w w11) := Lib.hid (by rw [hw11]; exact below_setRow HB10.out (by have := HSW.out; omega) _)
      have HS11 : Hid (SAt w11 g ep M nn f) := Lib.hid (by rw [hw11]; exact SAt.offX HS10.out HX10.out (by have := HSW.out; omega) _)
      go_upto_region 13 with (refine wpList_store_row rfl 34 (.tmp 10) (.tmp 67) rfl X _ rfl rfl 34 _ HX10.out (by kernel_rfl) rfl (by simp [Value.oneCell']) ?_)
      rw [← hw11]
      clear hw11 m16 p0 p1 p2 p3
      have m15 : w11.cell? ⟨S, 15, none⟩ = some (.int .i64 (v 15)) := cellb (i := 15) HM11.out rfl
      have m16 : w11.cell? ⟨S, 16, none⟩ = some (.int .i64 (v 16)) := cellb (i := 16) HM11.out rfl
      have x0 : w11.cell? ⟨X, 0, none⟩ = some (.int .i64 a) := cellb (i := 0) HX11.out rfl
      have x1 : w11.cell? ⟨X, 1, none⟩ = some (.int .i64 b) := cellb (i := 1) HX11.out rfl
      have x2 : w11.cell? ⟨X, 2, none⟩ = some (.int .i64 c) := cellb (i := 2) HX11.out rfl
      go_wp2_with fail
      clear m15 m16 x0 x1 x2
      refine (reply_any g ep M nn f (v 15) (v 16) a b c w11 HS11.out).mono ?_
      rintro e w8 ⟨k, hk, rfl, hb⟩
      have HK := Lib.hid hk
      have HQ8 := Lib.hid ((hb.block (S + 1 + 1) (ltb HQ11.out)).trans HQ11.out)
      have HB8 := Lib.hid (HB11.out.trans (hb.mono HB11.out.size))
      clear hk hb
      cases k
      · simp only [Bool.false_eq_true, if_false]
        have HQ9 := Lib.hid ((Below.heap_alloc w8 (.cells #[.int .i64 0, .int .i64 0, .int .i64 0, .int .i64 0, .int .i64 0, .int .i64 0, .int .i64 0, .int .i64 0, .int .i64 0, .int .i64 0, .int .i64 0, .int .i64 0, .int .i64 0, .int .i64 0, .int .i64 0, .int .i64 0, .int .i64 0, .slice none 0 0, .int .i64 0, .int .i64 0, .int .i64 0] 36) (S + 1 + 1) (ltb HQ8.out)).trans HQ8.out)
        have HB9 := Lib.hid (HB8.out.alloc HB8.out.size (.cells #[.int .i64 0, .int .i64 0, .int .i64 0, .int .i64 0, .int .i64 0, .int .i64 0, .int .i64 0, .int .i64 0, .int .i64 0, .int .i64 0, .int .i64 0, .int .i64 0, .int .i64 0, .int .i64 0, .int .i64 0, .int .i64 0, .int .i64 0, .slice none 0 0, .int .i64 0, .int .i64 0, .int .i64 0] 36))
        have HRET := Lib.hid (setRow_heap _ (S + 1 + 1) _ #[.int .i64 0, .int .i64 0, .int .i64 0, .int .i64 0, .int .i64 0, .int .i64 0, .int .i64 0, .int .i64 0, .int .i64 0, .int .i64 0, .int .i64 0, .int .i64 0, .int .i64 0, .int .i64 0, .int .i64 0, .int .i64 0, .int .i64 0, .slice none 0 0, .int .i64 0, .int .i64 0, .int .i64 0] _ _ HQ9.out)
        have HBF := Lib.hid (below_setRow (g := S + 1 + 1) HB9.out (by have := HSW.out; omega) #[.int .i64 0, .int .i64 0, .int .i64 0, .int .i64 0, .int .i64 0, .int .i64 0, .int .i64 0, .int .i64 0, .int .i64 0, .int .i64 0, .int .i64 0, .int .i64 0, .int .i64 0, .int .i64 0, .int .i64 0, .int .i64 0, .int .i64 0, .slice none 0 0, .int .i64 0, .int .i64 0, .int .i64 0])
        go_wp2_with (first | (refine wpList_store_row rfl 36 (.tmp 12) (.tmp 76) rfl w8.heap.size _ rfl rfl 36 _ (heap_alloc_new w8 _) (by kernel_rfl) rfl (by simp [Value.oneCell']) ?_; rw [World.setRow_alloc_new]) | (refine wpList_store_row rfl 36 (.tmp 9) (.tmp 80) rfl (S + 1 + 1) _ rfl rfl 36 _ HQ9.out (by kernel_rfl) rfl (by simp [Value.oneCell']) ?_))
        refine bodyPost_ret (v := .tuple #[.int .i64 0, .agg #[.int .i64 0, .int .i64 0, .int .i64 0, .int .i64 0, .int .i64 0, .int .i64 0, .int .i64 0, .int .i64 0, .int .i64 0, .int .i64 0, .int .i64 0, .int .i64 0, .int .i64 0, .int .i64 0, .int .i64 0, .int .i64 0, .int .i64 0, .slice none 0 0, .int .i64 0, .int .i64 0, .int .i64 0]]) (results_look _ _ (S + 1 + 1) _ rfl HRET.out rfl) rfl ?_
        refine ⟨?_, HBF.out⟩
        unfold LookPost; rw [if_pos HE.out, HKK.out, if_neg (show ¬ last < v 16 by have := G1.out; omega), if_neg (show ¬ v 16 < last by have := G2.out; omega)]
        exact ⟨false, HK.out, rfl⟩
      · simp only [if_true]
        have HQ9 := Lib.hid ((Below.heap_alloc w8 (.cells #[.int .i64 8, .int .i64 ep, .int .i64 0, .int .i64 0, .int .i64 0, .int .i64 0, .int .i64 0, .int .i64 0, .int .i64 0, .int .i64 0, .int .i64 0, .int .i64 0, .int .i64 0, .int .i64 0, .int .i64 0, .int .i64 (v 15), .int .i64 (v 16), .slice none 0 0, .int .i64 a, .int .i64 b, .int .i64 c] 36) (S + 1 + 1) (ltb HQ8.out)).trans HQ8.out)
        have HB9 := Lib.hid (HB8.out.alloc HB8.out.size (.cells #[.int .i64 8, .int .i64 ep, .int .i64 0, .int .i64 0, .int .i64 0, .int .i64 0, .int .i64 0, .int .i64 0, .int .i64 0, .int .i64 0, .int .i64 0, .int .i64 0, .int .i64 0, .int .i64 0, .int .i64 0, .int .i64 (v 15), .int .i64 (v 16), .slice none 0 0, .int .i64 a, .int .i64 b, .int .i64 c] 36))
        have HY9 := Lib.hid (heap_alloc_new w8 (.cells #[.int .i64 8, .int .i64 ep, .int .i64 0, .int .i64 0, .int .i64 0, .int .i64 0, .int .i64 0, .int .i64 0, .int .i64 0, .int .i64 0, .int .i64 0, .int .i64 0, .int .i64 0, .int .i64 0, .int .i64 0, .int .i64 (v 15), .int .i64 (v 16), .slice none 0 0, .int .i64 a, .int .i64 b, .int .i64 c] 36))
        obtain ⟨Y, hY⟩ : ∃ Y, Y = w8.heap.size := ⟨_, rfl⟩
        rw [← hY] at HY9
        go_wp2_with (refine wpList_store_row rfl 36 (.tmp 12) (.tmp 76) rfl w8.heap.size _ rfl rfl 36 _ (heap_alloc_new w8 _) (by kernel_rfl) rfl (by simp [Value.oneCell']) ?_; rw [World.setRow_alloc_new])
        rw [← hY]
        have hYS : Y ≠ S + 1 + 1 := by have := ltb HQ8.out; omega
        clear hY HQ8 HB8
        generalize w8.alloc (.cells #[.int .i64 8, .int .i64 ep, .int .i64 0, .int .i64 0, .int .i64 0, .int .i64 0, .int .i64 0, .int .i64 0, .int .i64 0, .int .i64 0, .int .i64 0, .int .i64 0, .int .i64 0, .int .i64 0, .int .i64 0, .int .i64 (v 15), .int .i64 (v 16), .slice none 0 0, .int .i64 a, .int .i64 b, .int .i64 c] 36) = w9 at HQ9 HB9 HY9 ⊢
        have d0 : w9.drew.heap[Y]? = some (.cells #[.int .i64 8, .int .i64 ep, .int .i64 0, .int .i64 0, .int .i64 0, .int .i64 0, .int .i64 0, .int .i64 0, .int .i64 0, .int .i64 0, .int .i64 0, .int .i64 0, .int .i64 0, .int .i64 0, .int .i64 0, .int .i64 (v 15), .int .i64 (v 16), .slice none 0 0, .int .i64 a, .int .i64 b, .int .i64 c] 36 (0, 0)) := HY9.out
        have HQd : Hid (w9.drew.heap[S + 1 + 1]? = some (.cells #[.int .i64 0, .int .i64 0, .int .i64 0, .int .i64 0, .int .i64 0, .int .i64 0, .int .i64 0, .int .i64 0, .int .i64 0, .int .i64 0, .int .i64 0, .int .i64 0, .int .i64 0, .int .i64 0, .int .i64 0, .int .i64 0, .int .i64 0, .slice none 0 0, .int .i64 0, .int .i64 0, .int .i64 0] 36 (0, 0))) := HQ9
        refine wp_region_noPanic ?_
        refine wp_region_held_drew (S := fun w' => w'.heap[Y]? = some (.cells #[.int .i64 8, .int .i64 ep, .int .i64 0, .int .i64 0, .int .i64 0, .int .i64 0, .int .i64 0, .int .i64 0, .int .i64 0, .int .i64 0, .int .i64 0, .int .i64 0, .int .i64 0, .int .i64 0, .int .i64 0, .int .i64 (v 15), .int .i64 (v 16), .slice none 0 0, .int .i64 a, .int .i64 b, .int .i64 c] 36 (0, 0))) (by kernel_rfl) ?_ (fun hHeld => ?_)
        · try dsimp only
          (refine ?_ <;> (first | with_reducible assumption))
        refine wpAnyH_take (i := 0) (v := ?_) (by (simp only [List.getElem?_toArray, List.getElem?_cons_zero]; rfl)) (by kernel_rfl) (by kernel_rfl) (by kernel_rfl) (fun _ _ _ h => h) (Or.inl ⟨by rfl, ?_⟩) (by assumption) ?_
        rotate_left
        · intro w hSw
          try dsimp only at hSw
          refine take_load (x := .tmp 12) (ty := 36) ?_ Y ?_ 36 _ (0, 0) _ hSw Try.underlying36 rfl (by kernel_rfl)
          all_goals rfl
        try simp only [Act.put, List.setIfInBounds_toArray, List.set_cons_zero, List.set_cons_succ]
        refine wpAnyH_take (i := 1) (v := ?_) (by (simp only [List.getElem?_toArray, List.getElem?_cons_succ, List.getElem?_cons_zero]; rfl)) (by kernel_rfl) (by kernel_rfl) (by kernel_rfl) (fun _ _ _ h => h) (Or.inl ⟨by rfl, ?_⟩) (by assumption) ?_
        rotate_left
        · (intro w hSw; (try dsimp only at hSw); go_simp; try with_reducible rfl)
        try simp only [Act.put, List.setIfInBounds_toArray, List.set_cons_zero, List.set_cons_succ]
        refine wpAnyH_ready (rs := [2]) (by kernel_rfl) (by simp) ?_
        refine AllReadyH.cons (by (simp only [List.getElem?_toArray, List.getElem?_cons_succ, List.getElem?_cons_zero]; rfl)) (fun K hK => ?_) AllReadyH.nil
        refine wp_store_row 36 (.tmp 9) (.tmp 81) rfl (S + 1 + 1) _ rfl rfl 36 _ HQd.out (by kernel_rfl) rfl (by simp [Value.oneCell']) ?_
        have y0 : (w9.drew.setRow (S + 1 + 1) #[.int .i64 8, .int .i64 ep, .int .i64 0, .int .i64 0, .int .i64 0, .int .i64 0, .int .i64 0, .int .i64 0, .int .i64 0, .int .i64 0, .int .i64 0, .int .i64 0, .int .i64 0, .int .i64 0, .int .i64 0, .int .i64 (v 15), .int .i64 (v 16), .slice none 0 0, .int .i64 a, .int .i64 b, .int .i64 c]).heap[Y]? = some (.cells #[.int .i64 8, .int .i64 ep, .int .i64 0, .int .i64 0, .int .i64 0, .int .i64 0, .int .i64 0, .int .i64 0, .int .i64 0, .int .i64 0, .int .i64 0, .int .i64 0, .int .i64 0, .int .i64 0, .int .i64 0, .int .i64 (v 15), .int .i64 (v 16), .slice none 0 0, .int .i64 a, .int .i64 b, .int .i64 c] 36 (0, 0)) := (setRow_other _ _ _ _ hYS).trans d0
        refine hK.out _ _ ?_ (fun hHeld => ?_)
        · try dsimp only
          (refine ?_ <;> (first | with_reducible assumption))
        clear hK K
        try simp only [Act.put]
        refine wpAnyH_done (by kernel_rfl) ?_ _
        refine NoPanic.normal ?_
        clear hHeld d0 y0
        have HRET := Lib.hid (setRow_heap w9.drew (S + 1 + 1) _ #[.int .i64 8, .int .i64 ep, .int .i64 0, .int .i64 0, .int .i64 0, .int .i64 0, .int .i64 0, .int .i64 0, .int .i64 0, .int .i64 0, .int .i64 0, .int .i64 0, .int .i64 0, .int .i64 0, .int .i64 0, .int .i64 (v 15), .int .i64 (v 16), .slice none 0 0, .int .i64 a, .int .i64 b, .int .i64 c] _ _ HQd.out)
        have HBF := Lib.hid (below_setRow (g := S + 1 + 1) HB9.out.drew (by have := HSW.out; omega) #[.int .i64 8, .int .i64 ep, .int .i64 0, .int .i64 0, .int .i64 0, .int .i64 0, .int .i64 0, .int .i64 0, .int .i64 0, .int .i64 0, .int .i64 0, .int .i64 0, .int .i64 0, .int .i64 0, .int .i64 0, .int .i64 (v 15), .int .i64 (v 16), .slice none 0 0, .int .i64 a, .int .i64 b, .int .i64 c])
        go_wp2_with fail
        refine bodyPost_ret (v := .tuple #[.int .i64 1, .agg #[.int .i64 8, .int .i64 ep, .int .i64 0, .int .i64 0, .int .i64 0, .int .i64 0, .int .i64 0, .int .i64 0, .int .i64 0, .int .i64 0, .int .i64 0, .int .i64 0, .int .i64 0, .int .i64 0, .int .i64 0, .int .i64 (v 15), .int .i64 (v 16), .slice none 0 0, .int .i64 a, .int .i64 b, .int .i64 c]]) (results_look _ _ (S + 1 + 1) _ rfl HRET.out rfl) rfl ?_
        refine ⟨?_, HBF.out⟩
        unfold LookPost; rw [if_pos HE.out, HKK.out, if_neg (show ¬ last < v 16 by have := G1.out; omega), if_neg (show ¬ v 16 < last by have := G2.out; omega)]
        exact ⟨true, ⟨fun _ => HK.out.1 trivial, fun _ => rfl⟩, rfl⟩
    rcases Classical.em (kq < last) with hl | hl
    · have qe : ∀ w, (Go.binOp .eql 84 (.agg #[.int .i64 kq, .int .i64 k1, .int .i64 k2, .int .i64 k3]) (.agg #[.int .i64 0, .int .i64 0, .int .i64 0, .int .i64 0])).run Try.prog w = .ok (.bool false) w := fun w => by rw [eq_kept]; simp only [hz, decide_false]
      have HKK : Hid (lookK (f (v 15)) last a b c = ⟨last, a, b, c⟩) := Lib.hid (by rw [HF15.out]; unfold lookK; rw [if_pos (.inr hl)])
      clear hz
      obtain ⟨w10, hw10⟩ : ∃ W, W = w9.setRow Y #[.int .i64 last, .int .i64 a, .int .i64 b, .int .i64 c] := ⟨_, rfl⟩
      have HY10 : Hid (w10.heap[Y]? = some (.cells #[.int .i64 last, .int .i64 a, .int .i64 b, .int .i64 c] 84 (0, 0))) := Lib.hid (by rw [hw10]; exact setRow_heap _ Y _ _ _ _ HY9.out)
      have HM10 : Hid (MAt w10 S v B n cb) := Lib.hid (by rw [hw10]; exact (setRow_other _ Y S _ (by omega)).trans HM9.out)
      have HQ10 : Hid (w10.heap[S + 1 + 1]? = some (.cells #[.int .i64 0, .int .i64 0, .int .i64 0, .int .i64 0, .int .i64 0, .int .i64 0, .int .i64 0, .int .i64 0, .int .i64 0, .int .i64 0, .int .i64 0, .int .i64 0, .int .i64 0, .int .i64 0, .int .i64 0, .int .i64 0, .int .i64 0, .slice none 0 0, .int .i64 0, .int .i64 0, .int .i64 0] 36 (0, 0))) := Lib.hid (by rw [hw10]; exact (setRow_other _ Y (S + 1 + 1) _ (by omega)).trans HQ9.out)
      have HX10 : Hid (w10.heap[X]? = some (.cells #[.int .i64 190, .int .i64 0, .int .i64 0] 34 (0, 0))) := Lib.hid (by rw [hw10]; exact (setRow_other _ Y X _ (by omega)).trans HX9.out)
      have HB10 : Hid (Below w.heap.size w w10) := Lib.hid (by rw [hw10]; exact below_setRow HBW9.out (by have := HSW.out; omega) _)
      have HS10 : Hid (SAt w10 g ep M nn f) := Lib.hid (by rw [hw10]; exact SAt.offX HS9.out HY9.out (by have := HSW.out; omega) _)
      go_upto_region 8 with (refine wpList_store_row rfl 84 (.tmp 11) (.tmp 53) rfl Y _ rfl rfl 84 _ HY9.out (by kernel_rfl) rfl (by simp [Value.oneCell']) ?_)
      rw [← hw10]
      clear hw10 p0 p1 p2 p3 m16 z0 z1 z2
      have p0 : w10.cell? ⟨Y, 0, none⟩ = some (.int .i64 last) := cellb (i := 0) HY10.out rfl
      have p1 : w10.cell? ⟨Y, 1, none⟩ = some (.int .i64 a) := cellb (i := 1) HY10.out rfl
      have p2 : w10.cell? ⟨Y, 2, none⟩ = some (.int .i64 b) := cellb (i := 2) HY10.out rfl
      have p3 : w10.cell? ⟨Y, 3, none⟩ = some (.int .i64 c) := cellb (i := 3) HY10.out rfl
      have m16 : w10.cell? ⟨S, 16, none⟩ = some (.int .i64 (v 16)) := cellb (i := 16) HM10.out rfl
      rcases Classical.em (last < v 16) with g1 | g1
      · have G1 := Lib.hid g1
        have HRET := Lib.hid (setRow_heap _ (S + 1 + 1) _ #[.int .i64 0, .int .i64 0, .int .i64 0, .int .i64 0, .int .i64 0, .int .i64 0, .int .i64 0, .int .i64 0, .int .i64 0, .int .i64 0, .int .i64 0, .int .i64 0, .int .i64 0, .int .i64 0, .int .i64 0, .int .i64 0, .int .i64 0, .slice none 0 0, .int .i64 0, .int .i64 0, .int .i64 0] _ _ HQ10.out)
        have HBF := Lib.hid (below_setRow (g := S + 1 + 1) HB10.out (by have := HSW.out; omega) #[.int .i64 0, .int .i64 0, .int .i64 0, .int .i64 0, .int .i64 0, .int .i64 0, .int .i64 0, .int .i64 0, .int .i64 0, .int .i64 0, .int .i64 0, .int .i64 0, .int .i64 0, .int .i64 0, .int .i64 0, .int .i64 0, .int .i64 0, .slice none 0 0, .int .i64 0, .int .i64 0, .int .i64 0])
        go_wp2_with (refine wpList_store_row rfl 36 (.tmp 9) (.tmp 59) rfl (S + 1 + 1) _ rfl rfl 36 _ HQ10.out (by kernel_rfl) rfl (by simp [Value.oneCell']) ?_)
        refine bodyPost_ret (v := .tuple #[.int .i64 2, .agg #[.int .i64 0, .int .i64 0, .int .i64 0, .int .i64 0, .int .i64 0, .int .i64 0, .int .i64 0, .int .i64 0, .int .i64 0, .int .i64 0, .int .i64 0, .int .i64 0, .int .i64 0, .int .i64 0, .int .i64 0, .int .i64 0, .int .i64 0, .slice none 0 0, .int .i64 0, .int .i64 0, .int .i64 0]]) (results_look _ _ (S + 1 + 1) _ rfl HRET.out rfl) rfl ?_
        refine ⟨?_, HBF.out⟩
        unfold LookPost
        rw [if_pos HE.out, HKK.out, if_pos G1.out]
      rcases Classical.em (v 16 < last) with g2 | g2
      · have G1 := Lib.hid g1
        have G2 := Lib.hid g2
        have HRET := Lib.hid (setRow_heap _ (S + 1 + 1) _ #[.int .i64 0, .int .i64 0, .int .i64 0, .int .i64 0, .int .i64 0, .int .i64 0, .int .i64 0, .int .i64 0, .int .i64 0, .int .i64 0, .int .i64 0, .int .i64 0, .int .i64 0, .int .i64 0, .int .i64 0, .int .i64 0, .int .i64 0, .slice none 0 0, .int .i64 0, .int .i64 0, .int .i64 0] _ _ HQ10.out)
        have HBF := Lib.hid (below_setRow (g := S + 1 + 1) HB10.out (by have := HSW.out; omega) #[.int .i64 0, .int .i64 0, .int .i64 0, .int .i64 0, .int .i64 0, .int .i64 0, .int .i64 0, .int .i64 0, .int .i64 0, .int .i64 0, .int .i64 0, .int .i64 0, .int .i64 0, .int .i64 0, .int .i64 0, .int .i64 0, .int .i64 0, .slice none 0 0, .int .i64 0, .int .i64 0, .int .i64 0])
        go_wp2_with (refine wpList_store_row rfl 36 (.tmp 9) (.tmp 65) rfl (S + 1 + 1) _ rfl rfl 36 _ HQ10.out (by kernel_rfl) rfl (by simp [Value.oneCell']) ?_)
        refine bodyPost_ret (v := .tuple #[.int .i64 0, .agg #[.int .i64 0, .int .i64 0, .int .i64 0, .int .i64 0, .int .i64 0, .int .i64 0, .int .i64 0, .int .i64 0, .int .i64 0, .int .i64 0, .int .i64 0, .int .i64 0, .int .i64 0, .int .i64 0, .int .i64 0, .int .i64 0, .int .i64 0, .slice none 0 0, .int .i64 0, .int .i64 0, .int .i64 0]]) (results_look _ _ (S + 1 + 1) _ rfl HRET.out rfl) rfl ?_
        refine ⟨?_, HBF.out⟩
        unfold LookPost
        rw [if_pos HE.out, HKK.out, if_neg (show ¬ last < v 16 by have := G1.out; omega), if_pos G2.out]
      have G1 := Lib.hid g1
      have G2 := Lib.hid g2
      obtain ⟨w11, hw11⟩ : ∃ W, W = w10.setRow X #[.int .i64 a, .int .i64 b, .int .i64 c] := ⟨_, rfl⟩
      have HX11 : Hid (w11.heap[X]? = some (.cells #[.int .i64 a, .int .i64 b, .int .i64 c] 34 (0, 0))) := Lib.hid (by rw [hw11]; exact setRow_heap _ X _ _ _ _ HX10.out)
      have HM11 : Hid (MAt w11 S v B n cb) := Lib.hid (by rw [hw11]; exact (setRow_other _ X S _ (by omega)).trans HM10.out)
      have HQ11 : Hid (w11.heap[S + 1 + 1]? = some (.cells #[.int .i64 0, .int .i64 0, .int .i64 0, .int .i64 0, .int .i64 0, .int .i64 0, .int .i64 0, .int .i64 0, .int .i64 0, .int .i64 0, .int .i64 0, .int .i64 0, .int .i64 0, .int .i64 0, .int .i64 0, .int .i64 0, .int .i64 0, .slice none 0 0, .int .i64 0, .int .i64 0, .int .i64 0] 36 (0, 0))) := Lib.hid (by rw [hw11]; exact (setRow_other _ X (S + 1 + 1) _ (by omega)).trans HQ10.out)
      have HB11 : Hid (Below w.heap.size w w11) := Lib.hid (by rw [hw11]; exact below_setRow HB10.out (by have := HSW.out; omega) _)
      have HS11 : Hid (SAt w11 g ep M nn f) := Lib.hid (by rw [hw11]; exact SAt.offX HS10.out HX10.out (by have := HSW.out; omega) _)
      go_upto_region 13 with (refine wpList_store_row rfl 34 (.tmp 10) (.tmp 67) rfl X _ rfl rfl 34 _ HX10.out (by kernel_rfl) rfl (by simp [Value.oneCell']) ?_)
      rw [← hw11]
      clear hw11 m16 p0 p1 p2 p3
      have m15 : w11.cell? ⟨S, 15, none⟩ = some (.int .i64 (v 15)) := cellb (i := 15) HM11.out rfl
      have m16 : w11.cell? ⟨S, 16, none⟩ = some (.int .i64 (v 16)) := cellb (i := 16) HM11.out rfl
      have x0 : w11.cell? ⟨X, 0, none⟩ = some (.int .i64 a) := cellb (i := 0) HX11.out rfl
      have x1 : w11.cell? ⟨X, 1, none⟩ = some (.int .i64 b) := cellb (i := 1) HX11.out rfl
      have x2 : w11.cell? ⟨X, 2, none⟩ = some (.int .i64 c) := cellb (i := 2) HX11.out rfl
      go_wp2_with fail
      clear m15 m16 x0 x1 x2
      refine (reply_any g ep M nn f (v 15) (v 16) a b c w11 HS11.out).mono ?_
      rintro e w8 ⟨k, hk, rfl, hb⟩
      have HK := Lib.hid hk
      have HQ8 := Lib.hid ((hb.block (S + 1 + 1) (ltb HQ11.out)).trans HQ11.out)
      have HB8 := Lib.hid (HB11.out.trans (hb.mono HB11.out.size))
      clear hk hb
      cases k
      · simp only [Bool.false_eq_true, if_false]
        have HQ9 := Lib.hid ((Below.heap_alloc w8 (.cells #[.int .i64 0, .int .i64 0, .int .i64 0, .int .i64 0, .int .i64 0, .int .i64 0, .int .i64 0, .int .i64 0, .int .i64 0, .int .i64 0, .int .i64 0, .int .i64 0, .int .i64 0, .int .i64 0, .int .i64 0, .int .i64 0, .int .i64 0, .slice none 0 0, .int .i64 0, .int .i64 0, .int .i64 0] 36) (S + 1 + 1) (ltb HQ8.out)).trans HQ8.out)
        have HB9 := Lib.hid (HB8.out.alloc HB8.out.size (.cells #[.int .i64 0, .int .i64 0, .int .i64 0, .int .i64 0, .int .i64 0, .int .i64 0, .int .i64 0, .int .i64 0, .int .i64 0, .int .i64 0, .int .i64 0, .int .i64 0, .int .i64 0, .int .i64 0, .int .i64 0, .int .i64 0, .int .i64 0, .slice none 0 0, .int .i64 0, .int .i64 0, .int .i64 0] 36))
        have HRET := Lib.hid (setRow_heap _ (S + 1 + 1) _ #[.int .i64 0, .int .i64 0, .int .i64 0, .int .i64 0, .int .i64 0, .int .i64 0, .int .i64 0, .int .i64 0, .int .i64 0, .int .i64 0, .int .i64 0, .int .i64 0, .int .i64 0, .int .i64 0, .int .i64 0, .int .i64 0, .int .i64 0, .slice none 0 0, .int .i64 0, .int .i64 0, .int .i64 0] _ _ HQ9.out)
        have HBF := Lib.hid (below_setRow (g := S + 1 + 1) HB9.out (by have := HSW.out; omega) #[.int .i64 0, .int .i64 0, .int .i64 0, .int .i64 0, .int .i64 0, .int .i64 0, .int .i64 0, .int .i64 0, .int .i64 0, .int .i64 0, .int .i64 0, .int .i64 0, .int .i64 0, .int .i64 0, .int .i64 0, .int .i64 0, .int .i64 0, .slice none 0 0, .int .i64 0, .int .i64 0, .int .i64 0])
        go_wp2_with (first | (refine wpList_store_row rfl 36 (.tmp 12) (.tmp 76) rfl w8.heap.size _ rfl rfl 36 _ (heap_alloc_new w8 _) (by kernel_rfl) rfl (by simp [Value.oneCell']) ?_; rw [World.setRow_alloc_new]) | (refine wpList_store_row rfl 36 (.tmp 9) (.tmp 80) rfl (S + 1 + 1) _ rfl rfl 36 _ HQ9.out (by kernel_rfl) rfl (by simp [Value.oneCell']) ?_))
        refine bodyPost_ret (v := .tuple #[.int .i64 0, .agg #[.int .i64 0, .int .i64 0, .int .i64 0, .int .i64 0, .int .i64 0, .int .i64 0, .int .i64 0, .int .i64 0, .int .i64 0, .int .i64 0, .int .i64 0, .int .i64 0, .int .i64 0, .int .i64 0, .int .i64 0, .int .i64 0, .int .i64 0, .slice none 0 0, .int .i64 0, .int .i64 0, .int .i64 0]]) (results_look _ _ (S + 1 + 1) _ rfl HRET.out rfl) rfl ?_
        refine ⟨?_, HBF.out⟩
        unfold LookPost; rw [if_pos HE.out, HKK.out, if_neg (show ¬ last < v 16 by have := G1.out; omega), if_neg (show ¬ v 16 < last by have := G2.out; omega)]
        exact ⟨false, HK.out, rfl⟩
      · simp only [if_true]
        have HQ9 := Lib.hid ((Below.heap_alloc w8 (.cells #[.int .i64 8, .int .i64 ep, .int .i64 0, .int .i64 0, .int .i64 0, .int .i64 0, .int .i64 0, .int .i64 0, .int .i64 0, .int .i64 0, .int .i64 0, .int .i64 0, .int .i64 0, .int .i64 0, .int .i64 0, .int .i64 (v 15), .int .i64 (v 16), .slice none 0 0, .int .i64 a, .int .i64 b, .int .i64 c] 36) (S + 1 + 1) (ltb HQ8.out)).trans HQ8.out)
        have HB9 := Lib.hid (HB8.out.alloc HB8.out.size (.cells #[.int .i64 8, .int .i64 ep, .int .i64 0, .int .i64 0, .int .i64 0, .int .i64 0, .int .i64 0, .int .i64 0, .int .i64 0, .int .i64 0, .int .i64 0, .int .i64 0, .int .i64 0, .int .i64 0, .int .i64 0, .int .i64 (v 15), .int .i64 (v 16), .slice none 0 0, .int .i64 a, .int .i64 b, .int .i64 c] 36))
        have HY9 := Lib.hid (heap_alloc_new w8 (.cells #[.int .i64 8, .int .i64 ep, .int .i64 0, .int .i64 0, .int .i64 0, .int .i64 0, .int .i64 0, .int .i64 0, .int .i64 0, .int .i64 0, .int .i64 0, .int .i64 0, .int .i64 0, .int .i64 0, .int .i64 0, .int .i64 (v 15), .int .i64 (v 16), .slice none 0 0, .int .i64 a, .int .i64 b, .int .i64 c] 36))
        obtain ⟨Y, hY⟩ : ∃ Y, Y = w8.heap.size := ⟨_, rfl⟩
        rw [← hY] at HY9
        go_wp2_with (refine wpList_store_row rfl 36 (.tmp 12) (.tmp 76) rfl w8.heap.size _ rfl rfl 36 _ (heap_alloc_new w8 _) (by kernel_rfl) rfl (by simp [Value.oneCell']) ?_; rw [World.setRow_alloc_new])
        rw [← hY]
        have hYS : Y ≠ S + 1 + 1 := by have := ltb HQ8.out; omega
        clear hY HQ8 HB8
        generalize w8.alloc (.cells #[.int .i64 8, .int .i64 ep, .int .i64 0, .int .i64 0, .int .i64 0, .int .i64 0, .int .i64 0, .int .i64 0, .int .i64 0, .int .i64 0, .int .i64 0, .int .i64 0, .int .i64 0, .int .i64 0, .int .i64 0, .int .i64 (v 15), .int .i64 (v 16), .slice none 0 0, .int .i64 a, .int .i64 b, .int .i64 c] 36) = w9 at HQ9 HB9 HY9 ⊢
        have d0 : w9.drew.heap[Y]? = some (.cells #[.int .i64 8, .int .i64 ep, .int .i64 0, .int .i64 0, .int .i64 0, .int .i64 0, .int .i64 0, .int .i64 0, .int .i64 0, .int .i64 0, .int .i64 0, .int .i64 0, .int .i64 0, .int .i64 0, .int .i64 0, .int .i64 (v 15), .int .i64 (v 16), .slice none 0 0, .int .i64 a, .int .i64 b, .int .i64 c] 36 (0, 0)) := HY9.out
        have HQd : Hid (w9.drew.heap[S + 1 + 1]? = some (.cells #[.int .i64 0, .int .i64 0, .int .i64 0, .int .i64 0, .int .i64 0, .int .i64 0, .int .i64 0, .int .i64 0, .int .i64 0, .int .i64 0, .int .i64 0, .int .i64 0, .int .i64 0, .int .i64 0, .int .i64 0, .int .i64 0, .int .i64 0, .slice none 0 0, .int .i64 0, .int .i64 0, .int .i64 0] 36 (0, 0))) := HQ9
        refine wp_region_noPanic ?_
        refine wp_region_held_drew (S := fun w' => w'.heap[Y]? = some (.cells #[.int .i64 8, .int .i64 ep, .int .i64 0, .int .i64 0, .int .i64 0, .int .i64 0, .int .i64 0, .int .i64 0, .int .i64 0, .int .i64 0, .int .i64 0, .int .i64 0, .int .i64 0, .int .i64 0, .int .i64 0, .int .i64 (v 15), .int .i64 (v 16), .slice none 0 0, .int .i64 a, .int .i64 b, .int .i64 c] 36 (0, 0))) (by kernel_rfl) ?_ (fun hHeld => ?_)
        · try dsimp only
          (refine ?_ <;> (first | with_reducible assumption))
        refine wpAnyH_take (i := 0) (v := ?_) (by (simp only [List.getElem?_toArray, List.getElem?_cons_zero]; rfl)) (by kernel_rfl) (by kernel_rfl) (by kernel_rfl) (fun _ _ _ h => h) (Or.inl ⟨by rfl, ?_⟩) (by assumption) ?_
        rotate_left
        · intro w hSw
          try dsimp only at hSw
          refine take_load (x := .tmp 12) (ty := 36) ?_ Y ?_ 36 _ (0, 0) _ hSw Try.underlying36 rfl (by kernel_rfl)
          all_goals rfl
        try simp only [Act.put, List.setIfInBounds_toArray, List.set_cons_zero, List.set_cons_succ]
        refine wpAnyH_take (i := 1) (v := ?_) (by (simp only [List.getElem?_toArray, List.getElem?_cons_succ, List.getElem?_cons_zero]; rfl)) (by kernel_rfl) (by kernel_rfl) (by kernel_rfl) (fun _ _ _ h => h) (Or.inl ⟨by rfl, ?_⟩) (by assumption) ?_
        rotate_left
        · (intro w hSw; (try dsimp only at hSw); go_simp; try with_reducible rfl)
        try simp only [Act.put, List.setIfInBounds_toArray, List.set_cons_zero, List.set_cons_succ]
        refine wpAnyH_ready (rs := [2]) (by kernel_rfl) (by simp) ?_
        refine AllReadyH.cons (by (simp only [List.getElem?_toArray, List.getElem?_cons_succ, List.getElem?_cons_zero]; rfl)) (fun K hK => ?_) AllReadyH.nil
        refine wp_store_row 36 (.tmp 9) (.tmp 81) rfl (S + 1 + 1) _ rfl rfl 36 _ HQd.out (by kernel_rfl) rfl (by simp [Value.oneCell']) ?_
        have y0 : (w9.drew.setRow (S + 1 + 1) #[.int .i64 8, .int .i64 ep, .int .i64 0, .int .i64 0, .int .i64 0, .int .i64 0, .int .i64 0, .int .i64 0, .int .i64 0, .int .i64 0, .int .i64 0, .int .i64 0, .int .i64 0, .int .i64 0, .int .i64 0, .int .i64 (v 15), .int .i64 (v 16), .slice none 0 0, .int .i64 a, .int .i64 b, .int .i64 c]).heap[Y]? = some (.cells #[.int .i64 8, .int .i64 ep, .int .i64 0, .int .i64 0, .int .i64 0, .int .i64 0, .int .i64 0, .int .i64 0, .int .i64 0, .int .i64 0, .int .i64 0, .int .i64 0, .int .i64 0, .int .i64 0, .int .i64 0, .int .i64 (v 15), .int .i64 (v 16), .slice none 0 0, .int .i64 a, .int .i64 b, .int .i64 c] 36 (0, 0)) := (setRow_other _ _ _ _ hYS).trans d0
        refine hK.out _ _ ?_ (fun hHeld => ?_)
        · try dsimp only
          (refine ?_ <;> (first | with_reducible assumption))
        clear hK K
        try simp only [Act.put]
        refine wpAnyH_done (by kernel_rfl) ?_ _
        refine NoPanic.normal ?_
        clear hHeld d0 y0
        have HRET := Lib.hid (setRow_heap w9.drew (S + 1 + 1) _ #[.int .i64 8, .int .i64 ep, .int .i64 0, .int .i64 0, .int .i64 0, .int .i64 0, .int .i64 0, .int .i64 0, .int .i64 0, .int .i64 0, .int .i64 0, .int .i64 0, .int .i64 0, .int .i64 0, .int .i64 0, .int .i64 (v 15), .int .i64 (v 16), .slice none 0 0, .int .i64 a, .int .i64 b, .int .i64 c] _ _ HQd.out)
        have HBF := Lib.hid (below_setRow (g := S + 1 + 1) HB9.out.drew (by have := HSW.out; omega) #[.int .i64 8, .int .i64 ep, .int .i64 0, .int .i64 0, .int .i64 0, .int .i64 0, .int .i64 0, .int .i64 0, .int .i64 0, .int .i64 0, .int .i64 0, .int .i64 0, .int .i64 0, .int .i64 0, .int .i64 0, .int .i64 (v 15), .int .i64 (v 16), .slice none 0 0, .int .i64 a, .int .i64 b, .int .i64 c])
        go_wp2_with fail
        refine bodyPost_ret (v := .tuple #[.int .i64 1, .agg #[.int .i64 8, .int .i64 ep, .int .i64 0, .int .i64 0, .int .i64 0, .int .i64 0, .int .i64 0, .int .i64 0, .int .i64 0, .int .i64 0, .int .i64 0, .int .i64 0, .int .i64 0, .int .i64 0, .int .i64 0, .int .i64 (v 15), .int .i64 (v 16), .slice none 0 0, .int .i64 a, .int .i64 b, .int .i64 c]]) (results_look _ _ (S + 1 + 1) _ rfl HRET.out rfl) rfl ?_
        refine ⟨?_, HBF.out⟩
        unfold LookPost; rw [if_pos HE.out, HKK.out, if_neg (show ¬ last < v 16 by have := G1.out; omega), if_neg (show ¬ v 16 < last by have := G2.out; omega)]
        exact ⟨true, ⟨fun _ => HK.out.1 trivial, fun _ => rfl⟩, rfl⟩
    · have qe : ∀ w, (Go.binOp .eql 84 (.agg #[.int .i64 kq, .int .i64 k1, .int .i64 k2, .int .i64 k3]) (.agg #[.int .i64 0, .int .i64 0, .int .i64 0, .int .i64 0])).run Try.prog w = .ok (.bool false) w := fun w => by rw [eq_kept]; simp only [hz, decide_false]
      have HKK : Hid (lookK (f (v 15)) last a b c = ⟨kq, k1, k2, k3⟩) := Lib.hid (by rw [HF15.out]; unfold lookK; rw [if_neg (fun h => h.elim hz hl)])
      clear hz
      go_upto_region 8 with fail
      rcases Classical.em (kq < v 16) with g1 | g1
      · have G1 := Lib.hid g1
        have HRET := Lib.hid (setRow_heap _ (S + 1 + 1) _ #[.int .i64 0, .int .i64 0, .int .i64 0, .int .i64 0, .int .i64 0, .int .i64 0, .int .i64 0, .int .i64 0, .int .i64 0, .int .i64 0, .int .i64 0, .int .i64 0, .int .i64 0, .int .i64 0, .int .i64 0, .int .i64 0, .int .i64 0, .slice none 0 0, .int .i64 0, .int .i64 0, .int .i64 0] _ _ HQ9.out)
        have HBF := Lib.hid (below_setRow (g := S + 1 + 1) HBW9.out (by have := HSW.out; omega) #[.int .i64 0, .int .i64 0, .int .i64 0, .int .i64 0, .int .i64 0, .int .i64 0, .int .i64 0, .int .i64 0, .int .i64 0, .int .i64 0, .int .i64 0, .int .i64 0, .int .i64 0, .int .i64 0, .int .i64 0, .int .i64 0, .int .i64 0, .slice none 0 0, .int .i64 0, .int .i64 0, .int .i64 0])
        go_wp2_with (refine wpList_store_row rfl 36 (.tmp 9) (.tmp 59) rfl (S + 1 + 1) _ rfl rfl 36 _ HQ9.out (by kernel_rfl) rfl (by simp [Value.oneCell']) ?_)
        refine bodyPost_ret (v := .tuple #[.int .i64 2, .agg #[.int .i64 0, .int .i64 0, .int .i64 0, .int .i64 0, .int .i64 0, .int .i64 0, .int .i64 0, .int .i64 0, .int .i64 0, .int .i64 0, .int .i64 0, .int .i64 0, .int .i64 0, .int .i64 0, .int .i64 0, .int .i64 0, .int .i64 0, .slice none 0 0, .int .i64 0, .int .i64 0, .int .i64 0]]) (results_look _ _ (S + 1 + 1) _ rfl HRET.out rfl) rfl ?_
        refine ⟨?_, HBF.out⟩
        unfold LookPost
        rw [if_pos HE.out, HKK.out, if_pos G1.out]
      rcases Classical.em (v 16 < kq) with g2 | g2
      · have G1 := Lib.hid g1
        have G2 := Lib.hid g2
        have HRET := Lib.hid (setRow_heap _ (S + 1 + 1) _ #[.int .i64 0, .int .i64 0, .int .i64 0, .int .i64 0, .int .i64 0, .int .i64 0, .int .i64 0, .int .i64 0, .int .i64 0, .int .i64 0, .int .i64 0, .int .i64 0, .int .i64 0, .int .i64 0, .int .i64 0, .int .i64 0, .int .i64 0, .slice none 0 0, .int .i64 0, .int .i64 0, .int .i64 0] _ _ HQ9.out)
        have HBF := Lib.hid (below_setRow (g := S + 1 + 1) HBW9.out (by have := HSW.out; omega) #[.int .i64 0, .int .i64 0, .int .i64 0, .int .i64 0, .int .i64 0, .int .i64 0, .int .i64 0, .int .i64 0, .int .i64 0, .int .i64 0, .int .i64 0, .int .i64 0, .int .i64 0, .int .i64 0, .int .i64 0, .int .i64 0, .int .i64 0, .slice none 0 0, .int .i64 0, .int .i64 0, .int .i64 0])
        go_wp2_with (refine wpList_store_row rfl 36 (.tmp 9) (.tmp 65) rfl (S + 1 + 1) _ rfl rfl 36 _ HQ9.out (by kernel_rfl) rfl (by simp [Value.oneCell']) ?_)
        refine bodyPost_ret (v := .tuple #[.int .i64 0, .agg #[.int .i64 0, .int .i64 0, .int .i64 0, .int .i64 0, .int .i64 0, .int .i64 0, .int .i64 0, .int .i64 0, .int .i64 0, .int .i64 0, .int .i64 0, .int .i64 0, .int .i64 0, .int .i64 0, .int .i64 0, .int .i64 0, .int .i64 0, .slice none 0 0, .int .i64 0, .int .i64 0, .int .i64 0]]) (results_look _ _ (S + 1 + 1) _ rfl HRET.out rfl) rfl ?_
        refine ⟨?_, HBF.out⟩
        unfold LookPost
        rw [if_pos HE.out, HKK.out, if_neg (show ¬ kq < v 16 by have := G1.out; omega), if_pos G2.out]
      have G1 := Lib.hid g1
      have G2 := Lib.hid g2
      obtain ⟨w11, hw11⟩ : ∃ W, W = w9.setRow X #[.int .i64 k1, .int .i64 k2, .int .i64 k3] := ⟨_, rfl⟩
      have HX11 : Hid (w11.heap[X]? = some (.cells #[.int .i64 k1, .int .i64 k2, .int .i64 k3] 34 (0, 0))) := Lib.hid (by rw [hw11]; exact setRow_heap _ X _ _ _ _ HX9.out)
      have HM11 : Hid (MAt w11 S v B n cb) := Lib.hid (by rw [hw11]; exact (setRow_other _ X S _ (by omega)).trans HM9.out)
      have HQ11 : Hid (w11.heap[S + 1 + 1]? = some (.cells #[.int .i64 0, .int .i64 0, .int .i64 0, .int .i64 0, .int .i64 0, .int .i64 0, .int .i64 0, .int .i64 0, .int .i64 0, .int .i64 0, .int .i64 0, .int .i64 0, .int .i64 0, .int .i64 0, .int .i64 0, .int .i64 0, .int .i64 0, .slice none 0 0, .int .i64 0, .int .i64 0, .int .i64 0] 36 (0, 0))) := Lib.hid (by rw [hw11]; exact (setRow_other _ X (S + 1 + 1) _ (by omega)).trans HQ9.out)
      have HB11 : Hid (Below w.heap.size w w11) := Lib.hid (by rw [hw11]; exact below_setRow HBW9.out (by have := HSW.out; omega) _)
      have HS11 : Hid (SAt w11 g ep M nn f) := Lib.hid (by rw [hw11]; exact SAt.offX HS9.out HX9.out (by have := HSW.out; omega) _)
      go_upto_region 13 with (refine wpList_store_row rfl 34 (.tmp 10) (.tmp 67) rfl X _ rfl rfl 34 _ HX9.out (by kernel_rfl) rfl (by simp [Value.oneCell']) ?_)
      rw [← hw11]
      clear hw11 m16 p0 p1 p2 p3
      have m15 : w11.cell? ⟨S, 15, none⟩ = some (.int .i64 (v 15)) := cellb (i := 15) HM11.out rfl
      have m16 : w11.cell? ⟨S, 16, none⟩ = some (.int .i64 (v 16)) := cellb (i := 16) HM11.out rfl
      have x0 : w11.cell? ⟨X, 0, none⟩ = some (.int .i64 k1) := cellb (i := 0) HX11.out rfl
      have x1 : w11.cell? ⟨X, 1, none⟩ = some (.int .i64 k2) := cellb (i := 1) HX11.out rfl
      have x2 : w11.cell? ⟨X, 2, none⟩ = some (.int .i64 k3) := cellb (i := 2) HX11.out rfl
      go_wp2_with fail
      clear m15 m16 x0 x1 x2
      refine (reply_any g ep M nn f (v 15) (v 16) k1 k2 k3 w11 HS11.out).mono ?_
      rintro e w8 ⟨k, hk, rfl, hb⟩
      have HK := Lib.hid hk
      have HQ8 := Lib.hid ((hb.block (S + 1 + 1) (ltb HQ11.out)).trans HQ11.out)
      have HB8 := Lib.hid (HB11.out.trans (hb.mono HB11.out.size))
      clear hk hb
      cases k
      · simp only [Bool.false_eq_true, if_false]
        have HQ9 := Lib.hid ((Below.heap_alloc w8 (.cells #[.int .i64 0, .int .i64 0, .int .i64 0, .int .i64 0, .int .i64 0, .int .i64 0, .int .i64 0, .int .i64 0, .int .i64 0, .int .i64 0, .int .i64 0, .int .i64 0, .int .i64 0, .int .i64 0, .int .i64 0, .int .i64 0, .int .i64 0, .slice none 0 0, .int .i64 0, .int .i64 0, .int .i64 0] 36) (S + 1 + 1) (ltb HQ8.out)).trans HQ8.out)
        have HB9 := Lib.hid (HB8.out.alloc HB8.out.size (.cells #[.int .i64 0, .int .i64 0, .int .i64 0, .int .i64 0, .int .i64 0, .int .i64 0, .int .i64 0, .int .i64 0, .int .i64 0, .int .i64 0, .int .i64 0, .int .i64 0, .int .i64 0, .int .i64 0, .int .i64 0, .int .i64 0, .int .i64 0, .slice none 0 0, .int .i64 0, .int .i64 0, .int .i64 0] 36))
        have HRET := Lib.hid (setRow_heap _ (S + 1 + 1) _ #[.int .i64 0, .int .i64 0, .int .i64 0, .int .i64 0, .int .i64 0, .int .i64 0, .int .i64 0, .int .i64 0, .int .i64 0, .int .i64 0, .int .i64 0, .int .i64 0, .int .i64 0, .int .i64 0, .int .i64 0, .int .i64 0, .int .i64 0, .slice none 0 0, .int .i64 0, .int .i64 0, .int .i64 0] _ _ HQ9.out)
        have HBF := Lib.hid (below_setRow (g := S + 1 + 1) HB9.out (by have := HSW.out; omega) #[.int .i64 0, .int .i64 0, .int .i64 0, .int .i64 0, .int .i64 0, .int .i64 0, .int .i64 0, .int .i64 0, .int .i64 0, .int .i64 0, .int .i64 0, .int .i64 0, .int .i64 0, .int .i64 0, .int .i64 0, .int .i64 0, .int .i64 0, .slice none 0 0, .int .i64 0, .int .i64 0, .int .i64 0])
        go_wp2_with (first | (refine wpList_store_row rfl 36 (.tmp 12) (.tmp 76) rfl w8.heap.size _ rfl rfl 36 _ (heap_alloc_new w8 _) (by kernel_rfl) rfl (by simp [Value.oneCell']) ?_; rw [World.setRow_alloc_new]) | (refine wpList_store_row rfl 36 (.tmp 9) (.tmp 80) rfl (S + 1 + 1) _ rfl rfl 36 _ HQ9.out (by kernel_rfl) rfl (by simp [Value.oneCell']) ?_))
        refine bodyPost_ret (v := .tuple #[.int .i64 0, .agg #[.int .i64 0, .int .i64 0, .int .i64 0, .int .i64 0, .int .i64 0, .int .i64 0, .int .i64 0, .int .i64 0, .int .i64 0, .int .i64 0, .int .i64 0, .int .i64 0, .int .i64 0, .int .i64 0, .int .i64 0, .int .i64 0, .int .i64 0, .slice none 0 0, .int .i64 0, .int .i64 0, .int .i64 0]]) (results_look _ _ (S + 1 + 1) _ rfl HRET.out rfl) rfl ?_
        refine ⟨?_, HBF.out⟩
        unfold LookPost; rw [if_pos HE.out, HKK.out, if_neg (show ¬ kq < v 16 by have := G1.out; omega), if_neg (show ¬ v 16 < kq by have := G2.out; omega)]
        exact ⟨false, HK.out, rfl⟩
      · simp only [if_true]
        have HQ9 := Lib.hid ((Below.heap_alloc w8 (.cells #[.int .i64 8, .int .i64 ep, .int .i64 0, .int .i64 0, .int .i64 0, .int .i64 0, .int .i64 0, .int .i64 0, .int .i64 0, .int .i64 0, .int .i64 0, .int .i64 0, .int .i64 0, .int .i64 0, .int .i64 0, .int .i64 (v 15), .int .i64 (v 16), .slice none 0 0, .int .i64 k1, .int .i64 k2, .int .i64 k3] 36) (S + 1 + 1) (ltb HQ8.out)).trans HQ8.out)
        have HB9 := Lib.hid (HB8.out.alloc HB8.out.size (.cells #[.int .i64 8, .int .i64 ep, .int .i64 0, .int .i64 0, .int .i64 0, .int .i64 0, .int .i64 0, .int .i64 0, .int .i64 0, .int .i64 0, .int .i64 0, .int .i64 0, .int .i64 0, .int .i64 0, .int .i64 0, .int .i64 (v 15), .int .i64 (v 16), .slice none 0 0, .int .i64 k1, .int .i64 k2, .int .i64 k3] 36))
        have HY9 := Lib.hid (heap_alloc_new w8 (.cells #[.int .i64 8, .int .i64 ep, .int .i64 0, .int .i64 0, .int .i64 0, .int .i64 0, .int .i64 0, .int .i64 0, .int .i64 0, .int .i64 0, .int .i64 0, .int .i64 0, .int .i64 0, .int .i64 0, .int .i64 0, .int .i64 (v 15), .int .i64 (v 16), .slice none 0 0, .int .i64 k1, .int .i64 k2, .int .i64 k3] 36))
        obtain ⟨Y, hY⟩ : ∃ Y, Y = w8.heap.size := ⟨_, rfl⟩
        rw [← hY] at HY9
        go_wp2_with (refine wpList_store_row rfl 36 (.tmp 12) (.tmp 76) rfl w8.heap.size _ rfl rfl 36 _ (heap_alloc_new w8 _) (by kernel_rfl) rfl (by simp [Value.oneCell']) ?_; rw [World.setRow_alloc_new])
        rw [← hY]
        have hYS : Y ≠ S + 1 + 1 := by have := ltb HQ8.out; omega
        clear hY HQ8 HB8
        generalize w8.alloc (.cells #[.int .i64 8, .int .i64 ep, .int .i64 0, .int .i64 0, .int .i64 0, .int .i64 0, .int .i64 0, .int .i64 0, .int .i64 0, .int .i64 0, .int .i64 0, .int .i64 0, .int .i64 0, .int .i64 0, .int .i64 0, .int .i64 (v 15), .int .i64 (v 16), .slice none 0 0, .int .i64 k1, .int .i64 k2, .int .i64 k3] 36) = w9 at HQ9 HB9 HY9 ⊢
        have d0 : w9.drew.heap[Y]? = some (.cells #[.int .i64 8, .int .i64 ep, .int .i64 0, .int .i64 0, .int .i64 0, .int .i64 0, .int .i64 0, .int .i64 0, .int .i64 0, .int .i64 0, .int .i64 0, .int .i64 0, .int .i64 0, .int .i64 0, .int .i64 0, .int .i64 (v 15), .int .i64 (v 16), .slice none 0 0, .int .i64 k1, .int .i64 k2, .int .i64 k3] 36 (0, 0)) := HY9.out
        have HQd : Hid (w9.drew.heap[S + 1 + 1]? = some (.cells #[.int .i64 0, .int .i64 0, .int .i64 0, .int .i64 0, .int .i64 0, .int .i64 0, .int .i64 0, .int .i64 0, .int .i64 0, .int .i64 0, .int .i64 0, .int .i64 0, .int .i64 0, .int .i64 0, .int .i64 0, .int .i64 0, .int .i64 0, .slice none 0 0, .int .i64 0, .int .i64 0, .int .i64 0] 36 (0, 0))) := HQ9
        refine wp_region_noPanic ?_
        refine wp_region_held_drew (S := fun w' => w'.heap[Y]? = some (.cells #[.int .i64 8, .int .i64 ep, .int .i64 0, .int .i64 0, .int .i64 0, .int .i64 0, .int .i64 0, .int .i64 0, .int .i64 0, .int .i64 0, .int .i64 0, .int .i64 0, .int .i64 0, .int .i64 0, .int .i64 0, .int .i64 (v 15), .int .i64 (v 16), .slice none 0 0, .int .i64 k1, .int .i64 k2, .int .i64 k3] 36 (0, 0))) (by kernel_rfl) ?_ (fun hHeld => ?_)
        · try dsimp only
          (refine ?_ <;> (first | with_reducible assumption))
        refine wpAnyH_take (i := 0) (v := ?_) (by (simp only [List.getElem?_toArray, List.getElem?_cons_zero]; rfl)) (by kernel_rfl) (by kernel_rfl) (by kernel_rfl) (fun _ _ _ h => h) (Or.inl ⟨by rfl, ?_⟩) (by assumption) ?_
        rotate_left
        · intro w hSw
          try dsimp only at hSw
          refine take_load (x := .tmp 12) (ty := 36) ?_ Y ?_ 36 _ (0, 0) _ hSw Try.underlying36 rfl (by kernel_rfl)
          all_goals rfl
        try simp only [Act.put, List.setIfInBounds_toArray, List.set_cons_zero, List.set_cons_succ]
        refine wpAnyH_take (i := 1) (v := ?_) (by (simp only [List.getElem?_toArray, List.getElem?_cons_succ, List.getElem?_cons_zero]; rfl)) (by kernel_rfl) (by kernel_rfl) (by kernel_rfl) (fun _ _ _ h => h) (Or.inl ⟨by rfl, ?_⟩) (by assumption) ?_
        rotate_left
        · (intro w hSw; (try dsimp only at hSw); go_simp; try with_reducible rfl)
        try simp only [Act.put, List.setIfInBounds_toArray, List.set_cons_zero, List.set_cons_succ]
        refine wpAnyH_ready (rs := [2]) (by kernel_rfl) (by simp) ?_
        refine AllReadyH.cons (by (simp only [List.getElem?_toArray, List.getElem?_cons_succ, List.getElem?_cons_zero]; rfl)) (fun K hK => ?_) AllReadyH.nil
        refine wp_store_row 36 (.tmp 9) (.tmp 81) rfl (S + 1 + 1) _ rfl rfl 36 _ HQd.out (by kernel_rfl) rfl (by simp [Value.oneCell']) ?_
        have y0 : (w9.drew.setRow (S + 1 + 1) #[.int .i64 8, .int .i64 ep, .int .i64 0, .int .i64 0, .int .i64 0, .int .i64 0, .int .i64 0, .int .i64 0, .int .i64 0, .int .i64 0, .int .i64 0, .int .i64 0, .int .i64 0, .int .i64 0, .int .i64 0, .int .i64 (v 15), .int .i64 (v 16), .slice none 0 0, .int .i64 k1, .int .i64 k2, .int .i64 k3]).heap[Y]? = some (.cells #[.int .i64 8, .int .i64 ep, .int .i64 0, .int .i64 0, .int .i64 0, .int .i64 0, .int .i64 0, .int .i64 0, .int .i64 0, .int .i64 0, .int .i64 0, .int .i64 0, .int .i64 0, .int .i64 0, .int .i64 0, .int .i64 (v 15), .int .i64 (v 16), .slice none 0 0, .int .i64 k1, .int .i64 k2, .int .i64 k3] 36 (0, 0)) := (setRow_other _ _ _ _ hYS).trans d0
        refine hK.out _ _ ?_ (fun hHeld => ?_)
        · try dsimp only
          (refine ?_ <;> (first | with_reducible assumption))
        clear hK K
        try simp only [Act.put]
        refine wpAnyH_done (by kernel_rfl) ?_ _
        refine NoPanic.normal ?_
        clear hHeld d0 y0
        have HRET := Lib.hid (setRow_heap w9.drew (S + 1 + 1) _ #[.int .i64 8, .int .i64 ep, .int .i64 0, .int .i64 0, .int .i64 0, .int .i64 0, .int .i64 0, .int .i64 0, .int .i64 0, .int .i64 0, .int .i64 0, .int .i64 0, .int .i64 0, .int .i64 0, .int .i64 0, .int .i64 (v 15), .int .i64 (v 16), .slice none 0 0, .int .i64 k1, .int .i64 k2, .int .i64 k3] _ _ HQd.out)
        have HBF := Lib.hid (below_setRow (g := S + 1 + 1) HB9.out.drew (by have := HSW.out; omega) #[.int .i64 8, .int .i64 ep, .int .i64 0, .int .i64 0, .int .i64 0, .int .i64 0, .int .i64 0, .int .i64 0, .int .i64 0, .int .i64 0, .int .i64 0, .int .i64 0, .int .i64 0, .int .i64 0, .int .i64 0, .int .i64 (v 15), .int .i64 (v 16), .slice none 0 0, .int .i64 k1, .int .i64 k2, .int .i64 k3])
        go_wp2_with fail
        refine bodyPost_ret (v := .tuple #[.int .i64 1, .agg #[.int .i64 8, .int .i64 ep, .int .i64 0, .int .i64 0, .int .i64 0, .int .i64 0, .int .i64 0, .int .i64 0, .int .i64 0, .int .i64 0, .int .i64 0, .int .i64 0, .int .i64 0, .int .i64 0, .int .i64 0, .int .i64 (v 15), .int .i64 (v 16), .slice none 0 0, .int .i64 k1, .int .i64 k2, .int .i64 k3]]) (results_look _ _ (S + 1 + 1) _ rfl HRET.out rfl) rfl ?_
        refine ⟨?_, HBF.out⟩
        unfold LookPost; rw [if_pos HE.out, HKK.out, if_neg (show ¬ kq < v 16 by have := G1.out; omega), if_neg (show ¬ v 16 < kq by have := G2.out; omega)]
        exact ⟨true, ⟨fun _ => HK.out.1 trivial, fun _ => rfl⟩, rfl⟩
end Go.Proofs.Ytlcbpodjmafoeaa
