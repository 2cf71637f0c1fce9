/- The document's examples; sums, differences and products. -/
import Derived.Test.YtfbmjejkhnopiaaDoorVecC
import Derived.Test.YtfbmjejkhnopiaaDoorVecT
import Derived.Test.YtfbmjejkhnopiaaDoorHeldW
namespace Go.Proofs.YtfbmjejkhnopiaaDoor
open Go.RowKit

theorem take_load {P : Program} {a : Act} {oi : Oper} {w : World} {ty : TypeId} {x : Operand} (ho : oi.op = .load ty x) (g : Nat) (hx : a.eval x = .pointer (some ⟨g, 0, none⟩)) (t : TypeId) (cs : Array Value) (fr : Nat × Nat) (d : TypeDesc) (hg : w.heap[g]? = some (.cells cs t fr))
    (hu : P.underlying ty = some d) (hd : (match d with | .struct _ | .array _ _ => true | _ => false) = true) (hi : (P.info? ty).map (·.size) = some cs.size) : (execOp a.eval oi).run P w = .ok (.value (.agg cs)) w := by
  unfold execOp
  simp only [ho, hx, Instr.loadAt, Instr.sureAddr, Sem.run_bind, Sem.run_pure, Result.andThen_ok, run_loadVar_row w g t ty cs fr d hg hu hd hi]
theorem tb_on {w w' : World} {s : String} {k : IntKind} {zs : List Int} (h : Lib.TabBelow Tryd.prog w.heap.size w s k zs) (hb : Below w.heap.size w w') : Lib.TabBelow Tryd.prog w'.heap.size w' s k zs :=
  fun w2 h2 => h w2 (hb.trans (h2.mono hb.size))
theorem eq_vecs (a b c d a' b' c' d' : Int) (w : World) : (Op.equalIn 10000 23 (.agg #[.int .i64 a, .int .i64 b, .int .i64 c, .int .i64 d]) (.agg #[.int .i64 a', .int .i64 b', .int .i64 c', .int .i64 d'])).run Tryd.prog w = .ok (a == a' && b == b' && c == c' && d == d') w := by
  have u3 := Tryd.underlying3
  have a3 := Tryd.isAgg3
  have z3 := Tryd.sizeOf3
  rw [show (10000 : Nat) = 9999 + 1 from rfl, Op.equalIn]
  simp only [Sem.run_bind, run_underlying Tryd.underlying23, Result.andThen_ok]
  simp only [Std.Legacy.Range.forIn_eq_forIn_range', Std.Legacy.Range.size, Nat.sub_zero, Nat.add_sub_cancel, Nat.div_one, List.range'_succ, List.range'_zero, List.forIn_cons, List.forIn_nil]
  go_simp
  by_cases h1 : a = a' <;> by_cases h2 : b = b' <;> by_cases h3 : c = c' <;> by_cases h4 : d = d' <;> simp [h1, h2, h3, h4]
theorem eq_vec2 (d e : Nat → Int) (w : World) : (Go.binOp .eql 23 (.agg #[.int .i64 (d 0), .int .i64 (d 1), .int .i64 (d 2), .int .i64 (d 3)]) (.agg #[.int .i64 (e 0), .int .i64 (e 1), .int .i64 (e 2), .int .i64 (e 3)])).run Tryd.prog w = .ok (.bool (d 0 == e 0 && d 1 == e 1 && d 2 == e 2 && d 3 == e 3)) w := by
  rw [run_eql_struct, eq_vecs]; rfl
def vq (a b c d : Int) : Nat → Int := fun i => if i = 0 then a else if i = 1 then b else if i = 2 then c else d
theorem pt2520 : pt (vq 2 5 2 0) 4 = [50, 44, 53, 44, 50, 44, 48] := by
  simp [pt, vq, Lib.itoa, Lib.decDigits]

set_option maxRecDepth 100000 in
set_option maxHeartbeats 4000000 in
theorem awake_any (w1 : World) (htab : Lib.TabBelow Tryd.prog w1.heap.size w1 "internal/strconv.uint64pow10" .u64 Lib.pow10Tab) : Calls Tryd.prog 9 #[] w1 fun e w' => e = .returned (.bool true) ∧ Below w1.heap.size w1 w' := by
  have HTB_1 := Lib.hid htab
  clear htab
  have HB_1 := Lib.hid (Below.refl w1.heap.size w1)
  go_enter Tryd.func9, Tryd.ntmps9
  go_wp2_with fail
  refine (add_any (vq 1 0 2 0) (vq 1 5 0 0) w1).mono ?_
  rintro e w2 ⟨rfl, hb⟩
  rw [show toldV (okv (vq 1 0 2 0) && okv (vq 1 5 0 0)) (fun i => (vq 1 0 2 0) i + (vq 1 5 0 0) i) 0 = 2 from by decide, show toldV (okv (vq 1 0 2 0) && okv (vq 1 5 0 0)) (fun i => (vq 1 0 2 0) i + (vq 1 5 0 0) i) 1 = 5 from by decide, show toldV (okv (vq 1 0 2 0) && okv (vq 1 5 0 0)) (fun i => (vq 1 0 2 0) i + (vq 1 5 0 0) i) 2 = 2 from by decide, show toldV (okv (vq 1 0 2 0) && okv (vq 1 5 0 0)) (fun i => (vq 1 0 2 0) i + (vq 1 5 0 0) i) 3 = 0 from by decide]
  rw [show toldE (okv (vq 1 0 2 0) && okv (vq 1 5 0 0)) (fun i => (vq 1 0 2 0) i + (vq 1 5 0 0) i) 30 = 0 from by decide]
  have HB_2 : Hid (Below w1.heap.size w1 w2) := Lib.hid (HB_1.out.trans (hb.mono HB_1.out.size))
  have HTB_2 : Hid (Lib.TabBelow Tryd.prog w2.heap.size w2 "internal/strconv.uint64pow10" .u64 Lib.pow10Tab) := Lib.hid (tb_on HTB_1.out hb)
  clear hb HB_1 HTB_1
  obtain ⟨P1, hP1⟩ : ∃ x, x = w2.heap.size := ⟨_, rfl⟩
  have hal : Below w2.heap.size w2 (w2.alloc (.cells #[.int .i64 2, .int .i64 5, .int .i64 2, .int .i64 0] 23)) := (Below.refl _ _).alloc (Nat.le_refl _) _
  have hnew : (w2.alloc (.cells #[.int .i64 2, .int .i64 5, .int .i64 2, .int .i64 0] 23)).heap[P1]? = some (.cells #[.int .i64 2, .int .i64 5, .int .i64 2, .int .i64 0] 23 (0, 0)) := by rw [hP1]; exact heap_alloc_new _ _
  have HB_3 : Hid (Below w1.heap.size w1 (w2.alloc (.cells #[.int .i64 2, .int .i64 5, .int .i64 2, .int .i64 0] 23))) := Lib.hid (HB_2.out.trans (hal.mono HB_2.out.size))
  have HTB_3 : Hid (Lib.TabBelow Tryd.prog (w2.alloc (.cells #[.int .i64 2, .int .i64 5, .int .i64 2, .int .i64 0] 23)).heap.size (w2.alloc (.cells #[.int .i64 2, .int .i64 5, .int .i64 2, .int .i64 0] 23)) "internal/strconv.uint64pow10" .u64 Lib.pow10Tab) := Lib.hid (tb_on HTB_2.out hal)
  clear hal HB_2 HTB_2
  have HP1_3 : Hid (VAt (w2.alloc (.cells #[.int .i64 2, .int .i64 5, .int .i64 2, .int .i64 0] 23)) P1 (vq 2 5 2 0)) := Lib.hid hnew
  clear hnew
  go_wp2_with (refine wpList_store_row rfl 23 (.tmp 1) (.tmp 9) rfl w2.heap.size _ rfl rfl 23 _ (heap_alloc_new w2 _) (by kernel_rfl) rfl (by simp [Value.oneCell']) ?_; rw [World.setRow_alloc_new])
  rw [← hP1]
  clear hP1
  generalize w2.alloc (.cells #[.int .i64 2, .int .i64 5, .int .i64 2, .int .i64 0] 23) = w3 at HB_3 HTB_3 HP1_3 ⊢
  refine (sub_any (vq 1 0 0 0) (vq 0 1 0 0) w3).mono ?_
  rintro e w4 ⟨rfl, hb⟩
  rw [show toldV (okv (vq 1 0 0 0) && okv (vq 0 1 0 0)) (fun i => (vq 1 0 0 0) i - (vq 0 1 0 0) i) 0 = 0 from by decide, show toldV (okv (vq 1 0 0 0) && okv (vq 0 1 0 0)) (fun i => (vq 1 0 0 0) i - (vq 0 1 0 0) i) 1 = 0 from by decide, show toldV (okv (vq 1 0 0 0) && okv (vq 0 1 0 0)) (fun i => (vq 1 0 0 0) i - (vq 0 1 0 0) i) 2 = 0 from by decide, show toldV (okv (vq 1 0 0 0) && okv (vq 0 1 0 0)) (fun i => (vq 1 0 0 0) i - (vq 0 1 0 0) i) 3 = 0 from by decide]
  rw [show toldE (okv (vq 1 0 0 0) && okv (vq 0 1 0 0)) (fun i => (vq 1 0 0 0) i - (vq 0 1 0 0) i) 31 = 31 from by decide]
  have HB_4 : Hid (Below w1.heap.size w1 w4) := Lib.hid (HB_3.out.trans (hb.mono HB_3.out.size))
  have HTB_4 : Hid (Lib.TabBelow Tryd.prog w4.heap.size w4 "internal/strconv.uint64pow10" .u64 Lib.pow10Tab) := Lib.hid (tb_on HTB_3.out hb)
  have HP1_4 : Hid (VAt w4 P1 (vq 2 5 2 0)) := Lib.hid (HP1_3.out.below hb (ltb HP1_3.out))
  clear hb HB_3 HTB_3 HP1_3
  obtain ⟨P3, hP3⟩ : ∃ x, x = w4.heap.size := ⟨_, rfl⟩
  have hal : Below w4.heap.size w4 (w4.alloc (.cells #[.int .i64 0, .int .i64 0, .int .i64 0, .int .i64 0] 23)) := (Below.refl _ _).alloc (Nat.le_refl _) _
  have hnew : (w4.alloc (.cells #[.int .i64 0, .int .i64 0, .int .i64 0, .int .i64 0] 23)).heap[P3]? = some (.cells #[.int .i64 0, .int .i64 0, .int .i64 0, .int .i64 0] 23 (0, 0)) := by rw [hP3]; exact heap_alloc_new _ _
  have HB_5 : Hid (Below w1.heap.size w1 (w4.alloc (.cells #[.int .i64 0, .int .i64 0, .int .i64 0, .int .i64 0] 23))) := Lib.hid (HB_4.out.trans (hal.mono HB_4.out.size))
  have HTB_5 : Hid (Lib.TabBelow Tryd.prog (w4.alloc (.cells #[.int .i64 0, .int .i64 0, .int .i64 0, .int .i64 0] 23)).heap.size (w4.alloc (.cells #[.int .i64 0, .int .i64 0, .int .i64 0, .int .i64 0] 23)) "internal/strconv.uint64pow10" .u64 Lib.pow10Tab) := Lib.hid (tb_on HTB_4.out hal)
  have HP1_5 : Hid (VAt (w4.alloc (.cells #[.int .i64 0, .int .i64 0, .int .i64 0, .int .i64 0] 23)) P1 (vq 2 5 2 0)) := Lib.hid (HP1_4.out.below hal (ltb HP1_4.out))
  clear hal HB_4 HTB_4 HP1_4
  have HP3_5 : Hid (VAt (w4.alloc (.cells #[.int .i64 0, .int .i64 0, .int .i64 0, .int .i64 0] 23)) P3 (vq 0 0 0 0)) := Lib.hid hnew
  clear hnew
  go_upto_region 3 with (refine wpList_store_row rfl 23 (.tmp 3) (.tmp 15) rfl w4.heap.size _ rfl rfl 23 _ (heap_alloc_new w4 _) (by kernel_rfl) rfl (by simp [Value.oneCell']) ?_; rw [World.setRow_alloc_new])
  rw [← hP3]
  clear hP3
  generalize w4.alloc (.cells #[.int .i64 0, .int .i64 0, .int .i64 0, .int .i64 0] 23) = w5 at HB_5 HTB_5 HP1_5 HP3_5 ⊢
  clear HP3_5
  have q1 : ∀ w, (Go.binOp .eql 23 (.agg #[.int .i64 ((vq 2 5 2 0) 0), .int .i64 ((vq 2 5 2 0) 1), .int .i64 ((vq 2 5 2 0) 2), .int .i64 ((vq 2 5 2 0) 3)]) (.agg #[.int .i64 2, .int .i64 5, .int .i64 2, .int .i64 0])).run Tryd.prog w = .ok (.bool true) w := fun w => eq_vec2 (vq 2 5 2 0) (vq 2 5 2 0) w
  go_wp2_with (refine wpList_load_g rfl 23 (.tmp 1) rfl (P1) rfl 23 _ (0, 0) _ HP1_5.out Tryd.underlying23 rfl (by kernel_rfl) ?_)
  refine (right_any (vq 2 5 2 0) w5).mono ?_
  rintro e w6 ⟨rfl, hb⟩
  rw [show okv (vq 2 5 2 0) = true from by decide]
  have HB_6 : Hid (Below w1.heap.size w1 w6) := Lib.hid (HB_5.out.trans (hb.mono HB_5.out.size))
  have HTB_6 : Hid (Lib.TabBelow Tryd.prog w6.heap.size w6 "internal/strconv.uint64pow10" .u64 Lib.pow10Tab) := Lib.hid (tb_on HTB_5.out hb)
  have HP1_6 : Hid (VAt w6 P1 (vq 2 5 2 0)) := Lib.hid (HP1_5.out.below hb (ltb HP1_5.out))
  clear hb HB_5 HTB_5 HP1_5
  clear q1
  go_wp2_with (refine wpList_load_g rfl 23 (.tmp 1) rfl (P1) rfl 23 _ (0, 0) _ HP1_6.out Tryd.underlying23 rfl (by kernel_rfl) ?_)
  refine (text_any (vq 2 5 2 0) w6 (fun i hi => by unfold vq; split; omega; split; omega; split <;> omega) HTB_6.out).mono ?_
  rintro e w7 ⟨rfl, hb⟩
  rw [show str (pt (vq 2 5 2 0) 4) = ⟨#[50, 44, 53, 44, 50, 44, 48]⟩ from by rw [pt2520]; rfl]
  have HB_7 : Hid (Below w1.heap.size w1 w7) := Lib.hid (HB_6.out.trans (hb.mono HB_6.out.size))
  have HTB_7 : Hid (Lib.TabBelow Tryd.prog w7.heap.size w7 "internal/strconv.uint64pow10" .u64 Lib.pow10Tab) := Lib.hid (tb_on HTB_6.out hb)
  have HP1_7 : Hid (VAt w7 P1 (vq 2 5 2 0)) := Lib.hid (HP1_6.out.below hb (ltb HP1_6.out))
  clear hb HB_6 HTB_6 HP1_6
  go_wp2_with fail
  go_ret
  exact ⟨rfl, HB_7.out⟩
set_option maxRecDepth 100000 in
set_option maxHeartbeats 8000000 in
theorem law_sums (a b : Nat → Int) (n : Int) (w : World) (htab : Lib.TabBelow Tryd.prog w.heap.size w "internal/strconv.uint64pow10" .u64 Lib.pow10Tab)  : Calls Tryd.prog 5 #[.agg #[.int .i64 (a 0), .int .i64 (a 1), .int .i64 (a 2), .int .i64 (a 3)], .agg #[.int .i64 (b 0), .int .i64 (b 1), .int .i64 (b 2), .int .i64 (b 3)], .int .i64 n] w fun e w' => e = .returned (.bool true) ∧ Below w.heap.size w w' := by
  obtain ⟨S, hS⟩ : ∃ S, S = w.heap.size := ⟨_, rfl⟩
  obtain ⟨w1, hw1⟩ : ∃ x, x = ((w.alloc (.cells #[.int .i64 (a 0), .int .i64 (a 1), .int .i64 (a 2), .int .i64 (a 3)] 23)).alloc (.cells #[.int .i64 (b 0), .int .i64 (b 1), .int .i64 (b 2), .int .i64 (b 3)] 23)) := ⟨_, rfl⟩
  have HB_1 : Hid (Below w.heap.size w w1) := Lib.hid (by rw [hw1]; exact (((Below.refl w.heap.size w).alloc (by simp) _).alloc (by simp) _))
  have HAX_1 : Hid (VAt w1 S a) := Lib.hid (by
    rw [hw1, hS]
    have h := heap_alloc_new w (.cells #[.int .i64 (a 0), .int .i64 (a 1), .int .i64 (a 2), .int .i64 (a 3)] 23)
    replace h := (Below.heap_alloc (w.alloc (.cells #[.int .i64 (a 0), .int .i64 (a 1), .int .i64 (a 2), .int .i64 (a 3)] 23)) (.cells #[.int .i64 (b 0), .int .i64 (b 1), .int .i64 (b 2), .int .i64 (b 3)] 23) _ (by simp)).trans h
    exact h)
  have HBX_1 : Hid (VAt w1 (S + 1) b) := Lib.hid (by
    rw [hw1, hS]
    have h := heap_alloc_new (w.alloc (.cells #[.int .i64 (a 0), .int .i64 (a 1), .int .i64 (a 2), .int .i64 (a 3)] 23)) (.cells #[.int .i64 (b 0), .int .i64 (b 1), .int .i64 (b 2), .int .i64 (b 3)] 23)
    simp only [World.size_alloc] at h
    exact h)
  have HTB_1 : Hid (Lib.TabBelow Tryd.prog w1.heap.size w1 "internal/strconv.uint64pow10" .u64 Lib.pow10Tab) := Lib.hid (tb_on htab HB_1.out)
  have HS := Lib.hid hS
  clear htab
  go_enter Tryd.func5, Tryd.ntmps5
  go_upto_region 1 with (fail)
  rw [← hw1, ← hS]
  clear hw1 hS
  go_wp2_with fail
  refine (awake_any w1 HTB_1.out).mono ?_
  rintro e w2 ⟨rfl, hb⟩
  have HB_2 : Hid (Below w.heap.size w w2) := Lib.hid (HB_1.out.trans (hb.mono HB_1.out.size))
  have HTB_2 : Hid (Lib.TabBelow Tryd.prog w2.heap.size w2 "internal/strconv.uint64pow10" .u64 Lib.pow10Tab) := Lib.hid (tb_on HTB_1.out hb)
  have HAX_2 : Hid (VAt w2 S a) := Lib.hid (HAX_1.out.below hb (ltb HAX_1.out))
  have HBX_2 : Hid (VAt w2 (S + 1) b) := Lib.hid (HBX_1.out.below hb (ltb HBX_1.out))
  clear hb HB_1 HTB_1 HAX_1 HBX_1
  clear HTB_2
  go_wp2_with (first | (refine wpList_load_row rfl 23 (.tmp 3) rfl (S) rfl 23 _ (0, 0) _ HAX_2.out Tryd.underlying23 rfl (by kernel_rfl) ?_) | (refine wpList_load_row rfl 23 (.tmp 4) rfl ((S + 1)) rfl 23 _ (0, 0) _ HBX_2.out Tryd.underlying23 rfl (by kernel_rfl) ?_))
  refine (add_any a b w2).mono ?_
  rintro e w3 ⟨rfl, hb⟩
  obtain ⟨x, hx⟩ : ∃ x, x = toldV (okv a && okv b) (fun i => a i + b i) := ⟨_, rfl⟩
  rw [← hx]
  have Hx := Lib.hid hx
  clear hx
  obtain ⟨ex, hex⟩ : ∃ x, x = toldE (okv a && okv b) (fun i => a i + b i) 30 := ⟨_, rfl⟩
  rw [← hex]
  have Hex := Lib.hid hex
  clear hex
  have HB_3 : Hid (Below w.heap.size w w3) := Lib.hid (HB_2.out.trans (hb.mono HB_2.out.size))
  have HAX_3 : Hid (VAt w3 S a) := Lib.hid (HAX_2.out.below hb (ltb HAX_2.out))
  have HBX_3 : Hid (VAt w3 (S + 1) b) := Lib.hid (HBX_2.out.below hb (ltb HBX_2.out))
  clear hb HB_2 HAX_2 HBX_2
  obtain ⟨P8, hP8⟩ : ∃ x, x = w3.heap.size := ⟨_, rfl⟩
  have hal : Below w3.heap.size w3 (w3.alloc (.cells #[.int .i64 (x 0), .int .i64 (x 1), .int .i64 (x 2), .int .i64 (x 3)] 23)) := (Below.refl _ _).alloc (Nat.le_refl _) _
  have hnew : (w3.alloc (.cells #[.int .i64 (x 0), .int .i64 (x 1), .int .i64 (x 2), .int .i64 (x 3)] 23)).heap[P8]? = some (.cells #[.int .i64 (x 0), .int .i64 (x 1), .int .i64 (x 2), .int .i64 (x 3)] 23 (0, 0)) := by rw [hP8]; exact heap_alloc_new _ _
  have HB_4 : Hid (Below w.heap.size w (w3.alloc (.cells #[.int .i64 (x 0), .int .i64 (x 1), .int .i64 (x 2), .int .i64 (x 3)] 23))) := Lib.hid (HB_3.out.trans (hal.mono HB_3.out.size))
  have HAX_4 : Hid (VAt (w3.alloc (.cells #[.int .i64 (x 0), .int .i64 (x 1), .int .i64 (x 2), .int .i64 (x 3)] 23)) S a) := Lib.hid (HAX_3.out.below hal (ltb HAX_3.out))
  have HBX_4 : Hid (VAt (w3.alloc (.cells #[.int .i64 (x 0), .int .i64 (x 1), .int .i64 (x 2), .int .i64 (x 3)] 23)) (S + 1) b) := Lib.hid (HBX_3.out.below hal (ltb HBX_3.out))
  clear hal HB_3 HAX_3 HBX_3
  have HP8_4 : Hid (VAt (w3.alloc (.cells #[.int .i64 (x 0), .int .i64 (x 1), .int .i64 (x 2), .int .i64 (x 3)] 23)) P8 x) := Lib.hid hnew
  clear hnew
  go_wp2_with (first | (refine wpList_store_row rfl 23 (.tmp 8) (.tmp 27) rfl w3.heap.size _ rfl rfl 23 _ (heap_alloc_new w3 _) (by kernel_rfl) rfl (by simp [Value.oneCell']) ?_; rw [World.setRow_alloc_new]) | (refine wpList_load_row rfl 23 (.tmp 3) rfl (S) rfl 23 _ (0, 0) _ HAX_4.out Tryd.underlying23 rfl (by kernel_rfl) ?_) | (refine wpList_load_row rfl 23 (.tmp 4) rfl ((S + 1)) rfl 23 _ (0, 0) _ HBX_4.out Tryd.underlying23 rfl (by kernel_rfl) ?_))
  rw [← hP8]
  clear hP8
  generalize w3.alloc (.cells #[.int .i64 (x 0), .int .i64 (x 1), .int .i64 (x 2), .int .i64 (x 3)] 23) = w4 at HB_4 HAX_4 HBX_4 HP8_4 ⊢
  refine (radd_any a b w4).mono ?_
  rintro e w5 ⟨rfl, hb⟩
  rw [show toldV (okv a && okv b) (fun i => a i + b i) = x from Hx.out.symm]
  rw [show toldE (okv a && okv b) (fun i => a i + b i) 30 = ex from Hex.out.symm]
  have HB_5 : Hid (Below w.heap.size w w5) := Lib.hid (HB_4.out.trans (hb.mono HB_4.out.size))
  have HAX_5 : Hid (VAt w5 S a) := Lib.hid (HAX_4.out.below hb (ltb HAX_4.out))
  have HBX_5 : Hid (VAt w5 (S + 1) b) := Lib.hid (HBX_4.out.below hb (ltb HBX_4.out))
  have HP8_5 : Hid (VAt w5 P8 x) := Lib.hid (HP8_4.out.below hb (ltb HP8_4.out))
  clear hb HB_4 HAX_4 HBX_4 HP8_4
  obtain ⟨P10, hP10⟩ : ∃ x, x = w5.heap.size := ⟨_, rfl⟩
  have hal : Below w5.heap.size w5 (w5.alloc (.cells #[.int .i64 (x 0), .int .i64 (x 1), .int .i64 (x 2), .int .i64 (x 3)] 23)) := (Below.refl _ _).alloc (Nat.le_refl _) _
  have hnew : (w5.alloc (.cells #[.int .i64 (x 0), .int .i64 (x 1), .int .i64 (x 2), .int .i64 (x 3)] 23)).heap[P10]? = some (.cells #[.int .i64 (x 0), .int .i64 (x 1), .int .i64 (x 2), .int .i64 (x 3)] 23 (0, 0)) := by rw [hP10]; exact heap_alloc_new _ _
  have HB_6 : Hid (Below w.heap.size w (w5.alloc (.cells #[.int .i64 (x 0), .int .i64 (x 1), .int .i64 (x 2), .int .i64 (x 3)] 23))) := Lib.hid (HB_5.out.trans (hal.mono HB_5.out.size))
  have HAX_6 : Hid (VAt (w5.alloc (.cells #[.int .i64 (x 0), .int .i64 (x 1), .int .i64 (x 2), .int .i64 (x 3)] 23)) S a) := Lib.hid (HAX_5.out.below hal (ltb HAX_5.out))
  have HBX_6 : Hid (VAt (w5.alloc (.cells #[.int .i64 (x 0), .int .i64 (x 1), .int .i64 (x 2), .int .i64 (x 3)] 23)) (S + 1) b) := Lib.hid (HBX_5.out.below hal (ltb HBX_5.out))
  have HP8_6 : Hid (VAt (w5.alloc (.cells #[.int .i64 (x 0), .int .i64 (x 1), .int .i64 (x 2), .int .i64 (x 3)] 23)) P8 x) := Lib.hid (HP8_5.out.below hal (ltb HP8_5.out))
  clear hal HB_5 HAX_5 HBX_5 HP8_5
  have HP10_6 : Hid (VAt (w5.alloc (.cells #[.int .i64 (x 0), .int .i64 (x 1), .int .i64 (x 2), .int .i64 (x 3)] 23)) P10 x) := Lib.hid hnew
  clear hnew
  go_wp2_with (first | (refine wpList_store_row rfl 23 (.tmp 10) (.tmp 33) rfl w5.heap.size _ rfl rfl 23 _ (heap_alloc_new w5 _) (by kernel_rfl) rfl (by simp [Value.oneCell']) ?_; rw [World.setRow_alloc_new]) | (refine wpList_load_row rfl 23 (.tmp 3) rfl (S) rfl 23 _ (0, 0) _ HAX_6.out Tryd.underlying23 rfl (by kernel_rfl) ?_) | (refine wpList_load_row rfl 23 (.tmp 4) rfl ((S + 1)) rfl 23 _ (0, 0) _ HBX_6.out Tryd.underlying23 rfl (by kernel_rfl) ?_))
  rw [← hP10]
  clear hP10
  generalize w5.alloc (.cells #[.int .i64 (x 0), .int .i64 (x 1), .int .i64 (x 2), .int .i64 (x 3)] 23) = w6 at HB_6 HAX_6 HBX_6 HP8_6 HP10_6 ⊢
  refine (sub_any a b w6).mono ?_
  rintro e w7 ⟨rfl, hb⟩
  obtain ⟨y, hy⟩ : ∃ x, x = toldV (okv a && okv b) (fun i => a i - b i) := ⟨_, rfl⟩
  rw [← hy]
  have Hy := Lib.hid hy
  clear hy
  obtain ⟨ey, hey⟩ : ∃ x, x = toldE (okv a && okv b) (fun i => a i - b i) 31 := ⟨_, rfl⟩
  rw [← hey]
  have Hey := Lib.hid hey
  clear hey
  have HB_7 : Hid (Below w.heap.size w w7) := Lib.hid (HB_6.out.trans (hb.mono HB_6.out.size))
  have HAX_7 : Hid (VAt w7 S a) := Lib.hid (HAX_6.out.below hb (ltb HAX_6.out))
  have HBX_7 : Hid (VAt w7 (S + 1) b) := Lib.hid (HBX_6.out.below hb (ltb HBX_6.out))
  have HP8_7 : Hid (VAt w7 P8 x) := Lib.hid (HP8_6.out.below hb (ltb HP8_6.out))
  have HP10_7 : Hid (VAt w7 P10 x) := Lib.hid (HP10_6.out.below hb (ltb HP10_6.out))
  clear hb HB_6 HAX_6 HBX_6 HP8_6 HP10_6
  obtain ⟨P12, hP12⟩ : ∃ x, x = w7.heap.size := ⟨_, rfl⟩
  have hal : Below w7.heap.size w7 (w7.alloc (.cells #[.int .i64 (y 0), .int .i64 (y 1), .int .i64 (y 2), .int .i64 (y 3)] 23)) := (Below.refl _ _).alloc (Nat.le_refl _) _
  have hnew : (w7.alloc (.cells #[.int .i64 (y 0), .int .i64 (y 1), .int .i64 (y 2), .int .i64 (y 3)] 23)).heap[P12]? = some (.cells #[.int .i64 (y 0), .int .i64 (y 1), .int .i64 (y 2), .int .i64 (y 3)] 23 (0, 0)) := by rw [hP12]; exact heap_alloc_new _ _
  have HB_8 : Hid (Below w.heap.size w (w7.alloc (.cells #[.int .i64 (y 0), .int .i64 (y 1), .int .i64 (y 2), .int .i64 (y 3)] 23))) := Lib.hid (HB_7.out.trans (hal.mono HB_7.out.size))
  have HAX_8 : Hid (VAt (w7.alloc (.cells #[.int .i64 (y 0), .int .i64 (y 1), .int .i64 (y 2), .int .i64 (y 3)] 23)) S a) := Lib.hid (HAX_7.out.below hal (ltb HAX_7.out))
  have HBX_8 : Hid (VAt (w7.alloc (.cells #[.int .i64 (y 0), .int .i64 (y 1), .int .i64 (y 2), .int .i64 (y 3)] 23)) (S + 1) b) := Lib.hid (HBX_7.out.below hal (ltb HBX_7.out))
  have HP8_8 : Hid (VAt (w7.alloc (.cells #[.int .i64 (y 0), .int .i64 (y 1), .int .i64 (y 2), .int .i64 (y 3)] 23)) P8 x) := Lib.hid (HP8_7.out.below hal (ltb HP8_7.out))
  have HP10_8 : Hid (VAt (w7.alloc (.cells #[.int .i64 (y 0), .int .i64 (y 1), .int .i64 (y 2), .int .i64 (y 3)] 23)) P10 x) := Lib.hid (HP10_7.out.below hal (ltb HP10_7.out))
  clear hal HB_7 HAX_7 HBX_7 HP8_7 HP10_7
  have HP12_8 : Hid (VAt (w7.alloc (.cells #[.int .i64 (y 0), .int .i64 (y 1), .int .i64 (y 2), .int .i64 (y 3)] 23)) P12 y) := Lib.hid hnew
  clear hnew
  go_wp2_with (first | (refine wpList_store_row rfl 23 (.tmp 12) (.tmp 39) rfl w7.heap.size _ rfl rfl 23 _ (heap_alloc_new w7 _) (by kernel_rfl) rfl (by simp [Value.oneCell']) ?_; rw [World.setRow_alloc_new]) | (refine wpList_load_row rfl 23 (.tmp 3) rfl (S) rfl 23 _ (0, 0) _ HAX_8.out Tryd.underlying23 rfl (by kernel_rfl) ?_) | (refine wpList_load_row rfl 23 (.tmp 4) rfl ((S + 1)) rfl 23 _ (0, 0) _ HBX_8.out Tryd.underlying23 rfl (by kernel_rfl) ?_))
  rw [← hP12]
  clear hP12
  generalize w7.alloc (.cells #[.int .i64 (y 0), .int .i64 (y 1), .int .i64 (y 2), .int .i64 (y 3)] 23) = w8 at HB_8 HAX_8 HBX_8 HP8_8 HP10_8 HP12_8 ⊢
  refine (rsub_any a b w8).mono ?_
  rintro e w9 ⟨rfl, hb⟩
  rw [show toldV (okv a && okv b) (fun i => a i - b i) = y from Hy.out.symm]
  rw [show toldE (okv a && okv b) (fun i => a i - b i) 31 = ey from Hey.out.symm]
  have HB_9 : Hid (Below w.heap.size w w9) := Lib.hid (HB_8.out.trans (hb.mono HB_8.out.size))
  have HAX_9 : Hid (VAt w9 S a) := Lib.hid (HAX_8.out.below hb (ltb HAX_8.out))
  have HBX_9 : Hid (VAt w9 (S + 1) b) := Lib.hid (HBX_8.out.below hb (ltb HBX_8.out))
  have HP8_9 : Hid (VAt w9 P8 x) := Lib.hid (HP8_8.out.below hb (ltb HP8_8.out))
  have HP10_9 : Hid (VAt w9 P10 x) := Lib.hid (HP10_8.out.below hb (ltb HP10_8.out))
  have HP12_9 : Hid (VAt w9 P12 y) := Lib.hid (HP12_8.out.below hb (ltb HP12_8.out))
  clear hb HB_8 HAX_8 HBX_8 HP8_8 HP10_8 HP12_8
  obtain ⟨P14, hP14⟩ : ∃ x, x = w9.heap.size := ⟨_, rfl⟩
  have hal : Below w9.heap.size w9 (w9.alloc (.cells #[.int .i64 (y 0), .int .i64 (y 1), .int .i64 (y 2), .int .i64 (y 3)] 23)) := (Below.refl _ _).alloc (Nat.le_refl _) _
  have hnew : (w9.alloc (.cells #[.int .i64 (y 0), .int .i64 (y 1), .int .i64 (y 2), .int .i64 (y 3)] 23)).heap[P14]? = some (.cells #[.int .i64 (y 0), .int .i64 (y 1), .int .i64 (y 2), .int .i64 (y 3)] 23 (0, 0)) := by rw [hP14]; exact heap_alloc_new _ _
  have HB_10 : Hid (Below w.heap.size w (w9.alloc (.cells #[.int .i64 (y 0), .int .i64 (y 1), .int .i64 (y 2), .int .i64 (y 3)] 23))) := Lib.hid (HB_9.out.trans (hal.mono HB_9.out.size))
  have HAX_10 : Hid (VAt (w9.alloc (.cells #[.int .i64 (y 0), .int .i64 (y 1), .int .i64 (y 2), .int .i64 (y 3)] 23)) S a) := Lib.hid (HAX_9.out.below hal (ltb HAX_9.out))
  have HBX_10 : Hid (VAt (w9.alloc (.cells #[.int .i64 (y 0), .int .i64 (y 1), .int .i64 (y 2), .int .i64 (y 3)] 23)) (S + 1) b) := Lib.hid (HBX_9.out.below hal (ltb HBX_9.out))
  have HP8_10 : Hid (VAt (w9.alloc (.cells #[.int .i64 (y 0), .int .i64 (y 1), .int .i64 (y 2), .int .i64 (y 3)] 23)) P8 x) := Lib.hid (HP8_9.out.below hal (ltb HP8_9.out))
  have HP10_10 : Hid (VAt (w9.alloc (.cells #[.int .i64 (y 0), .int .i64 (y 1), .int .i64 (y 2), .int .i64 (y 3)] 23)) P10 x) := Lib.hid (HP10_9.out.below hal (ltb HP10_9.out))
  have HP12_10 : Hid (VAt (w9.alloc (.cells #[.int .i64 (y 0), .int .i64 (y 1), .int .i64 (y 2), .int .i64 (y 3)] 23)) P12 y) := Lib.hid (HP12_9.out.below hal (ltb HP12_9.out))
  clear hal HB_9 HAX_9 HBX_9 HP8_9 HP10_9 HP12_9
  have HP14_10 : Hid (VAt (w9.alloc (.cells #[.int .i64 (y 0), .int .i64 (y 1), .int .i64 (y 2), .int .i64 (y 3)] 23)) P14 y) := Lib.hid hnew
  clear hnew
  go_wp2_with (first | (refine wpList_store_row rfl 23 (.tmp 14) (.tmp 45) rfl w9.heap.size _ rfl rfl 23 _ (heap_alloc_new w9 _) (by kernel_rfl) rfl (by simp [Value.oneCell']) ?_; rw [World.setRow_alloc_new]) | (refine wpList_load_row rfl 23 (.tmp 3) rfl (S) rfl 23 _ (0, 0) _ HAX_10.out Tryd.underlying23 rfl (by kernel_rfl) ?_))
  rw [← hP14]
  clear hP14
  generalize w9.alloc (.cells #[.int .i64 (y 0), .int .i64 (y 1), .int .i64 (y 2), .int .i64 (y 3)] 23) = w10 at HB_10 HAX_10 HBX_10 HP8_10 HP10_10 HP12_10 HP14_10 ⊢
  refine (times_any a n w10).mono ?_
  rintro e w11 ⟨rfl, hb⟩
  obtain ⟨z, hz⟩ : ∃ x, x = toldV (okv a && decide (0 ≤ n)) (fun i => a i * min n 1073741825) := ⟨_, rfl⟩
  rw [← hz]
  have Hz := Lib.hid hz
  clear hz
  obtain ⟨ez, hez⟩ : ∃ x, x = toldE (okv a && decide (0 ≤ n)) (fun i => a i * min n 1073741825) 30 := ⟨_, rfl⟩
  rw [← hez]
  have Hez := Lib.hid hez
  clear hez
  have HB_11 : Hid (Below w.heap.size w w11) := Lib.hid (HB_10.out.trans (hb.mono HB_10.out.size))
  have HAX_11 : Hid (VAt w11 S a) := Lib.hid (HAX_10.out.below hb (ltb HAX_10.out))
  have HBX_11 : Hid (VAt w11 (S + 1) b) := Lib.hid (HBX_10.out.below hb (ltb HBX_10.out))
  have HP8_11 : Hid (VAt w11 P8 x) := Lib.hid (HP8_10.out.below hb (ltb HP8_10.out))
  have HP10_11 : Hid (VAt w11 P10 x) := Lib.hid (HP10_10.out.below hb (ltb HP10_10.out))
  have HP12_11 : Hid (VAt w11 P12 y) := Lib.hid (HP12_10.out.below hb (ltb HP12_10.out))
  have HP14_11 : Hid (VAt w11 P14 y) := Lib.hid (HP14_10.out.below hb (ltb HP14_10.out))
  clear hb HB_10 HAX_10 HBX_10 HP8_10 HP10_10 HP12_10 HP14_10
  obtain ⟨P16, hP16⟩ : ∃ x, x = w11.heap.size := ⟨_, rfl⟩
  have hal : Below w11.heap.size w11 (w11.alloc (.cells #[.int .i64 (z 0), .int .i64 (z 1), .int .i64 (z 2), .int .i64 (z 3)] 23)) := (Below.refl _ _).alloc (Nat.le_refl _) _
  have hnew : (w11.alloc (.cells #[.int .i64 (z 0), .int .i64 (z 1), .int .i64 (z 2), .int .i64 (z 3)] 23)).heap[P16]? = some (.cells #[.int .i64 (z 0), .int .i64 (z 1), .int .i64 (z 2), .int .i64 (z 3)] 23 (0, 0)) := by rw [hP16]; exact heap_alloc_new _ _
  have HB_12 : Hid (Below w.heap.size w (w11.alloc (.cells #[.int .i64 (z 0), .int .i64 (z 1), .int .i64 (z 2), .int .i64 (z 3)] 23))) := Lib.hid (HB_11.out.trans (hal.mono HB_11.out.size))
  have HAX_12 : Hid (VAt (w11.alloc (.cells #[.int .i64 (z 0), .int .i64 (z 1), .int .i64 (z 2), .int .i64 (z 3)] 23)) S a) := Lib.hid (HAX_11.out.below hal (ltb HAX_11.out))
  have HBX_12 : Hid (VAt (w11.alloc (.cells #[.int .i64 (z 0), .int .i64 (z 1), .int .i64 (z 2), .int .i64 (z 3)] 23)) (S + 1) b) := Lib.hid (HBX_11.out.below hal (ltb HBX_11.out))
  have HP8_12 : Hid (VAt (w11.alloc (.cells #[.int .i64 (z 0), .int .i64 (z 1), .int .i64 (z 2), .int .i64 (z 3)] 23)) P8 x) := Lib.hid (HP8_11.out.below hal (ltb HP8_11.out))
  have HP10_12 : Hid (VAt (w11.alloc (.cells #[.int .i64 (z 0), .int .i64 (z 1), .int .i64 (z 2), .int .i64 (z 3)] 23)) P10 x) := Lib.hid (HP10_11.out.below hal (ltb HP10_11.out))
  have HP12_12 : Hid (VAt (w11.alloc (.cells #[.int .i64 (z 0), .int .i64 (z 1), .int .i64 (z 2), .int .i64 (z 3)] 23)) P12 y) := Lib.hid (HP12_11.out.below hal (ltb HP12_11.out))
  have HP14_12 : Hid (VAt (w11.alloc (.cells #[.int .i64 (z 0), .int .i64 (z 1), .int .i64 (z 2), .int .i64 (z 3)] 23)) P14 y) := Lib.hid (HP14_11.out.below hal (ltb HP14_11.out))
  clear hal HB_11 HAX_11 HBX_11 HP8_11 HP10_11 HP12_11 HP14_11
  have HP16_12 : Hid (VAt (w11.alloc (.cells #[.int .i64 (z 0), .int .i64 (z 1), .int .i64 (z 2), .int .i64 (z 3)] 23)) P16 z) := Lib.hid hnew
  clear hnew
  go_wp2_with (first | (refine wpList_store_row rfl 23 (.tmp 16) (.tmp 51) rfl w11.heap.size _ rfl rfl 23 _ (heap_alloc_new w11 _) (by kernel_rfl) rfl (by simp [Value.oneCell']) ?_; rw [World.setRow_alloc_new]) | (refine wpList_load_row rfl 23 (.tmp 3) rfl (S) rfl 23 _ (0, 0) _ HAX_12.out Tryd.underlying23 rfl (by kernel_rfl) ?_))
  rw [← hP16]
  clear hP16
  generalize w11.alloc (.cells #[.int .i64 (z 0), .int .i64 (z 1), .int .i64 (z 2), .int .i64 (z 3)] 23) = w12 at HB_12 HAX_12 HBX_12 HP8_12 HP10_12 HP12_12 HP14_12 HP16_12 ⊢
  refine (rtimes_any a n w12).mono ?_
  rintro e w13 ⟨rfl, hb⟩
  rw [show toldV (okv a && decide (0 ≤ n)) (fun i => a i * min n 1073741825) = z from Hz.out.symm]
  rw [show toldE (okv a && decide (0 ≤ n)) (fun i => a i * min n 1073741825) 30 = ez from Hez.out.symm]
  have HB_13 : Hid (Below w.heap.size w w13) := Lib.hid (HB_12.out.trans (hb.mono HB_12.out.size))
  have HAX_13 : Hid (VAt w13 S a) := Lib.hid (HAX_12.out.below hb (ltb HAX_12.out))
  have HBX_13 : Hid (VAt w13 (S + 1) b) := Lib.hid (HBX_12.out.below hb (ltb HBX_12.out))
  have HP8_13 : Hid (VAt w13 P8 x) := Lib.hid (HP8_12.out.below hb (ltb HP8_12.out))
  have HP10_13 : Hid (VAt w13 P10 x) := Lib.hid (HP10_12.out.below hb (ltb HP10_12.out))
  have HP12_13 : Hid (VAt w13 P12 y) := Lib.hid (HP12_12.out.below hb (ltb HP12_12.out))
  have HP14_13 : Hid (VAt w13 P14 y) := Lib.hid (HP14_12.out.below hb (ltb HP14_12.out))
  have HP16_13 : Hid (VAt w13 P16 z) := Lib.hid (HP16_12.out.below hb (ltb HP16_12.out))
  clear hb HB_12 HAX_12 HBX_12 HP8_12 HP10_12 HP12_12 HP14_12 HP16_12
  obtain ⟨P18, hP18⟩ : ∃ x, x = w13.heap.size := ⟨_, rfl⟩
  have hal : Below w13.heap.size w13 (w13.alloc (.cells #[.int .i64 (z 0), .int .i64 (z 1), .int .i64 (z 2), .int .i64 (z 3)] 23)) := (Below.refl _ _).alloc (Nat.le_refl _) _
  have hnew : (w13.alloc (.cells #[.int .i64 (z 0), .int .i64 (z 1), .int .i64 (z 2), .int .i64 (z 3)] 23)).heap[P18]? = some (.cells #[.int .i64 (z 0), .int .i64 (z 1), .int .i64 (z 2), .int .i64 (z 3)] 23 (0, 0)) := by rw [hP18]; exact heap_alloc_new _ _
  have HB_14 : Hid (Below w.heap.size w (w13.alloc (.cells #[.int .i64 (z 0), .int .i64 (z 1), .int .i64 (z 2), .int .i64 (z 3)] 23))) := Lib.hid (HB_13.out.trans (hal.mono HB_13.out.size))
  have HAX_14 : Hid (VAt (w13.alloc (.cells #[.int .i64 (z 0), .int .i64 (z 1), .int .i64 (z 2), .int .i64 (z 3)] 23)) S a) := Lib.hid (HAX_13.out.below hal (ltb HAX_13.out))
  have HBX_14 : Hid (VAt (w13.alloc (.cells #[.int .i64 (z 0), .int .i64 (z 1), .int .i64 (z 2), .int .i64 (z 3)] 23)) (S + 1) b) := Lib.hid (HBX_13.out.below hal (ltb HBX_13.out))
  have HP8_14 : Hid (VAt (w13.alloc (.cells #[.int .i64 (z 0), .int .i64 (z 1), .int .i64 (z 2), .int .i64 (z 3)] 23)) P8 x) := Lib.hid (HP8_13.out.below hal (ltb HP8_13.out))
  have HP10_14 : Hid (VAt (w13.alloc (.cells #[.int .i64 (z 0), .int .i64 (z 1), .int .i64 (z 2), .int .i64 (z 3)] 23)) P10 x) := Lib.hid (HP10_13.out.below hal (ltb HP10_13.out))
  have HP12_14 : Hid (VAt (w13.alloc (.cells #[.int .i64 (z 0), .int .i64 (z 1), .int .i64 (z 2), .int .i64 (z 3)] 23)) P12 y) := Lib.hid (HP12_13.out.below hal (ltb HP12_13.out))
  have HP14_14 : Hid (VAt (w13.alloc (.cells #[.int .i64 (z 0), .int .i64 (z 1), .int .i64 (z 2), .int .i64 (z 3)] 23)) P14 y) := Lib.hid (HP14_13.out.below hal (ltb HP14_13.out))
  have HP16_14 : Hid (VAt (w13.alloc (.cells #[.int .i64 (z 0), .int .i64 (z 1), .int .i64 (z 2), .int .i64 (z 3)] 23)) P16 z) := Lib.hid (HP16_13.out.below hal (ltb HP16_13.out))
  clear hal HB_13 HAX_13 HBX_13 HP8_13 HP10_13 HP12_13 HP14_13 HP16_13
  have HP18_14 : Hid (VAt (w13.alloc (.cells #[.int .i64 (z 0), .int .i64 (z 1), .int .i64 (z 2), .int .i64 (z 3)] 23)) P18 z) := Lib.hid hnew
  clear hnew
  go_upto_region 10 with (refine wpList_store_row rfl 23 (.tmp 18) (.tmp 57) rfl w13.heap.size _ rfl rfl 23 _ (heap_alloc_new w13 _) (by kernel_rfl) rfl (by simp [Value.oneCell']) ?_; rw [World.setRow_alloc_new])
  rw [← hP18]
  clear hP18
  generalize w13.alloc (.cells #[.int .i64 (z 0), .int .i64 (z 1), .int .i64 (z 2), .int .i64 (z 3)] 23) = w14 at HB_14 HAX_14 HBX_14 HP8_14 HP10_14 HP12_14 HP14_14 HP16_14 HP18_14 ⊢
  have qx : ∀ w, (Go.binOp .eql 23 (.agg #[.int .i64 (x 0), .int .i64 (x 1), .int .i64 (x 2), .int .i64 (x 3)]) (.agg #[.int .i64 (x 0), .int .i64 (x 1), .int .i64 (x 2), .int .i64 (x 3)])).run Tryd.prog w = .ok (.bool true) w := fun w => by rw [eq_vec2]; simp
  have qy : ∀ w, (Go.binOp .eql 23 (.agg #[.int .i64 (y 0), .int .i64 (y 1), .int .i64 (y 2), .int .i64 (y 3)]) (.agg #[.int .i64 (y 0), .int .i64 (y 1), .int .i64 (y 2), .int .i64 (y 3)])).run Tryd.prog w = .ok (.bool true) w := fun w => by rw [eq_vec2]; simp
  have qz : ∀ w, (Go.binOp .eql 23 (.agg #[.int .i64 (z 0), .int .i64 (z 1), .int .i64 (z 2), .int .i64 (z 3)]) (.agg #[.int .i64 (z 0), .int .i64 (z 1), .int .i64 (z 2), .int .i64 (z 3)])).run Tryd.prog w = .ok (.bool true) w := fun w => by rw [eq_vec2]; simp
  have FAX : VAt w14.drew S a := HAX_14.out
  have FP8 : VAt w14.drew P8 x := HP8_14.out
  have FP10 : VAt w14.drew P10 x := HP10_14.out
  have FP12 : VAt w14.drew P12 y := HP12_14.out
  have FP14 : VAt w14.drew P14 y := HP14_14.out
  have FP16 : VAt w14.drew P16 z := HP16_14.out
  have FP18 : VAt w14.drew P18 z := HP18_14.out
  have HB_15 : Hid (Below w.heap.size w w14.drew) := Lib.hid (HB_14.out.trans (((Below.refl w14.heap.size w14).drew).mono HB_14.out.size))
  have HBX_15 : Hid (VAt w14.drew (S + 1) b) := Lib.hid (HBX_14.out.below ((Below.refl w14.heap.size w14).drew) (ltb HBX_14.out))
  clear HB_14 HAX_14 HBX_14 HP8_14 HP10_14 HP12_14 HP14_14 HP16_14 HP18_14
  refine wp_region_noPanic ?_
  refine wp_region_held_drew (S := fun w' => VAt w' S a ∧ VAt w' P8 x ∧ VAt w' P10 x ∧ VAt w' P12 y ∧ VAt w' P14 y ∧ VAt w' P16 z ∧ VAt w' P18 z) (by kernel_rfl) ?_ (fun hHeld => ?_)
  · try dsimp only
    (refine ⟨?_, ?_, ?_, ?_, ?_, ?_, ?_⟩ <;> (first | with_reducible assumption))
  generalize w14.drew = w15 at *
  refine wpAnyH_take (i := 0) (v := ?_) (by (simp only [List.getElem?_toArray, List.getElem?_cons_zero]; rfl)) (by kernel_rfl) (by kernel_rfl) (by kernel_rfl) (fun _ _ _ h => h) (Or.inl ⟨by rfl, ?_⟩) (by assumption) ?_
  rotate_left
  · intro w hSw
    try dsimp only at hSw
    refine take_load (x := .tmp 8) (ty := 23) ?_ (P8) ?_ 23 _ (0, 0) _ hSw.2.1 Tryd.underlying23 rfl (by kernel_rfl)
    all_goals rfl
  try simp only [Act.put, List.setIfInBounds_toArray, List.set_cons_zero, List.set_cons_succ]
  refine wpAnyH_take (i := 1) (v := ?_) (by (simp only [List.getElem?_toArray, List.getElem?_cons_succ, List.getElem?_cons_zero]; rfl)) (by kernel_rfl) (by kernel_rfl) (by kernel_rfl) (fun _ _ _ h => h) (Or.inl ⟨by rfl, ?_⟩) (by assumption) ?_
  rotate_left
  · intro w hSw
    try dsimp only at hSw
    refine take_load (x := .tmp 10) (ty := 23) ?_ (P10) ?_ 23 _ (0, 0) _ hSw.2.2.1 Tryd.underlying23 rfl (by kernel_rfl)
    all_goals rfl
  try simp only [Act.put, List.setIfInBounds_toArray, List.set_cons_zero, List.set_cons_succ]
  refine wpAnyH_take (i := 2) (v := ?_) (by (simp only [List.getElem?_toArray, List.getElem?_cons_succ, List.getElem?_cons_zero]; rfl)) (by kernel_rfl) (by kernel_rfl) (by kernel_rfl) (fun _ _ _ h => h) (Or.inl ⟨by rfl, ?_⟩) (by assumption) ?_
  rotate_left
  · (intro w hSw; (try dsimp only at hSw); go_simp; try with_reducible rfl)
  try simp only [Act.put, List.setIfInBounds_toArray, List.set_cons_zero, List.set_cons_succ]
  refine wpAnyH_take (i := 3) (v := ?_) (by (simp only [List.getElem?_toArray, List.getElem?_cons_succ, List.getElem?_cons_zero]; rfl)) (by kernel_rfl) (by kernel_rfl) (by kernel_rfl) (fun _ _ _ h => h) (Or.inl ⟨by rfl, ?_⟩) (by assumption) ?_
  rotate_left
  · (intro w hSw; (try dsimp only at hSw); go_simp; try with_reducible rfl)
  try simp only [Act.put, List.setIfInBounds_toArray, List.set_cons_zero, List.set_cons_succ]
  refine wpAnyH_take (i := 4) (v := ?_) (by (simp only [List.getElem?_toArray, List.getElem?_cons_succ, List.getElem?_cons_zero]; rfl)) (by kernel_rfl) (by kernel_rfl) (by kernel_rfl) (fun _ _ _ h => h) (Or.inl ⟨by rfl, ?_⟩) (by assumption) ?_
  rotate_left
  · (intro w hSw; (try dsimp only at hSw); go_simp; try with_reducible rfl)
  try simp only [Act.put, List.setIfInBounds_toArray, List.set_cons_zero, List.set_cons_succ]
  refine wpAnyH_take (i := 5) (v := ?_) (by (simp only [List.getElem?_toArray, List.getElem?_cons_succ, List.getElem?_cons_zero]; rfl)) (by kernel_rfl) (by kernel_rfl) (by kernel_rfl) (fun _ _ _ h => h) (Or.inl ⟨by rfl, ?_⟩) (by assumption) ?_
  rotate_left
  · (intro w hSw; (try dsimp only at hSw); go_simp; try with_reducible rfl)
  try simp only [Act.put, List.setIfInBounds_toArray, List.set_cons_zero, List.set_cons_succ]
  refine wpAnyH_take (i := 6) (v := ?_) (by (simp only [List.getElem?_toArray, List.getElem?_cons_succ, List.getElem?_cons_zero]; rfl)) (by kernel_rfl) (by kernel_rfl) (by kernel_rfl) (fun _ _ _ h => h) (Or.inl ⟨by rfl, ?_⟩) (by assumption) ?_
  rotate_left
  · (intro w hSw; (try dsimp only at hSw); go_simp; try with_reducible rfl)
  try simp only [Act.put, List.setIfInBounds_toArray, List.set_cons_zero, List.set_cons_succ]
  refine wpAnyH_take (i := 7) (v := ?_) (by (simp only [List.getElem?_toArray, List.getElem?_cons_succ, List.getElem?_cons_zero]; rfl)) (by kernel_rfl) (by kernel_rfl) (by kernel_rfl) (fun _ _ _ h => h) (Or.inl ⟨by rfl, ?_⟩) (by assumption) ?_
  rotate_left
  · (intro w hSw; (try dsimp only at hSw); go_simp; try with_reducible rfl)
  try simp only [Act.put, List.setIfInBounds_toArray, List.set_cons_zero, List.set_cons_succ]
  refine wpAnyH_take (i := 8) (v := ?_) (by (simp only [List.getElem?_toArray, List.getElem?_cons_succ, List.getElem?_cons_zero]; rfl)) (by kernel_rfl) (by kernel_rfl) (by kernel_rfl) (fun _ _ _ h => h) (Or.inl ⟨by rfl, ?_⟩) (by assumption) ?_
  rotate_left
  · (intro w hSw; (try dsimp only at hSw); go_simp; try with_reducible rfl)
  try simp only [Act.put, List.setIfInBounds_toArray, List.set_cons_zero, List.set_cons_succ]
  refine wpAnyH_take (i := 9) (v := ?_) (by (simp only [List.getElem?_toArray, List.getElem?_cons_succ, List.getElem?_cons_zero]; rfl)) (by kernel_rfl) (by kernel_rfl) (by kernel_rfl) (fun _ _ _ h => h) (Or.inl ⟨by rfl, ?_⟩) (by assumption) ?_
  rotate_left
  · intro w hSw
    try dsimp only at hSw
    refine take_load (x := .tmp 12) (ty := 23) ?_ (P12) ?_ 23 _ (0, 0) _ hSw.2.2.2.1 Tryd.underlying23 rfl (by kernel_rfl)
    all_goals rfl
  try simp only [Act.put, List.setIfInBounds_toArray, List.set_cons_zero, List.set_cons_succ]
  refine wpAnyH_take (i := 10) (v := ?_) (by (simp only [List.getElem?_toArray, List.getElem?_cons_succ, List.getElem?_cons_zero]; rfl)) (by kernel_rfl) (by kernel_rfl) (by kernel_rfl) (fun _ _ _ h => h) (Or.inl ⟨by rfl, ?_⟩) (by assumption) ?_
  rotate_left
  · intro w hSw
    try dsimp only at hSw
    refine take_load (x := .tmp 14) (ty := 23) ?_ (P14) ?_ 23 _ (0, 0) _ hSw.2.2.2.2.1 Tryd.underlying23 rfl (by kernel_rfl)
    all_goals rfl
  try simp only [Act.put, List.setIfInBounds_toArray, List.set_cons_zero, List.set_cons_succ]
  refine wpAnyH_take (i := 11) (v := ?_) (by (simp only [List.getElem?_toArray, List.getElem?_cons_succ, List.getElem?_cons_zero]; rfl)) (by kernel_rfl) (by kernel_rfl) (by kernel_rfl) (fun _ _ _ h => h) (Or.inl ⟨by rfl, ?_⟩) (by assumption) ?_
  rotate_left
  · (intro w hSw; (try dsimp only at hSw); go_simp; try with_reducible rfl)
  try simp only [Act.put, List.setIfInBounds_toArray, List.set_cons_zero, List.set_cons_succ]
  refine wpAnyH_take (i := 12) (v := ?_) (by (simp only [List.getElem?_toArray, List.getElem?_cons_succ, List.getElem?_cons_zero]; rfl)) (by kernel_rfl) (by kernel_rfl) (by kernel_rfl) (fun _ _ _ h => h) (Or.inl ⟨by rfl, ?_⟩) (by assumption) ?_
  rotate_left
  · (intro w hSw; (try dsimp only at hSw); go_simp; try with_reducible rfl)
  try simp only [Act.put, List.setIfInBounds_toArray, List.set_cons_zero, List.set_cons_succ]
  refine wpAnyH_take (i := 13) (v := ?_) (by (simp only [List.getElem?_toArray, List.getElem?_cons_succ, List.getElem?_cons_zero]; rfl)) (by kernel_rfl) (by kernel_rfl) (by kernel_rfl) (fun _ _ _ h => h) (Or.inl ⟨by rfl, ?_⟩) (by assumption) ?_
  rotate_left
  · (intro w hSw; (try dsimp only at hSw); go_simp; try with_reducible rfl)
  try simp only [Act.put, List.setIfInBounds_toArray, List.set_cons_zero, List.set_cons_succ]
  refine wpAnyH_take (i := 14) (v := ?_) (by (simp only [List.getElem?_toArray, List.getElem?_cons_succ, List.getElem?_cons_zero]; rfl)) (by kernel_rfl) (by kernel_rfl) (by kernel_rfl) (fun _ _ _ h => h) (Or.inl ⟨by rfl, ?_⟩) (by assumption) ?_
  rotate_left
  · (intro w hSw; (try dsimp only at hSw); go_simp; try with_reducible rfl)
  try simp only [Act.put, List.setIfInBounds_toArray, List.set_cons_zero, List.set_cons_succ]
  refine wpAnyH_take (i := 15) (v := ?_) (by (simp only [List.getElem?_toArray, List.getElem?_cons_succ, List.getElem?_cons_zero]; rfl)) (by kernel_rfl) (by kernel_rfl) (by kernel_rfl) (fun _ _ _ h => h) (Or.inl ⟨by rfl, ?_⟩) (by assumption) ?_
  rotate_left
  · (intro w hSw; (try dsimp only at hSw); go_simp; try with_reducible rfl)
  try simp only [Act.put, List.setIfInBounds_toArray, List.set_cons_zero, List.set_cons_succ]
  refine wpAnyH_take (i := 16) (v := ?_) (by (simp only [List.getElem?_toArray, List.getElem?_cons_succ, List.getElem?_cons_zero]; rfl)) (by kernel_rfl) (by kernel_rfl) (by kernel_rfl) (fun _ _ _ h => h) (Or.inl ⟨by rfl, ?_⟩) (by assumption) ?_
  rotate_left
  · (intro w hSw; (try dsimp only at hSw); go_simp; try with_reducible rfl)
  try simp only [Act.put, List.setIfInBounds_toArray, List.set_cons_zero, List.set_cons_succ]
  refine wpAnyH_take (i := 17) (v := ?_) (by (simp only [List.getElem?_toArray, List.getElem?_cons_succ, List.getElem?_cons_zero]; rfl)) (by kernel_rfl) (by kernel_rfl) (by kernel_rfl) (fun _ _ _ h => h) (Or.inl ⟨by rfl, ?_⟩) (by assumption) ?_
  rotate_left
  · (intro w hSw; (try dsimp only at hSw); go_simp; try with_reducible rfl)
  try simp only [Act.put, List.setIfInBounds_toArray, List.set_cons_zero, List.set_cons_succ]
  refine wpAnyH_take (i := 18) (v := ?_) (by (simp only [List.getElem?_toArray, List.getElem?_cons_succ, List.getElem?_cons_zero]; rfl)) (by kernel_rfl) (by kernel_rfl) (by kernel_rfl) (fun _ _ _ h => h) (Or.inl ⟨by rfl, ?_⟩) (by assumption) ?_
  rotate_left
  · (intro w hSw; (try dsimp only at hSw); go_simp; try with_reducible rfl)
  try simp only [Act.put, List.setIfInBounds_toArray, List.set_cons_zero, List.set_cons_succ]
  refine wpAnyH_take (i := 19) (v := ?_) (by (simp only [List.getElem?_toArray, List.getElem?_cons_succ, List.getElem?_cons_zero]; rfl)) (by kernel_rfl) (by kernel_rfl) (by kernel_rfl) (fun _ _ _ h => h) (Or.inl ⟨by rfl, ?_⟩) (by assumption) ?_
  rotate_left
  · intro w hSw
    try dsimp only at hSw
    refine take_load (x := .tmp 16) (ty := 23) ?_ (P16) ?_ 23 _ (0, 0) _ hSw.2.2.2.2.2.1 Tryd.underlying23 rfl (by kernel_rfl)
    all_goals rfl
  try simp only [Act.put, List.setIfInBounds_toArray, List.set_cons_zero, List.set_cons_succ]
  refine wpAnyH_take (i := 20) (v := ?_) (by (simp only [List.getElem?_toArray, List.getElem?_cons_succ, List.getElem?_cons_zero]; rfl)) (by kernel_rfl) (by kernel_rfl) (by kernel_rfl) (fun _ _ _ h => h) (Or.inl ⟨by rfl, ?_⟩) (by assumption) ?_
  rotate_left
  · intro w hSw
    try dsimp only at hSw
    refine take_load (x := .tmp 18) (ty := 23) ?_ (P18) ?_ 23 _ (0, 0) _ hSw.2.2.2.2.2.2 Tryd.underlying23 rfl (by kernel_rfl)
    all_goals rfl
  try simp only [Act.put, List.setIfInBounds_toArray, List.set_cons_zero, List.set_cons_succ]
  refine wpAnyH_take (i := 21) (v := ?_) (by (simp only [List.getElem?_toArray, List.getElem?_cons_succ, List.getElem?_cons_zero]; rfl)) (by kernel_rfl) (by kernel_rfl) (by kernel_rfl) (fun _ _ _ h => h) (Or.inl ⟨by rfl, ?_⟩) (by assumption) ?_
  rotate_left
  · (intro w hSw; (try dsimp only at hSw); go_simp; try with_reducible rfl)
  try simp only [Act.put, List.setIfInBounds_toArray, List.set_cons_zero, List.set_cons_succ]
  refine wpAnyH_take (i := 22) (v := ?_) (by (simp only [List.getElem?_toArray, List.getElem?_cons_succ, List.getElem?_cons_zero]; rfl)) (by kernel_rfl) (by kernel_rfl) (by kernel_rfl) (fun _ _ _ h => h) (Or.inl ⟨by rfl, ?_⟩) (by assumption) ?_
  rotate_left
  · (intro w hSw; (try dsimp only at hSw); go_simp; try with_reducible rfl)
  try simp only [Act.put, List.setIfInBounds_toArray, List.set_cons_zero, List.set_cons_succ]
  refine wpAnyH_take (i := 23) (v := ?_) (by (simp only [List.getElem?_toArray, List.getElem?_cons_succ, List.getElem?_cons_zero]; rfl)) (by kernel_rfl) (by kernel_rfl) (by kernel_rfl) (fun _ _ _ h => h) (Or.inl ⟨by rfl, ?_⟩) (by assumption) ?_
  rotate_left
  · (intro w hSw; (try dsimp only at hSw); go_simp; try with_reducible rfl)
  try simp only [Act.put, List.setIfInBounds_toArray, List.set_cons_zero, List.set_cons_succ]
  refine wpAnyH_take (i := 24) (v := ?_) (by (simp only [List.getElem?_toArray, List.getElem?_cons_succ, List.getElem?_cons_zero]; rfl)) (by kernel_rfl) (by kernel_rfl) (by kernel_rfl) (fun _ _ _ h => h) (Or.inl ⟨by rfl, ?_⟩) (by assumption) ?_
  rotate_left
  · (intro w hSw; (try dsimp only at hSw); go_simp; try with_reducible rfl)
  try simp only [Act.put, List.setIfInBounds_toArray, List.set_cons_zero, List.set_cons_succ]
  refine wpAnyH_take (i := 25) (v := ?_) (by (simp only [List.getElem?_toArray, List.getElem?_cons_succ, List.getElem?_cons_zero]; rfl)) (by kernel_rfl) (by kernel_rfl) (by kernel_rfl) (fun _ _ _ h => h) (Or.inl ⟨by rfl, ?_⟩) (by assumption) ?_
  rotate_left
  · (intro w hSw; (try dsimp only at hSw); go_simp; try with_reducible rfl)
  try simp only [Act.put, List.setIfInBounds_toArray, List.set_cons_zero, List.set_cons_succ]
  refine wpAnyH_take (i := 26) (v := ?_) (by (simp only [List.getElem?_toArray, List.getElem?_cons_succ, List.getElem?_cons_zero]; rfl)) (by kernel_rfl) (by kernel_rfl) (by kernel_rfl) (fun _ _ _ h => h) (Or.inl ⟨by rfl, ?_⟩) (by assumption) ?_
  rotate_left
  · (intro w hSw; (try dsimp only at hSw); go_simp; try with_reducible rfl)
  try simp only [Act.put, List.setIfInBounds_toArray, List.set_cons_zero, List.set_cons_succ]
  refine wpAnyH_take (i := 27) (v := ?_) (by (simp only [List.getElem?_toArray, List.getElem?_cons_succ, List.getElem?_cons_zero]; rfl)) (by kernel_rfl) (by kernel_rfl) (by kernel_rfl) (fun _ _ _ h => h) (Or.inl ⟨by rfl, ?_⟩) (by assumption) ?_
  rotate_left
  · (intro w hSw; (try dsimp only at hSw); go_simp; try with_reducible rfl)
  try simp only [Act.put, List.setIfInBounds_toArray, List.set_cons_zero, List.set_cons_succ]
  refine wpAnyH_take (i := 28) (v := ?_) (by (simp only [List.getElem?_toArray, List.getElem?_cons_succ, List.getElem?_cons_zero]; rfl)) (by kernel_rfl) (by kernel_rfl) (by kernel_rfl) (fun _ _ _ h => h) (Or.inl ⟨by rfl, ?_⟩) (by assumption) ?_
  rotate_left
  · (intro w hSw; (try dsimp only at hSw); go_simp; try with_reducible rfl)
  try simp only [Act.put, List.setIfInBounds_toArray, List.set_cons_zero, List.set_cons_succ]
  refine wpAnyH_take (i := 29) (v := ?_) (by (simp only [List.getElem?_toArray, List.getElem?_cons_succ, List.getElem?_cons_zero]; rfl)) (by kernel_rfl) (by kernel_rfl) (by kernel_rfl) (fun _ _ _ h => h) (Or.inl ⟨by rfl, ?_⟩) (by assumption) ?_
  rotate_left
  · intro w hSw
    try dsimp only at hSw
    refine take_load (x := .tmp 3) (ty := 23) ?_ (S) ?_ 23 _ (0, 0) _ hSw.1 Tryd.underlying23 rfl (by kernel_rfl)
    all_goals rfl
  try simp only [Act.put, List.setIfInBounds_toArray, List.set_cons_zero, List.set_cons_succ]
  refine wpAnyH_take (i := 31) (v := ?_) (by (simp only [List.getElem?_toArray, List.getElem?_cons_succ, List.getElem?_cons_zero]; rfl)) (by kernel_rfl) (by kernel_rfl) (by kernel_rfl) (fun _ _ _ h => h) (Or.inl ⟨by rfl, ?_⟩) (by assumption) ?_
  rotate_left
  · intro w hSw
    try dsimp only at hSw
    refine take_load (x := .tmp 3) (ty := 23) ?_ (S) ?_ 23 _ (0, 0) _ hSw.1 Tryd.underlying23 rfl (by kernel_rfl)
    all_goals rfl
  try simp only [Act.put, List.setIfInBounds_toArray, List.set_cons_zero, List.set_cons_succ]
  refine wpAnyH_ready (rs := [30]) (by kernel_rfl) (by simp) ?_
  refine AllReadyH.cons (by (simp only [List.getElem?_toArray, List.getElem?_cons_succ, List.getElem?_cons_zero]; rfl)) (fun K hK => ?_) AllReadyH.nil
  go_simp
  refine (right_any a w15).mono ?_
  rintro e w16 ⟨rfl, hb⟩
  replace FAX : VAt w16 S a := FAX.below hb (ltb FAX)
  replace FP8 : VAt w16 P8 x := FP8.below hb (ltb FP8)
  replace FP10 : VAt w16 P10 x := FP10.below hb (ltb FP10)
  replace FP12 : VAt w16 P12 y := FP12.below hb (ltb FP12)
  replace FP14 : VAt w16 P14 y := FP14.below hb (ltb FP14)
  replace FP16 : VAt w16 P16 z := FP16.below hb (ltb FP16)
  replace FP18 : VAt w16 P18 z := FP18.below hb (ltb FP18)
  have HB_16 : Hid (Below w.heap.size w w16) := Lib.hid (HB_15.out.trans (hb.mono HB_15.out.size))
  have HBX_16 : Hid (VAt w16 (S + 1) b) := Lib.hid (HBX_15.out.below hb (ltb HBX_15.out))
  clear hb HB_15 HBX_15
  refine hK.out _ _ ?_ (fun hHeld => ?_)
  · try dsimp only
    (refine ⟨?_, ?_, ?_, ?_, ?_, ?_, ?_⟩ <;> (first | with_reducible assumption))
  clear hK K
  try simp only [Act.put, List.setIfInBounds_toArray, List.set_cons_zero, List.set_cons_succ]
  refine wpAnyH_ready (rs := [32]) (by kernel_rfl) (by simp) ?_
  refine AllReadyH.cons (by (simp only [List.getElem?_toArray, List.getElem?_cons_succ, List.getElem?_cons_zero]; rfl)) (fun K hK => ?_) AllReadyH.nil
  go_simp
  refine (rright_any (a 0) (a 1) (a 2) (a 3) w16).mono ?_
  rintro e w17 ⟨rfl, hb⟩
  rw [show rB (a 0) (a 1) (a 2) (a 3) = okv a from rfl]
  replace FAX : VAt w17 S a := FAX.below hb (ltb FAX)
  replace FP8 : VAt w17 P8 x := FP8.below hb (ltb FP8)
  replace FP10 : VAt w17 P10 x := FP10.below hb (ltb FP10)
  replace FP12 : VAt w17 P12 y := FP12.below hb (ltb FP12)
  replace FP14 : VAt w17 P14 y := FP14.below hb (ltb FP14)
  replace FP16 : VAt w17 P16 z := FP16.below hb (ltb FP16)
  replace FP18 : VAt w17 P18 z := FP18.below hb (ltb FP18)
  have HB_17 : Hid (Below w.heap.size w w17) := Lib.hid (HB_16.out.trans (hb.mono HB_16.out.size))
  have HBX_17 : Hid (VAt w17 (S + 1) b) := Lib.hid (HBX_16.out.below hb (ltb HBX_16.out))
  clear hb HB_16 HBX_16
  refine hK.out _ _ ?_ (fun hHeld => ?_)
  · try dsimp only
    (refine ⟨?_, ?_, ?_, ?_, ?_, ?_, ?_⟩ <;> (first | with_reducible assumption))
  clear hK K
  try simp only [Act.put, List.setIfInBounds_toArray, List.set_cons_zero, List.set_cons_succ]
  refine wpAnyH_take (i := 33) (v := ?_) (by (simp only [List.getElem?_toArray, List.getElem?_cons_succ, List.getElem?_cons_zero]; rfl)) (by kernel_rfl) (by kernel_rfl) (by kernel_rfl) (fun _ _ _ h => h) (Or.inl ⟨by rfl, ?_⟩) (by assumption) ?_
  rotate_left
  · (intro w hSw; (try dsimp only at hSw); go_simp; try with_reducible rfl)
  try simp only [Act.put, List.setIfInBounds_toArray, List.set_cons_zero, List.set_cons_succ]
  refine wpAnyH_take (i := 34) (v := ?_) (by (simp only [List.getElem?_toArray, List.getElem?_cons_succ, List.getElem?_cons_zero]; rfl)) (by kernel_rfl) (by kernel_rfl) (by kernel_rfl) (fun _ _ _ h => h) (Or.inl ⟨by rfl, ?_⟩) (by assumption) ?_
  rotate_left
  · (intro w hSw; (try dsimp only at hSw); go_simp; try with_reducible rfl)
  try simp only [Act.put, List.setIfInBounds_toArray, List.set_cons_zero, List.set_cons_succ]
  refine wpAnyH_take (i := 35) (v := ?_) (by (simp only [List.getElem?_toArray, List.getElem?_cons_succ, List.getElem?_cons_zero]; rfl)) (by kernel_rfl) (by kernel_rfl) (by kernel_rfl) (fun _ _ _ h => h) (Or.inl ⟨by rfl, ?_⟩) (by assumption) ?_
  rotate_left
  · (intro w hSw; (try dsimp only at hSw); go_simp; try with_reducible rfl)
  try simp only [Act.put, List.setIfInBounds_toArray, List.set_cons_zero, List.set_cons_succ]
  refine wpAnyH_done (by kernel_rfl) ?_ _
  refine NoPanic.normal ?_
  clear hHeld FAX FP8 FP10 FP12 FP14 FP16 FP18
  clear qx qy qz
  go_wp2_with fail
  go_ret
  exact ⟨rfl, HB_17.out⟩
end Go.Proofs.YtfbmjejkhnopiaaDoor
