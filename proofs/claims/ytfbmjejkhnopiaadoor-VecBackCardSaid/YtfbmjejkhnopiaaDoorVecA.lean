/- Amounts: each resource is asked, made. -/
import Derived.Test.YtfbmjejkhnopiaaDoorBase
import Derived.Laws.EntriesVeiled
import Derived.WideLaws
import Derived.IntWalk
import Derived.Lib.MinMax
namespace Go.Proofs.YtfbmjejkhnopiaaDoor
open Go.RowKit

theorem keepA {w : World} {o : Obj} {p : Addr} {v : Value} (h : w.cell? p = some v) : (w.alloc o).cell? p = some v := ((Chg.refl (fun _ => False) w).alloc o).cell h (fun h => h)
theorem cellb {w : World} {b i : Nat} {cs : Array Value} {t : TypeId} {f : Nat × Nat} {v : Value} (h : w.heap[b]? = some (.cells cs t f)) (hv : cs[i]? = some v) : w.cell? ⟨b, i, none⟩ = some v := by simp [World.cell?, h, hv]
theorem fzb {w : World} {b : Nat} {cs : Array Value} {t : TypeId} (h : w.heap[b]? = some (.cells cs t (0, 0))) (i : Nat) : w.frozen? ⟨b, i, none⟩ = false := by simp [World.frozen?, h]
theorem ltb {w : World} {b : Nat} {o : Obj} (h : w.heap[b]? = some o) : b < w.heap.size := (Array.getElem?_eq_some_iff.1 h).1
/-- An amount in a box. -/
def VAt (w : World) (b : Nat) (d : Nat → Int) : Prop := w.heap[b]? = some (.cells #[.int .i64 (d 0), .int .i64 (d 1), .int .i64 (d 2), .int .i64 (d 3)] 23 (0, 0))
theorem VAt.cell {w : World} {b : Nat} {d : Nat → Int} (h : VAt w b d) {i : Nat} (hi : i < 4) : w.cell? ⟨b, i, none⟩ = some (.int .i64 (d i)) := by
  have hi : i = 0 ∨ i = 1 ∨ i = 2 ∨ i = 3 := by omega
  rcases hi with rfl | rfl | rfl | rfl <;> exact cellb h rfl
theorem VAt.below {w w' : World} {b B : Nat} {d : Nat → Int} (h : VAt w b d) (hb : Below B w w') (hB : b < B) : VAt w' b d := (hb.block b hB).trans h
theorem VAt.drewN {w : World} {b : Nat} {d : Nat → Int} (h : VAt w b d) (n : Nat) : VAt (w.drewN n) b d := h
theorem VAt.new (w : World) (d : Nat → Int) : VAt (w.alloc (.cells #[.int .i64 (d 0), .int .i64 (d 1), .int .i64 (d 2), .int .i64 (d 3)] 23)) w.heap.size d := heap_alloc_new w _
def put1 (d : Nat → Int) (j : Nat) (x : Int) : Nat → Int := fun i => if i = j then x else d i
theorem VAt.set {w : World} {b : Nat} {d : Nat → Int} (h : VAt w b d) {j : Nat} (hj : j < 4) (x : Int) : VAt (w.setCell ⟨b, j, none⟩ (.int .i64 x)) b (put1 d j x) := by
  have hj : j = 0 ∨ j = 1 ∨ j = 2 ∨ j = 3 := by omega
  unfold VAt at h ⊢
  rcases hj with rfl | rfl | rfl | rfl <;> simp [World.setCell, Array.getElem?_modify, h, put1]
theorem below_drewN {B : Nat} {a w : World} (h : Below B a w) (n : Nat) : Below B a (w.drewN n) := ⟨h.os, h.tape, h.output, h.size, h.block⟩
theorem results_vec {f : Func} {p : Tmp} (hf : f.results = #[.cell p 23]) (tmps : Array Value) (w : World) (g : Nat) (d : Nat → Int) (hp : tmps.getD p undef = .pointer (some ⟨g, 0, none⟩)) (hg : VAt w g d) :
    (results f tmps).run Tryd.prog w = .ok (.agg #[.int .i64 (d 0), .int .i64 (d 1), .int .i64 (d 2), .int .i64 (d 3)]) w := by
  exact results_cell_row hf tmps w g 23 _ (0, 0) _ hp hg Tryd.underlying23 rfl (by kernel_rfl)
theorem results_vece {f : Func} {p u : Tmp} (hf : f.results = #[.cell p 23, .tmp u]) (tmps : Array Value) (w : World) (g : Nat) (d : Nat → Int) (hp : tmps.getD p undef = .pointer (some ⟨g, 0, none⟩)) (hg : VAt w g d) :
    (results f tmps).run Tryd.prog w = .ok (.tuple #[.agg #[.int .i64 (d 0), .int .i64 (d 1), .int .i64 (d 2), .int .i64 (d 3)], tmps.getD u undef]) w := by
  have h := run_loadVar_row (P := Tryd.prog) w g 23 23 _ (0, 0) _ hg Tryd.underlying23 rfl (by kernel_rfl)
  rw [results_cell_tmp hf, hp]
  simp [asAddr, h]
theorem wpList_load_g {P : Program} {ops : Array Oper} {rest : List Oper} {o : Oper} {a : Act} {w : World} {Q : Exit → Act → World → Prop} (hw : Region.wanted o (yielded ops a.tmps) = true) (ty : TypeId) (x : Operand) (ho : o.op = .load ty x)
    (g : Nat) (hx : a.eval x = .pointer (some ⟨g, 0, none⟩)) (t : TypeId) (cs : Array Value) (fr : Nat × Nat) (d : TypeDesc) (hg : w.heap[g]? = some (.cells cs t fr))
    (hu : P.underlying ty = some d) (hd : (match d with | .struct _ | .array _ _ => true | _ => false) = true) (hi : (P.info? ty).map (·.size) = some cs.size)
    (h : wpList P ops Q rest (a.put o.dst (.agg cs)) w) : wpList P ops Q (o :: rest) a w :=
  wpList_step fun K hK => by simp only [hw, if_true]; exact wp_load_row ty x ho g hx t cs fr d hg hu hd hi (hK _ _ h)

def okb (x : Int) : Bool := decide (0 ≤ x) && decide (x ≤ 1073741824)
def okv (d : Nat → Int) : Bool := okb (d 0) && okb (d 1) && okb (d 2) && okb (d 3)
theorem okv_bd {d : Nat → Int} (h : okv d = true) {i : Nat} (hi : i < 4) : 0 ≤ d i ∧ d i ≤ 1073741824 := by
  simp [okv, okb] at h
  have hi : i = 0 ∨ i = 1 ∨ i = 2 ∨ i = 3 := by omega
  rcases hi with rfl | rfl | rfl | rfl <;> omega
theorem right1 (S i : Nat) (d : Nat → Int) (w : World) (hi : i < 4) (hc : VAt w S d) :
    Calls Tryd.prog 32 #[.int .i64 i, .pointer (some ⟨S, 0, none⟩)] w fun e w' => e = .returned (.bool (okb (d i))) ∧ w = w' := by
  have h0 : (0 : Int) ≤ (i : Int) := by omega
  have h4 : (i : Int) < 4 := by omega
  have hx := hc.cell hi
  clear hc
  generalize d i = x at hx ⊢
  by_cases hx0 : 0 ≤ x
  · go_enter Tryd.func32, Tryd.ntmps32
    go_wp2_with fail
    go_ret
    exact ⟨by simp [okb, hx0], rfl⟩
  · go_enter Tryd.func32, Tryd.ntmps32
    go_wp2_with fail
    go_ret
    exact ⟨by simp [okb]; omega, rfl⟩
theorem fits1 (S R i : Nat) (a b : Nat → Int) (w : World) (hi : i < 4) (ha : VAt w S a) (hb : VAt w R b) :
    Calls Tryd.prog 31 #[.int .i64 i, .pointer (some ⟨S, 0, none⟩), .pointer (some ⟨R, 0, none⟩)] w fun e w' => e = .returned (.bool (decide (a i ≤ b i))) ∧ ∃ n, w' = w.drewN n := by
  have h0 : (0 : Int) ≤ (i : Int) := by omega
  have h4 : (i : Int) < 4 := by omega
  have hx := ha.cell hi
  have hy := hb.cell hi
  clear ha hb
  generalize a i = x at hx ⊢
  generalize b i = y at hy ⊢
  go_enter Tryd.func31, Tryd.ntmps31
  go_wp2_with fail
  go_quiet (fail)
  go_wp2_with fail
  go_ret
  exact ⟨rfl, nq, rfl⟩
theorem add1 (i : Nat) (w : World) (hi : i < 4) (S R : Nat) (a b : Nat → Int) (ha : VAt w S a) (hb : VAt w R b) (ra : okv a = true) (rb : okv b = true) :
    Calls Tryd.prog 28 #[.int .i64 i, .pointer (some ⟨S, 0, none⟩), .pointer (some ⟨R, 0, none⟩)] w fun e w' => e = .returned (.int .i64 (a i + b i)) ∧ ∃ n, w' = w.drewN n := by
  have h0 : (0 : Int) ≤ (i : Int) := by omega
  have h4 : (i : Int) < 4 := by omega
  have hx := ha.cell hi
  have hy := hb.cell hi
  have xa := okv_bd ra hi
  have xb := okv_bd rb hi
  clear ha hb ra rb
  generalize a i = x at hx xa ⊢
  generalize b i = y at hy xb ⊢
  have hs : IntKind.i64.wrap (x + y) = x + y := IntWalk.i64_in _ (by omega)
  go_enter Tryd.func28, Tryd.ntmps28
  go_wp2_with fail
  go_quiet (fail)
  go_wp2_with fail
  go_ret
  exact ⟨rfl, nq, rfl⟩
theorem sub1 (i : Nat) (w : World) (hi : i < 4) (S R : Nat) (a b : Nat → Int) (ha : VAt w S a) (hb : VAt w R b) (ra : okv a = true) (rb : okv b = true) :
    Calls Tryd.prog 29 #[.int .i64 i, .pointer (some ⟨S, 0, none⟩), .pointer (some ⟨R, 0, none⟩)] w fun e w' => e = .returned (.int .i64 (a i - b i)) ∧ ∃ n, w' = w.drewN n := by
  have h0 : (0 : Int) ≤ (i : Int) := by omega
  have h4 : (i : Int) < 4 := by omega
  have hx := ha.cell hi
  have hy := hb.cell hi
  have xa := okv_bd ra hi
  have xb := okv_bd rb hi
  clear ha hb ra rb
  generalize a i = x at hx xa ⊢
  generalize b i = y at hy xb ⊢
  have hs : IntKind.i64.wrap (x - y) = x - y := IntWalk.i64_in _ (by omega)
  go_enter Tryd.func29, Tryd.ntmps29
  go_wp2_with fail
  go_quiet (fail)
  go_wp2_with fail
  go_ret
  exact ⟨rfl, nq, rfl⟩
theorem least1 (i : Nat) (w : World) (hi : i < 4) (S R : Nat) (a b : Nat → Int) (ha : VAt w S a) (hb : VAt w R b) :
    Calls Tryd.prog 33 #[.int .i64 i, .pointer (some ⟨S, 0, none⟩), .pointer (some ⟨R, 0, none⟩)] w fun e w' => e = .returned (.int .i64 (min (a i) (b i))) ∧ ∃ n, w' = w.drewN n := by
  have h0 : (0 : Int) ≤ (i : Int) := by omega
  have h4 : (i : Int) < 4 := by omega
  have hx := ha.cell hi
  have hy := hb.cell hi
  clear ha hb
  generalize a i = x at hx ⊢
  generalize b i = y at hy ⊢
  go_enter Tryd.func33, Tryd.ntmps33
  go_wp2_with fail
  go_quiet (fail)
  go_wp2_with fail
  go_ret
  exact ⟨rfl, nq, rfl⟩
theorem times1 (i : Nat) (w : World) (hi : i < 4) (S R : Nat) (a : Nat → Int) (n : Int) (ha : VAt w S a) (hb : w.cell? ⟨R, 0, none⟩ = some (.int .i64 n)) (ra : okv a = true) (hn : 0 ≤ n) (hn' : n ≤ 1073741825) :
    Calls Tryd.prog 34 #[.int .i64 i, .pointer (some ⟨S, 0, none⟩), .pointer (some ⟨R, 0, none⟩)] w fun e w' => e = .returned (.int .i64 (a i * n)) ∧ ∃ n, w' = w.drewN n := by
  have h0 : (0 : Int) ≤ (i : Int) := by omega
  have h4 : (i : Int) < 4 := by omega
  have hx := ha.cell hi
  have xa := okv_bd ra hi
  clear ha ra
  generalize a i = x at hx xa ⊢
  have hs : IntKind.i64.wrap (x * n) = x * n := IntWalk.i64_in _ (by
    have h1 : 0 ≤ x * n := Int.mul_nonneg xa.1 hn
    have h2 : x * n ≤ 1073741824 * 1073741825 := Int.mul_le_mul xa.2 hn' hn (by decide)
    omega)
  go_enter Tryd.func34, Tryd.ntmps34
  go_wp2_with fail
  go_quiet (fail)
  go_wp2_with fail
  go_ret
  exact ⟨rfl, nq, rfl⟩
theorem vall_right (S : Nat) (p : Nat → Bool) (w : World) (h : ∀ k (i : Nat), i < 4 → Calls Tryd.prog 32 #[.int .i64 i, .pointer (some ⟨S, 0, none⟩)] (w.drewN k) fun e w' => e = .returned (.bool (p i)) ∧ ∃ n, w' = (w.drewN k).drewN n) :
    Calls Tryd.prog 30 #[.func (.func 32) #[] #[.pointer (some ⟨S, 0, none⟩)]] w fun e w' => e = .returned (.bool (p 0 && p 1 && p 2 && p 3)) ∧ ∃ n, w' = w.drewN n := by
  have HC := Lib.hid h
  clear h
  go_enter Tryd.func30, Tryd.ntmps30
  go_wp2_with fail
  go_loopw [4] (fun i wr => ∃ j k : Nat, j ≤ 4 ∧ i = .int .i64 j ∧ wr = w.drewN k ∧ Hid (∀ i, i < j → p i = true)) (fun i _ => 4 - (intOf i).toNat)
  case atStart => exact ⟨0, 0, by omega, rfl, rfl, Lib.hid (fun i hi => by omega)⟩
  case round =>
    obtain ⟨j, k, hj, rfl, rfl, HA⟩ := hrel
    by_cases hj4 : j < 4
    · have hj' : (j : Int) < 4 := by omega
      have H1 := Lib.hid (HC.out k j hj4)
      obtain ⟨b, hb⟩ : ∃ b, p j = b := ⟨_, rfl⟩
      rw [hb] at H1
      have HBb := Lib.hid hb
      clear hb
      cases b
      · go_wp2_with fail
        refine H1.out.mono ?_
        rintro e w' ⟨rfl, n, rfl⟩
        go_wp2_with fail
        go_ret
        refine ⟨?_, k + n, by simp⟩
        have hj : j = 0 ∨ j = 1 ∨ j = 2 ∨ j = 3 := by omega
        rcases hj with rfl | rfl | rfl | rfl <;> simp [HBb.out]
      · go_wp2_with fail
        refine H1.out.mono ?_
        rintro e w' ⟨rfl, n, rfl⟩
        rw [World.drewN_drewN]
        go_wp2_with fail
        go_roundw
        case rel => exact ⟨j + 1, k + n, by omega, by go_num, rfl, Lib.hid (fun i hi => by
          by_cases e : i = j
          · rw [e]; exact HBb.out
          · exact HA.out i (by omega))⟩
        case measure => simp [intOf]; omega
    · go_wp2_with fail
      go_ret
      have h0 := HA.out 0 (by omega)
      have h1 := HA.out 1 (by omega)
      have h2 := HA.out 2 (by omega)
      have h3 := HA.out 3 (by omega)
      exact ⟨by simp [h0, h1, h2, h3], k, rfl⟩
theorem vall_fits (S R : Nat) (p : Nat → Bool) (w : World) (h : ∀ k (i : Nat), i < 4 → Calls Tryd.prog 31 #[.int .i64 i, .pointer (some ⟨S, 0, none⟩), .pointer (some ⟨R, 0, none⟩)] (w.drewN k) fun e w' => e = .returned (.bool (p i)) ∧ ∃ n, w' = (w.drewN k).drewN n) :
    Calls Tryd.prog 30 #[.func (.func 31) #[] #[.pointer (some ⟨S, 0, none⟩), .pointer (some ⟨R, 0, none⟩)]] w fun e w' => e = .returned (.bool (p 0 && p 1 && p 2 && p 3)) ∧ ∃ n, w' = w.drewN n := by
  have HC := Lib.hid h
  clear h
  go_enter Tryd.func30, Tryd.ntmps30
  go_wp2_with fail
  go_loopw [4] (fun i wr => ∃ j k : Nat, j ≤ 4 ∧ i = .int .i64 j ∧ wr = w.drewN k ∧ Hid (∀ i, i < j → p i = true)) (fun i _ => 4 - (intOf i).toNat)
  case atStart => exact ⟨0, 0, by omega, rfl, rfl, Lib.hid (fun i hi => by omega)⟩
  case round =>
    obtain ⟨j, k, hj, rfl, rfl, HA⟩ := hrel
    by_cases hj4 : j < 4
    · have hj' : (j : Int) < 4 := by omega
      have H1 := Lib.hid (HC.out k j hj4)
      obtain ⟨b, hb⟩ : ∃ b, p j = b := ⟨_, rfl⟩
      rw [hb] at H1
      have HBb := Lib.hid hb
      clear hb
      cases b
      · go_wp2_with fail
        refine H1.out.mono ?_
        rintro e w' ⟨rfl, n, rfl⟩
        go_wp2_with fail
        go_ret
        refine ⟨?_, k + n, by simp⟩
        have hj : j = 0 ∨ j = 1 ∨ j = 2 ∨ j = 3 := by omega
        rcases hj with rfl | rfl | rfl | rfl <;> simp [HBb.out]
      · go_wp2_with fail
        refine H1.out.mono ?_
        rintro e w' ⟨rfl, n, rfl⟩
        rw [World.drewN_drewN]
        go_wp2_with fail
        go_roundw
        case rel => exact ⟨j + 1, k + n, by omega, by go_num, rfl, Lib.hid (fun i hi => by
          by_cases e : i = j
          · rw [e]; exact HBb.out
          · exact HA.out i (by omega))⟩
        case measure => simp [intOf]; omega
    · go_wp2_with fail
      go_ret
      have h0 := HA.out 0 (by omega)
      have h1 := HA.out 1 (by omega)
      have h2 := HA.out 2 (by omega)
      have h3 := HA.out 3 (by omega)
      exact ⟨by simp [h0, h1, h2, h3], k, rfl⟩
theorem Chg.setRow {S : Nat → Prop} {w w' : World} (h : Chg S w w') {R : Nat} (hR : w.heap.size ≤ R ∨ S R) (cs : Array Value) : Chg S w (w'.setRow R cs) :=
  ⟨h.os, h.tape, h.output, by simpa using h.size, fun k hk hs => (setRow_other w' R k cs (fun e => hR.elim (fun hR => by omega) (fun hR => hs (e ▸ hR)))).trans (h.block k hk hs)⟩
set_option maxHeartbeats 1000000 in
theorem each_add (S R : Nat) (f : Nat → Int) (w : World) (h : ∀ wr (i : Nat), i < 4 → Below w.heap.size w wr → Calls Tryd.prog 28 #[.int .i64 i, .pointer (some ⟨S, 0, none⟩), .pointer (some ⟨R, 0, none⟩)] wr fun e w' => e = .returned (.int .i64 (f i)) ∧ ∃ n, w' = wr.drewN n) :
    Calls Tryd.prog 27 #[.func (.func 28) #[] #[.pointer (some ⟨S, 0, none⟩), .pointer (some ⟨R, 0, none⟩)]] w fun e w' => e = .returned (.agg #[.int .i64 (f 0), .int .i64 (f 1), .int .i64 (f 2), .int .i64 (f 3)]) ∧ Below w.heap.size w w' := by
  have HC := Lib.hid h
  clear h
  obtain ⟨P2, hP2⟩ : ∃ x, x = w.heap.size := ⟨_, rfl⟩
  have hb2 : Below w.heap.size w ((w.alloc (.cells #[.int .i64 0, .int .i64 0, .int .i64 0, .int .i64 0] 23)).alloc (.cells #[.int .i64 0, .int .i64 0, .int .i64 0, .int .i64 0] 23)) := ((Below.refl w.heap.size w).alloc (Nat.le_refl _) _).alloc (by simp) _
  have hv3 : VAt ((w.alloc (.cells #[.int .i64 0, .int .i64 0, .int .i64 0, .int .i64 0] 23)).alloc (.cells #[.int .i64 0, .int .i64 0, .int .i64 0, .int .i64 0] 23)) (P2 + 1) (fun _ => 0) := by rw [hP2]; have := VAt.new (w.alloc (.cells #[.int .i64 0, .int .i64 0, .int .i64 0, .int .i64 0] 23)) (fun _ => 0); simpa using this
  have hv2 : VAt ((w.alloc (.cells #[.int .i64 0, .int .i64 0, .int .i64 0, .int .i64 0] 23)).alloc (.cells #[.int .i64 0, .int .i64 0, .int .i64 0, .int .i64 0] 23)) P2 (fun _ => 0) := by rw [hP2]; exact (Below.heap_alloc _ _ _ (by simp)).trans (VAt.new w (fun _ => 0))
  have HB := Lib.hid hb2
  have HV2 := Lib.hid hv2
  have HV3 := Lib.hid hv3
  have HP := Lib.hid hP2
  clear hb2 hv2 hv3
  go_enter Tryd.func27, Tryd.ntmps27
  go_wp2_with fail
  rw [← hP2]
  clear hP2
  generalize (w.alloc (.cells #[.int .i64 0, .int .i64 0, .int .i64 0, .int .i64 0] 23)).alloc (.cells #[.int .i64 0, .int .i64 0, .int .i64 0, .int .i64 0] 23) = w1 at HB HV2 HV3 ⊢
  go_loopw [5] (fun i wr => ∃ (j : Nat) (d : Nat → Int), j ≤ 4 ∧ i = .int .i64 j ∧ Hid (Below w.heap.size w wr) ∧ Hid (VAt wr P2 (fun _ => 0)) ∧ Hid (VAt wr (P2 + 1) d) ∧ Hid (∀ i, i < j → d i = f i)) (fun i _ => 4 - (intOf i).toNat)
  case atStart => exact ⟨0, fun _ => 0, by omega, rfl, HB, HV2, HV3, Lib.hid (fun i hi => by omega)⟩
  case round =>
    clear HB HV2 HV3
    obtain ⟨j, d, hj, rfl, HB, HV2, HV3, HF⟩ := hrel
    by_cases hj4 : j < 4
    · have hj' : (j : Int) < 4 := by omega
      have hj0 : (0 : Int) ≤ (j : Int) := by omega
      go_wp2_with fail
      refine (HC.out wr j hj4 HB.out).mono ?_
      rintro e w' ⟨rfl, n, rfl⟩
      have hc : (wr.drewN n).cell? ⟨P2 + 1, j, none⟩ = some (.int .i64 (d j)) := (HV3.out.drewN n).cell hj4
      have hf : (wr.drewN n).frozen? ⟨P2 + 1, j, none⟩ = false := fzb (HV3.out.drewN n) j
      have HV3' : Hid (VAt ((wr.drewN n).setCell ⟨P2 + 1, j, none⟩ (.int .i64 (f j))) (P2 + 1) (put1 d j (f j))) := Lib.hid ((HV3.out.drewN n).set hj4 (f j))
      have HV2' : Hid (VAt ((wr.drewN n).setCell ⟨P2 + 1, j, none⟩ (.int .i64 (f j))) P2 (fun _ => 0)) := Lib.hid ((Below.heap_setCell _ _ _ P2 (by show P2 ≠ P2 + 1; omega)).trans (HV2.out.drewN n))
      have HB' : Hid (Below w.heap.size w ((wr.drewN n).setCell ⟨P2 + 1, j, none⟩ (.int .i64 (f j)))) := Lib.hid ((below_drewN HB.out n).setCell (by show w.heap.size ≤ P2 + 1; rw [HP.out]; omega) _)
      clear HB HV2 HV3
      go_wp2_with fail
      go_roundw
      case rel => exact ⟨j + 1, put1 d j (f j), by omega, by go_num, HB', HV2', HV3', Lib.hid (fun i hi => by
          unfold put1
          by_cases e : i = j
          · rw [if_pos e, e]
          · rw [if_neg e]; exact HF.out i (by omega))⟩
      case measure => simp [intOf]; omega
    · have h0 := HF.out 0 (by omega)
      have h1 := HF.out 1 (by omega)
      have h2 := HF.out 2 (by omega)
      have h3 := HF.out 3 (by omega)
      have hv : VAt wr (P2 + 1) f := by have := HV3.out; unfold VAt at this ⊢; rw [h0, h1, h2, h3] at this; exact this
      have HV := Lib.hid hv
      have hst : VAt (wr.setRow P2 #[.int .i64 (f 0), .int .i64 (f 1), .int .i64 (f 2), .int .i64 (f 3)]) P2 f := setRow_heap wr P2 _ _ _ _ HV2.out
      have HST := Lib.hid hst
      have HBF : Hid (Below w.heap.size w (wr.setRow P2 #[.int .i64 (f 0), .int .i64 (f 1), .int .i64 (f 2), .int .i64 (f 3)])) := Lib.hid (HB.out.trans (((Chg.refl (fun k => k = P2) wr).setRow (.inr rfl) _).below HB.out.size (fun k hk e => by have := HP.out; omega)))
      clear h0 h1 h2 h3 hv hst HV3 HF
      go_wp2_with (first | (refine wpList_load_row rfl 23 _ rfl (P2 + 1) rfl 23 _ (0, 0) _ HV.out Tryd.underlying23 rfl (by kernel_rfl) ?_) | (refine wpList_store_row rfl 23 (.tmp 2) (.tmp 14) rfl P2 _ rfl rfl 23 _ HV2.out (by kernel_rfl) rfl (by simp [Value.oneCell']) ?_))
      exact bodyPost_ret (v := .agg #[.int .i64 (f 0), .int .i64 (f 1), .int .i64 (f 2), .int .i64 (f 3)]) (results_vec Tryd.results27 _ _ P2 f rfl HST.out) rfl ⟨rfl, HBF.out⟩
set_option maxHeartbeats 1000000 in
theorem each_sub (S R : Nat) (f : Nat → Int) (w : World) (h : ∀ wr (i : Nat), i < 4 → Below w.heap.size w wr → Calls Tryd.prog 29 #[.int .i64 i, .pointer (some ⟨S, 0, none⟩), .pointer (some ⟨R, 0, none⟩)] wr fun e w' => e = .returned (.int .i64 (f i)) ∧ ∃ n, w' = wr.drewN n) :
    Calls Tryd.prog 27 #[.func (.func 29) #[] #[.pointer (some ⟨S, 0, none⟩), .pointer (some ⟨R, 0, none⟩)]] w fun e w' => e = .returned (.agg #[.int .i64 (f 0), .int .i64 (f 1), .int .i64 (f 2), .int .i64 (f 3)]) ∧ Below w.heap.size w w' := by
  have HC := Lib.hid h
  clear h
  obtain ⟨P2, hP2⟩ : ∃ x, x = w.heap.size := ⟨_, rfl⟩
  have hb2 : Below w.heap.size w ((w.alloc (.cells #[.int .i64 0, .int .i64 0, .int .i64 0, .int .i64 0] 23)).alloc (.cells #[.int .i64 0, .int .i64 0, .int .i64 0, .int .i64 0] 23)) := ((Below.refl w.heap.size w).alloc (Nat.le_refl _) _).alloc (by simp) _
  have hv3 : VAt ((w.alloc (.cells #[.int .i64 0, .int .i64 0, .int .i64 0, .int .i64 0] 23)).alloc (.cells #[.int .i64 0, .int .i64 0, .int .i64 0, .int .i64 0] 23)) (P2 + 1) (fun _ => 0) := by rw [hP2]; have := VAt.new (w.alloc (.cells #[.int .i64 0, .int .i64 0, .int .i64 0, .int .i64 0] 23)) (fun _ => 0); simpa using this
  have hv2 : VAt ((w.alloc (.cells #[.int .i64 0, .int .i64 0, .int .i64 0, .int .i64 0] 23)).alloc (.cells #[.int .i64 0, .int .i64 0, .int .i64 0, .int .i64 0] 23)) P2 (fun _ => 0) := by rw [hP2]; exact (Below.heap_alloc _ _ _ (by simp)).trans (VAt.new w (fun _ => 0))
  have HB := Lib.hid hb2
  have HV2 := Lib.hid hv2
  have HV3 := Lib.hid hv3
  have HP := Lib.hid hP2
  clear hb2 hv2 hv3
  go_enter Tryd.func27, Tryd.ntmps27
  go_wp2_with fail
  rw [← hP2]
  clear hP2
  generalize (w.alloc (.cells #[.int .i64 0, .int .i64 0, .int .i64 0, .int .i64 0] 23)).alloc (.cells #[.int .i64 0, .int .i64 0, .int .i64 0, .int .i64 0] 23) = w1 at HB HV2 HV3 ⊢
  go_loopw [5] (fun i wr => ∃ (j : Nat) (d : Nat → Int), j ≤ 4 ∧ i = .int .i64 j ∧ Hid (Below w.heap.size w wr) ∧ Hid (VAt wr P2 (fun _ => 0)) ∧ Hid (VAt wr (P2 + 1) d) ∧ Hid (∀ i, i < j → d i = f i)) (fun i _ => 4 - (intOf i).toNat)
  case atStart => exact ⟨0, fun _ => 0, by omega, rfl, HB, HV2, HV3, Lib.hid (fun i hi => by omega)⟩
  case round =>
    clear HB HV2 HV3
    obtain ⟨j, d, hj, rfl, HB, HV2, HV3, HF⟩ := hrel
    by_cases hj4 : j < 4
    · have hj' : (j : Int) < 4 := by omega
      have hj0 : (0 : Int) ≤ (j : Int) := by omega
      go_wp2_with fail
      refine (HC.out wr j hj4 HB.out).mono ?_
      rintro e w' ⟨rfl, n, rfl⟩
      have hc : (wr.drewN n).cell? ⟨P2 + 1, j, none⟩ = some (.int .i64 (d j)) := (HV3.out.drewN n).cell hj4
      have hf : (wr.drewN n).frozen? ⟨P2 + 1, j, none⟩ = false := fzb (HV3.out.drewN n) j
      have HV3' : Hid (VAt ((wr.drewN n).setCell ⟨P2 + 1, j, none⟩ (.int .i64 (f j))) (P2 + 1) (put1 d j (f j))) := Lib.hid ((HV3.out.drewN n).set hj4 (f j))
      have HV2' : Hid (VAt ((wr.drewN n).setCell ⟨P2 + 1, j, none⟩ (.int .i64 (f j))) P2 (fun _ => 0)) := Lib.hid ((Below.heap_setCell _ _ _ P2 (by show P2 ≠ P2 + 1; omega)).trans (HV2.out.drewN n))
      have HB' : Hid (Below w.heap.size w ((wr.drewN n).setCell ⟨P2 + 1, j, none⟩ (.int .i64 (f j)))) := Lib.hid ((below_drewN HB.out n).setCell (by show w.heap.size ≤ P2 + 1; rw [HP.out]; omega) _)
      clear HB HV2 HV3
      go_wp2_with fail
      go_roundw
      case rel => exact ⟨j + 1, put1 d j (f j), by omega, by go_num, HB', HV2', HV3', Lib.hid (fun i hi => by
          unfold put1
          by_cases e : i = j
          · rw [if_pos e, e]
          · rw [if_neg e]; exact HF.out i (by omega))⟩
      case measure => simp [intOf]; omega
    · have h0 := HF.out 0 (by omega)
      have h1 := HF.out 1 (by omega)
      have h2 := HF.out 2 (by omega)
      have h3 := HF.out 3 (by omega)
      have hv : VAt wr (P2 + 1) f := by have := HV3.out; unfold VAt at this ⊢; rw [h0, h1, h2, h3] at this; exact this
      have HV := Lib.hid hv
      have hst : VAt (wr.setRow P2 #[.int .i64 (f 0), .int .i64 (f 1), .int .i64 (f 2), .int .i64 (f 3)]) P2 f := setRow_heap wr P2 _ _ _ _ HV2.out
      have HST := Lib.hid hst
      have HBF : Hid (Below w.heap.size w (wr.setRow P2 #[.int .i64 (f 0), .int .i64 (f 1), .int .i64 (f 2), .int .i64 (f 3)])) := Lib.hid (HB.out.trans (((Chg.refl (fun k => k = P2) wr).setRow (.inr rfl) _).below HB.out.size (fun k hk e => by have := HP.out; omega)))
      clear h0 h1 h2 h3 hv hst HV3 HF
      go_wp2_with (first | (refine wpList_load_row rfl 23 _ rfl (P2 + 1) rfl 23 _ (0, 0) _ HV.out Tryd.underlying23 rfl (by kernel_rfl) ?_) | (refine wpList_store_row rfl 23 (.tmp 2) (.tmp 14) rfl P2 _ rfl rfl 23 _ HV2.out (by kernel_rfl) rfl (by simp [Value.oneCell']) ?_))
      exact bodyPost_ret (v := .agg #[.int .i64 (f 0), .int .i64 (f 1), .int .i64 (f 2), .int .i64 (f 3)]) (results_vec Tryd.results27 _ _ P2 f rfl HST.out) rfl ⟨rfl, HBF.out⟩
set_option maxHeartbeats 1000000 in
theorem each_least (S R : Nat) (f : Nat → Int) (w : World) (h : ∀ wr (i : Nat), i < 4 → Below w.heap.size w wr → Calls Tryd.prog 33 #[.int .i64 i, .pointer (some ⟨S, 0, none⟩), .pointer (some ⟨R, 0, none⟩)] wr fun e w' => e = .returned (.int .i64 (f i)) ∧ ∃ n, w' = wr.drewN n) :
    Calls Tryd.prog 27 #[.func (.func 33) #[] #[.pointer (some ⟨S, 0, none⟩), .pointer (some ⟨R, 0, none⟩)]] w fun e w' => e = .returned (.agg #[.int .i64 (f 0), .int .i64 (f 1), .int .i64 (f 2), .int .i64 (f 3)]) ∧ Below w.heap.size w w' := by
  have HC := Lib.hid h
  clear h
  obtain ⟨P2, hP2⟩ : ∃ x, x = w.heap.size := ⟨_, rfl⟩
  have hb2 : Below w.heap.size w ((w.alloc (.cells #[.int .i64 0, .int .i64 0, .int .i64 0, .int .i64 0] 23)).alloc (.cells #[.int .i64 0, .int .i64 0, .int .i64 0, .int .i64 0] 23)) := ((Below.refl w.heap.size w).alloc (Nat.le_refl _) _).alloc (by simp) _
  have hv3 : VAt ((w.alloc (.cells #[.int .i64 0, .int .i64 0, .int .i64 0, .int .i64 0] 23)).alloc (.cells #[.int .i64 0, .int .i64 0, .int .i64 0, .int .i64 0] 23)) (P2 + 1) (fun _ => 0) := by rw [hP2]; have := VAt.new (w.alloc (.cells #[.int .i64 0, .int .i64 0, .int .i64 0, .int .i64 0] 23)) (fun _ => 0); simpa using this
  have hv2 : VAt ((w.alloc (.cells #[.int .i64 0, .int .i64 0, .int .i64 0, .int .i64 0] 23)).alloc (.cells #[.int .i64 0, .int .i64 0, .int .i64 0, .int .i64 0] 23)) P2 (fun _ => 0) := by rw [hP2]; exact (Below.heap_alloc _ _ _ (by simp)).trans (VAt.new w (fun _ => 0))
  have HB := Lib.hid hb2
  have HV2 := Lib.hid hv2
  have HV3 := Lib.hid hv3
  have HP := Lib.hid hP2
  clear hb2 hv2 hv3
  go_enter Tryd.func27, Tryd.ntmps27
  go_wp2_with fail
  rw [← hP2]
  clear hP2
  generalize (w.alloc (.cells #[.int .i64 0, .int .i64 0, .int .i64 0, .int .i64 0] 23)).alloc (.cells #[.int .i64 0, .int .i64 0, .int .i64 0, .int .i64 0] 23) = w1 at HB HV2 HV3 ⊢
  go_loopw [5] (fun i wr => ∃ (j : Nat) (d : Nat → Int), j ≤ 4 ∧ i = .int .i64 j ∧ Hid (Below w.heap.size w wr) ∧ Hid (VAt wr P2 (fun _ => 0)) ∧ Hid (VAt wr (P2 + 1) d) ∧ Hid (∀ i, i < j → d i = f i)) (fun i _ => 4 - (intOf i).toNat)
  case atStart => exact ⟨0, fun _ => 0, by omega, rfl, HB, HV2, HV3, Lib.hid (fun i hi => by omega)⟩
  case round =>
    clear HB HV2 HV3
    obtain ⟨j, d, hj, rfl, HB, HV2, HV3, HF⟩ := hrel
    by_cases hj4 : j < 4
    · have hj' : (j : Int) < 4 := by omega
      have hj0 : (0 : Int) ≤ (j : Int) := by omega
      go_wp2_with fail
      refine (HC.out wr j hj4 HB.out).mono ?_
      rintro e w' ⟨rfl, n, rfl⟩
      have hc : (wr.drewN n).cell? ⟨P2 + 1, j, none⟩ = some (.int .i64 (d j)) := (HV3.out.drewN n).cell hj4
      have hf : (wr.drewN n).frozen? ⟨P2 + 1, j, none⟩ = false := fzb (HV3.out.drewN n) j
      have HV3' : Hid (VAt ((wr.drewN n).setCell ⟨P2 + 1, j, none⟩ (.int .i64 (f j))) (P2 + 1) (put1 d j (f j))) := Lib.hid ((HV3.out.drewN n).set hj4 (f j))
      have HV2' : Hid (VAt ((wr.drewN n).setCell ⟨P2 + 1, j, none⟩ (.int .i64 (f j))) P2 (fun _ => 0)) := Lib.hid ((Below.heap_setCell _ _ _ P2 (by show P2 ≠ P2 + 1; omega)).trans (HV2.out.drewN n))
      have HB' : Hid (Below w.heap.size w ((wr.drewN n).setCell ⟨P2 + 1, j, none⟩ (.int .i64 (f j)))) := Lib.hid ((below_drewN HB.out n).setCell (by show w.heap.size ≤ P2 + 1; rw [HP.out]; omega) _)
      clear HB HV2 HV3
      go_wp2_with fail
      go_roundw
      case rel => exact ⟨j + 1, put1 d j (f j), by omega, by go_num, HB', HV2', HV3', Lib.hid (fun i hi => by
          unfold put1
          by_cases e : i = j
          · rw [if_pos e, e]
          · rw [if_neg e]; exact HF.out i (by omega))⟩
      case measure => simp [intOf]; omega
    · have h0 := HF.out 0 (by omega)
      have h1 := HF.out 1 (by omega)
      have h2 := HF.out 2 (by omega)
      have h3 := HF.out 3 (by omega)
      have hv : VAt wr (P2 + 1) f := by have := HV3.out; unfold VAt at this ⊢; rw [h0, h1, h2, h3] at this; exact this
      have HV := Lib.hid hv
      have hst : VAt (wr.setRow P2 #[.int .i64 (f 0), .int .i64 (f 1), .int .i64 (f 2), .int .i64 (f 3)]) P2 f := setRow_heap wr P2 _ _ _ _ HV2.out
      have HST := Lib.hid hst
      have HBF : Hid (Below w.heap.size w (wr.setRow P2 #[.int .i64 (f 0), .int .i64 (f 1), .int .i64 (f 2), .int .i64 (f 3)])) := Lib.hid (HB.out.trans (((Chg.refl (fun k => k = P2) wr).setRow (.inr rfl) _).below HB.out.size (fun k hk e => by have := HP.out; omega)))
      clear h0 h1 h2 h3 hv hst HV3 HF
      go_wp2_with (first | (refine wpList_load_row rfl 23 _ rfl (P2 + 1) rfl 23 _ (0, 0) _ HV.out Tryd.underlying23 rfl (by kernel_rfl) ?_) | (refine wpList_store_row rfl 23 (.tmp 2) (.tmp 14) rfl P2 _ rfl rfl 23 _ HV2.out (by kernel_rfl) rfl (by simp [Value.oneCell']) ?_))
      exact bodyPost_ret (v := .agg #[.int .i64 (f 0), .int .i64 (f 1), .int .i64 (f 2), .int .i64 (f 3)]) (results_vec Tryd.results27 _ _ P2 f rfl HST.out) rfl ⟨rfl, HBF.out⟩
set_option maxHeartbeats 1000000 in
theorem each_times (S R : Nat) (f : Nat → Int) (w : World) (h : ∀ wr (i : Nat), i < 4 → Below w.heap.size w wr → Calls Tryd.prog 34 #[.int .i64 i, .pointer (some ⟨S, 0, none⟩), .pointer (some ⟨R, 0, none⟩)] wr fun e w' => e = .returned (.int .i64 (f i)) ∧ ∃ n, w' = wr.drewN n) :
    Calls Tryd.prog 27 #[.func (.func 34) #[] #[.pointer (some ⟨S, 0, none⟩), .pointer (some ⟨R, 0, none⟩)]] w fun e w' => e = .returned (.agg #[.int .i64 (f 0), .int .i64 (f 1), .int .i64 (f 2), .int .i64 (f 3)]) ∧ Below w.heap.size w w' := by
  have HC := Lib.hid h
  clear h
  obtain ⟨P2, hP2⟩ : ∃ x, x = w.heap.size := ⟨_, rfl⟩
  have hb2 : Below w.heap.size w ((w.alloc (.cells #[.int .i64 0, .int .i64 0, .int .i64 0, .int .i64 0] 23)).alloc (.cells #[.int .i64 0, .int .i64 0, .int .i64 0, .int .i64 0] 23)) := ((Below.refl w.heap.size w).alloc (Nat.le_refl _) _).alloc (by simp) _
  have hv3 : VAt ((w.alloc (.cells #[.int .i64 0, .int .i64 0, .int .i64 0, .int .i64 0] 23)).alloc (.cells #[.int .i64 0, .int .i64 0, .int .i64 0, .int .i64 0] 23)) (P2 + 1) (fun _ => 0) := by rw [hP2]; have := VAt.new (w.alloc (.cells #[.int .i64 0, .int .i64 0, .int .i64 0, .int .i64 0] 23)) (fun _ => 0); simpa using this
  have hv2 : VAt ((w.alloc (.cells #[.int .i64 0, .int .i64 0, .int .i64 0, .int .i64 0] 23)).alloc (.cells #[.int .i64 0, .int .i64 0, .int .i64 0, .int .i64 0] 23)) P2 (fun _ => 0) := by rw [hP2]; exact (Below.heap_alloc _ _ _ (by simp)).trans (VAt.new w (fun _ => 0))
  have HB := Lib.hid hb2
  have HV2 := Lib.hid hv2
  have HV3 := Lib.hid hv3
  have HP := Lib.hid hP2
  clear hb2 hv2 hv3
  go_enter Tryd.func27, Tryd.ntmps27
  go_wp2_with fail
  rw [← hP2]
  clear hP2
  generalize (w.alloc (.cells #[.int .i64 0, .int .i64 0, .int .i64 0, .int .i64 0] 23)).alloc (.cells #[.int .i64 0, .int .i64 0, .int .i64 0, .int .i64 0] 23) = w1 at HB HV2 HV3 ⊢
  go_loopw [5] (fun i wr => ∃ (j : Nat) (d : Nat → Int), j ≤ 4 ∧ i = .int .i64 j ∧ Hid (Below w.heap.size w wr) ∧ Hid (VAt wr P2 (fun _ => 0)) ∧ Hid (VAt wr (P2 + 1) d) ∧ Hid (∀ i, i < j → d i = f i)) (fun i _ => 4 - (intOf i).toNat)
  case atStart => exact ⟨0, fun _ => 0, by omega, rfl, HB, HV2, HV3, Lib.hid (fun i hi => by omega)⟩
  case round =>
    clear HB HV2 HV3
    obtain ⟨j, d, hj, rfl, HB, HV2, HV3, HF⟩ := hrel
    by_cases hj4 : j < 4
    · have hj' : (j : Int) < 4 := by omega
      have hj0 : (0 : Int) ≤ (j : Int) := by omega
      go_wp2_with fail
      refine (HC.out wr j hj4 HB.out).mono ?_
      rintro e w' ⟨rfl, n, rfl⟩
      have hc : (wr.drewN n).cell? ⟨P2 + 1, j, none⟩ = some (.int .i64 (d j)) := (HV3.out.drewN n).cell hj4
      have hf : (wr.drewN n).frozen? ⟨P2 + 1, j, none⟩ = false := fzb (HV3.out.drewN n) j
      have HV3' : Hid (VAt ((wr.drewN n).setCell ⟨P2 + 1, j, none⟩ (.int .i64 (f j))) (P2 + 1) (put1 d j (f j))) := Lib.hid ((HV3.out.drewN n).set hj4 (f j))
      have HV2' : Hid (VAt ((wr.drewN n).setCell ⟨P2 + 1, j, none⟩ (.int .i64 (f j))) P2 (fun _ => 0)) := Lib.hid ((Below.heap_setCell _ _ _ P2 (by show P2 ≠ P2 + 1; omega)).trans (HV2.out.drewN n))
      have HB' : Hid (Below w.heap.size w ((wr.drewN n).setCell ⟨P2 + 1, j, none⟩ (.int .i64 (f j)))) := Lib.hid ((below_drewN HB.out n).setCell (by show w.heap.size ≤ P2 + 1; rw [HP.out]; omega) _)
      clear HB HV2 HV3
      go_wp2_with fail
      go_roundw
      case rel => exact ⟨j + 1, put1 d j (f j), by omega, by go_num, HB', HV2', HV3', Lib.hid (fun i hi => by
          unfold put1
          by_cases e : i = j
          · rw [if_pos e, e]
          · rw [if_neg e]; exact HF.out i (by omega))⟩
      case measure => simp [intOf]; omega
    · have h0 := HF.out 0 (by omega)
      have h1 := HF.out 1 (by omega)
      have h2 := HF.out 2 (by omega)
      have h3 := HF.out 3 (by omega)
      have hv : VAt wr (P2 + 1) f := by have := HV3.out; unfold VAt at this ⊢; rw [h0, h1, h2, h3] at this; exact this
      have HV := Lib.hid hv
      have hst : VAt (wr.setRow P2 #[.int .i64 (f 0), .int .i64 (f 1), .int .i64 (f 2), .int .i64 (f 3)]) P2 f := setRow_heap wr P2 _ _ _ _ HV2.out
      have HST := Lib.hid hst
      have HBF : Hid (Below w.heap.size w (wr.setRow P2 #[.int .i64 (f 0), .int .i64 (f 1), .int .i64 (f 2), .int .i64 (f 3)])) := Lib.hid (HB.out.trans (((Chg.refl (fun k => k = P2) wr).setRow (.inr rfl) _).below HB.out.size (fun k hk e => by have := HP.out; omega)))
      clear h0 h1 h2 h3 hv hst HV3 HF
      go_wp2_with (first | (refine wpList_load_row rfl 23 _ rfl (P2 + 1) rfl 23 _ (0, 0) _ HV.out Tryd.underlying23 rfl (by kernel_rfl) ?_) | (refine wpList_store_row rfl 23 (.tmp 2) (.tmp 14) rfl P2 _ rfl rfl 23 _ HV2.out (by kernel_rfl) rfl (by simp [Value.oneCell']) ?_))
      exact bodyPost_ret (v := .agg #[.int .i64 (f 0), .int .i64 (f 1), .int .i64 (f 2), .int .i64 (f 3)]) (results_vec Tryd.results27 _ _ P2 f rfl HST.out) rfl ⟨rfl, HBF.out⟩
end Go.Proofs.YtfbmjejkhnopiaaDoor
