/- What can be unpacked may be, and is packed as it was; a bit that is turned is found. -/
import Derived.Test.YtkenaoejijpgpaaDoorAwk18
import Derived.Test.YtkenaoejijpgpaaDoorOneP
import Derived.Test.YtkenaoejijpgpaaDoorSame18
import Derived.Test.YtkenaoejijpgpaaDoorNetD
namespace Go.Proofs.YtkenaoejijpgpaaDoor
open Go.RowKit

theorem take_load {P : Program} {a : Act} {oi : Oper} {w : World} {ty : TypeId} {x : Operand} (ho : oi.op = .load ty x) (g : Nat) (hx : a.eval x = .pointer (some ⟨g, 0, none⟩)) (t : TypeId) (cs : Array Value) (fr : Nat × Nat) (d : TypeDesc) (hg : w.heap[g]? = some (.cells cs t fr))
    (hu : P.underlying ty = some d) (hd : (match d with | .struct _ | .array _ _ => true | _ => false) = true) (hi : (P.info? ty).map (·.size) = some cs.size) : (execOp a.eval oi).run P w = .ok (.value (.agg cs)) w := by
  unfold execOp
  simp only [ho, hx, Instr.loadAt, Instr.sureAddr, Sem.run_bind, Sem.run_pure, Result.andThen_ok, run_loadVar_row w g t ty cs fr d hg hu hd hi]
theorem turn8_twice (c : UInt8) (r : Nat) (hr : r < 8) : turn8 (turn8 c r) r = c := by
  have hp : 2 ^ r < 256 := Nat.lt_of_lt_of_le (Nat.pow_lt_pow_right (by omega) hr) (Nat.le_refl (2 ^ 8))
  have hc := c.toNat_lt
  have hx : c.toNat ^^^ 2 ^ r < 256 := Nat.xor_lt_two_pow (n := 8) (by omega) hp
  apply UInt8.toNat_inj.1
  unfold turn8
  rw [UInt8.toNat_ofNat', UInt8.toNat_ofNat', Nat.mod_eq_of_lt hx, Nat.xor_assoc, Nat.xor_self, Nat.xor_zero]
  exact Nat.mod_eq_of_lt hc
theorem turn8_ne (c : UInt8) (r : Nat) (hr : r < 8) : turn8 c r ≠ c := by
  intro e
  have hp : 2 ^ r < 256 := Nat.lt_of_lt_of_le (Nat.pow_lt_pow_right (by omega) hr) (Nat.le_refl (2 ^ 8))
  have hc := c.toNat_lt
  have hx : c.toNat ^^^ 2 ^ r < 256 := Nat.xor_lt_two_pow (n := 8) (by omega) hp
  have h := congrArg UInt8.toNat e
  unfold turn8 at h
  rw [UInt8.toNat_ofNat', Nat.mod_eq_of_lt hx] at h
  have h2 : c.toNat ^^^ (c.toNat ^^^ 2 ^ r) = c.toNat ^^^ c.toNat := by rw [h]
  rw [← Nat.xor_assoc, Nat.xor_self, Nat.zero_xor] at h2
  exact absurd h2 (by have := Nat.two_pow_pos r; omega)
theorem spoil0 (w : World) {B N Lc : Nat} {LA : Option Addr} {p : Pv} (h : NAt w B N LA Lc [p]) (t : Nat) (ht8 : t ≤ 9223372036854775807) (ht : t / 8 < p.l.length) :
    Calls Tryd.prog 20 #[.pointer (some ⟨N, 0, none⟩), .int .i64 0, .int .i64 t] w fun e w' => SpoilTo w B N Lc 0 LA [p] p t e w' :=
  spoil_any (j := 0) w h rfl t ht8 ht
theorem peek0 (w : World) {B N Lc : Nat} {LA : Option Addr} {p : Pv} (h : NAt w B N LA Lc [p]) (hl : p.l.length ≤ 100000000) :
    Calls Tryd.prog 21 #[.pointer (some ⟨N, 0, none⟩), .int .i64 0] w fun e w' => ∃ A2 c2, e = .returned (.tuple #[.int .i64 p.to_, .slice A2 p.l.length c2, .bool true]) ∧ w'.ownsRow w.heap.size 5 1 (.slice A2 p.l.length c2) p.l.length (cells8 p.l) ∧ Below w.heap.size w w' :=
  peek_any (j := 0) w h rfl hl
set_option maxRecDepth 100000 in
set_option maxHeartbeats 8000000 in
theorem law_one (A : Option Addr) (c n : Nat) (l : List UInt8) (x : Int) (w : World) (hb : BytesIn w w.heap.size A c l) (hn : n = l.length) (h0 : 0 < w.heap.size) (hh : Hal w) (hx1 : -9223372036854775808 ≤ x) (hx2 : x ≤ 9223372036854775807) :
    Calls Tryd.prog 6 #[.slice A n c, .int .i64 x] w fun e w' => e = .returned (.bool true) ∧ Below w.heap.size w w' := by
  have HAW := Lib.hid (awake_any w h0 hh)
  have HY := Lib.hid hb
  have HH := Lib.hid hh
  have HN := Lib.hid hn
  obtain ⟨S, hS⟩ : ∃ S, S = w.heap.size := ⟨_, rfl⟩
  rw [← hS] at HY HAW h0 ⊢
  have HSW := Lib.hid hS
  have HX := Lib.hid (And.intro hx1 hx2)
  clear hb hn hh hS hx1 hx2
  go_enter Tryd.func6, Tryd.ntmps6
  go_wp2_with fail
  refine HAW.out.mono ?_
  clear HAW
  rintro e w1 ⟨rfl, hb⟩
  have HB1 := Lib.hid hb
  have HY1 := Lib.hid (HY.out.below hb (Nat.le_refl _))
  have HH1 := Lib.hid (HH.out.below hb h0)
  have hs1 : S ≤ w1.heap.size := by have := HSW.out; have := hb.size; omega
  clear hb HY HH
  by_cases h6 : 6000 < n
  · have hq : (6000 : Int) < (n : Int) := by omega
    go_wp2_with fail
    go_ret
    exact ⟨rfl, HB1.out⟩
  have hq : ¬ (6000 : Int) < (n : Int) := by omega
  go_wp2_with fail
  clear hq
  refine (unpack_any A n c l w1 (HY1.out.more hs1) HN.out (by omega) HH1.out (by omega)).mono ?_
  rintro e w2 ⟨A4, c4, rfl, hy, hb⟩
  obtain ⟨n4, hn4⟩ : ∃ n, n = (outT l).length := ⟨_, rfl⟩
  rw [← hn4]
  have HN4 := Lib.hid hn4
  have HT2 := Lib.hid hy
  have HB2 := Lib.hid (HB1.out.trans (hb.mono hs1))
  have HY2 := Lib.hid (HY1.out.below (hb.mono hs1) (Nat.le_refl _))
  have HH2 := Lib.hid (HH1.out.below hb (by omega))
  have hs2 : S ≤ w2.heap.size := Nat.le_trans hs1 hb.size
  clear hb hy hn4 HB1 HY1 HH1
  obtain ⟨X, hX⟩ : ∃ x, x = w2.heap.size := ⟨_, rfl⟩
  obtain ⟨w3, hw3⟩ : ∃ y, y = w2.alloc (.cells #[.int .i64 (outV l 0), .int .i64 (outV l 1), .int .i64 (outV l 2), .int .i64 (outV l 3), .int .i64 (outV l 4), .int .i64 (outV l 5), .int .i64 (outV l 6), .int .i64 (outV l 7), .int .i64 (outV l 8), .int .i64 (outV l 9), .int .i64 (outV l 10), .int .i64 (outV l 11), .int .i64 (outV l 12), .int .i64 (outV l 13), .int .i64 (outV l 14), .int .i64 (outV l 15), .int .i64 (outV l 16), .slice A4 n4 c4, .int .i64 (outV l 18), .int .i64 (outV l 19), .int .i64 (outV l 20)] 29) := ⟨_, rfl⟩
  have hal : Below w2.heap.size w2 w3 := by rw [hw3]; exact (Below.refl _ _).alloc (Nat.le_refl _) _
  have hx5 : MAt w3 X (outV l) A4 n4 c4 := by rw [hw3, hX]; exact heap_alloc_new w2 _
  have HX3 := Lib.hid hx5
  have HB3 := Lib.hid (HB2.out.trans (hal.mono hs2))
  have HY3 := Lib.hid (HY2.out.below (hal.mono hs2) (Nat.le_refl _))
  have HT3 := Lib.hid (HT2.out.below hal (Nat.le_refl _))
  have HH3 := Lib.hid (HH2.out.below hal (by omega))
  have hs3 : S ≤ w3.heap.size := Nat.le_trans hs2 hal.size
  have hXs : S ≤ X := by omega
  have hX3 : X < w3.heap.size := ltb hx5
  go_upto_region 7 with (refine wpList_store_row rfl 29 (.tmp 6) (.tmp 29) rfl w2.heap.size _ rfl rfl 29 _ (heap_alloc_new w2 _) (by kernel_rfl) rfl (by simp [Value.oneCell']) ?_; rw [World.setRow_alloc_new])
  rw [← hw3, ← hX]
  have HTX := Lib.hid (HT3.out.more (show w2.heap.size ≤ w3.heap.size from hal.size))
  clear hal hx5 hw3 hX HB2 HY2 HT2 HH2 HT3
  by_cases hE : ¬ upE l = 0
  · have hq : (upE l != 0) = true := by rw [bne_iff_ne]; exact hE
    have hot := outT_no hE
    have hn0 : n4 = 0 := by rw [HN4.out, hot]; rfl
    subst hn0
    have hov : ∀ i, outV l i = 0 := outV_no hE
    have hbx := HX3.out
    unfold MAt at hbx
    simp only [hov] at hbx
    have HBX := Lib.hid hbx
    have HTY : Hid (BytesIn w3 w3.heap.size A4 c4 []) := Lib.hid (hot ▸ HTX.out)
    clear hE hot hov hbx HX3 HTX
    go_wp2_with (refine wpList_load_row rfl 29 _ rfl X rfl 29 _ (0, 0) _ HBX.out Tryd.underlying29 rfl (by kernel_rfl) ?_)
    clear hq
    refine (same_eq (fun _ => 0) A4 none 0 c4 0 [] w3 HTY.out (.emp (by omega)) rfl).mono ?_
    rintro e w4 ⟨rfl, hb⟩
    have HB4 := Lib.hid (HB3.out.trans (hb.mono hs3))
    clear hb
    go_wp2_with fail
    go_ret
    exact ⟨rfl, HB4.out⟩
  have hE0 := Classical.not_not.1 hE
  obtain ⟨hok, hfr⟩ := unp_pack hE0
  obtain ⟨hl8, hl6⟩ := upE_len hE0
  have HE0 := Lib.hid hE0
  have HOK : Hid (OkM (outV l) n4) := Lib.hid (by rw [HN4.out]; exact hok)
  have HFR := Lib.hid hfr
  have hq : (upE l != 0) = false := by rw [hE0]; rfl
  rw [hE0]
  clear hE hE0 hok hfr
  go_upto_region 9 with (fail)
  clear hq
  have F0 : w3.drew.heap[X]? = some (.cells #[.int .i64 (outV l 0), .int .i64 (outV l 1), .int .i64 (outV l 2), .int .i64 (outV l 3), .int .i64 (outV l 4), .int .i64 (outV l 5), .int .i64 (outV l 6), .int .i64 (outV l 7), .int .i64 (outV l 8), .int .i64 (outV l 9), .int .i64 (outV l 10), .int .i64 (outV l 11), .int .i64 (outV l 12), .int .i64 (outV l 13), .int .i64 (outV l 14), .int .i64 (outV l 15), .int .i64 (outV l 16), .slice A4 n4 c4, .int .i64 (outV l 18), .int .i64 (outV l 19), .int .i64 (outV l 20)] 29 (0, 0)) := HX3.out
  have G0 : BytesIn w3.drew S A c l := HY3.out.drew
  have HBd : Hid (Below S w w3.drew) := Lib.hid HB3.out.drew
  have HTd : Hid (BytesIn w3.drew w3.drew.heap.size A4 c4 (outT l)) := Lib.hid HTX.out.drew
  have HHd : Hid (Hal w3.drew) := Lib.hid (HH3.out.below (Below.refl _ w3).drew (by omega))
  have hsd : S ≤ w3.drew.heap.size := hs3
  have hXd : X < w3.drew.heap.size := hX3
  clear HX3 HB3 HY3 HTX HH3 hs3 hX3
  refine wp_region_noPanic ?_
  refine wp_region_held_drew (S := fun w' => w'.heap[X]? = some (.cells #[.int .i64 (outV l 0), .int .i64 (outV l 1), .int .i64 (outV l 2), .int .i64 (outV l 3), .int .i64 (outV l 4), .int .i64 (outV l 5), .int .i64 (outV l 6), .int .i64 (outV l 7), .int .i64 (outV l 8), .int .i64 (outV l 9), .int .i64 (outV l 10), .int .i64 (outV l 11), .int .i64 (outV l 12), .int .i64 (outV l 13), .int .i64 (outV l 14), .int .i64 (outV l 15), .int .i64 (outV l 16), .slice A4 n4 c4, .int .i64 (outV l 18), .int .i64 (outV l 19), .int .i64 (outV l 20)] 29 (0, 0)) ∧ BytesIn w' S A c l) (by kernel_rfl) ?_ (fun hHeld => ?_)
  · try dsimp only
    (refine ⟨?_, ?_⟩ <;> (first | with_reducible assumption))
  generalize w3.drew = wd at *
  refine wpAnyH_take (i := 0) (v := ?_) (by (simp only [List.getElem?_toArray, List.getElem?_cons_zero]; rfl)) (by kernel_rfl) (by kernel_rfl) (by kernel_rfl) (fun _ _ _ h => h) (Or.inl ⟨by rfl, ?_⟩) (by assumption) ?_
  rotate_left
  · intro w hSw
    try dsimp only at hSw
    refine take_load (x := .tmp 6) (ty := 29) ?_ X ?_ 29 #[.int .i64 (outV l 0), .int .i64 (outV l 1), .int .i64 (outV l 2), .int .i64 (outV l 3), .int .i64 (outV l 4), .int .i64 (outV l 5), .int .i64 (outV l 6), .int .i64 (outV l 7), .int .i64 (outV l 8), .int .i64 (outV l 9), .int .i64 (outV l 10), .int .i64 (outV l 11), .int .i64 (outV l 12), .int .i64 (outV l 13), .int .i64 (outV l 14), .int .i64 (outV l 15), .int .i64 (outV l 16), .slice A4 n4 c4, .int .i64 (outV l 18), .int .i64 (outV l 19), .int .i64 (outV l 20)] (0, 0) _ hSw.1 Tryd.underlying29 rfl (by kernel_rfl)
    all_goals rfl
  try simp only [Act.put, List.setIfInBounds_toArray, List.set_cons_zero, List.set_cons_succ]
  refine wpAnyH_ready (rs := [1]) (by kernel_rfl) (by simp) ?_
  refine AllReadyH.cons (by (simp only [List.getElem?_toArray, List.getElem?_cons_succ, List.getElem?_cons_zero]; rfl)) (fun K hK => ?_) AllReadyH.nil
  go_simp
  refine (check_any (outV l) A4 n4 c4 wd).mono ?_
  rintro e w4 ⟨b, rfl, hbk, hb⟩
  obtain rfl : b = true := hbk.2 HOK.out
  have F4 := (hb.block X hXd).trans F0
  have G4 := G0.below (hb.mono hsd) (Nat.le_refl _)
  have HB4 := Lib.hid (HBd.out.trans (hb.mono hsd))
  have HT4 := Lib.hid ((HTd.out.below hb (Nat.le_refl _)).more hb.size)
  have HH4 := Lib.hid (HHd.out.below hb (by omega))
  have hs4 : S ≤ w4.heap.size := Nat.le_trans hsd hb.size
  have hX4 : X < w4.heap.size := Nat.lt_of_lt_of_le hXd hb.size
  clear hb hbk
  refine hK.out _ _ ?_ (fun hHeld => ?_)
  · try dsimp only
    (refine ⟨?_, ?_⟩ <;> (first | with_reducible assumption))
  clear hK K
  refine wpAnyH_take (i := 2) (v := ?_) (by (simp only [List.getElem?_toArray, List.getElem?_cons_succ, List.getElem?_cons_zero]; rfl)) (by kernel_rfl) (by kernel_rfl) (by kernel_rfl) (fun _ _ _ h => h) (Or.inl ⟨by rfl, ?_⟩) (by assumption) ?_
  rotate_left
  · (intro w hSw; (try dsimp only at hSw); go_simp; try with_reducible rfl)
  try simp only [Act.put, List.setIfInBounds_toArray, List.set_cons_zero, List.set_cons_succ]
  refine wpAnyH_take (i := 3) (v := ?_) (by (simp only [List.getElem?_toArray, List.getElem?_cons_succ, List.getElem?_cons_zero]; rfl)) (by kernel_rfl) (by kernel_rfl) (by kernel_rfl) (fun _ _ _ h => h) (Or.inl ⟨by rfl, ?_⟩) (by assumption) ?_
  rotate_left
  · (intro w hSw; (try dsimp only at hSw); go_simp; try with_reducible rfl)
  try simp only [Act.put, List.setIfInBounds_toArray, List.set_cons_zero, List.set_cons_succ]
  refine wpAnyH_take (i := 4) (v := ?_) (by (simp only [List.getElem?_toArray, List.getElem?_cons_succ, List.getElem?_cons_zero]; rfl)) (by kernel_rfl) (by kernel_rfl) (by kernel_rfl) (fun _ _ _ h => h) (Or.inl ⟨by rfl, ?_⟩) (by assumption) ?_
  rotate_left
  · intro w hSw
    try dsimp only at hSw
    refine take_load (x := .tmp 6) (ty := 29) ?_ X ?_ 29 #[.int .i64 (outV l 0), .int .i64 (outV l 1), .int .i64 (outV l 2), .int .i64 (outV l 3), .int .i64 (outV l 4), .int .i64 (outV l 5), .int .i64 (outV l 6), .int .i64 (outV l 7), .int .i64 (outV l 8), .int .i64 (outV l 9), .int .i64 (outV l 10), .int .i64 (outV l 11), .int .i64 (outV l 12), .int .i64 (outV l 13), .int .i64 (outV l 14), .int .i64 (outV l 15), .int .i64 (outV l 16), .slice A4 n4 c4, .int .i64 (outV l 18), .int .i64 (outV l 19), .int .i64 (outV l 20)] (0, 0) _ hSw.1 Tryd.underlying29 rfl (by kernel_rfl)
    all_goals rfl
  try simp only [Act.put, List.setIfInBounds_toArray, List.set_cons_zero, List.set_cons_succ]
  refine wpAnyH_take (i := 7) (v := ?_) (by (simp only [List.getElem?_toArray, List.getElem?_cons_succ, List.getElem?_cons_zero]; rfl)) (by kernel_rfl) (by kernel_rfl) (by kernel_rfl) (fun _ _ _ h => h) (Or.inl ⟨by rfl, ?_⟩) (by assumption) ?_
  rotate_left
  · (intro w hSw; (try dsimp only at hSw); go_simp; try with_reducible rfl)
  try simp only [Act.put, List.setIfInBounds_toArray, List.set_cons_zero, List.set_cons_succ]
  refine wpAnyH_take (i := 8) (v := ?_) (by (simp only [List.getElem?_toArray, List.getElem?_cons_succ, List.getElem?_cons_zero]; rfl)) (by kernel_rfl) (by kernel_rfl) (by kernel_rfl) (fun _ _ _ h => h) (Or.inl ⟨by rfl, ?_⟩) (by assumption) ?_
  rotate_left
  · (intro w hSw; (try dsimp only at hSw); have z := zc hSw.2 HN.out; go_simp; try with_reducible rfl)
  try simp only [Act.put, List.setIfInBounds_toArray, List.set_cons_zero, List.set_cons_succ]
  refine wpAnyH_ready (rs := [5]) (by kernel_rfl) (by simp) ?_
  refine AllReadyH.cons (by (simp only [List.getElem?_toArray, List.getElem?_cons_succ, List.getElem?_cons_zero]; rfl)) (fun K hK => ?_) AllReadyH.nil
  go_simp
  refine (pack_ok (outV l) A4 n4 c4 (outT l) w4 HT4.out HN4.out HH4.out (by omega) HOK.out).mono ?_
  rintro e w5 ⟨A5, c5, rfl, ho, hb⟩
  have HO5 := Lib.hid (bytesIn_of_own ho).2
  have F5 := (hb.block X hX4).trans F4
  have G5 := G4.below (hb.mono hs4) (Nat.le_refl _)
  have HB5 := Lib.hid (HB4.out.trans (hb.mono hs4))
  have HH5 := Lib.hid (HH4.out.below hb (by omega))
  have hs5 : S ≤ w5.heap.size := Nat.le_trans hs4 hb.size
  clear ho hb
  refine hK.out _ _ ?_ (fun hHeld => ?_)
  · try dsimp only
    (refine ⟨?_, ?_⟩ <;> (first | with_reducible assumption))
  clear hK K
  try simp only [Act.put, List.setIfInBounds_toArray, List.set_cons_zero, List.set_cons_succ]
  refine wpAnyH_ready (rs := [6]) (by kernel_rfl) (by simp) ?_
  refine AllReadyH.cons (by (simp only [List.getElem?_toArray, List.getElem?_cons_succ, List.getElem?_cons_zero]; rfl)) (fun K hK => ?_) AllReadyH.nil
  have z := zc HO5.out (frameOf_length (bodyV (outV l) (outT l))).symm
  rw [HFR.out] at z
  go_simp
  clear z
  refine hK.out _ _ ?_ (fun hHeld => ?_)
  · try dsimp only
    (refine ⟨?_, ?_⟩ <;> (first | with_reducible assumption))
  clear hK K
  try simp only [Act.put, List.setIfInBounds_toArray, List.set_cons_zero, List.set_cons_succ]
  refine wpAnyH_take (i := 9) (v := ?_) (by (simp only [List.getElem?_toArray, List.getElem?_cons_succ, List.getElem?_cons_zero]; rfl)) (by kernel_rfl) (by kernel_rfl) (by kernel_rfl) (fun _ _ _ h => h) (Or.inl ⟨by rfl, ?_⟩) (by assumption) ?_
  rotate_left
  · (intro w hSw; (try dsimp only at hSw); go_simp; try with_reducible rfl)
  try simp only [Act.put, List.setIfInBounds_toArray, List.set_cons_zero, List.set_cons_succ]
  refine wpAnyH_take (i := 10) (v := ?_) (by (simp only [List.getElem?_toArray, List.getElem?_cons_succ, List.getElem?_cons_zero]; rfl)) (by kernel_rfl) (by kernel_rfl) (by kernel_rfl) (fun _ _ _ h => h) (Or.inl ⟨by rfl, ?_⟩) (by assumption) ?_
  rotate_left
  · (intro w hSw; (try dsimp only at hSw); go_simp; try with_reducible rfl)
  try simp only [Act.put, List.setIfInBounds_toArray, List.set_cons_zero, List.set_cons_succ]
  refine wpAnyH_done (by kernel_rfl) ?_ _
  refine NoPanic.normal ?_
  clear hHeld F0 F4 F5 G0 G4 HBd HTd HHd HB4 HT4 HH4 hsd hXd hs4 hX4
  have HY5 := Lib.hid G5
  clear G5 HO5 HFR HOK
  have hdd : ∃ d : Nat, ((x < 0 ∧ -(x + 1) = (d : Int)) ∨ (¬ x < 0 ∧ x = (d : Int))) ∧ d ≤ 9223372036854775807 := by
    have := HX.out
    by_cases h : x < 0
    · exact ⟨(-(x + 1)).toNat, .inl ⟨h, by omega⟩, by omega⟩
    · exact ⟨x.toNat, .inr ⟨h, by omega⟩, by omega⟩
  obtain ⟨d, hd, hd8⟩ := hdd
  obtain ⟨m, hm⟩ : ∃ m, m = 8 * n - 32 := ⟨_, rfl⟩
  have hn8 : 8 < n := by rw [HN.out]; exact hl8
  have hmp : 0 < m := by omega
  obtain ⟨r, hr⟩ : ∃ r, r = d % m := ⟨_, rfl⟩
  have hrm : r < m := by rw [hr]; exact Nat.mod_lt _ hmp
  obtain ⟨T, hT⟩ : ∃ T, T = 32 + r := ⟨_, rfl⟩
  have hTn : T < 8 * n := by omega
  have hT32 : 32 ≤ T := by omega
  obtain ⟨k, hk⟩ : ∃ k, k = T / 8 := ⟨_, rfl⟩
  have hk4 : 4 ≤ k := by omega
  have hkn : k < n := by omega
  have hT8 : T ≤ 9223372036854775807 := by omega
  have HAA : Hid (∀ y : Int, y = (d : Int) → wrap64 (32 + y.tmod (8 * (n : Int) - 32)) = (T : Int)) := Lib.hid (fun y hy => by
    have e1 : 8 * (n : Int) - 32 = (m : Int) := by omega
    have e2 : (d : Int).tmod (m : Int) = (r : Int) := by rw [Int.tmod_eq_emod_of_nonneg (Int.natCast_nonneg _), hr]; simp
    rw [hy, e1, e2, wrap64_in _ (by omega) (by omega), hT]
    simp)
  clear hT hr hm hrm
  obtain ⟨cb, hcb⟩ : ∃ cb, cb = l.getD k 0 := ⟨_, rfl⟩
  obtain ⟨l2, hl2⟩ : ∃ l2, l2 = l.set k (turn8 cb (T % 8)) := ⟨_, rfl⟩
  have hlk : k < l.length := by rw [← HN.out]; exact hkn
  have hcl : l[k]? = some cb := by rw [hcb, List.getElem?_eq_getElem hlk]; simp [List.getD, hlk]
  have hE2 : upE l2 = 20 := by
    rw [hl2]
    exact turned_sum HE0.out k hk4 hlk _ (by rw [hcl]; intro e; injection e with e; exact turn8_ne cb (T % 8) (Nat.mod_lt _ (by omega)) e.symm)
  have hl2l : l2.length = n := by rw [hl2, List.length_set, HN.out]
  have hl2k : l2.getD k 0 = turn8 cb (T % 8) := by rw [hl2]; simp [List.getD, hlk]
  have hback : l2.set k (turn8 (l2.getD k 0) (T % 8)) = l := by
    rw [hl2k, turn8_twice _ _ (Nat.mod_lt _ (by omega)), hl2, List.set_set]
    have := List.set_getElem_self hlk
    have e : l[k] = cb := by rw [List.getElem?_eq_getElem hlk] at hcl; injection hcl
    rw [e] at this
    exact this
  have HK := Lib.hid hk
  have HCB := Lib.hid hcb
  have HL2 := Lib.hid hl2
  have HE2 := Lib.hid hE2
  have HLL := Lib.hid hl2l
  have HBK := Lib.hid hback
  clear hk hcb hl2 hcl hE2 hl2l hl2k hback hlk hl8 hl6
  rcases hd with ⟨hneg, hdx⟩ | ⟨hneg, hdx⟩
  · have hb1 : wrap64 (x + 1) = x + 1 := wrap64_in _ (by have := HX.out; omega) (by omega)
    have HB2 : Hid (wrap64 (-(x + 1)) = (d : Int)) := Lib.hid (by rw [hdx]; exact wrap64_in _ (by omega) (by omega))
    clear hdx
    go_wp2_with fail
    clear hneg hb1
    refine (new_any S w5 hs5).mono ?_
    rintro e w6 ⟨rfl, hn, hb⟩
    obtain ⟨N, hN⟩ : ∃ x, x = w5.heap.size := ⟨_, rfl⟩
    rw [← hN] at hn ⊢
    have HN6 := Lib.hid hn
    have HB6 := Lib.hid (HB5.out.trans (hb.mono hs5))
    have HY6 := Lib.hid (HY5.out.below (hb.mono hs5) (Nat.le_refl _))
    have HH6 := Lib.hid (HH5.out.below hb (by omega))
    have hs6 : S ≤ w6.heap.size := Nat.le_trans hs5 hb.size
    clear hn hb hN HB5 HY5 HH5
    go_wp2_with fail
    refine (send_any w6 HN6.out (by simp) 0 A n c l (HY6.out.more hs6) HN.out (by omega)).mono ?_
    rintro e w7 ⟨LA, Lc, PA, Pc, rfl, hn, hc⟩
    rw [List.nil_append] at hn
    have HN7 := Lib.hid hn
    have HB7 := Lib.hid (HB6.out.trans hc.low)
    have HY7 := Lib.hid (HY6.out.below hc.low (Nat.le_refl _))
    have HH7 := Lib.hid (HH6.out.below hc.low h0)
    have hs7 : S ≤ w7.heap.size := Nat.le_trans hs6 hc.size
    clear hn hc HN6 HB6 HY6 HH6
    go_wp2_with fail
    rw [HAA.out _ HB2.out]
    refine (spoil0 w7 HN7.out T hT8 (by show T / 8 < l.length; rw [← HK.out, ← HN.out]; exact hkn)).mono ?_
    rintro e w8 ⟨rfl, hn, b, _, hc, hbS⟩
    rw [← HK.out] at hn
    have hn : NAt w8 S N LA Lc [⟨0, PA, Pc, l2⟩] := by
      have e : [(⟨0, PA, Pc, l⟩ : Pv)].set 0 (Pv.with_ ⟨0, PA, Pc, l⟩ (l.set k (turn8 (l.getD k 0) (T % 8)))) = [⟨0, PA, Pc, l2⟩] := by rw [← HCB.out, ← HL2.out]; rfl
      rw [← e]; exact hn
    have HN8 := Lib.hid hn
    have hlo : Below S w7 w8 := hc.chg.below hs7 (fun k hk e => by injection e with e; omega)
    have HB8 := Lib.hid (HB7.out.trans hlo)
    have HY8 := Lib.hid (HY7.out.below hlo (Nat.le_refl _))
    have HH8 := Lib.hid (HH7.out.below hlo h0)
    have hs8 : S ≤ w8.heap.size := Nat.le_trans hs7 hc.chg.size
    clear hn hc hlo hbS HN7 HB7 HY7 HH7
    go_wp2_with fail
    refine (peek0 w8 HN8.out (by show l2.length ≤ _; rw [HLL.out]; omega)).mono ?_
    simp only [HLL.out]
    rintro e w9 ⟨A9, c9, rfl, ho, hb⟩
    have HN9 := Lib.hid (HN8.out.below hb)
    have HP9 := Lib.hid (bytesIn_of_own ho).2
    have HB9 := Lib.hid (HB8.out.trans (hb.mono hs8))
    have HY9 := Lib.hid (HY8.out.below (hb.mono hs8) (Nat.le_refl _))
    have HH9 := Lib.hid (HH8.out.below hb (by omega))
    have hs9 : S ≤ w9.heap.size := Nat.le_trans hs8 hb.size
    clear ho hb HN8 HB8 HY8 HH8
    go_wp2_with fail
    refine (unpack_any A9 n c9 l2 w9 HP9.out HLL.out.symm (by omega) HH9.out (by omega)).mono ?_
    rintro e w10 ⟨AX, cX, rfl, _, hb⟩
    rw [HE2.out]
    obtain ⟨nX, hnX⟩ : ∃ n, n = (outT l2).length := ⟨_, rfl⟩
    obtain ⟨vX, hvX⟩ : ∃ v, v = outV l2 := ⟨_, rfl⟩
    rw [← hnX, ← hvX]
    have HN10 := Lib.hid (HN9.out.below hb)
    have HB10 := Lib.hid (HB9.out.trans (hb.mono hs9))
    have HY10 := Lib.hid (HY9.out.below (hb.mono hs9) (Nat.le_refl _))
    have hs10 : S ≤ w10.heap.size := Nat.le_trans hs9 hb.size
    clear hnX hvX hb HN9 HB9 HY9 HH9 HP9
    obtain ⟨w11, hw11⟩ : ∃ y, y = w10.alloc (.cells #[.int .i64 (vX 0), .int .i64 (vX 1), .int .i64 (vX 2), .int .i64 (vX 3), .int .i64 (vX 4), .int .i64 (vX 5), .int .i64 (vX 6), .int .i64 (vX 7), .int .i64 (vX 8), .int .i64 (vX 9), .int .i64 (vX 10), .int .i64 (vX 11), .int .i64 (vX 12), .int .i64 (vX 13), .int .i64 (vX 14), .int .i64 (vX 15), .int .i64 (vX 16), .slice AX nX cX, .int .i64 (vX 18), .int .i64 (vX 19), .int .i64 (vX 20)] 29) := ⟨_, rfl⟩
    have hal : Below w10.heap.size w10 w11 := by rw [hw11]; exact (Below.refl _ _).alloc (Nat.le_refl _) _
    have HN11 := Lib.hid (HN10.out.below hal)
    have HB11 := Lib.hid (HB10.out.trans (hal.mono hs10))
    have HY11 := Lib.hid (HY10.out.below (hal.mono hs10) (Nat.le_refl _))
    have hs11 : S ≤ w11.heap.size := Nat.le_trans hs10 hal.size
    clear hal HN10 HB10 HY10
    go_upto_region 19 with (refine wpList_store_row rfl 29 (.tmp 14) (.tmp 75) rfl w10.heap.size _ rfl rfl 29 _ (heap_alloc_new w10 _) (by kernel_rfl) rfl (by simp [Value.oneCell']) ?_; rw [World.setRow_alloc_new])
    rw [← hw11]
    clear hw11
    go_wp2_with fail
    refine (spoil0 w11 HN11.out T hT8 (by show T / 8 < l2.length; rw [← HK.out, HLL.out]; exact hkn)).mono ?_
    rintro e w12 ⟨rfl, hn, b, _, hc, hbS⟩
    rw [← HK.out] at hn
    have hn : NAt w12 S N LA Lc [⟨0, PA, Pc, l⟩] := by
      have e : [(⟨0, PA, Pc, l2⟩ : Pv)].set 0 (Pv.with_ ⟨0, PA, Pc, l2⟩ (l2.set k (turn8 (l2.getD k 0) (T % 8)))) = [⟨0, PA, Pc, l⟩] := by rw [HBK.out]; rfl
      rw [← e]; exact hn
    have HN12 := Lib.hid hn
    have hlo : Below S w11 w12 := hc.chg.below hs11 (fun k hk e => by injection e with e; omega)
    have HB12 := Lib.hid (HB11.out.trans hlo)
    have HY12 := Lib.hid (HY11.out.below hlo (Nat.le_refl _))
    have hs12 : S ≤ w12.heap.size := Nat.le_trans hs11 hc.chg.size
    clear hn hc hlo hbS HN11 HB11 HY11
    go_wp2_with fail
    refine (peek0 w12 HN12.out (by show l.length ≤ _; rw [← HN.out]; omega)).mono ?_
    simp only [← HN.out]
    rintro e w13 ⟨A13, c13, rfl, ho, hb⟩
    have z1 := zc (bytesIn_of_own ho).2 HN.out
    have z2 := zc (HY12.out.below (hb.mono hs12) (Nat.le_refl _)) HN.out
    have HB13 := Lib.hid (HB12.out.trans (hb.mono hs12))
    clear ho hb HN12 HB12 HY12
    go_wp2_with fail
    go_ret
    exact ⟨rfl, HB13.out⟩
  · subst hdx
    go_wp2_with fail
    clear hneg
    refine (new_any S w5 hs5).mono ?_
    rintro e w6 ⟨rfl, hn, hb⟩
    obtain ⟨N, hN⟩ : ∃ x, x = w5.heap.size := ⟨_, rfl⟩
    rw [← hN] at hn ⊢
    have HN6 := Lib.hid hn
    have HB6 := Lib.hid (HB5.out.trans (hb.mono hs5))
    have HY6 := Lib.hid (HY5.out.below (hb.mono hs5) (Nat.le_refl _))
    have HH6 := Lib.hid (HH5.out.below hb (by omega))
    have hs6 : S ≤ w6.heap.size := Nat.le_trans hs5 hb.size
    clear hn hb hN HB5 HY5 HH5
    go_wp2_with fail
    refine (send_any w6 HN6.out (by simp) 0 A n c l (HY6.out.more hs6) HN.out (by omega)).mono ?_
    rintro e w7 ⟨LA, Lc, PA, Pc, rfl, hn, hc⟩
    rw [List.nil_append] at hn
    have HN7 := Lib.hid hn
    have HB7 := Lib.hid (HB6.out.trans hc.low)
    have HY7 := Lib.hid (HY6.out.below hc.low (Nat.le_refl _))
    have HH7 := Lib.hid (HH6.out.below hc.low h0)
    have hs7 : S ≤ w7.heap.size := Nat.le_trans hs6 hc.size
    clear hn hc HN6 HB6 HY6 HH6
    go_wp2_with fail
    rw [← Int.tmod_eq_emod_of_nonneg (Int.natCast_nonneg d), HAA.out _ rfl]
    refine (spoil0 w7 HN7.out T hT8 (by show T / 8 < l.length; rw [← HK.out, ← HN.out]; exact hkn)).mono ?_
    rintro e w8 ⟨rfl, hn, b, _, hc, hbS⟩
    rw [← HK.out] at hn
    have hn : NAt w8 S N LA Lc [⟨0, PA, Pc, l2⟩] := by
      have e : [(⟨0, PA, Pc, l⟩ : Pv)].set 0 (Pv.with_ ⟨0, PA, Pc, l⟩ (l.set k (turn8 (l.getD k 0) (T % 8)))) = [⟨0, PA, Pc, l2⟩] := by rw [← HCB.out, ← HL2.out]; rfl
      rw [← e]; exact hn
    have HN8 := Lib.hid hn
    have hlo : Below S w7 w8 := hc.chg.below hs7 (fun k hk e => by injection e with e; omega)
    have HB8 := Lib.hid (HB7.out.trans hlo)
    have HY8 := Lib.hid (HY7.out.below hlo (Nat.le_refl _))
    have HH8 := Lib.hid (HH7.out.below hlo h0)
    have hs8 : S ≤ w8.heap.size := Nat.le_trans hs7 hc.chg.size
    clear hn hc hlo hbS HN7 HB7 HY7 HH7
    go_wp2_with fail
    refine (peek0 w8 HN8.out (by show l2.length ≤ _; rw [HLL.out]; omega)).mono ?_
    simp only [HLL.out]
    rintro e w9 ⟨A9, c9, rfl, ho, hb⟩
    have HN9 := Lib.hid (HN8.out.below hb)
    have HP9 := Lib.hid (bytesIn_of_own ho).2
    have HB9 := Lib.hid (HB8.out.trans (hb.mono hs8))
    have HY9 := Lib.hid (HY8.out.below (hb.mono hs8) (Nat.le_refl _))
    have HH9 := Lib.hid (HH8.out.below hb (by omega))
    have hs9 : S ≤ w9.heap.size := Nat.le_trans hs8 hb.size
    clear ho hb HN8 HB8 HY8 HH8
    go_wp2_with fail
    refine (unpack_any A9 n c9 l2 w9 HP9.out HLL.out.symm (by omega) HH9.out (by omega)).mono ?_
    rintro e w10 ⟨AX, cX, rfl, _, hb⟩
    rw [HE2.out]
    obtain ⟨nX, hnX⟩ : ∃ n, n = (outT l2).length := ⟨_, rfl⟩
    obtain ⟨vX, hvX⟩ : ∃ v, v = outV l2 := ⟨_, rfl⟩
    rw [← hnX, ← hvX]
    have HN10 := Lib.hid (HN9.out.below hb)
    have HB10 := Lib.hid (HB9.out.trans (hb.mono hs9))
    have HY10 := Lib.hid (HY9.out.below (hb.mono hs9) (Nat.le_refl _))
    have hs10 : S ≤ w10.heap.size := Nat.le_trans hs9 hb.size
    clear hnX hvX hb HN9 HB9 HY9 HH9 HP9
    obtain ⟨w11, hw11⟩ : ∃ y, y = w10.alloc (.cells #[.int .i64 (vX 0), .int .i64 (vX 1), .int .i64 (vX 2), .int .i64 (vX 3), .int .i64 (vX 4), .int .i64 (vX 5), .int .i64 (vX 6), .int .i64 (vX 7), .int .i64 (vX 8), .int .i64 (vX 9), .int .i64 (vX 10), .int .i64 (vX 11), .int .i64 (vX 12), .int .i64 (vX 13), .int .i64 (vX 14), .int .i64 (vX 15), .int .i64 (vX 16), .slice AX nX cX, .int .i64 (vX 18), .int .i64 (vX 19), .int .i64 (vX 20)] 29) := ⟨_, rfl⟩
    have hal : Below w10.heap.size w10 w11 := by rw [hw11]; exact (Below.refl _ _).alloc (Nat.le_refl _) _
    have HN11 := Lib.hid (HN10.out.below hal)
    have HB11 := Lib.hid (HB10.out.trans (hal.mono hs10))
    have HY11 := Lib.hid (HY10.out.below (hal.mono hs10) (Nat.le_refl _))
    have hs11 : S ≤ w11.heap.size := Nat.le_trans hs10 hal.size
    clear hal HN10 HB10 HY10
    go_upto_region 19 with (refine wpList_store_row rfl 29 (.tmp 14) (.tmp 75) rfl w10.heap.size _ rfl rfl 29 _ (heap_alloc_new w10 _) (by kernel_rfl) rfl (by simp [Value.oneCell']) ?_; rw [World.setRow_alloc_new])
    rw [← hw11]
    clear hw11
    go_wp2_with fail
    refine (spoil0 w11 HN11.out T hT8 (by show T / 8 < l2.length; rw [← HK.out, HLL.out]; exact hkn)).mono ?_
    rintro e w12 ⟨rfl, hn, b, _, hc, hbS⟩
    rw [← HK.out] at hn
    have hn : NAt w12 S N LA Lc [⟨0, PA, Pc, l⟩] := by
      have e : [(⟨0, PA, Pc, l2⟩ : Pv)].set 0 (Pv.with_ ⟨0, PA, Pc, l2⟩ (l2.set k (turn8 (l2.getD k 0) (T % 8)))) = [⟨0, PA, Pc, l⟩] := by rw [HBK.out]; rfl
      rw [← e]; exact hn
    have HN12 := Lib.hid hn
    have hlo : Below S w11 w12 := hc.chg.below hs11 (fun k hk e => by injection e with e; omega)
    have HB12 := Lib.hid (HB11.out.trans hlo)
    have HY12 := Lib.hid (HY11.out.below hlo (Nat.le_refl _))
    have hs12 : S ≤ w12.heap.size := Nat.le_trans hs11 hc.chg.size
    clear hn hc hlo hbS HN11 HB11 HY11
    go_wp2_with fail
    refine (peek0 w12 HN12.out (by show l.length ≤ _; rw [← HN.out]; omega)).mono ?_
    simp only [← HN.out]
    rintro e w13 ⟨A13, c13, rfl, ho, hb⟩
    have z1 := zc (bytesIn_of_own ho).2 HN.out
    have z2 := zc (HY12.out.below (hb.mono hs12) (Nat.le_refl _)) HN.out
    have HB13 := Lib.hid (HB12.out.trans (hb.mono hs12))
    clear ho hb HN12 HB12 HY12
    go_wp2_with fail
    go_ret
    exact ⟨rfl, HB13.out⟩
end Go.Proofs.YtkenaoejijpgpaaDoor
