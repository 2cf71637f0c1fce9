/- A network: Spoil. -/
import Derived.Test.YtkenaoejijpgpaaDoorNetA
namespace Go.Proofs.YtkenaoejijpgpaaDoor
open Go.RowKit

theorem spoil_none (w : World) (i bit : Int) (P : Value) (h : Calls Tryd.prog 52 #[P, .int .i64 i] w fun e w' => e = .returned (.bool false) ∧ w = w') :
    Calls Tryd.prog 20 #[P, .int .i64 i, .int .i64 bit] w fun e w' => e = .returned (.bool false) ∧ w = w' := by
  have H := Lib.hid h
  clear h
  go_enter Tryd.func20, Tryd.ntmps20
  go_wp2_with fail
  refine H.out.mono ?_
  rintro e w' ⟨rfl, rfl⟩
  go_wp2_with fail
  go_ret
  exact ⟨rfl, rfl⟩
theorem spoil_neg (w : World) (i bit : Int) (P : Value) (hb : bit < 0) (h : Calls Tryd.prog 52 #[P, .int .i64 i] w fun e w' => e = .returned (.bool true) ∧ w = w') :
    Calls Tryd.prog 20 #[P, .int .i64 i, .int .i64 bit] w fun e w' => e = .returned (.bool false) ∧ w = w' := by
  have H := Lib.hid h
  clear h
  go_enter Tryd.func20, Tryd.ntmps20
  go_wp2_with fail
  refine H.out.mono ?_
  rintro e w' ⟨rfl, rfl⟩
  go_wp2_with fail
  go_ret
  exact ⟨rfl, rfl⟩
/-- A byte with one bit turned. -/
def turn8 (c : UInt8) (r : Nat) : UInt8 := UInt8.ofNat (c.toNat ^^^ 2 ^ r)
theorem shl8 (w : World) (r : Nat) (hr : r < 8) : (Op.shift .shl .u8 1 .i64 (r : Int)).run Tryd.prog w = .ok (.int .u8 ((2 : Int) ^ r % 256)) w := by
  have hr : r = 0 ∨ r = 1 ∨ r = 2 ∨ r = 3 ∨ r = 4 ∨ r = 5 ∨ r = 6 ∨ r = 7 := by omega
  rcases hr with rfl | rfl | rfl | rfl | rfl | rfl | rfl | rfl <;> rfl
theorem turn8_val (c : UInt8) (r : Nat) (hr : r < 8) : bits .xor .u8 (c.toNat : Int) ((2 : Int) ^ r % 256) = ((turn8 c r).toNat : Int) := by
  have hc := c.toNat_lt
  have hp : 2 ^ r < 256 := Nat.lt_of_lt_of_le (Nat.pow_lt_pow_right (by omega) hr) (Nat.le_refl (2 ^ 8))
  have e : ((2 : Int) ^ r % 256) = ((2 ^ r : Nat) : Int) := by
    rw [show (2 : Int) ^ r = ((2 ^ r : Nat) : Int) by simp]
    generalize 2 ^ r = x at hp ⊢
    omega
  rw [e, u8_xor_nat _ _ (by omega) hp]
  unfold turn8
  rw [UInt8.toNat_ofNat', Nat.mod_eq_of_lt (Nat.xor_lt_two_pow (n := 8) (by omega) hp)]
set_option maxRecDepth 100000 in
set_option maxHeartbeats 4000000 in
theorem spoil_far (w : World) {B N Lc j : Nat} {LA : Option Addr} {l : List Pv} {p : Pv} (h : NAt w B N LA Lc l) (hp : l[j]? = some p) (t : Nat) (ht8 : t ≤ 9223372036854775807) (ht : p.l.length ≤ t / 8) :
    Calls Tryd.prog 20 #[.pointer (some ⟨N, 0, none⟩), .int .i64 j, .int .i64 t] w fun e w' => e = .returned (.bool false) ∧ w = w' := by
  obtain ⟨b, hLA, hBb, hbl, ⟨cur, hcur⟩, hto, hby⟩ := h.pk hp
  have hjl : j < l.length := (List.getElem?_eq_some_iff.1 hp).1
  have hmem : p ∈ l := List.mem_of_getElem? hp
  have c0 := h.c0
  have hBY := h.bytes hmem
  have hjn : (j : Int) < (l.length : Int) := by omega
  have hj0 : (0 : Int) ≤ (j : Int) := by omega
  have hhas : hasB (j : Int) l.length = true := by simp [hasB]; exact hjl
  rw [hLA] at c0
  obtain ⟨n, hn⟩ : ∃ n, n = l.length := ⟨_, rfl⟩
  obtain ⟨m, hm⟩ : ∃ m, m = p.l.length := ⟨_, rfl⟩
  obtain ⟨PA, hPA⟩ : ∃ x, x = p.A := ⟨_, rfl⟩
  obtain ⟨Pc, hPc⟩ : ∃ x, x = p.c := ⟨_, rfl⟩
  obtain ⟨pt, hpt⟩ : ∃ x, x = p.to_ := ⟨_, rfl⟩
  unfold Pv.sl at hby
  rw [← hn] at c0 hjn
  rw [← hm, ← hPA, ← hPc] at hby
  rw [← hpt] at hto
  rw [← hPA, ← hPc] at hBY
  rw [← hm] at ht
  have HAS := Lib.hid (has_any w h (j : Int))
  rw [hhas] at HAS
  obtain ⟨k, hk⟩ : ∃ k, k = t / 8 := ⟨_, rfl⟩
  rw [← hk] at ht
  have hq : (t : Int).tdiv 8 = (k : Int) := by rw [Int.tdiv_eq_ediv_of_nonneg (by omega)]; omega
  have hq2 : (t : Int) / 8 = (k : Int) := by omega
  have hq3 : (m : Int) ≤ (k : Int) := by omega
  have hq4 : ¬ (t : Int) < 0 := by omega
  have hq5 : (0 : Int) ≤ (t : Int) := by omega
  have hqw : wrap64 (k : Int) = (k : Int) := wrap64_in _ (by omega) (by omega)
  clear h hLA hBb hcur hjl hmem hBY hhas hn hm hPA hPc hpt hk ht hto
  go_enter Tryd.func20, Tryd.ntmps20
  go_wp2_with fail
  refine HAS.out.mono ?_
  rintro e w' ⟨rfl, rfl⟩
  go_wp2_with fail
  go_ret
  exact ⟨rfl, rfl⟩
/-- A packet with other bytes, as many. -/
def Pv.with_ (p : Pv) (b : List UInt8) : Pv := ⟨p.to_, p.A, p.c, b⟩
theorem pks_with (l : List Pv) : ∀ {j : Nat} {p : Pv}, l[j]? = some p → ∀ b : List UInt8, b.length = p.l.length → pks (l.set j (p.with_ b)) = pks l := by
  induction l with
  | nil => intro j p h; simp at h
  | cons x l ih =>
    intro j p h b hb
    cases j with
    | zero =>
      simp only [List.getElem?_cons_zero, Option.some.injEq] at h
      subst h
      show pkc (x.with_ b) ++ pks l = pkc x ++ pks l
      have : pkc (x.with_ b) = pkc x := by simp [pkc, Pv.sl, Pv.with_, hb]
      rw [this]
    | succ j =>
      rw [List.getElem?_cons_succ] at h
      show pkc x ++ pks (l.set j (p.with_ b)) = pkc x ++ pks l
      rw [ih h b hb]
theorem own_put {w : World} {B n c g k : Nat} {l : List UInt8} (h : w.ownsRow B 5 1 (.slice (some ⟨g, 0, none⟩) n c) n (cells8 l)) (hn : n = l.length) (d : UInt8) :
    (w.setCell ⟨g, k, none⟩ (.int .u8 (d.toNat : Int))).ownsRow B 5 1 (.slice (some ⟨g, 0, none⟩) n c) n (cells8 (l.set k d)) := by
  rcases h.2 with ⟨hv, _⟩ | ⟨g', cap, cur, hv, hB, hg, hnc, hcm, hsz, htk⟩
  · cases hv
  · injection hv with e1 e2 e3
    injection e1 with e1
    injection e1 with e1 _
    subst e1 e3
    refine ⟨by rw [cells8_length, List.length_set]; omega, .inr ⟨g, c, cur.setIfInBounds k (.int .u8 (d.toNat : Int)), rfl, hB, set_blk hg _, hnc, hcm, by simpa using hsz, ?_⟩⟩
    rw [Array.toList_setIfInBounds, List.take_set, htk]
    unfold cells8
    rw [List.map_set]
theorem apart_set {l : List Pv} (h : l.Pairwise Apart) {j : Nat} {p q : Pv} (hp : l[j]? = some p) (hq : q.sl.ownBlock = p.sl.ownBlock) : (l.set j q).Pairwise Apart := by
  rw [List.pairwise_iff_getElem] at h ⊢
  intro a b ha hb hab
  have ha' : a < l.length := by simpa using ha
  have hb' : b < l.length := by simpa using hb
  have hh := h a b ha' hb' hab
  have hj : j < l.length := (List.getElem?_eq_some_iff.1 hp).1
  have hpj : l[j] = p := (List.getElem?_eq_some_iff.1 hp).2
  rw [List.getElem_set, List.getElem_set]
  by_cases e1 : j = a
  · subst e1
    rw [if_pos rfl, if_neg (by omega)]
    rw [hpj] at hh
    intro k hk
    exact hh k (hq ▸ hk)
  · rw [if_neg e1]
    by_cases e2 : j = b
    · subst e2
      rw [if_pos rfl]
      rw [hpj] at hh
      intro k hk
      rw [hq]
      exact hh k hk
    · rw [if_neg e2]
      exact hh
/-- What Spoil leaves behind. -/
def SpoilTo (w : World) (B N Lc j : Nat) (LA : Option Addr) (l : List Pv) (p : Pv) (t : Nat) (e : Ending) (w' : World) : Prop :=
  e = .returned (.bool true) ∧ NAt w' B N LA Lc (l.set j (p.with_ (p.l.set (t / 8) (turn8 (p.l.getD (t / 8) 0) (t % 8))))) ∧ ∃ b, p.sl.ownBlock = some b ∧ Ch (some b) 6 w w' ∧ B ≤ b
theorem spoil_end {w : World} {B N Lc j g k : Nat} {LA : Option Addr} {l : List Pv} {p : Pv} (h : NAt w B N LA Lc l) (hp : l[j]? = some p) (hA : p.A = some ⟨g, 0, none⟩) (d : UInt8) :
    NAt (w.setCell ⟨g, k, none⟩ (.int .u8 (d.toNat : Int))) B N LA Lc (l.set j (p.with_ (p.l.set k d))) ∧ ∃ b, p.sl.ownBlock = some b ∧ Ch (some b) 6 w (w.setCell ⟨g, k, none⟩ (.int .u8 (d.toNat : Int))) ∧ B ≤ b := by
  have hmem : p ∈ l := List.mem_of_getElem? hp
  have ho := h.own p hmem
  have hob : p.sl.ownBlock = some g := by unfold Pv.sl; rw [hA]; rfl
  obtain ⟨cur, f, hg⟩ := own_elem ho hob
  have hgB := (ho.lt g hob).1
  have hf : f = (0, 0) := by
    rcases ho.2 with ⟨hv, _⟩ | ⟨g', cap, cur', hv, _, hg', _⟩
    · rw [hv] at hob; cases hob
    · rw [hv] at hob
      simp only [Value.ownBlock, Option.some.injEq] at hob
      subst hob
      rw [hg] at hg'
      injection hg' with hg'
      injection hg'
  subst hf
  have hc := Ch.ofCell (i := k) hg (.int .u8 (d.toNat : Int))
  refine ⟨⟨?_, h.lN, ?_, fun q hq => ?_, apart_set h.dis hp (by unfold Pv.sl Pv.with_; simp only; rw [List.length_set])⟩, g, hob, hc, hgB⟩
  · rw [List.length_set]; exact hc.blk h.blk (by show (86 + 1 : Nat) ≠ _; decide)
  · rw [List.length_set, pks_with l hp _ (by rw [List.length_set])]
    exact h.row.keep hc.chg (fun k' cur' f' hk' e => by injection e with e; subst e; rw [hg] at hk'; injection hk' with hk'; injection hk' with _ hk' _; exact absurd hk' (by decide))
  · have hj : j < l.length := (List.getElem?_eq_some_iff.1 hp).1
    rw [List.mem_iff_getElem] at hq
    obtain ⟨a, ha, rfl⟩ := hq
    have ha' : a < l.length := by simpa using ha
    rw [List.getElem_set]
    split
    · have hx := own_put (k := k) (g := g) (by unfold Pv.sl at ho; rw [hA] at ho; exact ho) rfl d
      unfold Pv.with_ Pv.sl
      simp only
      rw [List.length_set, hA]
      exact hx
    · rename_i hne
      refine hc.chg.own (h.own _ (List.getElem_mem ha')) (fun b hb e => ?_)
      injection e with e
      subst e
      have hd := h.dis
      rw [List.pairwise_iff_getElem] at hd
      have hpj : l[j] = p := (List.getElem?_eq_some_iff.1 hp).2
      rcases Nat.lt_or_gt_of_ne hne with hlt | hlt
      · have := hd j a hj ha' hlt g (by rw [hpj]; exact hob)
        exact this hb
      · have := hd a j ha' hj hlt g hb
        rw [hpj] at this
        exact this hob
set_option maxRecDepth 100000 in
set_option maxHeartbeats 4000000 in
theorem spoil_any (w : World) {B N Lc j : Nat} {LA : Option Addr} {l : List Pv} {p : Pv} (h : NAt w B N LA Lc l) (hp : l[j]? = some p) (t : Nat) (ht8 : t ≤ 9223372036854775807) (ht : t / 8 < p.l.length) :
    Calls Tryd.prog 20 #[.pointer (some ⟨N, 0, none⟩), .int .i64 j, .int .i64 t] w fun e w' => SpoilTo w B N Lc j LA l p t e w' := by
  obtain ⟨b, hLA, hBb, hbl, ⟨cur, hcur⟩, hto, hby⟩ := h.pk hp
  have hjl : j < l.length := (List.getElem?_eq_some_iff.1 hp).1
  have hmem : p ∈ l := List.mem_of_getElem? hp
  have c0 := h.c0
  have hBY := h.bytes hmem
  have hjn : (j : Int) < (l.length : Int) := by omega
  have hj0 : (0 : Int) ≤ (j : Int) := by omega
  have hhas : hasB (j : Int) l.length = true := by simp [hasB]; exact hjl
  rw [hLA] at c0
  obtain ⟨n, hn⟩ : ∃ n, n = l.length := ⟨_, rfl⟩
  obtain ⟨m, hm⟩ : ∃ m, m = p.l.length := ⟨_, rfl⟩
  obtain ⟨PA, hPA⟩ : ∃ x, x = p.A := ⟨_, rfl⟩
  obtain ⟨Pc, hPc⟩ : ∃ x, x = p.c := ⟨_, rfl⟩
  obtain ⟨pt, hpt⟩ : ∃ x, x = p.to_ := ⟨_, rfl⟩
  unfold Pv.sl at hby
  rw [← hn] at c0 hjn
  rw [← hm, ← hPA, ← hPc] at hby
  rw [← hpt] at hto
  rw [← hPA, ← hPc] at hBY
  obtain ⟨k, hk⟩ : ∃ k, k = t / 8 := ⟨_, rfl⟩
  obtain ⟨r, hr⟩ : ∃ r, r = t % 8 := ⟨_, rfl⟩
  have hr8 : r < 8 := by omega
  have hbyte := h.bytes hmem
  obtain ⟨g, off, hpa, hgl, hcell⟩ := hbyte.at_ (k := 0) (by omega)
  have hoff : off = 0 := by
    rcases (h.own p hmem).2 with ⟨hv, _⟩ | ⟨g', cap, cur', hv, _⟩
    · unfold Pv.sl at hv; injection hv with e1; rw [hpa] at e1; cases e1
    · unfold Pv.sl at hv; injection hv with e1; rw [hpa] at e1; injection e1 with e1; injection e1
  subst hoff
  rw [← hk] at ht
  have hce := hcell k ht
  rw [Nat.zero_add] at hce
  obtain ⟨cb, hcb⟩ : ∃ c, c = p.l[k] := ⟨_, rfl⟩
  rw [← hcb] at hce
  have hgd : p.l.getD k 0 = cb := by simp [List.getD, ht, hcb]
  have hfz : w.frozen? ⟨g, k, none⟩ = false := by
    have hob : p.sl.ownBlock = some g := by unfold Pv.sl; rw [hpa]; rfl
    rcases (h.own p hmem).2 with ⟨hv, _⟩ | ⟨g', cap, cur', hv, _, hg', _⟩
    · rw [hv] at hob; cases hob
    · rw [hv] at hob
      simp only [Value.ownBlock, Option.some.injEq] at hob
      subst hob
      exact fzb hg' k
  have hpa' : PA = some ⟨g, 0, none⟩ := by rw [hPA, hpa]
  subst hpa'
  have hg := h.lt
  have hgb : g ≠ b := by
    intro e
    subst e
    obtain ⟨cur2, f2, h2⟩ := own_elem (h.own p hmem) (k := g) (by unfold Pv.sl; rw [hpa]; rfl)
    rw [hcur] at h2
    injection h2 with h2
    injection h2 with _ h2 _
    exact absurd h2 (by decide)
  have hgN : g ≠ N := by
    intro e
    subst e
    obtain ⟨cur2, f2, h2⟩ := own_elem (h.own p hmem) (k := g) (by unfold Pv.sl; rw [hpa]; rfl)
    rw [h.blk] at h2
    injection h2 with h2
    injection h2 with _ h2 _
    exact absurd h2 (by decide)
  have HE := Lib.hid (spoil_end (h.below (Below.refl _ w).drew) hp hpa (turn8 cb r) (k := k))
  have HG := Lib.hid hgd
  have hkm : (k : Int) < (m : Int) := by omega
  have HAS := Lib.hid (has_any w h (j : Int))
  rw [hhas] at HAS
  have hq : (t : Int).tdiv 8 = (k : Int) := by rw [Int.tdiv_eq_ediv_of_nonneg (by omega)]; omega
  have hq2 : (t : Int) / 8 = (k : Int) := by omega
  have hq6 : (t : Int).tmod 8 = (r : Int) := by rw [Int.tmod_eq_emod_of_nonneg (by omega)]; omega
  have hq7 : (t : Int) % 8 = (r : Int) := by omega
  have hq3 : ¬ (m : Int) ≤ (k : Int) := by omega
  have hq4 : ¬ (t : Int) < 0 := by omega
  have hq5 : (0 : Int) ≤ (t : Int) := by omega
  have hqw : wrap64 (k : Int) = (k : Int) := wrap64_in _ (by omega) (by omega)
  have hq8 : (0 : Int) ≤ (k : Int) := Int.natCast_nonneg _
  have hq9 : (0 : Int) ≤ (r : Int) := Int.natCast_nonneg _
  have hk2 : k < m := by rw [hm]; exact ht
  have HC0 := Lib.hid c0
  have HBY := Lib.hid hby
  have HCE := Lib.hid hce
  have HFZ := Lib.hid hfz
  have HKR := Lib.hid (And.intro hk hr)
  have HR1 := Lib.hid (And.intro hq6 (And.intro hq7 (And.intro hq9 (And.intro hr8 (And.intro hkm (And.intro hk2 (And.intro hgb (And.intro hgN (And.intro hq8 hgl)))))))))
  clear hLA hBb hcur hjl hmem hBY hhas hn hm hPA hPc hpt hto hbyte hcell hcb hce hfz hgd hk hr h hpa ht hq6 hq7 hq9 hr8 hkm hk2 hgb hgN hq8 hgl hg
  go_enter Tryd.func20, Tryd.ntmps20
  go_wp2_with fail
  refine HAS.out.mono ?_
  rintro e w' ⟨rfl, rfl⟩
  go_upto_region 3 with (fail)
  clear c0 hby
  obtain ⟨hq6, hq7, hq9, hr8, hkm, hk2, hgb, hgN, hq8, hgl⟩ := HR1.out
  have hqv : IntKind.i64.wrap (k : Int) = (k : Int) := IntWalk.i64_in _ (by omega)
  have HQ6 := Lib.hid hq6
  clear hq6 hq7
  have f0 : w.drew.cell? ⟨N, 0, none⟩ = some (.slice (some ⟨b, 0, none⟩) n Lc) := HC0.out
  have f1 : w.drew.cell? ⟨b, j * 2 + 1, none⟩ = some (.slice (some ⟨g, 0, none⟩) m Pc) := HBY.out
  have hN8 : w.drew.heap.size = w.heap.size := rfl
  refine wp_region_noPanic ?_
  refine wp_region_held_drew (S := fun w' => w'.cell? ⟨N, 0, none⟩ = some (.slice (some ⟨b, 0, none⟩) n Lc) ∧ w'.cell? ⟨b, j * 2 + 1, none⟩ = some (.slice (some ⟨g, 0, none⟩) m Pc)) (by kernel_rfl) ?_ (fun hHeld => ?_)
  · try dsimp only
    (refine ⟨?_, ?_⟩ <;> (first | with_reducible assumption))
  refine wpAnyH_take (i := 0) (v := ?_) (by (simp only [List.getElem?_toArray, List.getElem?_cons_zero]; rfl)) (by kernel_rfl) (by kernel_rfl) (by kernel_rfl) (fun _ _ _ h => h) (Or.inl ⟨by rfl, ?_⟩) (by assumption) ?_
  rotate_left
  · (intro w hSw; (try dsimp only at hSw); go_simp; try with_reducible rfl)
  try simp only [Act.put, List.setIfInBounds_toArray, List.set_cons_zero, List.set_cons_succ]
  refine wpAnyH_take (i := 1) (v := ?_) (by (simp only [List.getElem?_toArray, List.getElem?_cons_succ, List.getElem?_cons_zero]; rfl)) (by kernel_rfl) (by kernel_rfl) (by kernel_rfl) (fun _ _ _ h => h) (Or.inl ⟨by rfl, ?_⟩) (by assumption) ?_
  rotate_left
  · (intro w hSw; (try dsimp only at hSw); go_simp; try with_reducible rfl)
  try simp only [Act.put, List.setIfInBounds_toArray, List.set_cons_zero, List.set_cons_succ]
  refine wpAnyH_take (i := 2) (v := ?_) (by (simp only [List.getElem?_toArray, List.getElem?_cons_succ, List.getElem?_cons_zero]; rfl)) (by kernel_rfl) (by kernel_rfl) (by kernel_rfl) (fun _ _ _ h => h) (Or.inl ⟨by rfl, ?_⟩) (by assumption) ?_
  rotate_left
  · (intro w hSw; (try dsimp only at hSw); go_simp; try with_reducible rfl)
  try simp only [Act.put, List.setIfInBounds_toArray, List.set_cons_zero, List.set_cons_succ]
  refine wpAnyH_take (i := 3) (v := ?_) (by (simp only [List.getElem?_toArray, List.getElem?_cons_succ, List.getElem?_cons_zero]; rfl)) (by kernel_rfl) (by kernel_rfl) (by kernel_rfl) (fun _ _ _ h => h) (Or.inl ⟨by rfl, ?_⟩) (by assumption) ?_
  rotate_left
  · (intro w hSw; (try dsimp only at hSw); go_simp; try with_reducible rfl)
  try simp only [Act.put, List.setIfInBounds_toArray, List.set_cons_zero, List.set_cons_succ]
  refine wpAnyH_take (i := 4) (v := ?_) (by (simp only [List.getElem?_toArray, List.getElem?_cons_succ, List.getElem?_cons_zero]; rfl)) (by kernel_rfl) (by kernel_rfl) (by kernel_rfl) (fun _ _ _ h => h) (Or.inl ⟨by rfl, ?_⟩) (by assumption) ?_
  rotate_left
  · (intro w hSw; (try dsimp only at hSw); go_simp; try with_reducible rfl)
  try simp only [Act.put, List.setIfInBounds_toArray, List.set_cons_zero, List.set_cons_succ]
  refine wpAnyH_take (i := 5) (v := ?_) (by (simp only [List.getElem?_toArray, List.getElem?_cons_succ, List.getElem?_cons_zero]; rfl)) (by kernel_rfl) (by kernel_rfl) (by kernel_rfl) (fun _ _ _ h => h) (Or.inl ⟨by rfl, ?_⟩) (by assumption) ?_
  rotate_left
  · (intro w hSw; (try dsimp only at hSw); go_simp; try with_reducible rfl)
  try simp only [Act.put, List.setIfInBounds_toArray, List.set_cons_zero, List.set_cons_succ]
  refine wpAnyH_take (i := 6) (v := ?_) (by (simp only [List.getElem?_toArray, List.getElem?_cons_succ, List.getElem?_cons_zero]; rfl)) (by kernel_rfl) (by kernel_rfl) (by kernel_rfl) (fun _ _ _ h => h) (Or.inl ⟨by rfl, ?_⟩) (by assumption) ?_
  rotate_left
  · (intro w hSw; (try dsimp only at hSw); go_simp; try with_reducible rfl)
  try simp only [Act.put, List.setIfInBounds_toArray, List.set_cons_zero, List.set_cons_succ]
  refine wpAnyH_take (i := 7) (v := ?_) (by (simp only [List.getElem?_toArray, List.getElem?_cons_succ, List.getElem?_cons_zero]; rfl)) (by kernel_rfl) (by kernel_rfl) (by kernel_rfl) (fun _ _ _ h => h) (Or.inl ⟨by rfl, ?_⟩) (by assumption) ?_
  rotate_left
  · (intro w hSw; (try dsimp only at hSw); go_simp; try with_reducible rfl)
  try simp only [Act.put, List.setIfInBounds_toArray, List.set_cons_zero, List.set_cons_succ]
  refine wpAnyH_take (i := 8) (v := ?_) (by (simp only [List.getElem?_toArray, List.getElem?_cons_succ, List.getElem?_cons_zero]; rfl)) (by kernel_rfl) (by kernel_rfl) (by kernel_rfl) (fun _ _ _ h => h) (Or.inl ⟨by rfl, ?_⟩) (by assumption) ?_
  rotate_left
  · (intro w hSw; (try dsimp only at hSw); go_simp; try with_reducible rfl)
  try simp only [Act.put, List.setIfInBounds_toArray, List.set_cons_zero, List.set_cons_succ]
  refine wpAnyH_take (i := 9) (v := ?_) (by (simp only [List.getElem?_toArray, List.getElem?_cons_succ, List.getElem?_cons_zero]; rfl)) (by kernel_rfl) (by kernel_rfl) (by kernel_rfl) (fun _ _ _ h => h) (Or.inl ⟨by rfl, ?_⟩) (by assumption) ?_
  rotate_left
  · (intro w hSw; (try dsimp only at hSw); go_simp; try with_reducible rfl)
  try simp only [Act.put, List.setIfInBounds_toArray, List.set_cons_zero, List.set_cons_succ]
  refine wpAnyH_take (i := 10) (v := ?_) (by (simp only [List.getElem?_toArray, List.getElem?_cons_succ, List.getElem?_cons_zero]; rfl)) (by kernel_rfl) (by kernel_rfl) (by kernel_rfl) (fun _ _ _ h => h) (Or.inl ⟨by rfl, ?_⟩) (by assumption) ?_
  rotate_left
  · (intro w hSw; (try dsimp only at hSw); go_simp; try with_reducible rfl)
  try simp only [Act.put, List.setIfInBounds_toArray, List.set_cons_zero, List.set_cons_succ]
  refine wpAnyH_take (i := 12) (v := ?_) (by (simp only [List.getElem?_toArray, List.getElem?_cons_succ, List.getElem?_cons_zero]; rfl)) (by kernel_rfl) (by kernel_rfl) (by kernel_rfl) (fun _ _ _ h => h) (Or.inl ⟨by rfl, ?_⟩) (by assumption) ?_
  rotate_left
  · (intro w hSw; (try dsimp only at hSw); go_simp; try with_reducible rfl)
  try simp only [Act.put, List.setIfInBounds_toArray, List.set_cons_zero, List.set_cons_succ]
  refine wpAnyH_take (i := 13) (v := ?_) (by (simp only [List.getElem?_toArray, List.getElem?_cons_succ, List.getElem?_cons_zero]; rfl)) (by kernel_rfl) (by kernel_rfl) (by kernel_rfl) (fun _ _ _ h => h) (Or.inl ⟨by rfl, ?_⟩) (by assumption) ?_
  rotate_left
  · (intro w hSw; (try dsimp only at hSw); go_simp; try with_reducible rfl)
  try simp only [Act.put, List.setIfInBounds_toArray, List.set_cons_zero, List.set_cons_succ]
  refine wpAnyH_take (i := 14) (v := ?_) (by (simp only [List.getElem?_toArray, List.getElem?_cons_succ, List.getElem?_cons_zero]; rfl)) (by kernel_rfl) (by kernel_rfl) (by kernel_rfl) (fun _ _ _ h => h) (Or.inl ⟨by rfl, ?_⟩) (by assumption) ?_
  rotate_left
  · (intro w hSw; (try dsimp only at hSw); go_simp; rw [HQ6.out, shl8 w r hr8]; rfl)
  try simp only [Act.put, List.setIfInBounds_toArray, List.set_cons_zero, List.set_cons_succ]
  refine wpAnyH_ready (rs := [11]) (by kernel_rfl) (by simp) ?_
  refine AllReadyH.cons (by (simp only [List.getElem?_toArray, List.getElem?_cons_succ, List.getElem?_cons_zero]; rfl)) (fun K hK => ?_) AllReadyH.nil
  have c0 : w.drew.cell? ⟨g, k, none⟩ = some (.int .u8 (cb.toNat : Int)) := HCE.out
  go_simp
  clear c0
  refine hK.out _ _ ?_ (fun hHeld => ?_)
  · try dsimp only
    (refine ⟨?_, ?_⟩ <;> (first | with_reducible assumption))
  clear hK K
  try simp only [Act.put, List.setIfInBounds_toArray, List.set_cons_zero, List.set_cons_succ]
  refine wpAnyH_take (i := 15) (v := ?_) (by (simp only [List.getElem?_toArray, List.getElem?_cons_succ, List.getElem?_cons_zero]; rfl)) (by kernel_rfl) (by kernel_rfl) (by kernel_rfl) (fun _ _ _ h => h) (Or.inl ⟨by rfl, ?_⟩) (by assumption) ?_
  rotate_left
  · (intro w hSw; (try dsimp only at hSw); go_simp; try with_reducible rfl)
  try simp only [Act.put, List.setIfInBounds_toArray, List.set_cons_zero, List.set_cons_succ]
  refine wpAnyH_take (i := 16) (v := ?_) (by (simp only [List.getElem?_toArray, List.getElem?_cons_succ, List.getElem?_cons_zero]; rfl)) (by kernel_rfl) (by kernel_rfl) (by kernel_rfl) (fun _ _ _ h => h) (Or.inl ⟨by rfl, ?_⟩) (by assumption) ?_
  rotate_left
  · (intro w hSw; (try dsimp only at hSw); go_simp; try with_reducible rfl)
  try simp only [Act.put, List.setIfInBounds_toArray, List.set_cons_zero, List.set_cons_succ]
  refine wpAnyH_ready (rs := [17]) (by kernel_rfl) (by simp) ?_
  refine AllReadyH.cons (by (simp only [List.getElem?_toArray, List.getElem?_cons_succ, List.getElem?_cons_zero]; rfl)) (fun K hK => ?_) AllReadyH.nil
  rw [turn8_val cb r hr8]
  have c0 : w.drew.cell? ⟨g, k, none⟩ = some (.int .u8 (cb.toNat : Int)) := HCE.out
  have hfz : w.drew.frozen? ⟨g, k, none⟩ = false := HFZ.out
  have f0' : ((w.setCell ⟨g, k, none⟩ (.int .u8 ((turn8 cb r).toNat : Int))).drew).cell? ⟨N, 0, none⟩ = some (.slice (some ⟨b, 0, none⟩) n Lc) := (Chg.refl (fun b' => b' = g) w.drew).setCell (p := ⟨g, k, none⟩) (.inr rfl) (.int .u8 ((turn8 cb r).toNat : Int)) |>.cell f0 (fun e => hgN e.symm)
  have f1' : ((w.setCell ⟨g, k, none⟩ (.int .u8 ((turn8 cb r).toNat : Int))).drew).cell? ⟨b, j * 2 + 1, none⟩ = some (.slice (some ⟨g, 0, none⟩) m Pc) := (Chg.refl (fun b' => b' = g) w.drew).setCell (p := ⟨g, k, none⟩) (.inr rfl) (.int .u8 ((turn8 cb r).toNat : Int)) |>.cell f1 (fun e => hgb e.symm)
  go_simp
  clear c0 hfz
  refine hK.out _ _ ?_ (fun hHeld => ?_)
  · try dsimp only
    (refine ⟨?_, ?_⟩ <;> (first | with_reducible assumption))
  clear hK K
  try simp only [Act.put]
  refine wpAnyH_done (by kernel_rfl) ?_ _
  refine NoPanic.normal ?_
  clear hHeld f0 f1 f0' f1'
  go_wp2_with fail
  go_ret
  refine ⟨rfl, ?_⟩
  obtain ⟨h1, b', h2, h3, h4⟩ := HE.out
  rw [← HKR.out.1, ← HKR.out.2, HG.out]
  exact ⟨h1, b', h2, ⟨((Chg.refl _ w).drew).trans h3.chg, h3.tg⟩, h4⟩
end Go.Proofs.YtkenaoejijpgpaaDoor
