/- Chapter 20: an agent in memory: its cells, its parts, its map. -/
import Derived.Test.YtoeamofemepgpaaSettle2
import Derived.Test.YtoeamofemepgpaaAg4
namespace Go.Proofs.Ytoeamofemepgpaa
open Go.RowKit Go.Shelf

/-- An agent, as the law's text speaks of it. -/
structure Ag where
  node : Int
  g0 : Int
  g1 : Int
  g2 : Int
  g3 : Int
  work : List Int
  up : Bool
  tick : Int
  boot : Int
  since : Int
  until_ : Int
  epoch : Int
  beat : Bool
  at_ : Int
  ps : List Pt
/-- Where it lies: its map (none: it was never booted), its work's row, its parts' row, its parts. -/
structure Lay where
  M : Option Nat
  WA : Option Addr
  nw : Nat
  cw : Nat
  RA : Option Addr
  n : Nat
  c : Nat
  bs : List Nat
abbrev Ag.cells (s : Ag) (L : Lay) : Array Value := #[.int .i64 s.node, .int .i64 s.g0, .int .i64 s.g1, .int .i64 s.g2, .int .i64 s.g3, .slice L.WA L.nw L.cw, .bool s.up, .int .i64 s.tick, .int .i64 s.boot, .int .i64 s.since, .int .i64 s.until_, .int .i64 s.epoch, .bool s.beat, .int .i64 s.at_, .map L.M, .slice L.RA L.n L.c]
/-- The agent's own blocks. -/
def Lay.own (L : Lay) (A k : Nat) : Prop := k = A ∨ L.M = some k ∨ (Value.slice L.WA L.nw L.cw).ownBlock = some k ∨ (Value.slice L.RA L.n L.c).ownBlock = some k ∨ k ∈ L.bs
abbrev kc (j a : Int) : Value := .agg #[.int .i64 j, .int .i64 a]
/-- Block M is the map from the keys to their places. -/
def KeysAt (w : World) (M : Option Nat) (ks : List (Int × Int)) : Prop :=
  match M with
  | none => ks = []
  | some M => ∃ es clock, w.heap[M]? = some (.map es clock) ∧ es.size = ks.length ∧ ∀ (i : Nat) (j a : Int), ks[i]? = some (j, a) → ∃ e, es[i]? = some e ∧ e.key = kc j a ∧ e.val = .int .i64 i
abbrev ints (l : List Int) : List Value := l.map (.int .i64 ·)
abbrev ptrs (l : List Nat) : List Value := l.map fun b => .pointer (some ⟨b, 0, none⟩)
structure AgAt (w : World) (A : Nat) (L : Lay) (s : Ag) : Prop where
  blk : w.heap[A]? = some (.cells (s.cells L) 60 (0, 0))
  keys : KeysAt w L.M (s.ps.map fun p => (p.job, p.att))
  booted : s.up = true → L.M ≠ none
  wlen : L.nw = s.work.length
  wrow : w.ownsRow 0 3 1 (.slice L.WA L.nw L.cw) L.nw (ints s.work)
  row : w.ownsRow 0 69 1 (.slice L.RA L.n L.c) L.n (ptrs L.bs)
  blen : L.n = L.bs.length
  plen : L.bs.length = s.ps.length
  prt : ∀ (i b : Nat) (p : Pt), L.bs[i]? = some b → s.ps[i]? = some p → PtAt w b p
  nodup : L.bs.Nodup
namespace AgAt
variable {w w' : World} {A : Nat} {L : Lay} {s : Ag}
theorem lt (h : AgAt w A L s) : A < w.heap.size := ltb h.blk
theorem bAt (h : AgAt w A L s) {b : Nat} (hb : b ∈ L.bs) : ∃ p, p ∈ s.ps ∧ PtAt w b p := by
  obtain ⟨i, hi⟩ := List.mem_iff_getElem?.1 hb
  have hlt := (List.getElem?_eq_some_iff.1 hi).1
  have hl := h.plen
  have hs : s.ps[i]? = some (s.ps[i]'(by omega)) := List.getElem?_eq_getElem (by omega)
  exact ⟨_, List.mem_of_getElem? hs, h.prt i b _ hi hs⟩
theorem own_lt (h : AgAt w A L s) {k : Nat} (hk : L.own A k) : k < w.heap.size := by
  rcases hk with rfl | hk | hk | hk | hk
  · exact h.lt
  · have := h.keys
    rw [hk] at this
    obtain ⟨es, clock, hM, _⟩ := this
    exact ltb hM
  · obtain ⟨cur, f, hc⟩ := own_elem h.wrow hk
    exact ltb hc
  · obtain ⟨cur, f, hc⟩ := own_elem h.row hk
    exact ltb hc
  · obtain ⟨p, _, hp⟩ := h.bAt hk
    exact hp.lt
theorem chg (h : AgAt w A L s) {S : Nat → Prop} (hc : Chg S w w') (hs : ∀ k, S k → ¬ L.own A k) : AgAt w' A L s := by
  have no : ∀ k, L.own A k → ¬ S k := fun k h1 h2 => hs k h2 h1
  refine ⟨(hc.block A h.lt (no _ (.inl rfl))).trans h.blk, ?_, h.booted, h.wlen, hc.own h.wrow (fun k hk => no k (.inr (.inr (.inl hk)))), hc.own h.row (fun k hk => no k (.inr (.inr (.inr (.inl hk))))), h.blen, h.plen, fun i b p hb hp => ?_, h.nodup⟩
  · have hk := h.keys
    unfold KeysAt at hk ⊢
    cases hM : L.M with
    | none => simpa only [hM] using hk
    | some M =>
      rw [hM] at hk
      obtain ⟨es, clock, e1, e2⟩ := hk
      exact ⟨es, clock, (hc.block M (ltb e1) (no M (.inr (.inl hM)))).trans e1, e2⟩
  · have hp1 := h.prt i b p hb hp
    exact (hc.block b hp1.lt (no b (.inr (.inr (.inr (.inr (List.mem_of_getElem? hb))))))).trans hp1
theorem below (h : AgAt w A L s) (hb : Below w.heap.size w w') : AgAt w' A L s := h.chg (Chg.of_below (S := fun _ => False) hb) (fun _ h => h.elim)
theorem drew (h : AgAt w A L s) : AgAt w.drew A L s := h.chg (Chg.refl (fun _ => False) w).drew (fun _ h => h.elim)
/-- The parts, as settle and its kin read them. -/
theorem zipAt {bs : List Nat} {ps : List Pt} {i b : Nat} {p : Pt} (h : (bs.zip ps)[i]? = some (b, p)) : bs[i]? = some b ∧ ps[i]? = some p := by
  rw [List.getElem?_zip_eq_some] at h
  exact h
theorem parts (h : AgAt w A L s) (hn : s.ps.length ≤ 100000000) (rb : Nat) (hrb : L.RA = none ∨ L.RA = some ⟨rb, 0, none⟩) : Parts w w.heap.size A rb L.n L.c L.RA s.until_ (L.bs.zip s.ps) := by
  have hl := h.plen
  have hl2 := h.blen
  have inbs : ∀ {b : Nat}, b ∈ L.bs → b ≠ A := fun {b} hb e => by
    obtain ⟨p, _, hp⟩ := h.bAt hb
    subst e
    have := hp.symm.trans h.blk
    injection this with this; injection this with _ e2
    exact absurd e2 (by decide)
  refine ⟨by rw [List.length_zip]; omega, by omega, cellb (i := 15) h.blk rfl, cellb (i := 10) h.blk rfl, fun h0 => ?_, h.lt, Nat.le_refl _, fun i b p hp => ?_, fun i b p hp => ?_, fun i j b p q hi hj => ?_⟩
  · rcases h.row.2 with ⟨hv, h1⟩ | ⟨g, cap, cur, hv, _, hg, _⟩
    · omega
    · injection hv with e1
      rcases hrb with e | e
      · rw [e] at e1; cases e1
      · rw [e] at e1; injection e1 with e1; injection e1 with e1; subst e1
        exact ⟨e, ltb hg⟩
  · obtain ⟨h1, h2⟩ := zipAt hp
    rcases h.row.2 with ⟨hv, h3⟩ | ⟨g, cap, cur, hv, _, hg, _⟩
    · have := (List.getElem?_eq_some_iff.1 h1).1
      omega
    · injection hv with e1
      rcases hrb with e | e
      · rw [e] at e1; cases e1
      · rw [e] at e1; injection e1 with e1; injection e1 with e1; subst e1
        have hcell := h.row.cells (g := rb) (by rw [e]; rfl) i (.pointer (some ⟨b, 0, none⟩)) (by simp [h1])
        rwa [Addr.add_lit, Nat.zero_add] at hcell
  · obtain ⟨h1, h2⟩ := zipAt hp
    have hp1 := h.prt i b p h1 h2
    have hm := List.mem_of_getElem? h1
    refine ⟨hp1, hp1.lt, inbs hm, fun e => ?_⟩
    rcases h.row.2 with ⟨hv, h3⟩ | ⟨g, cap, cur, hv, _, hg, _⟩
    · have := (List.getElem?_eq_some_iff.1 h1).1
      omega
    · injection hv with e1
      rcases hrb with e2 | e2
      · rw [e2] at e1; cases e1
      · rw [e2] at e1; injection e1 with e1; injection e1 with e1
        subst e1; subst e
        have := hp1.symm.trans hg
        injection this with this; injection this with _ e3
        exact absurd e3 (by decide)
  · exact (List.getElem?_inj (List.getElem?_eq_some_iff.1 (zipAt hi).1).1 h.nodup).1 ((zipAt hi).1.trans (zipAt hj).1.symm)
theorem rb (h : AgAt w A L s) : ∃ rb, L.RA = none ∨ L.RA = some ⟨rb, 0, none⟩ := by
  rcases h.row.2 with ⟨hv, _⟩ | ⟨g, cap, cur, hv, _⟩
  · injection hv with e1; exact ⟨0, .inl e1⟩
  · injection hv with e1; exact ⟨g, .inr e1⟩
/-- The agent's own cells and its parts turn; neither its map nor a row. -/
theorem turn (h : AgAt w A L s) {S : Nat → Prop} {s' : Ag} (hc : Chg S w w') (hS : ∀ k, S k → ∃ o, w.heap[k]? = some o ∧ (otag o = 60 + 1 ∨ otag o = 73 + 1))
    (hA : w'.heap[A]? = some (.cells (s'.cells L) 60 (0, 0))) (hk : (s'.ps.map fun p => (p.job, p.att)) = s.ps.map fun p => (p.job, p.att)) (hw : s'.work = s.work) (hup : s'.up = true → L.M ≠ none)
    (hp : ∀ (i b : Nat) (p : Pt), L.bs[i]? = some b → s'.ps[i]? = some p → PtAt w' b p) : AgAt w' A L s' := by
  have no : ∀ {k : Nat} {o : Obj}, w.heap[k]? = some o → otag o ≠ 60 + 1 → otag o ≠ 73 + 1 → ¬ S k := fun {k o} ho h1 h2 hs => by
    obtain ⟨o', e, e2⟩ := hS k hs
    have := ho.symm.trans e
    injection this with this
    subst this
    rcases e2 with e2 | e2
    · exact h1 e2
    · exact h2 e2
  refine ⟨hA, ?_, hup, by rw [hw]; exact h.wlen, ?_, hc.own h.row (fun k hk => ?_), h.blen, ?_, hp, h.nodup⟩
  · rw [hk]
    have hk := h.keys
    unfold KeysAt at hk ⊢
    cases hM : L.M with
    | none => simpa only [hM] using hk
    | some M =>
      rw [hM] at hk
      obtain ⟨es, clock, e1, e2⟩ := hk
      exact ⟨es, clock, (hc.block M (ltb e1) (no e1 (by simp [otag]) (by simp [otag]))).trans e1, e2⟩
  · rw [hw]
    refine hc.own h.wrow (fun k hk => ?_)
    obtain ⟨cur, f, e⟩ := own_elem h.wrow hk
    exact no e (by simp [otag]) (by simp [otag])
  · obtain ⟨cur, f, e⟩ := own_elem h.row hk
    exact no e (by simp [otag]) (by simp [otag])
  · have := congrArg List.length hk
    simp only [List.length_map] at this
    rw [this]; exact h.plen
/-- One cell of the agent turns. -/
theorem set (h : AgAt w A L s) {i : Nat} {v : Value} {s' : Ag} (hcs : (s.cells L).setIfInBounds i v = s'.cells L) (hps : s'.ps = s.ps) (hw : s'.work = s.work) (hup : s'.up = true → L.M ≠ none) :
    AgAt (w.setCell ⟨A, i, none⟩ v) A L s' ∧ Chg (fun k => k = A) w (w.setCell ⟨A, i, none⟩ v) := by
  have hc : Chg (fun k => k = A) w (w.setCell ⟨A, i, none⟩ v) := (Chg.refl (fun k => k = A) w).setCell (p := ⟨A, i, none⟩) (.inr rfl) v
  have hA := set_blk (i := i) h.blk v
  rw [hcs] at hA
  refine ⟨h.turn hc (fun k hk => by subst hk; exact ⟨_, h.blk, .inl rfl⟩) hA (by rw [hps]) hw hup (fun j b p hb hp => ?_), hc⟩
  rw [hps] at hp
  have hp1 := h.prt j b p hb hp
  refine (hc.block b hp1.lt (fun e => ?_)).trans hp1
  subst e
  have := hp1.symm.trans h.blk
  injection this with this; injection this with _ e2
  exact absurd e2 (by decide)
/-- A part turns. -/
theorem setp (h : AgAt w A L s) {i b : Nat} {p q : Pt} {s' : Ag} (hb : L.bs[i]? = some b) (hp : s.ps[i]? = some p) (hkey : (q.job, q.att) = (p.job, p.att)) (hs' : s' = { s with ps := s.ps.set i q }) (hc : Chg (fun k => k = b) w w') (hq : PtAt w' b q) : AgAt w' A L s' := by
  subst hs'
  have hlt : i < s.ps.length := (List.getElem?_eq_some_iff.1 hp).1
  have hp1 := h.prt i b p hb hp
  refine h.turn hc (fun k hk => by subst hk; exact ⟨_, hp1, .inr rfl⟩) ((hc.block A h.lt (fun e => ?_)).trans h.blk) ?_ rfl h.booted (fun j b' p' hj hp' => ?_)
  · subst e
    have := hp1.symm.trans h.blk
    injection this with this; injection this with _ e2
    exact absurd e2 (by decide)
  · apply List.ext_getElem?
    intro j
    simp only [List.getElem?_map, List.getElem?_set]
    by_cases e : i = j
    · subst e
      rw [if_pos rfl, if_pos hlt, hp]
      simp only [Option.map_some, hkey]
    · rw [if_neg e]
  · simp only [List.getElem?_set] at hp'
    by_cases e : i = j
    · subst e
      rw [if_pos rfl, if_pos hlt] at hp'
      injection hp' with hp'
      subst hp'
      rw [hb] at hj; injection hj with hj; subst hj
      exact hq
    · rw [if_neg e] at hp'
      have hp2 := h.prt j b' p' hj hp'
      refine (hc.block b' hp2.lt (fun e2 => e ?_)).trans hp2
      subst e2
      exact (List.getElem?_inj (List.getElem?_eq_some_iff.1 hb).1 h.nodup).1 (hb.trans hj.symm)
end AgAt
/-- New blocks and turned ones: where the agent lies then. -/
def Grows (L L' : Lay) (A : Nat) (w : World) : Prop := ∀ k, L'.own A k → L.own A k ∨ w.heap.size ≤ k
theorem Grows.refl (L : Lay) (A : Nat) (w : World) : Grows L L A w := fun _ h => .inl h
/-- What settle makes of an agent. -/
def Ag.settle (s : Ag) (now : Int) : Ag := { s with ps := s.ps.map fun p => p.settle s.until_ now }
theorem settle_key (p : Pt) (u t : Int) : ((p.settle u t).job, (p.settle u t).att) = (p.job, p.att) := by
  unfold Pt.settle Pt.over
  split <;> rfl
theorem settle_ag (w : World) {A : Nat} {L : Lay} {s : Ag} (h : AgAt w A L s) (hn : s.ps.length ≤ 100000000) (t : Int) :
    Calls Try.prog 24 #[.pointer (some ⟨A, 0, none⟩), .int .i64 t] w fun e w' => (∃ r, e = .returned r) ∧ AgAt w' A L (s.settle t) ∧ Chg (L.own A) w w' := by
  obtain ⟨rb, hrb⟩ := h.rb
  refine (settle_any w (h.parts hn rb hrb) t).mono ?_
  rintro e w' ⟨he, hp, hc⟩
  refine ⟨he, ?_⟩
  have hmem : ∀ {k : Nat} {x : Nat × Pt}, x ∈ L.bs.zip s.ps → x.1 = k → k ∈ L.bs := fun {k x} hx e => by subst e; exact (List.of_mem_zip hx).1
  refine ⟨h.turn hc (fun k ⟨x, hx, e⟩ => ?_) ?_ ?_ rfl h.booted (fun i b p hb hs => ?_), hc.mono (fun k _ ⟨x, hx, e⟩ => .inr (.inr (.inr (.inr (hmem hx e)))))⟩
  · obtain ⟨p, _, hp⟩ := h.bAt (hmem hx e)
    exact ⟨_, hp, .inr rfl⟩
  · refine (hc.block A h.lt (fun ⟨x, hx, e⟩ => ?_)).trans h.blk
    obtain ⟨p, _, hp⟩ := h.bAt (hmem hx e)
    have := hp.symm.trans h.blk
    injection this with this; injection this with _ e2
    exact absurd e2 (by decide)
  · simp only [Ag.settle, List.map_map]
    exact List.map_congr_left (fun p _ => settle_key p _ _)
  · have hs : (s.ps.map fun p => p.settle s.until_ t)[i]? = some p := hs
    rw [List.getElem?_map] at hs
    cases hq : s.ps[i]? with
    | none => rw [hq] at hs; cases hs
    | some q =>
      rw [hq] at hs
      injection hs with hs
      subst hs
      refine (hp.prt i b _ ?_).1
      have hz : (L.bs.zip s.ps)[i]? = some (b, q) := List.getElem?_zip_eq_some.2 ⟨hb, hq⟩
      rw [List.getElem?_map, hz]
      rfl
end Go.Proofs.Ytoeamofemepgpaa
