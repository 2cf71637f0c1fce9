/- The plain law of SessionOnce: what a client, its servers and the messages under way keep, whatever happens. -/
import Derived.Test.YtlcbpodjmafoeaaLook2
namespace Go.Proofs.Ytlcbpodjmafoeaa
open Go.RowKit

/-- A message under way. -/
structure Mg where
  v : Nat → Int
  A : Option Addr
  n : Nat
  c : Nat
/-- The last that was done well. -/
def lastB (l : List Int) : Int := if l.length = 0 then 0 else l.getD (l.length - 1) 0
theorem lastB_snoc (l : List Int) (x : Int) : lastB (l ++ [x]) = x := by simp [lastB, List.getD]
structure Pst where
  s : Ct
  ep : Int
  k : Kp
  way : List Mg
  book : List Int
  told : Int
  heard : List Int
def Dead (p : Pst) (q : Int) : Prop := q ∉ p.book ∧ (∀ m ∈ p.way, m.v 0 = 7 → m.v 16 = q → m.v 1 < p.ep ∨ q ≤ p.k.q) ∧ (q < p.s.seq ∨ (q = p.s.seq ∧ p.s.asks = false))
def AskIn (id : Int) (p : Pst) (m : Mg) : Prop := m.v 0 = 7 → m.v 15 = id ∧ 1 ≤ m.v 16 ∧ m.v 16 ≤ p.s.seq ∧ m.v 1 ≤ p.s.epoch
def RepIn (p : Pst) (m : Mg) : Prop := m.v 0 = 8 → 1 ≤ m.v 16 ∧ (m.v 18 = 0 → m.v 16 ∈ p.book) ∧ (m.v 18 ≠ 190 → m.v 18 ≠ 0 → m.v 1 < p.s.epoch ∨ (m.v 16 ∉ p.book ∧ (m.v 1 < p.ep ∨ m.v 16 ≤ p.k.q))) ∧ m.v 1 ≤ p.ep
structure Inv (id : Int) (p : Pst) : Prop where
  hid : p.s.id = id
  seq0 : 0 ≤ p.s.seq
  seq1 : p.s.asks = true → 1 ≤ p.s.seq
  ep1 : 1 ≤ p.ep
  ce : p.s.epoch ≤ p.ep
  top : ∀ x ∈ p.book, x ≤ lastB p.book
  last0 : 0 ≤ lastB p.book
  lastin : lastB p.book = 0 ∨ lastB p.book ∈ p.book
  told : p.told = 0
  kbad : p.k.a ≠ 0 → p.k.q ∉ p.book
  kgood : p.k.a = 0 → 1 ≤ p.k.q → p.k.q ∈ p.book
  asks : ∀ m ∈ p.way, AskIn id p m
  reps : ∀ m ∈ p.way, RepIn p m
  heard : ∀ q : Nat, (p.heard[q]? = some 1 → (q : Int) ∈ p.book) ∧ (p.heard[q]? = some 2 → Dead p q)

theorem Inv.start (id : Int) (n : Nat) : Inv id ⟨⟨id, 0, 0, false, false, 0, []⟩, 1, ⟨0, 0, 0, 0⟩, [], [], 0, List.replicate n 0⟩ where
  hid := rfl
  seq0 := Int.le_refl _
  seq1 := fun h => by cases h
  ep1 := by simp
  ce := by simp
  top := fun x hx => by cases hx
  last0 := by simp [lastB]
  lastin := .inl rfl
  told := rfl
  kbad := fun h => absurd rfl h
  kgood := fun _ h => by simp at h
  asks := fun m hm => by cases hm
  reps := fun m hm => by cases hm
  heard := fun q => ⟨fun h => by simp [List.getElem?_replicate] at h, fun h => by simp [List.getElem?_replicate] at h⟩

/-- Fewer messages, or the same ones elsewhere. -/
theorem Inv.fewer {id : Int} {p : Pst} {way : List Mg} (h : Inv id p) (hw : ∀ m ∈ way, m ∈ p.way) : Inv id { p with way := way } where
  hid := h.hid
  seq0 := h.seq0
  seq1 := h.seq1
  ep1 := h.ep1
  ce := h.ce
  top := h.top
  last0 := h.last0
  lastin := h.lastin
  told := h.told
  kbad := h.kbad
  kgood := h.kgood
  asks := fun m hm => h.asks m (hw m hm)
  reps := fun m hm => h.reps m (hw m hm)
  heard := fun q => ⟨(h.heard q).1, fun e => ⟨((h.heard q).2 e).1, fun m hm => ((h.heard q).2 e).2.1 m (hw m hm), ((h.heard q).2 e).2.2⟩⟩
/-- One message more, which is no request. -/
theorem Inv.more {id : Int} {p : Pst} {m : Mg} (h : Inv id p) (h7 : m.v 0 ≠ 7) (h8 : RepIn p m) : Inv id { p with way := p.way ++ [m] } where
  hid := h.hid
  seq0 := h.seq0
  seq1 := h.seq1
  ep1 := h.ep1
  ce := h.ce
  top := h.top
  last0 := h.last0
  lastin := h.lastin
  told := h.told
  kbad := h.kbad
  kgood := h.kgood
  asks := fun m' hm => by
    rcases List.mem_append.1 hm with e | e
    · exact h.asks m' e
    · rw [List.mem_singleton.1 e]; exact fun e => absurd e h7
  reps := fun m' hm => by
    rcases List.mem_append.1 hm with e | e
    · exact h.reps m' e
    · rw [List.mem_singleton.1 e]; exact h8
  heard := fun q => ⟨(h.heard q).1, fun e => ⟨((h.heard q).2 e).1, fun m' hm => by
    rcases List.mem_append.1 hm with e' | e'
    · exact ((h.heard q).2 e).2.1 m' e'
    · rw [List.mem_singleton.1 e']; exact fun e => absurd e h7, ((h.heard q).2 e).2.2⟩⟩
/-- The client asks. -/
theorem Inv.ask {id : Int} {p : Pst} (h : Inv id p) (b : List UInt8) : Inv id { p with s := askD p.s b } := by
  unfold askD
  split
  · rename_i he
    have hna : p.s.asks = false := by
      unfold askE at he
      cases hq : p.s.asks
      · rfl
      · rw [hq] at he; simp at he
    exact {
      hid := h.hid
      seq0 := by have := h.seq0; show 0 ≤ p.s.seq + 1; omega
      seq1 := fun _ => by have := h.seq0; show 1 ≤ p.s.seq + 1; omega
      ep1 := h.ep1
      ce := h.ce
      top := h.top
      last0 := h.last0
      lastin := h.lastin
      told := h.told
      kbad := h.kbad
      kgood := h.kgood
      asks := fun m hm e => by
        obtain ⟨a, b, c, d⟩ := h.asks m hm e
        exact ⟨a, b, by show m.v 16 ≤ p.s.seq + 1; omega, d⟩
      reps := h.reps
      heard := fun q => ⟨(h.heard q).1, fun e => ⟨((h.heard q).2 e).1, ((h.heard q).2 e).2.1, .inl (by
        show (q : Int) < p.s.seq + 1
        rcases ((h.heard q).2 e).2.2 with a | a <;> omega)⟩⟩ }
  · exact h
/-- The client sends. -/
theorem Inv.send {id : Int} {p : Pst} (h : Inv id p) (now : Int) (m : Mg) (ha : p.s.asks = true) (h15 : m.v 15 = id) (h16 : m.v 16 = p.s.seq) (h1 : m.v 1 = p.s.epoch) (h0 : m.v 0 = 7) :
    Inv id { p with s := { p.s with sent := true, at_ := now }, way := p.way ++ [m] } where
  hid := h.hid
  seq0 := h.seq0
  seq1 := h.seq1
  ep1 := h.ep1
  ce := h.ce
  top := h.top
  last0 := h.last0
  lastin := h.lastin
  told := h.told
  kbad := h.kbad
  kgood := h.kgood
  asks := fun m' hm => by
    rcases List.mem_append.1 hm with e | e
    · exact h.asks m' e
    · rw [List.mem_singleton.1 e]
      exact fun _ => ⟨h15, by rw [h16]; exact h.seq1 ha, by rw [h16]; exact Int.le_refl _, by rw [h1]; exact Int.le_refl _⟩
  reps := fun m' hm => by
    rcases List.mem_append.1 hm with e | e
    · exact h.reps m' e
    · rw [List.mem_singleton.1 e]; intro e8; rw [h0] at e8; cases e8
  heard := fun q => ⟨(h.heard q).1, fun e => by
    refine ⟨((h.heard q).2 e).1, fun m' hm => ?_, ((h.heard q).2 e).2.2⟩
    rcases List.mem_append.1 hm with e' | e'
    · exact ((h.heard q).2 e).2.1 m' e'
    · rw [List.mem_singleton.1 e']
      intro _ hq
      rcases ((h.heard q).2 e).2.2 with a | a
      · omega
      · rw [ha] at a; cases a.2⟩
theorem Inv.sent {id : Int} {p : Pst} (h : Inv id p) (b : Bool) (now : Int) : Inv id { p with s := { p.s with sent := b, at_ := now } } where
  hid := h.hid
  seq0 := h.seq0
  seq1 := h.seq1
  ep1 := h.ep1
  ce := h.ce
  top := h.top
  last0 := h.last0
  lastin := h.lastin
  told := h.told
  kbad := h.kbad
  kgood := h.kgood
  asks := h.asks
  reps := h.reps
  heard := h.heard
/-- A new server. -/
theorem Inv.next {id : Int} {p : Pst} (h : Inv id p) : Inv id { p with ep := p.ep + 1, k := ⟨0, 0, 0, 0⟩ } where
  hid := h.hid
  seq0 := h.seq0
  seq1 := h.seq1
  ep1 := by have := h.ep1; show 1 ≤ p.ep + 1; omega
  ce := by have := h.ce; show p.s.epoch ≤ p.ep + 1; omega
  top := h.top
  last0 := h.last0
  lastin := h.lastin
  told := h.told
  kbad := fun e => absurd rfl e
  kgood := fun _ e => by simp at e
  asks := h.asks
  reps := fun m hm e => by
    obtain ⟨a, b, c, d⟩ := h.reps m hm e
    refine ⟨a, b, fun x y => ?_, by show m.v 1 ≤ p.ep + 1; omega⟩
    rcases c x y with k | k
    · exact .inl k
    · exact .inr ⟨k.1, .inl (by show m.v 1 < p.ep + 1; omega)⟩
  heard := fun q => ⟨(h.heard q).1, fun e => ⟨((h.heard q).2 e).1, fun m hm e7 _ => .inl (by
    have := (h.asks m hm e7).2.2.2
    have := h.ce
    show m.v 1 < p.ep + 1; omega), ((h.heard q).2 e).2.2⟩⟩
/-- The client's epoch rises. -/
theorem Inv.rise {id : Int} {p : Pst} (h : Inv id p) (e' : Int) (h1 : p.s.epoch < e') (h2 : e' ≤ p.ep) : Inv id { p with s := { p.s with epoch := e', sent := false } } where
  hid := h.hid
  seq0 := h.seq0
  seq1 := h.seq1
  ep1 := h.ep1
  ce := h2
  top := h.top
  last0 := h.last0
  lastin := h.lastin
  told := h.told
  kbad := h.kbad
  kgood := h.kgood
  asks := fun m hm e => by
    obtain ⟨a, b, c, d⟩ := h.asks m hm e
    exact ⟨a, b, c, by show m.v 1 ≤ e'; omega⟩
  reps := fun m hm e => by
    obtain ⟨a, b, c, d⟩ := h.reps m hm e
    refine ⟨a, b, fun x y => ?_, d⟩
    rcases c x y with k | k
    · exact .inl (by show m.v 1 < e'; omega)
    · exact .inr k
  heard := h.heard
/-- The client has heard a reply of its own epoch. -/
theorem Inv.over {id : Int} {p : Pst} (h : Inv id p) (m : Mg) (hr : RepIn p m) (h8 : m.v 0 = 8) (h16 : m.v 16 = p.s.seq) (h1 : m.v 1 = p.s.epoch) (h190 : m.v 18 ≠ 190) (hd : List Int)
    (hh : ∀ q : Nat, hd[q]? = p.heard[q]? ∨ ((q : Int) = m.v 16 ∧ hd[q]? = some (if m.v 18 = 0 then 1 else 2)) ∨ hd[q]? = none) : Inv id { p with s := { p.s with asks := false }, heard := hd } where
  hid := h.hid
  seq0 := h.seq0
  seq1 := fun e => by cases e
  ep1 := h.ep1
  ce := h.ce
  top := h.top
  last0 := h.last0
  lastin := h.lastin
  told := h.told
  kbad := h.kbad
  kgood := h.kgood
  asks := h.asks
  reps := h.reps
  heard := fun q => by
    obtain ⟨a, b, c, d⟩ := hr h8
    rcases hh q with e | ⟨e1, e2⟩ | e
    · show (hd[q]? = some 1 → _) ∧ (hd[q]? = some 2 → _)
      rw [e]
      refine ⟨(h.heard q).1, fun x => ⟨((h.heard q).2 x).1, ((h.heard q).2 x).2.1, ?_⟩⟩
      rcases ((h.heard q).2 x).2.2 with k | k
      · exact .inl k
      · exact .inr ⟨k.1, rfl⟩
    · show (hd[q]? = some 1 → _) ∧ (hd[q]? = some 2 → _)
      rw [e2]
      by_cases h0 : m.v 18 = 0
      · rw [if_pos h0]
        exact ⟨fun _ => by rw [e1]; exact b h0, fun x => by simp at x⟩
      · rw [if_neg h0]
        refine ⟨fun x => by simp at x, fun _ => ?_⟩
        rcases c h190 h0 with k | ⟨k1, k2⟩
        · omega
        · refine ⟨by rw [e1]; exact k1, fun m' hm' e7 eq => ?_, .inr ⟨by rw [e1, h16], rfl⟩⟩
          have := (h.asks m' hm' e7).2.2.2
          show m'.v 1 < p.ep ∨ (q : Int) ≤ p.k.q
          rcases k2 with k2 | k2
          · exact .inl (by omega)
          · exact .inr (by rw [e1]; exact k2)
    · show (hd[q]? = some 1 → _) ∧ (hd[q]? = some 2 → _)
      rw [e]
      exact ⟨(fun x => by cases x), (fun x => by cases x)⟩
/-- A request is done (well, or not), and kept (or not). -/
theorem Inv.done {id : Int} {p : Pst} (h : Inv id p) (m : Mg) (hmem : m ∈ p.way) (h7 : m.v 0 = 7) (h1 : m.v 1 = p.ep) (hk : p.k.q < m.v 16) (hl : lastB p.book < m.v 16) (well : Bool) (a b c : Int) (ha : a = if well = true then 0 else 140) (kept : Bool) :
    Inv id { p with k := if kept = true then ⟨m.v 16, a, b, c⟩ else p.k, book := if well = true then p.book ++ [m.v 16] else p.book } := by
  obtain ⟨_, g1, g2, g3⟩ := h.asks m hmem h7
  have hin : m.v 16 ∉ p.book := fun e => by have := h.top _ e; omega
  have hce := h.ce
  have hkq : p.k.q ≤ (if kept = true then (⟨m.v 16, a, b, c⟩ : Kp) else p.k).q := by cases kept <;> simp <;> omega
  have hbk : ∀ x : Int, x ∈ (if well = true then p.book ++ [m.v 16] else p.book) ↔ (x ∈ p.book ∨ (well = true ∧ x = m.v 16)) := fun x => by cases well <;> simp
  exact {
    hid := h.hid
    seq0 := h.seq0
    seq1 := h.seq1
    ep1 := h.ep1
    ce := h.ce
    top := fun x hx => by
      cases well
      · exact h.top x hx
      · show x ≤ lastB (p.book ++ [m.v 16])
        rw [lastB_snoc]
        rcases (hbk x).1 hx with e | e
        · have := h.top x e; omega
        · omega
    last0 := by
      cases well
      · exact h.last0
      · show 0 ≤ lastB (p.book ++ [m.v 16])
        rw [lastB_snoc]; omega
    lastin := by
      cases well
      · exact h.lastin
      · show lastB (p.book ++ [m.v 16]) = 0 ∨ lastB (p.book ++ [m.v 16]) ∈ p.book ++ [m.v 16]
        rw [lastB_snoc]; exact .inr (by simp)
    told := h.told
    kbad := fun e => by
      show (if kept = true then (⟨m.v 16, a, b, c⟩ : Kp) else p.k).q ∉ (if well = true then p.book ++ [m.v 16] else p.book)
      rw [hbk]
      cases kept
      · rintro (x | ⟨_, x⟩)
        · exact h.kbad e x
        · have : p.k.q = m.v 16 := x
          omega
      · have e : a ≠ 0 := e
        have hw : well = false := by cases well; rfl; exact absurd (by simpa using ha) e
        rintro (x | ⟨x, _⟩)
        · exact hin x
        · rw [hw] at x; cases x
    kgood := fun e e1 => by
      show (if kept = true then (⟨m.v 16, a, b, c⟩ : Kp) else p.k).q ∈ (if well = true then p.book ++ [m.v 16] else p.book)
      rw [hbk]
      cases kept
      · exact .inl (h.kgood e e1)
      · have e : a = 0 := e
        have hw : well = true := by
          cases well
          · rw [ha] at e; simp at e
          · rfl
        exact .inr ⟨hw, rfl⟩
    asks := h.asks
    reps := fun m' hm' e8 => by
      obtain ⟨x1, x2, x3, x4⟩ := h.reps m' hm' e8
      refine ⟨x1, fun e => (hbk _).2 (.inl (x2 e)), fun e e' => ?_, x4⟩
      rcases x3 e e' with k | ⟨k1, k2⟩
      · exact .inl k
      · rcases k2 with k2 | k2
        · exact .inl (by show m'.v 1 < p.s.epoch; omega)
        · refine .inr ⟨fun e => ?_, .inr (Int.le_trans k2 hkq)⟩
          rcases (hbk _).1 e with e | ⟨_, e⟩
          · exact k1 e
          · omega
    heard := fun q => ⟨fun e => (hbk _).2 (.inl ((h.heard q).1 e)), fun e => by
      obtain ⟨y1, y2, y3⟩ := (h.heard q).2 e
      refine ⟨fun x => ?_, fun m' hm' e7 eq => ?_, y3⟩
      · rcases (hbk _).1 x with x | ⟨_, x⟩
        · exact y1 x
        · rcases y2 m hmem h7 x.symm with z | z
          · omega
          · omega
      · rcases y2 m' hm' e7 eq with z | z
        · exact .inl z
        · exact .inr (Int.le_trans z hkq)⟩ }
end Go.Proofs.Ytlcbpodjmafoeaa
