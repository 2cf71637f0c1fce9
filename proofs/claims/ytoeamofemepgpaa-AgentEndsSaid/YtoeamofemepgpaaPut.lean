/- Chapter 20: put. -/
import Derived.Test.YtoeamofemepgpaaFind
namespace Go.Proofs.Ytoeamofemepgpaa
open Go.RowKit

theorem ne_tag {w : World} {k k' : Nat} {o o' : Obj} (h : w.heap[k]? = some o) (h' : w.heap[k']? = some o') (ht : otag o ≠ otag o') : k ≠ k' := fun e => by
  subst e
  have := h.symm.trans h'
  injection this with this
  exact ht (by rw [this])
/-- Behind put: the layout. -/
abbrev Lay.more (L : Lay) (b : Nat) (A4 : Option Addr) (c4 : Nat) : Lay := { L with RA := A4, n := L.n + 1, c := c4, bs := L.bs ++ [b] }
abbrev Ag.more (s : Ag) (p : Pt) : Ag := { s with ps := s.ps ++ [p] }
theorem put_end {w w2 w4 w5 : World} {A M b c4 : Nat} {A4 : Option Addr} {L : Lay} {s : Ag} {p : Pt} (h : AgAt w A L s) (hM : L.M = some M) (hb : PtAt w b p) (hbn : b ∉ L.bs)
    (hk2 : KeysAt w2 (some M) ((s.ps.map fun p => (p.job, p.att)) ++ [(p.job, p.att)])) (hc2 : Chg (fun k => k = M) w w2)
    (hown : w4.ownsRow 0 69 1 (.slice A4 (L.n + 1) c4) (L.n + 1) (ptrs L.bs ++ [.pointer (some ⟨b, 0, none⟩)]))
    (hg : (w2.alloc (.cells #[.pointer (some ⟨b, 0, none⟩)] 69)).grownBy w4 (Value.slice L.RA L.n L.c).ownBlock)
    (hor : (Value.slice A4 (L.n + 1) c4).ownBlock = (Value.slice L.RA L.n L.c).ownBlock ∨ (Value.slice A4 (L.n + 1) c4).ownBlock = some (w2.heap.size + 1))
    (h5 : w4.setCell ⟨A, 15, none⟩ (.slice A4 (L.n + 1) c4) = w5) :
    AgAt w5 A (L.more b A4 c4) (s.more p) ∧ Chg (L.own A) w w5 ∧ ∀ k, (L.more b A4 c4).own A k → L.own A k ∨ k = b ∨ w.heap.size ≤ k := by
  obtain ⟨es, clock, hm1, hm2, hm3⟩ : ∃ es clock, w.heap[M]? = some (.map es clock) ∧ _ ∧ _ := by have := h.keys; rw [hM] at this; exact this
  have hAM : A ≠ M := ne_tag h.blk hm1 (by simp [otag])
  have hAr : ∀ k, (Value.slice L.RA L.n L.c).ownBlock = some k → A ≠ k := fun k hk => by
    obtain ⟨cur, f, e⟩ := own_elem h.row hk
    exact ne_tag h.blk e (by simp [otag])
  have hMr : ∀ k, (Value.slice L.RA L.n L.c).ownBlock = some k → M ≠ k := fun k hk => by
    obtain ⟨cur, f, e⟩ := own_elem h.row hk
    exact ne_tag hm1 e (by simp [otag])
  have hMlt : M < w2.heap.size := by obtain ⟨es', clock', e, _⟩ := hk2; exact ltb e
  have hs2 := hc2.size
  have c3 : Chg (fun k => (Value.slice L.RA L.n L.c).ownBlock = some k) w2 w4 := ((Chg.refl _ w2).alloc _).grown hg (fun k hk => .inr hk)
  have c5 : Chg (fun k => k = A) w4 w5 := by rw [← h5]; exact (Chg.refl (fun k => k = A) w4).setCell (p := ⟨A, 15, none⟩) (.inr rfl) _
  have hC : Chg (fun k => k = M ∨ (Value.slice L.RA L.n L.c).ownBlock = some k ∨ k = A) w w5 :=
    ((hc2.mono (fun k _ e => Or.inl e)).trans ((c3.mono (fun k _ e => Or.inr (Or.inl e))))).trans (c5.mono (fun k _ e => Or.inr (Or.inr e)))
  have hA4 : w4.heap[A]? = some (.cells (s.cells L) 60 (0, 0)) := (c3.block A (by have := h.lt; omega) (fun e => hAr _ e rfl)).trans ((hc2.block A h.lt hAM).trans h.blk)
  have hA5 := set_blk (i := 15) hA4 (.slice A4 (L.n + 1) c4)
  rw [h5] at hA5
  have old : ∀ {k : Nat} {o : Obj}, w.heap[k]? = some o → otag o ≠ 0 → otag o ≠ 69 + 1 → otag o ≠ 60 + 1 → w5.heap[k]? = some o := fun {k o} hk h0 h1 h2 => by
    refine (hC.block k (ltb hk) (fun e => ?_)).trans hk
    rcases e with e | e | e
    · exact ne_tag hk hm1 (by simpa [otag] using h0) e
    · obtain ⟨cur, f, e2⟩ := own_elem h.row e
      exact ne_tag hk e2 (by simpa [otag] using h1) rfl
    · exact ne_tag hk h.blk (by simpa [otag] using h2) e
  refine ⟨⟨hA5, ?_, h.booted, h.wlen, ?_, ?_, ?_, ?_, fun i b' p' hi hp => ?_, ?_⟩, hC.mono (fun k _ e => ?_), fun k hk => ?_⟩
  · show KeysAt w5 L.M _
    rw [hM]
    obtain ⟨es', clock', e1, e2, e3⟩ := hk2
    refine ⟨es', clock', (c5.block M (by have := c3.size; omega) (Ne.symm hAM)).trans ((c3.block M hMlt (fun e => hMr _ e rfl)).trans e1), ?_, ?_⟩
    · rw [e2]; simp
    · simpa using e3
  · refine hC.own h.wrow (fun k hk e => ?_)
    obtain ⟨cur, f, e0⟩ := own_elem h.wrow hk
    rcases e with e | e | e
    · exact ne_tag e0 hm1 (by simp [otag]) e
    · obtain ⟨cur', f', e2⟩ := own_elem h.row e
      exact ne_tag e0 e2 (by simp [otag]) rfl
    · exact ne_tag e0 h.blk (by simp [otag]) e
  · have := c5.own hown (fun k hk e => by
      obtain ⟨cur, f, e0⟩ := own_elem hown hk
      exact ne_tag e0 hA4 (by simp [otag]) e)
    simpa using this
  · simp [h.blen]
  · simp [h.plen]
  · have hl := h.plen
    by_cases hlt : i < L.bs.length
    · rw [List.getElem?_append_left hlt] at hi
      have hp : (s.ps ++ [p])[i]? = some p' := hp
      rw [List.getElem?_append_left (by omega)] at hp
      exact old (h.prt i b' p' hi hp) (by simp [otag]) (by simp [otag]) (by simp [otag])
    · have hi' := (List.getElem?_eq_some_iff.1 hi).1
      simp at hi'
      obtain rfl : i = L.bs.length := by omega
      have hp : (s.ps ++ [p])[L.bs.length]? = some p' := hp
      rw [hl] at hp
      simp at hi hp
      subst hi; subst hp
      exact old hb (by simp [otag]) (by simp [otag]) (by simp [otag])
  · show (L.bs ++ [b]).Nodup
    rw [List.nodup_append]
    exact ⟨h.nodup, by simp, fun a ha c hc e => by simp at hc; subst hc; subst e; exact hbn ha⟩
  · rcases e with e | e | e
    · exact .inr (.inl (by rw [hM, e]))
    · exact .inr (.inr (.inr (.inl e)))
    · exact .inl e
  · rcases hk with hk | hk | hk | hk | hk
    · exact .inl (.inl hk)
    · exact .inl (.inr (.inl hk))
    · exact .inl (.inr (.inr (.inl hk)))
    · have hk : (Value.slice A4 (L.n + 1) c4).ownBlock = some k := hk
      rcases hor with e | e
      · rw [e] at hk; exact .inl (.inr (.inr (.inr (.inl hk))))
      · rw [e] at hk; injection hk with hk; exact .inr (.inr (by omega))
    · have hk : k ∈ L.bs ++ [b] := hk
      simp at hk
      rcases hk with hk | hk
      · exact .inl (.inr (.inr (.inr (.inr hk))))
      · exact .inr (.inl hk)
theorem Try.infoPP : (Try.prog.info? 69).map (fun i => (i.zero, i.size, i.bytes)) = some (some (.pointer none), 1, 8) := by kernel_rfl
/-- What put leaves behind. -/
def PutPost (w : World) (A b : Nat) (L : Lay) (s : Ag) (p : Pt) (e : Ending) (w' : World) : Prop :=
  (∃ v, e = .returned v) ∧ ∃ A4 c4, AgAt w' A (L.more b A4 c4) (s.more p) ∧ Chg (L.own A) w w' ∧ ∀ k, (L.more b A4 c4).own A k → L.own A k ∨ k = b ∨ w.heap.size ≤ k
set_option maxHeartbeats 2000000 in
theorem put_any (w : World) {A : Nat} {L : Lay} {s : Ag} (h : AgAt w A L s) {M : Nat} (hM : L.M = some M) {b : Nat} {p : Pt} (hb : PtAt w b p) (hbn : b ∉ L.bs) (hpl : s.place p.job p.att = none) (hn : s.ps.length ≤ 1000000) :
    Calls Try.prog 42 #[.pointer (some ⟨A, 0, none⟩), .pointer (some ⟨b, 0, none⟩)] w fun e w' => PutPost w A b L s p e w' := by
  obtain ⟨iP, hiP, hz0, hz1, hz2⟩ := info_parts Try.infoPP
  have hd := h.drew
  have hks := hd.keys
  rw [hM] at hks
  have hnn : L.n ≤ 1000000 := by have := h.blen; have := h.plen; omega
  obtain ⟨w2, hput, hk2, hc2⟩ := KeysAt.put hks p.job p.att hpl (L.n : Int) (by simp [h.blen, h.plen])
  have hbA : b ≠ A := ne_tag hb h.blk (by simp [otag])
  obtain ⟨es, clock, hm1, _⟩ := hks
  have hAM : A ≠ M := ne_tag hd.blk hm1 (by simp [otag])
  have hbM : b ≠ M := ne_tag (show w.drew.heap[b]? = _ from hb) hm1 (by simp [otag])
  have hAl := h.lt
  have f14 : w.drew.cell? ⟨A, 14, none⟩ = some (.map (some M)) := by rw [← hM]; exact cellb (i := 14) hd.blk rfl
  have f15 : w.drew.cell? ⟨A, 15, none⟩ = some (.slice L.RA L.n L.c) := cellb (i := 15) hd.blk rfl
  have f0 : w.drew.cell? ⟨b, 0, none⟩ = some (.int .i64 p.job) := cellb (i := 0) hb rfl
  have f1 : w.drew.cell? ⟨b, 1, none⟩ = some (.int .i64 p.att) := cellb (i := 1) hb rfl
  have g15 : w2.cell? ⟨A, 15, none⟩ = some (.slice L.RA L.n L.c) := hc2.cell f15 hAM
  have g14 : w2.cell? ⟨A, 14, none⟩ = some (.map (some M)) := hc2.cell f14 hAM
  have g0 : w2.cell? ⟨b, 0, none⟩ = some (.int .i64 p.job) := hc2.cell f0 hbM
  have g1 : w2.cell? ⟨b, 1, none⟩ = some (.int .i64 p.att) := hc2.cell f1 hbM
  have h2A : w2.heap[A]? = some (.cells (s.cells L) 60 (0, 0)) := (hc2.block A hAl hAM).trans hd.blk
  have hAr : ∀ k, (Value.slice L.RA L.n L.c).ownBlock = some k → A ≠ k := fun k hk => by
    obtain ⟨cur, f, e⟩ := own_elem h.row hk
    exact ne_tag h.blk e (by simp [otag])
  have hr2 : w2.ownsRow 0 69 1 (.slice L.RA L.n L.c) L.n (ptrs L.bs) := hc2.own hd.row (fun k hk e => by
    obtain ⟨cur, f, e0⟩ := own_elem hd.row hk
    exact ne_tag e0 hm1 (by simp [otag]) e)
  have HEND := Lib.hid (fun A4 c4 w4 w5 => put_end (w := w.drew) (w2 := w2) (w4 := w4) (w5 := w5) (A4 := A4) (c4 := c4) hd hM (show PtAt w.drew b p from hb) hbn hk2 hc2)
  have H2A := Lib.hid h2A
  have HAR := Lib.hid hAr
  have HR2 := Lib.hid hr2
  have HPUT := Lib.hid hput
  have hA2 : A < w2.heap.size := ltb h2A
  clear h hd hM hb hbn hpl hn hk2 hc2 hbA hm1 hAM hbM h2A hAr hr2 hput hAl
  go_enter Try.func42, Try.ntmps42
  go_upto_region 0 with fail
  refine wp_region_noPanic ?_
  refine wp_region_held_drew (S := fun w' => w'.cell? ⟨A, 14, none⟩ = some (.map (some M)) ∧ w'.cell? ⟨A, 15, none⟩ = some (.slice L.RA L.n L.c) ∧ w'.cell? ⟨b, 0, none⟩ = some (.int .i64 p.job) ∧ w'.cell? ⟨b, 1, none⟩ = some (.int .i64 p.att)) (by kernel_rfl) ?_ (fun hHeld => ?_)
  · try dsimp only
    (refine ⟨?_, ?_, ?_, ?_⟩ <;> (first | with_reducible assumption))
  refine tk 0 ?_
  try simp only [Act.put, p1, p2, p3]
  refine tk 1 ?_
  try simp only [Act.put, p1, p2, p3]
  refine tk 2 ?_
  try simp only [Act.put, p1, p2, p3]
  refine tk 3 ?_
  try simp only [Act.put, p1, p2, p3]
  refine tk 4 ?_
  try simp only [Act.put, p1, p2, p3]
  refine tk 5 ?_
  try simp only [Act.put, p1, p2, p3]
  refine tk 6 ?_
  try simp only [Act.put, p1, p2, p3]
  refine tk 7 ?_
  try simp only [Act.put, p1, p2, p3]
  refine tk 8 ?_
  try simp only [Act.put, p1, p2, p3]
  refine tk 9 ?_
  try simp only [Act.put, p1, p2, p3]
  refine tk 10 ?_
  try simp only [Act.put, p1, p2, p3]
  refine tk 11 ?_
  try simp only [Act.put, p1, p2, p3]
  refine tk 12 ?_
  try simp only [Act.put, p1, p2, p3]
  refine rd 13 fun K hK => ?_
  have hput := HPUT.out
  dsimp only [kc] at hput
  go_simp
  clear hput
  refine hK.out _ _ ?_ (fun hHeld => ?_)
  · try dsimp only
    (refine ⟨?_, ?_, ?_, ?_⟩ <;> (first | with_reducible assumption))
  clear hK K
  try simp only [Act.put]
  refine wpAnyH_done (by kernel_rfl) ?_ _
  refine NoPanic.normal ?_
  clear hHeld f14 f15 f0 f1 g14 g0 g1
  have HRA := Lib.hid (HR2.out.alloc (.cells #[.pointer (some ⟨b, 0, none⟩)] 69))
  go_wp2_with (at_builtin; refine wpList_append_row _ rfl (.tmp 21) (.tmp 23) _ rfl 0 69 iP _ 1 8 Try.underlying58 hiP hz0 hz1 hz2 rfl (by omega) L.RA L.n L.c (ptrs L.bs) rfl HRA.out (w2.heap.size + 1) (some ⟨w2.heap.size, 0, none⟩) 1 1 [.pointer (some ⟨b, 0, none⟩)] rfl (cellsIn_alloc w2 #[.pointer (some ⟨b, 0, none⟩)] 69 (0, 0) 1 1 rfl) (by simp [Value.oneCell']) (by unfold maxLen; omega) (by omega) (by omega) ?_; intro A4 c4 w4 hown hg hor; have h4A : w4.heap[A]? = some (.cells (s.cells L) 60 (0, 0)) := (hg.block A (by simp; omega) (fun e => HAR.out _ e.symm rfl)).trans ((Below.heap_alloc _ _ _ hA2).trans H2A.out); have k15 : w4.cell? ⟨A, 15, none⟩ = some (.slice L.RA L.n L.c) := cellb (i := 15) h4A rfl; have kf : w4.frozen? ⟨A, 15, none⟩ = false := fzb h4A 15; have HE := Lib.hid (HEND.out A4 c4 w4 _ hown hg (by simpa using hor) rfl); clear h4A HEND HRA HR2 HAR H2A HPUT g15 hown hg hor)
  go_end0
  exact ⟨⟨_, rfl⟩, A4, c4, HE.out.1, (Chg.refl _ w).drew.trans HE.out.2.1, HE.out.2.2⟩
end Go.Proofs.Ytoeamofemepgpaa
