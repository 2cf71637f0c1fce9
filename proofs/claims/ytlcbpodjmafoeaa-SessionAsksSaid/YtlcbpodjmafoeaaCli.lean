/- A client: made, asked, sending. -/
import Derived.Test.YtlcbpodjmafoeaaMayOk
import Derived.Laws.Cover3
namespace Go.Proofs.Ytlcbpodjmafoeaa
open Go.RowKit

theorem i5x : (Try.prog.info? 5).map (fun i => (i.zero, i.size, i.bytes)) = some (some (.int .u8 0), 1, 1) := by kernel_rfl
theorem i5p : ∃ i, Try.prog.info? 5 = some i ∧ i.zero = some (.int .u8 0) ∧ i.size = 1 ∧ i.bytes = 1 := by
  have h := i5x
  cases hi : Try.prog.info? 5 with
  | none => rw [hi] at h; cases h
  | some i => rw [hi] at h; simp at h; exact ⟨i, rfl, h.1, h.2.1, h.2.2⟩
theorem eql_nil (a : Option Addr) (n c : Nat) (w : World) : (Go.binOp .eql 31 (.slice a n c) (.slice none 0 0)).run Try.prog w = .ok (.bool a.isNone) w := by
  simp only [binOp]
  simp [run_equal_slice_nil w 31 5 a n c Try.underlying31]
/-- A client's data. -/
structure Ct where
  id : Int
  seq : Int
  epoch : Int
  asks : Bool
  sent : Bool
  at_ : Int
  body : List UInt8
structure CAt (w : World) (g : Nat) (s : Ct) (A : Option Addr) (c : Nat) : Prop where
  blk : w.heap[g]? = some (.cells #[.int .i64 s.id, .int .i64 s.seq, .int .i64 s.epoch, .bool s.asks, .bool s.sent, .int .i64 s.at_, .slice A s.body.length c] 90 (0, 0))
  own : w.ownsRow (g + 1) 5 1 (.slice A s.body.length c) s.body.length (cells8 s.body)
namespace CAt
variable {w w' : World} {g c : Nat} {s : Ct} {A : Option Addr}
theorem glt (h : CAt w g s A c) : g < w.heap.size := ltb h.blk
theorem chg {S : Nat → Prop} (h : CAt w g s A c) (hc : Chg S w w') (hs : ∀ k, g ≤ k → k < w.heap.size → ¬ S k) : CAt w' g s A c :=
  ⟨(hc.block g h.glt (hs g (Nat.le_refl _) h.glt)).trans h.blk, hc.own h.own (fun k hk => by have := h.own.lt k hk; exact hs k (by omega) this.2)⟩
theorem below (h : CAt w g s A c) (hb : Below w.heap.size w w') : CAt w' g s A c := h.chg (Chg.of_below (S := fun _ => False) hb) (fun _ _ _ h => h)
theorem re {s' : Ct} (h : CAt w g s A c) (hc : Chg (fun k => k = g) w w') (hb : w'.heap[g]? = some (.cells #[.int .i64 s'.id, .int .i64 s'.seq, .int .i64 s'.epoch, .bool s'.asks, .bool s'.sent, .int .i64 s'.at_, .slice A s'.body.length c] 90 (0, 0))) (e : s'.body = s.body) : CAt w' g s' A c :=
  ⟨hb, by rw [e]; exact hc.own h.own (fun k hk e => by have := (h.own.lt k hk).1; omega)⟩
end CAt
theorem chg_g (g i : Nat) (w : World) (v : Value) : Chg (fun k => k = g) w (w.setCell ⟨g, i, none⟩ v) := (Chg.refl (fun k => k = g) w).setCell (p := ⟨g, i, none⟩) (.inr rfl) v

theorem newc_any (id : Int) (w : World) (h1 : 1 ≤ id) (h2 : id ≤ 16) : Calls Try.prog 15 #[.int .i64 id] w fun e w' => e = .returned (.pointer (some ⟨w.heap.size, 0, none⟩)) ∧ CAt w' w.heap.size ⟨id, 0, 0, false, false, 0, []⟩ none 0 ∧ Below w.heap.size w w' := by
  have hc : CAt (w.alloc (.cells #[.int .i64 id, .int .i64 0, .int .i64 0, .bool false, .bool false, .int .i64 0, .slice none 0 0] 90)) w.heap.size ⟨id, 0, 0, false, false, 0, []⟩ none 0 := ⟨heap_alloc_new w _, World.ownsRow_nil _ _ _ _⟩
  have HC := Lib.hid hc
  have HB := Lib.hid ((Below.refl w.heap.size w).alloc (Nat.le_refl _) (.cells #[.int .i64 id, .int .i64 0, .int .i64 0, .bool false, .bool false, .int .i64 0, .slice none 0 0] 90))
  have n1 : ¬ id < 1 := by omega
  have n2 : ¬ 16 < id := by omega
  clear hc
  go_enter Try.func15, Try.ntmps15
  go_wp2_with fail
  go_ret
  exact ⟨rfl, HC.out, HB.out⟩
theorem newc_no (id : Int) (w : World) (h : id < 1 ∨ 16 < id) : Calls Try.prog 15 #[.int .i64 id] w fun e w' => e = .returned (.pointer none) ∧ w = w' := by
  rcases Classical.em (id < 1) with h1 | h1
  · clear h
    go_enter Try.func15, Try.ntmps15
    go_wp2_with fail
    go_ret
    exact ⟨rfl, rfl⟩
  · have h2 : 16 < id := by omega
    clear h
    go_enter Try.func15, Try.ntmps15
    go_wp2_with fail
    go_ret
    exact ⟨rfl, rfl⟩
set_option maxRecDepth 100000 in
/-- Bytes of one's own. -/
theorem clone_any (A : Option Addr) (c n : Nat) (l : List UInt8) (w : World) (h : BytesIn w w.heap.size A c l) (hn : n = l.length) (h5 : n ≤ 5000) :
    Calls Try.prog 32 #[.slice A n c] w fun e w' => ∃ A' c', e = .returned (.slice A' n c') ∧ w'.ownsRow w.heap.size 5 1 (.slice A' n c') n (cells8 l) ∧ Below w.heap.size w w' := by
  have HB := Lib.hid h
  have HN := Lib.hid hn
  obtain ⟨i5, hi, hz0, hz1, hz2⟩ := i5p
  cases A with
  | none =>
    have hl : l = [] := by
      rcases h.rd with e | ⟨_, _, e, _⟩
      · exact e
      · cases e
    subst hl
    have HN0 : Hid (n = 0) := Lib.hid hn
    clear h HB HN hi hz0 hz1 hz2 hn
    have hq : ∀ w, (Go.binOp .eql 31 (.slice none n c) (.slice none 0 0)).run Try.prog w = .ok (.bool true) w := fun w => eql_nil none n c w
    go_enter Try.func32, Try.ntmps32
    go_wp2_with fail
    go_ret
    refine ⟨none, 0, by rw [HN0.out]; rfl, ?_, Below.refl _ _⟩
    rw [HN0.out]; exact World.ownsRow_nil _ _ _ _
  | some a =>
    have hcap := h.cap
    have hle := h.le
    have ow0 : (w.alloc (.cells #[] 5)).ownsRow w.heap.size 5 1 (.slice (some ⟨w.heap.size, 0, none⟩) 0 0) 0 (cells8 []) := own_alloc w #[] 5 1 0 _ rfl (by unfold maxLen; omega) (Nat.le_refl _)
    have OW0 := Lib.hid ow0
    have HBA := Lib.hid ((Below.refl w.heap.size w).alloc (Nat.le_refl _) (.cells #[] 5))
    have hsa : w.heap.size ≤ (w.alloc (.cells #[] 5)).heap.size := by simp
    have HSA := Lib.hid hsa
    clear ow0 hsa h hn
    have hq : ∀ w, (Go.binOp .eql 31 (.slice (some a) n c) (.slice none 0 0)).run Try.prog w = .ok (.bool false) w := fun w => eql_nil (some a) n c w
    go_enter Try.func32, Try.ntmps32
    go_wp2_with (at_builtin; refine wpList_append_row _ rfl (.tmp 5) (.tmp 6) _ rfl w.heap.size 5 i5 _ 1 1 Try.underlying31 hi hz0 hz1 hz2 rfl (by omega) (some ⟨w.heap.size, 0, none⟩) 0 0 (cells8 []) rfl OW0.out _ (some a) n c (cells8 l) rfl ((HB.out.below HBA.out (Nat.le_refl _)).cellsN HN.out) (cells8_one _) (by unfold maxLen; have := HN.out; omega) (by have := HN.out; omega) HSA.out ?_; intro A8 c8 w8 hown8 hg8 _; have HB8 := Lib.hid (HBA.out.grown hg8 HSA.out (fun q hq => (OW0.out.lt q hq).1)); have HO8 := Lib.hid (own_norm hown8); clear hown8 hg8)
    go_ret
    exact ⟨A8, c8, by simp, HO8.out, HB8.out⟩

def askE (s : Ct) (n : Nat) : Int := if s.asks then 100 else if 4096 < n ∨ 1099511627776 ≤ s.seq then 2 else 0
def askD (s : Ct) (b : List UInt8) : Ct := if askE s b.length = 0 then { s with seq := s.seq + 1, asks := true, sent := false, body := b } else s
theorem BytesIn.chg' {S : Nat → Prop} {w w' : World} {B c : Nat} {A : Option Addr} {l : List UInt8} (h : BytesIn w B A c l) (hB : B ≤ w.heap.size) (hc : Chg S w w') (hs : l ≠ [] → ∀ ad, A = some ad → ¬ S ad.block) : BytesIn w' B A c l := by
  refine ⟨h.le, h.cap, ?_⟩
  rcases h.rd with e | ⟨b, off, e, hlt, hr⟩
  · exact .inl e
  · by_cases hl : l = []
    · exact .inl hl
    · exact .inr ⟨b, off, e, hlt, fun i hi => by
        have hb := hc.block b (by omega) (hs hl _ e)
        have e2 : w'.cell? ⟨b, off + i, none⟩ = w.cell? ⟨b, off + i, none⟩ := by simp [World.cell?, hb]
        rw [e2]; exact hr i hi⟩
set_option maxRecDepth 100000 in
set_option maxHeartbeats 1000000 in
theorem ask_any (g n : Nat) (s : Ct) (A : Option Addr) (c : Nat) (B : Option Addr) (cb : Nat) (b : List UInt8) (w : World) (h : CAt w g s A c) (hb : BytesIn w w.heap.size B cb b) (hn : n = b.length) (hne : b ≠ [] → ∀ ad, B = some ad → ad.block ≠ g) (hs0 : 0 ≤ s.seq) :
    Calls Try.prog 17 #[.pointer (some ⟨g, 0, none⟩), .slice B n cb] w fun e w' => e = .returned (.int .i64 (askE s n)) ∧ ∃ A' c', CAt w' g (askD s b) A' c' ∧ Chg (fun k => k = g) w w' := by
  have hgl := h.glt
  obtain ⟨id, seq, epoch, asks, sent, at_, body⟩ := s
  have c0 := cellb (i := 0) h.blk rfl
  have c1 := cellb (i := 1) h.blk rfl
  have c2 := cellb (i := 2) h.blk rfl
  have c3 := cellb (i := 3) h.blk rfl
  have c4 := cellb (i := 4) h.blk rfl
  have c5 := cellb (i := 5) h.blk rfl
  have c6 := cellb (i := 6) h.blk rfl
  have f1 := fzb h.blk 1
  have f3 := fzb h.blk 3
  have f4 := fzb h.blk 4
  have f6 := fzb h.blk 6
  simp only at c0 c1 c2 c3 c4 c5 c6 hs0
  have HB := Lib.hid hb
  have HN := Lib.hid hn
  have HNE := Lib.hid hne
  have HC := Lib.hid h
  clear h hb hn hne
  cases asks
  rotate_left
  · have HE : Hid (askE ⟨id, seq, epoch, true, sent, at_, body⟩ n = 100) := Lib.hid rfl
    have HD : Hid (askD ⟨id, seq, epoch, true, sent, at_, body⟩ b = ⟨id, seq, epoch, true, sent, at_, body⟩) := Lib.hid (by unfold askD; rw [if_neg]; simp [askE])
    go_enter Try.func17, Try.ntmps17
    go_wp2_with fail
    go_ret
    first
    | exact ⟨by rw [HE.out]; rfl, A, c, by rw [HD.out]; exact HC.out, Chg.refl _ _⟩
    | exact ⟨by rw [HE.out]; rfl, ⟨A, c, by rw [HD.out]; exact HC.out⟩, Chg.refl _ _⟩
  rcases Classical.em (4096 < n) with h1 | h1
  · have HE : Hid (askE ⟨id, seq, epoch, false, sent, at_, body⟩ n = 2) := Lib.hid (by simp [askE, h1])
    have HD : Hid (askD ⟨id, seq, epoch, false, sent, at_, body⟩ b = ⟨id, seq, epoch, false, sent, at_, body⟩) := Lib.hid (by unfold askD; rw [if_neg]; rw [← HN.out, HE.out]; decide)
    have h1' : (4096 : Int) < (n : Int) := by omega
    go_enter Try.func17, Try.ntmps17
    go_wp2_with fail
    go_ret
    first
    | exact ⟨by rw [HE.out]; rfl, A, c, by rw [HD.out]; exact HC.out, Chg.refl _ _⟩
    | exact ⟨by rw [HE.out]; rfl, ⟨A, c, by rw [HD.out]; exact HC.out⟩, Chg.refl _ _⟩
  rcases Classical.em (1099511627776 ≤ seq) with h2 | h2
  · have HE : Hid (askE ⟨id, seq, epoch, false, sent, at_, body⟩ n = 2) := Lib.hid (by simp [askE, h2])
    have HD : Hid (askD ⟨id, seq, epoch, false, sent, at_, body⟩ b = ⟨id, seq, epoch, false, sent, at_, body⟩) := Lib.hid (by unfold askD; rw [if_neg]; rw [← HN.out, HE.out]; decide)
    have h1' : ¬ (4096 : Int) < (n : Int) := by omega
    go_enter Try.func17, Try.ntmps17
    go_wp2_with fail
    go_ret
    first
    | exact ⟨by rw [HE.out]; rfl, A, c, by rw [HD.out]; exact HC.out, Chg.refl _ _⟩
    | exact ⟨by rw [HE.out]; rfl, ⟨A, c, by rw [HD.out]; exact HC.out⟩, Chg.refl _ _⟩
  · have HE : Hid (askE ⟨id, seq, epoch, false, sent, at_, body⟩ n = 0) := Lib.hid (by simp [askE, h1, h2])
    have HD : Hid (askD ⟨id, seq, epoch, false, sent, at_, body⟩ b = ⟨id, seq + 1, epoch, true, false, at_, b⟩) := Lib.hid (by unfold askD; rw [if_pos]; rw [← HN.out, HE.out])
    have h1' : ¬ (4096 : Int) < (n : Int) := by omega
    obtain ⟨W, hW⟩ : ∃ W, W = ((w.setCell ⟨g, 1, none⟩ (.int .i64 (seq + 1))).setCell ⟨g, 3, none⟩ (.bool true)).setCell ⟨g, 4, none⟩ (.bool false) := ⟨_, rfl⟩
    have hch : Chg (fun k => k = g) w W := by rw [hW]; exact ((chg_g g 1 w _).trans (chg_g g 3 _ _)).trans (chg_g g 4 _ _)
    have hblk : W.heap[g]? = some (.cells #[.int .i64 id, .int .i64 (seq + 1), .int .i64 epoch, .bool true, .bool false, .int .i64 at_, .slice A body.length c] 90 (0, 0)) := by
      rw [hW]; simp [World.setCell, Array.getElem?_modify, HC.out.blk]
    have hcl := clone_any B cb n b W ((HB.out.chg' (Nat.le_refl _) hch (fun hb ad e => HNE.out hb ad e)).more hch.size) HN.out (by omega)
    have HCL := Lib.hid hcl
    have HCH := Lib.hid hch
    have HBK := Lib.hid hblk
    clear hch hblk hcl
    go_enter Try.func17, Try.ntmps17
    go_wp2_with fail
    rw [← hW]
    clear hW
    refine HCL.out.mono ?_
    clear HCL
    rintro e w5 ⟨A5, c5', rfl, ho, hb5⟩
    have hb5g := hb5.block g (ltb HBK.out)
    have k6 := cellb (i := 6) (hb5g.trans HBK.out) rfl
    have kf6 := fzb (hb5g.trans HBK.out) 6
    have hfin : CAt (w5.setCell ⟨g, 6, none⟩ (.slice A5 n c5')) g ⟨id, seq + 1, epoch, true, false, at_, b⟩ A5 c5' := by
      refine ⟨?_, ?_⟩
      · have hx := hb5g.trans HBK.out
        simp [World.setCell, Array.getElem?_modify, hx, ← HN.out]
      · have ho' := own_low (base' := g + 1) ho (by have := HCH.out.size; omega)
        rw [← HN.out]
        exact (chg_g g 6 w5 _).own ho' (fun k hk e => by have := (ho'.lt k hk).1; omega)
    have HFIN := Lib.hid hfin
    have HCF := Lib.hid ((HCH.out.trans (Chg.of_below (S := fun k => k = g) hb5)).trans (chg_g g 6 w5 (.slice A5 n c5')))
    clear ho hb5 hb5g hfin
    clear c0 c1 c2 c3 c4 c5 c6 f1 f3 f4 f6
    go_wp2_with fail
    go_ret
    exact ⟨by rw [HE.out]; rfl, A5, c5', by rw [HD.out]; exact HFIN.out, HCF.out⟩

end Go.Proofs.Ytlcbpodjmafoeaa
