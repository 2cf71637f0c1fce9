/- An act over both, whole; the document's disk in a box. -/
import Derived.Test.YtpkefkoimlecjaaDoorDoneA
import Derived.Test.YtpkefkoimlecjaaDoorDoneB
import Derived.Test.YtpkefkoimlecjaaDoorDoneC
import Derived.Test.YtpkefkoimlecjaaDoorDoneD
import Derived.Test.YtpkefkoimlecjaaDoorDoneE
import Derived.Test.YtpkefkoimlecjaaDoorDoneF
import Derived.Test.YtpkefkoimlecjaaDoorDoneG
import Derived.Test.YtpkefkoimlecjaaDoorDoneH
namespace Go.Proofs.YtpkefkoimlecjaaDoor
open Go.RowKit

theorem and7 (p : Int) : ∃ K : Nat, K < 8 ∧ bits .and .i64 p 7 = (K : Int) := by
  have h : ∃ b : Nat, bits .and .i64 p 7 = IntKind.i64.wrap ((b % 8 : Nat) : Int) := by
    refine ⟨(BitVec.ofInt 64 p).toNat, ?_⟩
    show IntKind.i64.wrap ((BitVec.ofInt 64 p &&& BitVec.ofInt 64 7).toNat : Int) = _
    have e : (BitVec.ofInt 64 7).toNat = 7 := by decide
    rw [BitVec.toNat_and, e]
    congr 2
    exact Nat.and_two_pow_sub_one_eq_mod _ 3
  obtain ⟨b, hb⟩ := h
  refine ⟨b % 8, Nat.mod_lt _ (by omega), ?_⟩
  rw [hb, IntKind.wrap_i64]
  omega

theorem done_any (g B : Nat) (d : Dk) (y : Lay) (a : Ac) (w : World) (h : DiskAt w g d y) (hby : BytesIn w B a.ba a.bc a.b) (hBg : B ≤ g) (hbl : a.b.length ≤ 2000) (hh : Hal w) :
    Calls Tryd.prog 19 #[.pointer (some ⟨g, 0, none⟩), rv d, av a] w (DonePost g y w) := by
  obtain ⟨kind, near, ep, at_, ba, bc, b, sum, o, c⟩ := a
  obtain ⟨K, hK, e⟩ := and7 kind
  rcases near with _ | _
  · rcases (show K = 0 ∨ K = 1 ∨ K = 2 ∨ K = 3 ∨ K = 4 ∨ K = 5 ∨ K = 6 ∨ K = 7 by omega) with rfl | rfl | rfl | rfl | rfl | rfl | rfl | rfl
    · exact done_0 g B d y kind ep at_ sum ba bc b o c w h e hby hBg hbl hh
    · exact done_1 g B d y kind ep at_ sum ba bc b o c w h e hby hBg hbl hh
    · exact done_2 g B d y kind ep at_ sum ba bc b o c w h e hby hBg hbl hh
    · exact done_3 g B d y kind ep at_ sum ba bc b o c w h e hby hBg hbl hh
    · exact done_4 g B d y kind ep at_ sum ba bc b o c w h e hby hBg hbl hh
    · exact done_5 g B d y kind ep at_ sum ba bc b o c w h e hby hBg hbl hh
    · exact done_6 g B d y kind ep at_ sum ba bc b o c w h e hby hBg hbl hh
    · exact done_7 g B d y kind ep at_ sum ba bc b o c w h e hby hBg hbl hh
  · rcases (show K = 0 ∨ K = 1 ∨ K = 2 ∨ K = 3 ∨ K = 4 ∨ K = 5 ∨ K = 6 ∨ K = 7 by omega) with rfl | rfl | rfl | rfl | rfl | rfl | rfl | rfl
    · exact done_0n g B d y kind ep at_ sum ba bc b o c w h e hby hBg hbl hh
    · exact done_1n g B d y kind ep at_ sum ba bc b o c w h e hby hBg hbl hh
    · exact done_2n g B d y kind ep at_ sum ba bc b o c w h e hby hBg hbl hh
    · exact done_3n g B d y kind ep at_ sum ba bc b o c w h e hby hBg hbl hh
    · exact done_4n g B d y kind ep at_ sum ba bc b o c w h e hby hBg hbl hh
    · exact done_5n g B d y kind ep at_ sum ba bc b o c w h e hby hBg hbl hh
    · exact done_6n g B d y kind ep at_ sum ba bc b o c w h e hby hBg hbl hh
    · exact done_7n g B d y kind ep at_ sum ba bc b o c w h e hby hBg hbl hh

def BoxAt (w : World) (p : Nat) (d : Dk) : Prop := w.heap[p]? = some (.cells #[.int .i64 (d.room : Int), .int .i64 d.c.e, .int .i64 d.c.h, .int .i64 d.c.u, .string (str d.log), .string (str d.snap), .string (str d.staged), .bool d.cut, .int .i64 d.at_] 43 (0, 0))
theorem set9 {w : World} {p : Nat} {u0 u1 u2 u3 u4 u5 u6 u7 u8 : Value} (h : w.heap[p]? = some (.cells #[u0, u1, u2, u3, u4, u5, u6, u7, u8] 43 (0, 0))) (v0 v1 v2 v3 v4 v5 v6 v7 v8 : Value) : ((((((((((w.setCell ⟨p, 0, none⟩ v0).setCell ⟨p, 1, none⟩ v1).setCell ⟨p, 2, none⟩ v2).setCell ⟨p, 3, none⟩ v3).setCell ⟨p, 4, none⟩ v4).setCell ⟨p, 5, none⟩ v5).setCell ⟨p, 6, none⟩ v6).setCell ⟨p, 7, none⟩ v7).setCell ⟨p, 8, none⟩ v8)).heap[p]? = some (.cells #[v0, v1, v2, v3, v4, v5, v6, v7, v8] 43 (0, 0)) := by
  simp [World.setCell, Array.getElem?_modify, h]
theorem BoxAt.glt {w : World} {p : Nat} {d : Dk} (h : BoxAt w p d) : p < w.heap.size := (Array.getElem?_eq_some_iff.1 h).1
theorem BoxAt.lb {w : World} {p g : Nat} {d d' : Dk} {y : Lay} (h : BoxAt w p d) (hd : DiskAt w g d' y) : y.lb ≠ some p := fun e => by
  obtain ⟨cur, f', h'⟩ := own_elem hd.l (k := p) (by rw [ownBlock_map]; exact e)
  rw [h] at h'
  injection h' with h'
  injection h' with _ h2 _
  exact absurd h2 (by decide)
theorem BoxAt.foot {w w' : World} {p g : Nat} {d d' : Dk} {y y' : Lay} (h : BoxAt w p d) (hd : DiskAt w g d' y) (hg : p ≠ g) (F : Foot g y y' w w') : BoxAt w' p d :=
  (F.keep h.glt hg (h.lb hd)).1.trans h
theorem BoxAt.below {w w' : World} {p B : Nat} {d : Dk} (h : BoxAt w p d) (hb : Below B w w') (hp : p < B) : BoxAt w' p d := (hb.block p hp).trans h
theorem BoxAt.cells {w : World} {p : Nat} {d : Dk} (h : BoxAt w p d) : (w.cell? ⟨p, 0, none⟩ = some (.int .i64 (d.room : Int))) ∧ (w.cell? ⟨p, 1, none⟩ = some (.int .i64 d.c.e)) ∧ (w.cell? ⟨p, 2, none⟩ = some (.int .i64 d.c.h)) ∧ (w.cell? ⟨p, 3, none⟩ = some (.int .i64 d.c.u)) ∧ (w.cell? ⟨p, 4, none⟩ = some (.string (str d.log))) ∧ (w.cell? ⟨p, 5, none⟩ = some (.string (str d.snap))) ∧ (w.cell? ⟨p, 6, none⟩ = some (.string (str d.staged))) ∧ (w.cell? ⟨p, 7, none⟩ = some (.bool d.cut)) ∧ (w.cell? ⟨p, 8, none⟩ = some (.int .i64 d.at_)) ∧ (∀ i, w.frozen? ⟨p, i, none⟩ = false) :=
  ⟨cellb h rfl, cellb h rfl, cellb h rfl, cellb h rfl, cellb h rfl, cellb h rfl, cellb h rfl, cellb h rfl, cellb h rfl, fzb h⟩
theorem BoxAt.cellsA {w : World} {p : Nat} {d : Dk} (h : BoxAt w p d) : (∀ O, (w.alloc O).cell? ⟨p, 0, none⟩ = some (.int .i64 (d.room : Int))) ∧ (∀ O, (w.alloc O).cell? ⟨p, 1, none⟩ = some (.int .i64 d.c.e)) ∧ (∀ O, (w.alloc O).cell? ⟨p, 2, none⟩ = some (.int .i64 d.c.h)) ∧ (∀ O, (w.alloc O).cell? ⟨p, 3, none⟩ = some (.int .i64 d.c.u)) ∧ (∀ O, (w.alloc O).cell? ⟨p, 4, none⟩ = some (.string (str d.log))) ∧ (∀ O, (w.alloc O).cell? ⟨p, 5, none⟩ = some (.string (str d.snap))) ∧ (∀ O, (w.alloc O).cell? ⟨p, 6, none⟩ = some (.string (str d.staged))) ∧ (∀ O, (w.alloc O).cell? ⟨p, 7, none⟩ = some (.bool d.cut)) ∧ (∀ O, (w.alloc O).cell? ⟨p, 8, none⟩ = some (.int .i64 d.at_)) ∧ (∀ O i, (w.alloc O).frozen? ⟨p, i, none⟩ = false) := by
  have k : ∀ O, BoxAt (w.alloc O) p d := fun O => h.below ((Below.refl w.heap.size w).alloc (Nat.le_refl _) O) h.glt
  exact ⟨fun O => cellb (k O) rfl, fun O => cellb (k O) rfl, fun O => cellb (k O) rfl, fun O => cellb (k O) rfl, fun O => cellb (k O) rfl, fun O => cellb (k O) rfl, fun O => cellb (k O) rfl, fun O => cellb (k O) rfl, fun O => cellb (k O) rfl, fun O => fzb (k O)⟩
theorem newbox {w w1 : World} {g : Nat} {d : Dk} {y y' : Lay} (h : DiskAt w g d y) (F : Foot g y y' (w.drew.alloc (.cells #[.int .i64 0, .int .i64 0, .int .i64 0, .int .i64 0, .string ⟨#[]⟩, .string ⟨#[]⟩, .string ⟨#[]⟩, .bool false, .int .i64 0] 43)) w1) : (w1.cell? ⟨w.heap.size, 0, none⟩ = some (.int .i64 0)) ∧ (w1.cell? ⟨w.heap.size, 1, none⟩ = some (.int .i64 0)) ∧ (w1.cell? ⟨w.heap.size, 2, none⟩ = some (.int .i64 0)) ∧ (w1.cell? ⟨w.heap.size, 3, none⟩ = some (.int .i64 0)) ∧ (w1.cell? ⟨w.heap.size, 4, none⟩ = some (.string ⟨#[]⟩)) ∧ (w1.cell? ⟨w.heap.size, 5, none⟩ = some (.string ⟨#[]⟩)) ∧ (w1.cell? ⟨w.heap.size, 6, none⟩ = some (.string ⟨#[]⟩)) ∧ (w1.cell? ⟨w.heap.size, 7, none⟩ = some (.bool false)) ∧ (w1.cell? ⟨w.heap.size, 8, none⟩ = some (.int .i64 0)) ∧ (∀ i, w1.frozen? ⟨w.heap.size, i, none⟩ = false) := by
  have k : w1.heap[w.heap.size]? = some (.cells #[.int .i64 0, .int .i64 0, .int .i64 0, .int .i64 0, .string ⟨#[]⟩, .string ⟨#[]⟩, .string ⟨#[]⟩, .bool false, .int .i64 0] 43 (0, 0)) := (Foot.top h F w.heap.size (Nat.le_refl _) (by simp)).trans (heap_alloc_new w.drew _)
  exact ⟨cellb k rfl, cellb k rfl, cellb k rfl, cellb k rfl, cellb k rfl, cellb k rfl, cellb k rfl, cellb k rfl, cellb k rfl, fzb k⟩
abbrev st9 (w : World) (p : Nat) (d : Dk) : World := (((((((((w.setCell ⟨p, 0, none⟩ (.int .i64 (d.room : Int))).setCell ⟨p, 1, none⟩ (.int .i64 d.c.e)).setCell ⟨p, 2, none⟩ (.int .i64 d.c.h)).setCell ⟨p, 3, none⟩ (.int .i64 d.c.u)).setCell ⟨p, 4, none⟩ (.string (str d.log))).setCell ⟨p, 5, none⟩ (.string (str d.snap))).setCell ⟨p, 6, none⟩ (.string (str d.staged))).setCell ⟨p, 7, none⟩ (.bool d.cut)).setCell ⟨p, 8, none⟩ (.int .i64 d.at_))
theorem st9_chg (w : World) (p : Nat) (d : Dk) : Chg (fun k => k = p) w (st9 w p d) :=
  (((((((((Chg.refl (fun k => k = p) w|>.setCell (p := ⟨p, 0, none⟩) (.inr rfl) _)|>.setCell (p := ⟨p, 1, none⟩) (.inr rfl) _)|>.setCell (p := ⟨p, 2, none⟩) (.inr rfl) _)|>.setCell (p := ⟨p, 3, none⟩) (.inr rfl) _)|>.setCell (p := ⟨p, 4, none⟩) (.inr rfl) _)|>.setCell (p := ⟨p, 5, none⟩) (.inr rfl) _)|>.setCell (p := ⟨p, 6, none⟩) (.inr rfl) _)|>.setCell (p := ⟨p, 7, none⟩) (.inr rfl) _)|>.setCell (p := ⟨p, 8, none⟩) (.inr rfl) _)
theorem st9_below {w : World} {p B : Nat} (d : Dk) (h : B ≤ p) (hw : B ≤ w.heap.size) : Below B w (st9 w p d) := (st9_chg w p d).below hw (fun k hk e => by omega)
theorem st9_box {w : World} {p : Nat} {u0 u1 u2 u3 u4 u5 u6 u7 u8 : Value} (h : w.heap[p]? = some (.cells #[u0, u1, u2, u3, u4, u5, u6, u7, u8] 43 (0, 0))) (d : Dk) : BoxAt (st9 w p d) p d := set9 h _ _ _ _ _ _ _ _ _
theorem end1 {w : World} {g p : Nat} {d d' : Dk} {y : Lay} (hd : DiskAt w g d' y) (hx : BoxAt w p d) (hg : g < p) : DiskAt (st9 w p d') g d' y ∧ BoxAt (st9 w p d') p d' :=
  ⟨hd.box hx hg (st9_chg w p d'), st9_box hx d'⟩
theorem newboxH {w w1 : World} {g : Nat} {d : Dk} {y y' : Lay} (h : DiskAt w g d y) (F : Foot g y y' (w.drew.alloc (.cells #[.int .i64 0, .int .i64 0, .int .i64 0, .int .i64 0, .string ⟨#[]⟩, .string ⟨#[]⟩, .string ⟨#[]⟩, .bool false, .int .i64 0] 43)) w1) : w1.heap[w.heap.size]? = some (.cells #[.int .i64 0, .int .i64 0, .int .i64 0, .int .i64 0, .string ⟨#[]⟩, .string ⟨#[]⟩, .string ⟨#[]⟩, .bool false, .int .i64 0] 43 (0, 0)) :=
  (Foot.top h F w.heap.size (Nat.le_refl _) (by simp)).trans (heap_alloc_new w.drew _)
theorem end2 {w : World} {g p b : Nat} {d d' : Dk} {y : Lay} {u0 u1 u2 u3 u4 u5 u6 u7 u8 : Value} (hd : DiskAt w g d' y) (hx : BoxAt w p d) (hn : w.heap[b]? = some (.cells #[u0, u1, u2, u3, u4, u5, u6, u7, u8] 43 (0, 0))) (hg : g < p) (hgb : g < b) (hpb : p ≠ b) : DiskAt (st9 (st9 w b d') p d') g d' y ∧ BoxAt (st9 (st9 w b d') p d') p d' := by
  have C := st9_chg w b d'
  exact end1 (hd.box hn hgb C) ((C.block p hx.glt hpb).trans hx) hg
end Go.Proofs.YtpkefkoimlecjaaDoor
