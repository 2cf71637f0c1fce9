/- An act over both: a disk and the document's. -/
import Derived.Test.YtpkefkoimlecjaaDoorRefC
import Derived.Test.YtpkefkoimlecjaaDoorCommit2
import Derived.Test.YtpkefkoimlecjaaDoorActs
namespace Go.Proofs.YtpkefkoimlecjaaDoor
open Go.RowKit

def av (a : Ac) : Value := .agg #[.int .i64 a.kind, .bool a.near, .int .i64 a.ep, .int .i64 a.at_, .slice a.ba a.b.length a.bc, .int .u32 a.sum, .int .i64 a.o.e, .int .i64 a.o.h, .int .i64 a.o.u, .int .i64 a.c.e, .int .i64 a.c.h, .int .i64 a.c.u]
theorem Foot.top {w W w1 : World} {g : Nat} {d : Dk} {y y' : Lay} (h : DiskAt w g d y) (F : Foot g y y' W w1) (k : Nat) (hk : w.heap.size ≤ k) (hW : k < W.heap.size) : w1.heap[k]? = W.heap[k]? :=
  (F.keep hW (by have := h.glt; omega) (fun e => by have := (h.lbl k e).2; omega)).1
theorem cellb {w : World} {b i : Nat} {cs : Array Value} {t : TypeId} {f : Nat × Nat} {v : Value} (h : w.heap[b]? = some (.cells cs t f)) (hv : cs[i]? = some v) : w.cell? ⟨b, i, none⟩ = some v := by simp [World.cell?, h, hv]
theorem heap3 (w : World) (X Y Z : Obj) : (((w.alloc X).alloc Y).alloc Z).heap[w.heap.size]? = some X ∧ (((w.alloc X).alloc Y).alloc Z).heap[w.heap.size + 1]? = some Y ∧ (((w.alloc X).alloc Y).alloc Z).heap[w.heap.size + 1 + 1]? = some Z ∧ (((w.alloc X).alloc Y).alloc Z).heap.size = w.heap.size + 3 := by
  have e : (((w.alloc X).alloc Y).alloc Z).heap = ((w.heap.push X).push Y).push Z := rfl
  rw [e]
  refine ⟨?_, ?_, ?_, by simp⟩
  · rw [Array.getElem?_push, if_neg (by simp; omega), Array.getElem?_push, if_neg (by simp), Array.getElem?_push, if_pos rfl]
  · rw [Array.getElem?_push, if_neg (by simp), Array.getElem?_push, if_pos (by simp)]
  · rw [Array.getElem?_push, if_pos (by simp)]
theorem boxes {w w1 : World} {g : Nat} {d : Dk} {y y' : Lay} {X Y Z : Obj} (h : DiskAt w g d y) (F : Foot g y y' (((w.alloc X).alloc Y).alloc Z) w1) : w1.heap[w.heap.size]? = some X ∧ w1.heap[w.heap.size + 1]? = some Y ∧ w1.heap[w.heap.size + 1 + 1]? = some Z ∧ w.heap.size + 3 ≤ w1.heap.size := by
  obtain ⟨a, b, c, e⟩ := heap3 w X Y Z
  refine ⟨(Foot.top h F _ (Nat.le_refl _) (by omega)).trans a, (Foot.top h F _ (by omega) (by omega)).trans b, (Foot.top h F _ (by omega) (by omega)).trans c, ?_⟩
  have := F.ch.size
  omega
theorem boxesD {w w1 : World} {g : Nat} {d : Dk} {y y' : Lay} {X Y Z O : Obj} (h : DiskAt w g d y) (F : Foot g y y' ((((w.alloc X).alloc Y).alloc Z).drew.alloc O) w1) : w1.heap[w.heap.size]? = some X ∧ w1.heap[w.heap.size + 1]? = some Y ∧ w1.heap[w.heap.size + 1 + 1]? = some Z ∧ w.heap.size + 3 ≤ w1.heap.size := by
  obtain ⟨a, b, c, e⟩ := heap3 w X Y Z
  have k : ∀ i, i < w.heap.size + 3 → ((((w.alloc X).alloc Y).alloc Z).drew.alloc O).heap[i]? = (((w.alloc X).alloc Y).alloc Z).heap[i]? := fun i hi =>
    Below.heap_alloc (((w.alloc X).alloc Y).alloc Z).drew O i (by show i < (((w.alloc X).alloc Y).alloc Z).heap.size; omega)
  have es : ((((w.alloc X).alloc Y).alloc Z).drew.alloc O).heap.size = w.heap.size + 4 := by
    show ((((w.alloc X).alloc Y).alloc Z).heap.push O).size = _
    rw [Array.size_push, e]
  refine ⟨(Foot.top h F _ (Nat.le_refl _) (by omega)).trans ((k _ (by omega)).trans a), (Foot.top h F _ (by omega) (by omega)).trans ((k _ (by omega)).trans b), (Foot.top h F _ (by omega) (by omega)).trans ((k _ (by omega)).trans c), ?_⟩
  have := F.ch.size
  omega
theorem fzb {w : World} {b : Nat} {cs : Array Value} {t : TypeId} (h : w.heap[b]? = some (.cells cs t (0, 0))) (i : Nat) : w.frozen? ⟨b, i, none⟩ = false := by simp [World.frozen?, h]
def DonePost (g : Nat) (y : Lay) (w : World) (e : Ending) (w' : World) : Prop := ∃ d' y', e = .returned (.tuple #[rv d', .bool true]) ∧ DiskAt w' g d' y' ∧ Foot g y y' w w'
/-- The act's box of answers is none of the disk's blocks. -/
theorem DiskAt.box {w w' : World} {g b : Nat} {d : Dk} {y : Lay} {cs : Array Value} {f : Nat × Nat} (h : DiskAt w g d y) (hb : w.heap[b]? = some (.cells cs 43 f)) (hg : g < b) (hc : Chg (fun k => k = b) w w') : DiskAt w' g d y := by
  have key : ∀ {A : Option Addr} {n c : Nat} {l : List UInt8}, w.ownsRow (g + 1) 5 1 (.slice A n c) n (cells8 l) → w'.ownsRow (g + 1) 5 1 (.slice A n c) n (cells8 l) := fun ho => hc.own ho (fun k hk e => by
    obtain ⟨cur, f', h'⟩ := own_elem ho hk
    rw [e, hb] at h'
    injection h' with h'
    injection h' with _ h2 _
    exact absurd h2 (by decide))
  exact ⟨(hc.block g h.glt (by omega)).trans h.blk, key h.l, key h.s, key h.t, h.ls, h.lt, h.r, h.ll, h.sl, h.tl⟩
theorem donePost {g b : Nat} {y y1 : Lay} {w W w1 w3 : World} {d d' : Dk} {cs : Array Value} {f : Nat × Nat} (h : DiskAt w g d y) (hW : Foot g y y w W) (F : Foot g y y1 W w1) (hd : DiskAt w1 g d' y1) (hb : w1.heap[b]? = some (.cells cs 43 f)) (hbw : w.heap.size ≤ b) (hc : Chg (fun k => k = b) w1 w3) : DonePost g y w (.returned (.tuple #[rv d', .bool true])) w3 := by
  have hgl := h.glt
  refine ⟨d', y1, rfl, hd.box hb (by omega) hc, ?_⟩
  have T := hW.trans F
  exact ⟨⟨hc.os.trans T.ch.os, hc.tape.trans T.ch.tape, hc.output.trans T.ch.output, Nat.le_trans T.ch.size hc.size, fun k hk hn => (hc.block k (Nat.lt_of_lt_of_le hk T.ch.size) (by omega)).trans (T.ch.block k hk hn)⟩, T.lb⟩
end Go.Proofs.YtpkefkoimlecjaaDoor
