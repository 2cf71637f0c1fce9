/- What is unpacked out of bytes. -/
import Derived.Test.YtkenaoejijpgpaaDoorPkt
import Derived.Test.YtkenaoejijpgpaaDoorFrmB
import Derived.Test.YtkenaoejijpgpaaDoorRdC
import Derived.Laws.ResultCell
import Derived.Laws.Tables
import Derived.Deep.WholeRow
import Derived.Laws.IdiomStrings
import Derived.Deep.AppendSrc
namespace Go.Proofs.YtkenaoejijpgpaaDoor
open Go.RowKit

def setv (v : Nat → Int) (o : Nat) (x : Int) : Nat → Int := fun i => if i = o then x else v i
/-- The numbers of a row of fields are read. -/
def rdF : List FD → Rd × (Nat → Int) → Rd × (Nat → Int)
  | [], p => p
  | f :: l, p => rdF l (ruS p.1, setv p.2 f.off (riN p.1))
theorem rdF_snoc (l : List FD) (f : FD) : ∀ p, rdF (l ++ [f]) p = (ruS (rdF l p).1, setv (rdF l p).2 f.off (riN (rdF l p).1)) := by
  induction l with
  | nil => intro p; rfl
  | cons g l ih => intro p; exact ih _
theorem rdF_next {l : List FD} {j : Nat} {f : FD} (p : Rd × (Nat → Int)) (hf : l[j]? = some f) : rdF (l.take (j + 1)) p = (ruS (rdF (l.take j) p).1, setv (rdF (l.take j) p).2 f.off (riN (rdF (l.take j) p).1)) := by
  rw [List.take_add_one, hf]
  exact rdF_snoc _ _ _
def bodyRd (l : List UInt8) : Rd := ⟨bodyOf l, 0⟩
def upK (l : List UInt8) : Int := riN (bodyRd l)
def up0 (l : List UInt8) : Rd × (Nat → Int) := (if kB (upK l) = true then ruS (bodyRd l) else rfail (ruS (bodyRd l)) 11, fun i => if i = 0 then upK l else 0)
def upF (l : List UInt8) : Rd × (Nat → Int) := rdF (flK (upK l)) (up0 l)
def upR (l : List UInt8) : Rd := if upK l = 7 then rtS (upF l).1 4096 else (upF l).1
def upT (l : List UInt8) : List UInt8 := if upK l = 7 then rtL (upF l).1 4096 else []
instance (v : Nat → Int) (n : Nat) : Decidable (OkM v n) := by unfold OkM OkL Nil; exact inferInstance
/-- The error. -/
def upE (l : List UInt8) : Int :=
  if ¬ lookE l = 0 then (lookE l : Int) else if num4 l + 8 < l.length then 11 else if ¬ (rendS (upR l)).e = 0 then (rendS (upR l)).e else if OkM (upF l).2 (upT l).length then 0 else 11
/-- The message. -/
def outV (l : List UInt8) : Nat → Int := if upE l = 0 then (upF l).2 else fun _ => 0
def outT (l : List UInt8) : List UInt8 := if upE l = 0 then upT l else []
theorem outV_no {l : List UInt8} (h : ¬ upE l = 0) (i : Nat) : outV l i = 0 := by unfold outV; rw [if_neg h]
theorem outT_no {l : List UInt8} (h : ¬ upE l = 0) : outT l = [] := by unfold outT; rw [if_neg h]
theorem rtL_len (s : Rd) (most : Int) : (rtL s most).length ≤ top most := by
  unfold rtL
  split
  · rw [List.length_take]; have := rcN_le s most; omega
  · simp
theorem upT_len (l : List UInt8) : (upT l).length ≤ 4096 := by
  unfold upT
  split
  · have := rtL_len (upF l).1 4096; simp [top] at this; exact this
  · simp
/-- What Unpack answers. -/
def UnpAt (l : List UInt8) (w : World) (e : Ending) (w' : World) : Prop :=
  ∃ A c, e = .returned (.tuple #[.agg #[.int .i64 (outV l 0), .int .i64 (outV l 1), .int .i64 (outV l 2), .int .i64 (outV l 3), .int .i64 (outV l 4), .int .i64 (outV l 5), .int .i64 (outV l 6), .int .i64 (outV l 7), .int .i64 (outV l 8), .int .i64 (outV l 9), .int .i64 (outV l 10), .int .i64 (outV l 11), .int .i64 (outV l 12), .int .i64 (outV l 13), .int .i64 (outV l 14), .int .i64 (outV l 15), .int .i64 (outV l 16), .slice A (outT l).length c, .int .i64 (outV l 18), .int .i64 (outV l 19), .int .i64 (outV l 20)], .int .i64 (upE l)]) ∧ BytesIn w' w'.heap.size A c (outT l) ∧ Below w.heap.size w w'
theorem unpAt_no {l : List UInt8} {w w' : World} {e : Ending} {x : Int} (h : ¬ upE l = 0) (hx : upE l = x) (he : e = .returned (.tuple #[.agg #[.int .i64 0, .int .i64 0, .int .i64 0, .int .i64 0, .int .i64 0, .int .i64 0, .int .i64 0, .int .i64 0, .int .i64 0, .int .i64 0, .int .i64 0, .int .i64 0, .int .i64 0, .int .i64 0, .int .i64 0, .int .i64 0, .int .i64 0, .slice none 0 0, .int .i64 0, .int .i64 0, .int .i64 0], .int .i64 x])) (hb : Below w.heap.size w w') : UnpAt l w e w' := by
  refine ⟨none, 0, ?_, by rw [outT_no h]; exact .emp (by omega), hb⟩
  rw [he, hx, outT_no h]
  simp only [outV_no h]
  rfl
set_option maxHeartbeats 1000000 in
theorem MAt.setN {w : World} {mb n c : Nat} {v : Nat → Int} {A : Option Addr} (h : MAt w mb v A n c) {o : Nat} (ho : o ≤ 20) (h17 : o ≠ 17) (x : Int) : MAt (w.setCell ⟨mb, o, none⟩ (.int .i64 x)) mb (setv v o x) A n c := by
  have ho : o = 0 ∨ o = 1 ∨ o = 2 ∨ o = 3 ∨ o = 4 ∨ o = 5 ∨ o = 6 ∨ o = 7 ∨ o = 8 ∨ o = 9 ∨ o = 10 ∨ o = 11 ∨ o = 12 ∨ o = 13 ∨ o = 14 ∨ o = 15 ∨ o = 16 ∨ o = 18 ∨ o = 19 ∨ o = 20 := by omega
  unfold MAt at h ⊢
  rcases ho with rfl | rfl | rfl | rfl | rfl | rfl | rfl | rfl | rfl | rfl | rfl | rfl | rfl | rfl | rfl | rfl | rfl | rfl | rfl | rfl <;> simp [World.setCell, Array.getElem?_modify, h, setv]
theorem MAt.setS {w : World} {mb n c : Nat} {v : Nat → Int} {A : Option Addr} (h : MAt w mb v A n c) (A' : Option Addr) (n' c' : Nat) : MAt (w.setCell ⟨mb, 17, none⟩ (.slice A' n' c')) mb v A' n' c' := by
  unfold MAt at h ⊢
  simp [World.setCell, Array.getElem?_modify, h]
theorem conv_sb (l : List UInt8) (w : World) (hl : l.length ≤ 1048576) : ∃ c o, (convert 9 24 (.string (str l))).run Tryd.prog w = .ok (.slice (some ⟨w.heap.size, 0, none⟩) l.length c) (w.drew.alloc o) ∧ BytesIn (w.drew.alloc o) (w.heap.size + 1) (some ⟨w.heap.size, 0, none⟩) c l := by
  have h := run_bytes_of_string (P := Tryd.prog) w 9 24 5 (str l) Tryd.underlying9 Tryd.underlying24 Tryd.underlying5
  rw [str_size] at h
  refine ⟨_, _, h, ⟨grownCap_ge w l.length 0 5, grownCap_le_maxLen w l.length 0 5 (by simp only [maxLen]; omega), .inr ⟨w.heap.size, 0, rfl, by omega, fun i hi => ?_⟩⟩⟩
  have hn := heap_alloc_new w.drew (.cells (bytesRow (str l) (grownCap w l.length 0 5)) 5 ((bytesRow (str l) (grownCap w l.length 0 5)).size, (bytesRow (str l) (grownCap w l.length 0 5)).size + 1))
  have hd : w.drew.heap.size = w.heap.size := rfl
  rw [hd] at hn
  simp only [World.cell?, hn]
  simp only [bytesRow, str, List.map_toArray, Nat.zero_add]
  rw [Array.getElem?_append_left (by simpa using hi)]
  simp [hi]
theorem BytesIn.chgN {S : Nat → Prop} {w w' : World} {B c : Nat} {A : Option Addr} {l : List UInt8} (h : BytesIn w B A c l) (hc : Chg S w w') (hs : ∀ b o, A = some ⟨b, o, none⟩ → ¬ S b) : BytesIn w' B A c l := by
  refine ⟨h.le, h.cap, ?_⟩
  rcases h.rd with e | ⟨b, off, e, hb', hcc⟩
  · exact .inl e
  · exact .inr ⟨b, off, e, hb', fun i hi => hc.cell (hcc i hi) (hs b off e)⟩
theorem BytesIn.blkEq {w w' : World} {B c b o : Nat} {l : List UInt8} (h : BytesIn w B (some ⟨b, o, none⟩) c l) (e : w'.heap[b]? = w.heap[b]?) : BytesIn w' B (some ⟨b, o, none⟩) c l := by
  refine ⟨h.le, h.cap, ?_⟩
  rcases h.rd with e' | ⟨b', off, e', hb', hcc⟩
  · exact .inl e'
  · injection e' with e'
    injection e' with e1 e2
    subst e1 e2
    exact .inr ⟨b, o, rfl, hb', fun i hi => by rw [← hcc i hi]; simp [World.cell?, e]⟩
theorem results_unp (tmps : Array Value) (w : World) (g : Nat) (cs : Array Value) (hp : tmps.getD 2 undef = .pointer (some ⟨g, 0, none⟩)) (hg : w.heap[g]? = some (.cells cs 29 (0, 0))) (hc : cs.size = 21) :
    (results Tryd.f15 tmps).run Tryd.prog w = .ok (.tuple #[.agg cs, tmps.getD 3 undef]) w := by
  rw [results_cell_tmp Tryd.results15]
  rw [hp]
  have h := run_loadVar_row (P := Tryd.prog) w g 29 29 cs (0, 0) _ hg Tryd.underlying29 rfl (by rw [hc]; kernel_rfl)
  simp [asAddr, h]
/-- A reader, wherever its bytes lie. -/
def RdW (w : World) (B g : Nat) (s : Rd) : Prop := ∃ A c, RdAt 108 w B g s A c
theorem RdW.chg {w w' : World} {B g : Nat} {s : Rd} {S : Nat → Prop} (h : RdW w B g s) (hc : Chg S w w') (hg : ¬ S g) (hs : ∀ k, k < B → ¬ S k) : RdW w' B g s := by
  obtain ⟨A, c, h⟩ := h
  exact ⟨A, c, h.chg hc hg hs⟩

end Go.Proofs.YtkenaoejijpgpaaDoor
