/- A reader in memory; Read, Fail, Err, Left. -/
import Derived.Test.YtkenaoejijpgpaaDoorBase
import Derived.Test.YtkenaoejijpgpaaDoorVint
namespace Go.Proofs.YtkenaoejijpgpaaDoor
open Go.RowKit

/-- Block g is a reader (of type T) that holds s; its bytes lie below block B. -/
structure RdAt (T : TypeId) (w : World) (B g : Nat) (s : Rd) (A : Option Addr) (c : Nat) : Prop where
  blk : w.heap[g]? = some (.cells #[.slice A s.l.length c, .int .i64 s.e] T (0, 0))
  by_ : BytesIn w B A c s.l
  lt : B ≤ g
namespace RdAt
variable {T : TypeId} {w w' : World} {B g : Nat} {s : Rd} {A : Option Addr} {c : Nat}
theorem glt (h : RdAt T w B g s A c) : g < w.heap.size := (Array.getElem?_eq_some_iff.1 h.blk).1
theorem c0 (h : RdAt T w B g s A c) : w.cell? ⟨g, 0, none⟩ = some (.slice A s.l.length c) := by simp [World.cell?, h.blk]
theorem c1 (h : RdAt T w B g s A c) : w.cell? ⟨g, 1, none⟩ = some (.int .i64 s.e) := by simp [World.cell?, h.blk]
theorem fz (h : RdAt T w B g s A c) (i : Nat) : w.frozen? ⟨g, i, none⟩ = false := by simp [World.frozen?, h.blk]
theorem chg {S : Nat → Prop} (h : RdAt T w B g s A c) (hc : Chg S w w') (hg : ¬ S g) (hs : ∀ k, k < B → ¬ S k) : RdAt T w' B g s A c :=
  ⟨(hc.block g h.glt hg).trans h.blk, h.by_.below (hc.below (B := B) (Nat.le_trans h.lt (Nat.le_of_lt h.glt)) hs) (Nat.le_refl _), h.lt⟩
theorem chg0 (h : RdAt T w B g s A c) (hc : Chg NoBlk w w') : RdAt T w' B g s A c := h.chg hc (fun h => h) (fun _ _ h => h)
theorem drewN (h : RdAt T w B g s A c) (n : Nat) : RdAt T (w.drewN n) B g s A c := h.chg0 ((Chg.refl _ w).drewN n)
end RdAt
/-- Behind an act block g is a reader that holds s; nothing else that was there has changed. -/
def RdTo (T : TypeId) (B g : Nat) (s : Rd) (w w' : World) : Prop := ∃ A c, RdAt T w' B g s A c ∧ Chg (fun k => k = g) w w'
theorem chg_g (g i : Nat) (w : World) (v : Value) : Chg (fun k => k = g) w (w.setCell ⟨g, i, none⟩ v) := (Chg.refl (fun k => k = g) w).setCell (p := ⟨g, i, none⟩) (.inr rfl) v
theorem rd_fail {T : TypeId} {w : World} {B g : Nat} {s : Rd} {A : Option Addr} {c : Nat} (h : RdAt T w B g s A c) (e : Int) : RdAt T ((w.setCell ⟨g, 1, none⟩ (.int .i64 e)).setCell ⟨g, 0, none⟩ (.slice none 0 0)) B g ⟨[], e⟩ none 0 := by
  refine ⟨?_, .emp (by omega), h.lt⟩
  simp [World.setCell, Array.getElem?_modify, h.blk]
theorem rd_set {T : TypeId} {w : World} {B g : Nat} {s : Rd} {A : Option Addr} {c : Nat} (h : RdAt T w B g s A c) (A' : Option Addr) (n c' : Nat) (l : List UInt8) (hn : n = l.length) (hb : BytesIn w B A' c' l) : RdAt T (w.setCell ⟨g, 0, none⟩ (.slice A' n c')) B g ⟨l, s.e⟩ A' c' := by
  subst hn
  have hc := chg_g g 0 w (.slice A' l.length c')
  refine ⟨?_, hb.below (hc.below (B := B) (Nat.le_trans h.lt (Nat.le_of_lt h.glt)) (fun k hk e => by have := h.lt; omega)) (Nat.le_refl _), h.lt⟩
  simp [World.setCell, Array.getElem?_modify, h.blk]
/-- So many bytes less: whichever address the slice expression leaves. -/
theorem rd_drop {T : TypeId} {w : World} {B g b off c n k : Nat} {l : List UInt8} {e : Int} (h : RdAt T w B g ⟨l, e⟩ (some ⟨b, off, none⟩) c) (hk : k ≤ l.length) (A' : Option Addr) (n' c' : Nat) (hn : n = l.length) (hn' : n' = n - k) (hc' : c' = c - k)
    (hA : (A' = some ⟨b, off, none⟩ ∧ c ≤ k) ∨ A' = some ⟨b, off + k, none⟩) : RdAt T (w.setCell ⟨g, 0, none⟩ (.slice A' n' c')) B g ⟨l.drop k, e⟩ A' c' := by
  have h0 : BytesIn w B (some ⟨b, off, none⟩) c l := h.by_
  have h1 := h0.le
  have h2 := h0.cap
  refine rd_set h A' n' c' (l.drop k) (by rw [List.length_drop]; omega) ?_
  subst hc'
  by_cases hck : c ≤ k
  · rw [List.drop_eq_nil_of_le (by omega)]
    exact .emp (by omega)
  · rcases hA with ⟨_, h⟩ | rfl
    · exact absurd h hck
    · exact h0.dropLit hk (by omega)

set_option maxHeartbeats 400000 in
theorem fail_any (B g : Nat) (s : Rd) (A : Option Addr) (c : Nat) (e : Int) (w : World) (h : RdAt 108 w B g s A c) :
    Calls Tryd.prog 44 #[.pointer (some ⟨g, 0, none⟩), .int .i64 e] w fun x w' => x = .returned (.tuple #[]) ∧ RdTo 108 B g (rfail s e) w w' := by
  have c0 := h.c0
  have c1 := h.c1
  have f0 := h.fz 0
  have f1 := h.fz 1
  have hl := h.glt
  have HD := Lib.hid h; clear h
  have HW : Hid (RdAt 108 ((w.setCell ⟨g, 1, none⟩ (.int .i64 e)).setCell ⟨g, 0, none⟩ (.slice none 0 0)) B g ⟨[], e⟩ none 0) := rd_fail HD.out e
  have HS : Hid (Chg (fun k => k = g) w ((w.setCell ⟨g, 1, none⟩ (.int .i64 e)).setCell ⟨g, 0, none⟩ (.slice none 0 0))) := (chg_g g 1 w _).setCell (p := ⟨g, 0, none⟩) (.inr rfl) _
  by_cases h1 : s.e = 0
  · by_cases h2 : e = 0
    · have e1 : rfail s e = s := by unfold rfail; rw [if_neg (by simp [h2])]
      have E1 := Lib.hid e1
      rw [h1] at c1
      have q : (e != 0) = false := by rw [h2]; rfl
      clear e1 h1 h2
      go_enter Tryd.func44, Tryd.ntmps44
      go_wp2
      go_end0
      exact ⟨rfl, A, c, by rw [E1.out]; exact HD.out, Chg.refl _ _⟩
    · have e1 : rfail s e = ⟨[], e⟩ := by unfold rfail; rw [if_pos ⟨h1, h2⟩]
      have E1 := Lib.hid e1
      rw [h1] at c1
      have q : (e != 0) = true := by rw [bne_iff_ne]; exact h2
      clear e1 h1 h2
      go_enter Tryd.func44, Tryd.ntmps44
      go_wp2
      go_end0
      exact ⟨rfl, none, 0, by rw [E1.out]; exact HW.out, HS.out⟩
  · have e1 : rfail s e = s := by unfold rfail; rw [if_neg (by simp [h1])]
    have E1 := Lib.hid e1
    have q : (s.e == 0) = false := by rw [beq_eq_false_iff_ne]; exact h1
    clear e1 h1
    generalize s.e = E at c1 q
    go_enter Tryd.func44, Tryd.ntmps44
    go_wp2
    go_end0
    exact ⟨rfl, A, c, by rw [E1.out]; exact HD.out, Chg.refl _ _⟩

theorem err_any (B g : Nat) (s : Rd) (A : Option Addr) (c : Nat) (w : World) (h : RdAt 108 w B g s A c) :
    Calls Tryd.prog 72 #[.pointer (some ⟨g, 0, none⟩)] w fun x w' => x = .returned (.int .i64 s.e) ∧ w = w' := by
  have c1 := h.c1
  have hl := h.glt
  clear h
  generalize s.e = E at *
  go_enter Tryd.func72, Tryd.ntmps72
  go_wp2
  go_ret
  exact ⟨rfl, rfl⟩
theorem err_nil (w : World) : Calls Tryd.prog 72 #[.pointer none] w fun x w' => x = .returned (.int .i64 1) ∧ w = w' := by
  go_enter Tryd.func72, Tryd.ntmps72
  go_wp2
  go_ret
  exact ⟨rfl, rfl⟩
theorem left_any (B g : Nat) (s : Rd) (A : Option Addr) (c n : Nat) (w : World) (h : RdAt 108 w B g s A c) (hn : n = s.l.length) :
    Calls Tryd.prog 71 #[.pointer (some ⟨g, 0, none⟩)] w fun x w' => x = .returned (.int .i64 (n : Int)) ∧ w = w' := by
  have c0 := h.c0
  have hl := h.glt
  rw [← hn] at c0
  clear h hn
  go_enter Tryd.func71, Tryd.ntmps71
  go_wp2
  go_ret
  exact ⟨rfl, rfl⟩
theorem left_nil (w : World) : Calls Tryd.prog 71 #[.pointer none] w fun x w' => x = .returned (.int .i64 0) ∧ w = w' := by
  go_enter Tryd.func71, Tryd.ntmps71
  go_wp2
  go_ret
  exact ⟨rfl, rfl⟩
theorem fail_nil (e : Int) (w : World) : Calls Tryd.prog 44 #[.pointer none, .int .i64 e] w fun x w' => x = .returned (.tuple #[]) ∧ w = w' := by
  go_enter Tryd.func44, Tryd.ntmps44
  go_wp2
  go_end0
  exact ⟨rfl, rfl⟩
/-- A new reader. -/
theorem read_any (A : Option Addr) (c n B : Nat) (l : List UInt8) (w : World) (h : BytesIn w B A c l) (hn : n = l.length) (hB : B ≤ w.heap.size) :
    Calls Tryd.prog 42 #[.slice A n c] w fun x w' => x = .returned (.pointer (some ⟨w.heap.size, 0, none⟩)) ∧ RdAt 108 w' B w.heap.size ⟨l, 0⟩ A c ∧ w.alloc (.cells #[.slice A n c, .int .i64 0] 108) = w' := by
  have HD : Hid (RdAt 108 (w.alloc (.cells #[.slice A n c, .int .i64 0] 108)) B w.heap.size ⟨l, 0⟩ A c) := by
    subst hn
    exact ⟨heap_alloc_new w _, h.below ((Below.refl _ _).alloc hB _) (Nat.le_refl _), hB⟩
  clear h hn hB
  go_enter Tryd.func42, Tryd.ntmps42
  go_wp2
  go_ret
  exact ⟨rfl, HD.out, rfl⟩
end Go.Proofs.YtkenaoejijpgpaaDoor
