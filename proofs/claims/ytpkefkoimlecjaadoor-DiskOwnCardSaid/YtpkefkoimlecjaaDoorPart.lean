/- A disk: part, Cut; copied, Log. -/
import Derived.Test.YtpkefkoimlecjaaDoorDisk
import Derived.Laws.CopyOwn
import Derived.Lib.MinMax
namespace Go.Proofs.YtpkefkoimlecjaaDoor
open Go.RowKit

theorem info5 : (Tryd.prog.info? 5).map (fun i => (i.zero, i.size, i.bytes)) = some (some (.int .u8 0), 1, 1) := by kernel_rfl
theorem info_parts {t : TypeId} {z : Value} {size bytes : Nat} (h : (Tryd.prog.info? t).map (fun i => (i.zero, i.size, i.bytes)) = some (some z, size, bytes)) : ∃ i, Tryd.prog.info? t = some i ∧ i.zero = some z ∧ i.size = size ∧ i.bytes = bytes := by
  cases hi : Tryd.prog.info? t with
  | none => rw [hi] at h; simp at h
  | some i => rw [hi] at h; simp at h; exact ⟨i, rfl, h.1, h.2.1, h.2.2⟩

/-- How many of n bytes are done, and the error. -/
def took (d : Dk) (n : Nat) : Nat := if d.cut then (min (max d.at_ 0) n).toNat else n
def tookE (d : Dk) : Int := if d.cut then 152 else 0
theorem took_le (d : Dk) (n : Nat) : took d n ≤ n := by unfold took; split <;> omega

set_option maxHeartbeats 400000 in
theorem part_any (g : Nat) (d : Dk) (y : Lay) (n : Nat) (w : World) (h : DiskAt w g d y) :
    Calls Tryd.prog 25 #[.pointer (some ⟨g, 0, none⟩), .int .i64 (n : Int)] w fun e w' => e = .returned (.tuple #[.int .i64 (took d n : Int), .int .i64 (tookE d)]) ∧ DiskAt w' g { d with cut := false } y ∧ Chg (fun k => k = g) w w' := by
  have c7 := h.c7
  have c8 := h.c8
  have f7 := h.fz 7
  have hl := h.glt
  have HD := Lib.hid h; clear h
  have hC := Lib.hid (chg_g g 7 w (.bool false))
  cases hc : d.cut
  · rw [hc] at c7
    have e1 : took d n = n := by unfold took; rw [hc]; rfl
    have e2 : tookE d = 0 := by unfold tookE; rw [hc]; rfl
    have E1 := Lib.hid e1
    have E2 := Lib.hid e2
    clear e1 e2
    go_enter Tryd.func25, Tryd.ntmps25
    go_wp2_with fail
    go_ret2
    have e3 : ({ d with cut := false } : Dk) = d := by cases d; simp_all
    rw [E1.out, E2.out, e3]
    exact ⟨rfl, HD.out, Chg.refl _ _⟩
  · rw [hc] at c7
    have e2 : tookE d = 152 := by unfold tookE; rw [hc]; rfl
    have e1 : took d n = (min (max d.at_ 0) n).toNat := by unfold took; rw [hc]; rfl
    have E1 := Lib.hid e1
    have E2 := Lib.hid e2
    have c8' : (w.setCell ⟨g, 7, none⟩ (.bool false)).cell? ⟨g, 8, none⟩ = some (.int .i64 d.at_) := (HD.out.setCut false).c8
    clear e1 e2
    have key : min (max d.at_ 0) (n : Int) = (took d n : Int) := by
      rw [E1.out]
      omega
    have KEY := Lib.hid key
    clear key
    go_enter Tryd.func25, Tryd.ntmps25
    go_wp2_with fail
    go_ret2
    refine ⟨?_, HD.out.setCut false, hC.out⟩
    rw [E2.out, ← KEY.out]
    rfl

set_option maxHeartbeats 400000 in
theorem cut_any (g : Nat) (d : Dk) (y : Lay) (n : Int) (w : World) (h : DiskAt w g d y) :
    Calls Tryd.prog 11 #[.pointer (some ⟨g, 0, none⟩), .int .i64 n] w fun e w' => e = .returned (.tuple #[]) ∧ DiskAt w' g { d with cut := true, at_ := n } y ∧ Chg (fun k => k = g) w w' := by
  have hl := h.glt
  have f7 := h.fz 7
  have f8 := (h.setCut true).fz 8
  have c7 := h.c7
  have c8 := h.c8
  have c8' := (h.setCut true).c8
  have HD := Lib.hid ((h.setCut true).setAt n)
  have HC := Lib.hid ((chg_g g 7 w (.bool true)).trans (chg_g g 8 _ (.int .i64 n)))
  clear h
  go_enter Tryd.func11, Tryd.ntmps11
  go_wp2_with fail
  go_end0
  exact ⟨rfl, HD.out, HC.out⟩

theorem own_block {w : World} {base n c b : Nat} {xs : List Value} (h : w.ownsRow base 5 1 (.slice (some ⟨b, 0, none⟩) n c) n xs) : ∃ cur : List Value, w.heap[b]? = some (.cells cur.toArray 5 (0, 0)) ∧ cur.length = c ∧ base ≤ b ∧ c ≤ maxLen := by
  rcases h.2 with ⟨hv, _⟩ | ⟨g, cap, cur, hv, hb, hg, h1, h2, h3, _⟩
  · cases hv
  · cases hv
    exact ⟨cur.toList, by simpa using hg, by simpa using h3, hb, h2⟩
theorem own_of_block {w : World} {base n b : Nat} {xs : List Value} (h : w.heap[b]? = some (.cells xs.toArray 5 (0, 0))) (hb : base ≤ b) (hl : xs.length = n) (hm : n ≤ maxLen) : w.ownsRow base 5 1 (.slice (some ⟨b, 0, none⟩) n n) n xs := by
  refine ⟨by omega, .inr ⟨b, n, xs.toArray, rfl, hb, h, Nat.le_refl _, hm, by rw [List.size_toArray]; omega, ?_⟩⟩
  exact List.take_of_length_le (by show xs.length ≤ n * 1; omega)
theorem splice_all {α : Type} (cur cs : List α) (h : cs.length = cur.length) : splice cur 0 cs = cs := by simp [splice, h]
theorem bytes_add {w : World} {B c : Nat} {A : Option Addr} {l : List UInt8} (h : BytesIn w B A c l) (h0 : 0 < (cells8 l).length) : ∃ ad, A = some ad ∧ ∀ (j : Nat) (v : Value), (cells8 l)[j]? = some v → w.cell? (ad.add j) = some v := by
  have hc := h.cells
  rcases hc.rd with e | ⟨b, off, e, _, hh⟩
  · rw [e] at h0; simp at h0
  · exact ⟨_, e, fun j v hv => by rw [Addr.add_lit]; exact hh j v hv⟩

set_option maxHeartbeats 400000 in
theorem copied_any (A : Option Addr) (c n : Nat) (l : List UInt8) (w : World) (h : BytesIn w w.heap.size A c l) (hl : l.length ≤ 1048576) (hn : n = l.length) :
    Calls Tryd.prog 27 #[.slice A n c] w fun e w' => ∃ A2 c2, e = .returned (.slice A2 n c2) ∧ w'.ownsRow w.heap.size 5 1 (.slice A2 n c2) n (cells8 l) ∧ Below w.heap.size w w' := by
  obtain ⟨i0, hi, hz0, hz1, hz2⟩ := info_parts info5
  have hn2 : n ≤ 1048576 := by omega
  have hc1 := h.cap
  have HN := Lib.hid hn; clear hn
  have HB := Lib.hid h; clear h
  have hsz : (Tryd.prog.info? 5).map (·.size) = some 1 := by rw [hi]; simp [hz1]
  go_enter Tryd.func27, Tryd.ntmps27
  go_wp2_with (first
    | (at_make; refine wpList_make_full _ rfl _ _ 22 rfl w.heap.size 5 i0 (.int .u8 0) 1 Tryd.underlying22 hi hz0 hz1 _ _ _ _ n rfl rfl rfl rfl (by rw [hz2]; omega) (by unfold maxLen; omega) (Nat.le_refl _) ?_; intro w1 hown1 hg1; have HO1 := Lib.hid hown1; have HG1 := Lib.hid hg1; clear hown1 hg1)
    | (obtain ⟨cur, hcur, hcl, _, _⟩ := own_block HO1.out; have hb1 := below_of_grown HG1.out (by simp); have hr1 := bytes_add (HB.out.below hb1 (Nat.le_refl _)); refine wpList_copy_splice rfl (.tmp 7) (.tmp 8) 22 22 rfl 5 Tryd.underlying22 hsz _ _ n n n c rfl rfl w.heap.size 0 cur 5 hcur (cells8 l) (by rw [cells8_length, ← HN.out]; simp) (fun h => ⟨rfl, hr1 h⟩) (by rw [cells8_length, ← HN.out]; omega) (cells8_one l) w.heap.size w hb1 (Nat.le_refl _) ?_; intro w2 hg2 hb2; rw [splice_all _ _ (by rw [cells8_length, ← HN.out]; omega)] at hg2; have HB2 := Lib.hid hb2; clear hb2 hb1 hcur hr1))
  go_ret
  exact ⟨_, _, rfl, own_of_block hg2.out (Nat.le_refl _) (by rw [cells8_length, ← HN.out]) (by unfold maxLen; omega), HB2.out⟩

/-- A row of its own, as bytes that are read. -/
theorem bytes_own {w : World} {base n c : Nat} {A : Option Addr} {l : List UInt8} (h : w.ownsRow base 5 1 (.slice A n c) n (cells8 l)) : n = l.length ∧ BytesIn w w.heap.size A c l := by
  have hl := h.1
  rw [cells8_length] at hl
  have hn : n = l.length := by omega
  refine ⟨hn, ?_⟩
  rcases h.2 with ⟨hv, h0⟩ | ⟨b, cap, cur, hv, hb, hg, h1, h2, h3, h4⟩
  · cases hv
    have : l = [] := List.eq_nil_of_length_eq_zero (by omega)
    subst this
    exact .emp (by omega)
  · cases hv
    refine ⟨by omega, by unfold maxLen at h2; omega, .inr ⟨b, 0, rfl, (Array.getElem?_eq_some_iff.1 hg).1, fun i hi => ?_⟩⟩
    have hc := cells8_get l i hi
    rw [← h4, List.getElem?_take, if_pos (by omega)] at hc
    simpa [World.cell?, hg] using hc

theorem log_any (g : Nat) (d : Dk) (y : Lay) (w : World) (h : DiskAt w g d y) :
    Calls Tryd.prog 15 #[.pointer (some ⟨g, 0, none⟩)] w fun e w' => ∃ A2 c2, e = .returned (.slice A2 d.log.length c2) ∧ w'.ownsRow w.heap.size 5 1 (.slice A2 d.log.length c2) d.log.length (cells8 d.log) ∧ Below w.heap.size w w' := by
  have c4 := h.c4
  have hl := h.glt
  have hb := (bytes_own h.l).2
  have hr : d.log.length ≤ 1048576 := Nat.le_trans h.ll h.r
  have HB := Lib.hid hb
  clear h hb
  go_enter Tryd.func15, Tryd.ntmps15
  go_wp2_with fail
  refine (copied_any _ _ _ _ w HB.out hr rfl).mono ?_
  rintro e w' ⟨A2, c2, rfl, ho, hbel⟩
  have HO := Lib.hid ho
  have HBel := Lib.hid hbel
  clear ho hbel
  go_wp2_with fail
  go_ret
  exact ⟨_, _, rfl, HO.out, HBel.out⟩
end Go.Proofs.YtpkefkoimlecjaaDoor
