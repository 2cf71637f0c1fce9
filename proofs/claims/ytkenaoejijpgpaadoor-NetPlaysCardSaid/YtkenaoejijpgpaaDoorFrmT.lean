/- A frame with one bit turned. -/
import Derived.Test.YtkenaoejijpgpaaDoorFrmB
namespace Go.Proofs.YtkenaoejijpgpaaDoor
open Go.RowKit

theorem own_form {w : World} {base : Nat} {e : TypeId} {size n c : Nat} {A : Option Addr} {xs : List Value} (h : w.ownsRow base e size (.slice A n c) n xs) (hn : 0 < n) : ∃ g, A = some ⟨g, 0, none⟩ ∧ base ≤ g ∧ g < w.heap.size ∧ n ≤ c := by
  rcases h.2 with ⟨hv, h0⟩ | ⟨g, cap, cur, hv, hb, hg, hnc, _⟩
  · omega
  · injection hv with e1 e2 e3
    exact ⟨g, e1, hb, (Array.getElem?_eq_some_iff.1 hg).1, by omega⟩
theorem cells8_set (l : List UInt8) (k : Nat) (d : UInt8) : (cells8 l).set k (.int .u8 (d.toNat : Int)) = cells8 (l.set k d) := by unfold cells8; rw [List.map_set]
theorem turn_val (cb b : UInt8) : ∃ d : UInt8, bits .xor .u8 (cb.toNat : Int) ((2 : Int) ^ (b.toNat % 8) % 256) = (d.toNat : Int) ∧ d ≠ cb := by
  have hc := cb.toNat_lt
  have hp : 2 ^ (b.toNat % 8) < 256 := Nat.lt_of_lt_of_le (Nat.pow_lt_pow_right (by omega) (Nat.mod_lt _ (by omega))) (Nat.le_refl (2 ^ 8))
  have hpos : 0 < 2 ^ (b.toNat % 8) := Nat.two_pow_pos _
  have e : ((2 : Int) ^ (b.toNat % 8) % 256) = ((2 ^ (b.toNat % 8) : Nat) : Int) := by
    rw [show (2 : Int) ^ (b.toNat % 8) = ((2 ^ (b.toNat % 8) : Nat) : Int) by simp]; omega
  have hx : cb.toNat ^^^ 2 ^ (b.toNat % 8) < 256 := Nat.xor_lt_two_pow (n := 8) hc hp
  refine ⟨UInt8.ofNat (cb.toNat ^^^ 2 ^ (b.toNat % 8)), ?_, ?_⟩
  · rw [e, u8_xor_nat _ _ hc hp, UInt8.toNat_ofNat', Nat.mod_eq_of_lt hx]
  · intro h
    have h2 := congrArg UInt8.toNat h
    rw [UInt8.toNat_ofNat', Nat.mod_eq_of_lt hx] at h2
    have h3 : cb.toNat ^^^ 2 ^ (b.toNat % 8) = cb.toNat ^^^ 0 := by rw [h2, Nat.xor_zero]
    have : ∀ {a b c : Nat}, a ^^^ b = a ^^^ c → b = c := fun {a b c} h => by
      have h2 : a ^^^ (a ^^^ b) = a ^^^ (a ^^^ c) := by rw [h]
      rwa [← Nat.xor_assoc, ← Nat.xor_assoc, Nat.xor_self, Nat.zero_xor, Nat.zero_xor] at h2
    have h4 := this h3
    omega
theorem xor_left_inj {a b c : Nat} (h : a ^^^ b = a ^^^ c) : b = c := by
  have h2 : a ^^^ (a ^^^ b) = a ^^^ (a ^^^ c) := by rw [h]
  rwa [← Nat.xor_assoc, ← Nat.xor_assoc, Nat.xor_self, Nat.zero_xor, Nat.zero_xor] at h2
theorem xor_right_inj {a b c : Nat} (h : b ^^^ a = c ^^^ a) : b = c := xor_left_inj (a := a) (by rw [Nat.xor_comm a b, Nat.xor_comm a c]; exact h)
theorem bstep_top (r : Nat) (h : r < 4294967296) : (bstep r).testBit 31 = decide (r % 2 = 1) := by
  have h1 : (r / 2).testBit 31 = false := Nat.testBit_lt_two_pow (by omega)
  unfold bstep
  split
  · rename_i e
    rw [Nat.testBit_xor, h1]; simp [e]; decide
  · rename_i e
    rw [h1]; simp; omega
theorem bstep_inj {a b : Nat} (ha : a < 4294967296) (hb : b < 4294967296) (h : bstep a = bstep b) : a = b := by
  have h1 := bstep_top a ha
  have h2 := bstep_top b hb
  rw [h, h2, decide_eq_decide] at h1
  have hd : a / 2 = b / 2 := by
    unfold bstep at h
    by_cases e : a % 2 = 1
    · rw [if_pos e, if_pos (h1.2 e)] at h; exact xor_right_inj h
    · rw [if_neg e, if_neg (fun e2 => e (h1.1 e2))] at h; exact h
  omega
theorem bsteps_inj (n : Nat) {a b : Nat} (ha : a < 4294967296) (hb : b < 4294967296) (h : bsteps n a = bsteps n b) : a = b := by
  induction n with
  | zero => exact h
  | succ n ih => exact ih (bstep_inj (bsteps_lt n a ha) (bsteps_lt n b hb) h)
theorem upd_inj {r r' : Nat} {c c' : UInt8} (hr : r < 4294967296) (hr' : r' < 4294967296) (h : upd r c = upd r' c') : r ^^^ c.toNat = r' ^^^ c'.toNat := by
  rw [upd_eq, upd_eq] at h
  have h1 := c.toNat_lt
  have h2 := c'.toNat_lt
  exact bsteps_inj 8 (Nat.xor_lt_two_pow (n := 32) hr (by omega)) (Nat.xor_lt_two_pow (n := 32) hr' (by omega)) h
theorem reg_inj (l : List UInt8) : ∀ {r r' : Nat}, r < 4294967296 → r' < 4294967296 → reg r l = reg r' l → r = r' := by
  induction l with
  | nil => intro r r' _ _ h; exact h
  | cons c l ih =>
    intro r r' hr hr' h
    have := ih (upd_lt r c hr) (upd_lt r' c hr') h
    exact xor_right_inj (upd_inj hr hr' this)
theorem reg_append (r : Nat) (a b : List UInt8) : reg r (a ++ b) = reg (reg r a) b := by unfold reg; rw [List.foldl_append]
theorem crc_turn (l : List UInt8) (k : Nat) (hk : k < l.length) (c : UInt8) (hc : c ≠ l[k]) : crc (l.set k c) ≠ crc l := by
  intro h
  have hs : l.set k c = l.take k ++ c :: l.drop (k + 1) := List.set_eq_take_append_cons_drop .. |>.trans (by rw [if_pos hk])
  have hl : l = l.take k ++ l[k] :: l.drop (k + 1) := by rw [List.getElem_cons_drop, List.take_append_drop]
  have e : reg 4294967295 (l.set k c) = reg 4294967295 l := by
    have h1 := reg_lt (l.set k c) 4294967295 (by omega)
    have h2 := reg_lt l 4294967295 (by omega)
    unfold crc at h; omega
  rw [hs] at e
  conv at e => rhs; rw [hl]
  rw [reg_append, reg_append] at e
  have h0 := reg_lt (l.take k) 4294967295 (by omega)
  have e2 := reg_inj (l.drop (k + 1)) (r := upd _ c) (r' := upd _ l[k]) (upd_lt _ _ h0) (upd_lt _ _ h0) e
  have e3 := xor_left_inj (upd_inj h0 h0 e2)
  exact hc (UInt8.toNat_inj.1 e3)
theorem num4_be4 (n : Nat) (h : n < 4294967296) (r : List UInt8) : num4 (be4 n ++ r) = n := by
  unfold num4 be4
  simp only [List.cons_append, List.nil_append, List.getD_cons_zero, List.getD_cons_succ, UInt8.toNat_ofNat']
  omega
theorem frame_split (l : List UInt8) : frameOf l = be4 l.length ++ (l ++ be4 (crc (be4 l.length ++ l))) := by unfold frameOf; rw [List.append_assoc]
theorem look_cut (l : List UInt8) (hl : l.length ≤ 65536) (k : Nat) (hk : k < l.length + 8) : lookE ((frameOf l).take k) = 10 := by
  have hlen : ((frameOf l).take k).length = k := by rw [List.length_take, frameOf_length]; omega
  unfold lookE
  rw [hlen]
  by_cases h4 : k < 4
  · rw [if_pos h4]
  · rw [if_neg h4]
    have hn : num4 ((frameOf l).take k) = l.length := by
      rw [frame_split, List.take_append, be4_length, List.take_of_length_le (by rw [be4_length]; omega), num4_be4 _ (by omega)]
    rw [hn, if_neg (by omega), if_pos (by omega)]
theorem num4_set (s j : Nat) (hs : s < 4294967296) (hj : j < 4) (c : UInt8) (hc : c ≠ (be4 s)[j]'(by rw [be4_length]; exact hj)) : num4 ((be4 s).set j c) ≠ s := by
  have hne : ∀ d : UInt8, c ≠ d → c.toNat ≠ d.toNat := fun d h e => h (UInt8.toNat_inj.1 e)
  have h := hne _ hc
  have hct := c.toNat_lt
  match j, hj, h with
  | 0, _, h =>
    simp only [be4, List.getElem_cons_zero, UInt8.toNat_ofNat'] at h
    unfold num4 be4
    simp only [List.set_cons_zero, List.getD_cons_zero, List.getD_cons_succ, UInt8.toNat_ofNat']
    omega
  | 1, _, h =>
    simp only [be4, List.getElem_cons_succ, List.getElem_cons_zero, UInt8.toNat_ofNat'] at h
    unfold num4 be4
    simp only [List.set_cons_succ, List.set_cons_zero, List.getD_cons_zero, List.getD_cons_succ, UInt8.toNat_ofNat']
    omega
  | 2, _, h =>
    simp only [be4, List.getElem_cons_succ, List.getElem_cons_zero, UInt8.toNat_ofNat'] at h
    unfold num4 be4
    simp only [List.set_cons_succ, List.set_cons_zero, List.getD_cons_zero, List.getD_cons_succ, UInt8.toNat_ofNat']
    omega
  | 3, _, h =>
    simp only [be4, List.getElem_cons_succ, List.getElem_cons_zero, UInt8.toNat_ofNat'] at h
    unfold num4 be4
    simp only [List.set_cons_succ, List.set_cons_zero, List.getD_cons_zero, List.getD_cons_succ, UInt8.toNat_ofNat']
    omega
theorem look_turn (l : List UInt8) (hl : l.length ≤ 65536) (k : Nat) (h4 : 4 ≤ k) (hk : k < (frameOf l).length) (c : UInt8) (hc : (frameOf l)[k]? ≠ some c) : lookE ((frameOf l).set k c) = 20 := by
  have hk8 : k < l.length + 8 := by rw [frameOf_length] at hk; exact hk
  have hlen : ((frameOf l).set k c).length = l.length + 8 := by rw [List.length_set, frameOf_length]
  obtain ⟨s, hs⟩ : ∃ s, s = crc (be4 l.length ++ l) := ⟨_, rfl⟩
  have hsl : s < 4294967296 := by rw [hs]; exact crc_lt _
  have hn : num4 ((frameOf l).set k c) = l.length := by
    rw [frame_split, List.set_append, if_neg (by rw [be4_length]; omega), num4_be4 _ (by omega)]
  have hX : (be4 l.length ++ l).length = l.length + 4 := by simp [be4_length]; omega
  have hne : num4 (((frameOf l).set k c).drop (l.length + 4)) ≠ crc (((frameOf l).set k c).take (l.length + 4)) := by
    by_cases hb : k < l.length + 4
    · have e : (frameOf l).set k c = (be4 l.length ++ l).set k c ++ be4 s := by
        unfold frameOf; rw [List.set_append, if_pos (by rw [hX]; exact hb), ← hs]
      have hX2 : ((be4 l.length ++ l).set k c).length = l.length + 4 := by rw [List.length_set, hX]
      rw [e, ← hX2, List.drop_left, List.take_left]
      have h1 := num4_be4 s hsl []
      rw [List.append_nil] at h1
      rw [h1]
      have h2 := crc_turn (be4 l.length ++ l) k (by rw [hX]; exact hb) c (by
        intro e2; apply hc; rw [e2]
        unfold frameOf; rw [List.getElem?_append_left (by rw [hX]; exact hb), List.getElem?_eq_getElem])
      rw [hs]; exact fun e3 => h2 e3.symm
    · have e : (frameOf l).set k c = (be4 l.length ++ l) ++ (be4 s).set (k - (l.length + 4)) c := by
        unfold frameOf; rw [List.set_append, if_neg (by rw [hX]; exact hb), hX, ← hs]
      rw [e, ← hX, List.drop_left, List.take_left, hX, ← hs]
      refine num4_set s _ hsl (by omega) c ?_
      intro e2; apply hc; rw [e2]
      unfold frameOf
      rw [List.getElem?_append_right (by rw [hX]; omega), hX, ← hs, List.getElem?_eq_getElem]
  unfold lookE
  rw [hlen, hn, if_neg (by omega), if_neg (by omega), if_neg (by omega), if_neg hne]

end Go.Proofs.YtkenaoejijpgpaaDoor
