/- Frames: numbers of four bytes, the frame, the look. -/
import Derived.Test.YtkenaoejijpgpaaDoorRefSum
import Derived.Test.YtkenaoejijpgpaaDoorEncU
import Derived.Deep.QuietTactic
import Derived.BigQuiet
namespace Go.Proofs.YtkenaoejijpgpaaDoor
open Go.RowKit

/-- The number of the first four bytes. -/
def num4 (l : List UInt8) : Nat := 16777216 * (l.getD 0 0).toNat + 65536 * (l.getD 1 0).toNat + 256 * (l.getD 2 0).toNat + (l.getD 3 0).toNat
theorem num4_lt (l : List UInt8) : num4 l < 4294967296 := by
  unfold num4
  have h0 := (l.getD 0 0).toNat_lt
  have h1 := (l.getD 1 0).toNat_lt
  have h2 := (l.getD 2 0).toNat_lt
  have h3 := (l.getD 3 0).toNat_lt
  omega

theorem wraps_u32 (n : Int) (h₀ : 0 ≤ n) (h₁ : n < 2 ^ 32) : IntKind.u32.wrap n = n := by rw [IntKind.wrap_u32]; omega
theorem or_join (i : Nat) (x y : Int) (hx₀ : 0 ≤ x) (hx : x % 2 ^ i = 0) (hx₁ : x < 2 ^ 32) (hy₀ : 0 ≤ y) (hy : y < 2 ^ i) (hy₁ : y < 2 ^ 32) : bits .or .u32 x y = x + y :=
  bits_join .u32 32 (by decide) wraps_u32 i x y hx₀ hx hx₁ hy₀ hy hy₁
theorem or4 (a b c d : UInt8) : bits .or .u32 (bits .or .u32 (bits .or .u32 ((a.toNat : Int) % 4294967296 * 16777216 % 4294967296) ((b.toNat : Int) % 4294967296 * 65536 % 4294967296)) ((c.toNat : Int) % 4294967296 * 256 % 4294967296)) ((d.toNat : Int) % 4294967296) =
    ((16777216 * a.toNat + 65536 * b.toNat + 256 * c.toNat + d.toNat : Nat) : Int) := by
  have h0 := a.toNat_lt
  have h1 := b.toNat_lt
  have h2 := c.toNat_lt
  have h3 := d.toNat_lt
  rw [or_join 24 ((a.toNat : Int) % 4294967296 * 16777216 % 4294967296) ((b.toNat : Int) % 4294967296 * 65536 % 4294967296) (by omega) (by omega) (by omega) (by omega) (by omega) (by omega)]
  rw [or_join 16 _ ((c.toNat : Int) % 4294967296 * 256 % 4294967296) (by omega) (by omega) (by omega) (by omega) (by omega) (by omega)]
  rw [or_join 8 _ ((d.toNat : Int) % 4294967296) (by omega) (by omega) (by omega) (by omega) (by omega) (by omega)]
  omega

set_option maxRecDepth 100000 in
set_option maxHeartbeats 400000 in
theorem number_any (A : Option Addr) (c : Nat) (l : List UInt8) (w : World) (B n : Nat) (h : BytesIn w B A c l) (h4 : 4 ≤ l.length) (hn : n = l.length) :
    Calls Tryd.prog 80 #[.slice A n c] w fun e w' => e = .returned (.int .u32 (num4 l : Int)) ∧ ∃ n, w' = w.drewN n := by
  subst hn
  obtain ⟨b, off, rfl, hb, hc⟩ := h.at_ (show 0 < l.length by omega)
  have hh4 : (3 : Int) < (l.length : Int) := by omega
  have c0 := hc 0 (by omega)
  have c1 := hc 1 (by omega)
  have c2 := hc 2 (by omega)
  have c3 := hc 3 (by omega)
  obtain ⟨b0, hb0⟩ : ∃ x, x = l[0] := ⟨_, rfl⟩
  obtain ⟨b1, hb1⟩ : ∃ x, x = l[1] := ⟨_, rfl⟩
  obtain ⟨b2, hb2⟩ : ∃ x, x = l[2] := ⟨_, rfl⟩
  obtain ⟨b3, hb3⟩ : ∃ x, x = l[3] := ⟨_, rfl⟩
  rw [← hb0] at c0
  rw [← hb1] at c1
  rw [← hb2] at c2
  rw [← hb3] at c3
  have hl0 : (0 : Int) < l.length := by omega
  have hl1 : (1 : Int) < l.length := by omega
  have hl2 : (2 : Int) < l.length := by omega
  have hfin : num4 l = 16777216 * b0.toNat + 65536 * b1.toNat + 256 * b2.toNat + b3.toNat := by
    rw [hb0, hb1, hb2, hb3]; unfold num4
    rw [← List.getElem_eq_getD 0 (h := by omega), ← List.getElem_eq_getD 0 (h := by omega), ← List.getElem_eq_getD 0 (h := by omega), ← List.getElem_eq_getD 0 (h := by omega)]
  have HF := Lib.hid hfin; clear hfin
  clear hc h4 hb0 hb1 hb2 hb3
  simp only [Nat.add_zero] at c0
  go_enter Tryd.func80, Tryd.ntmps80
  go_wp2
  go_quiet (fail)
  go_wp2
  go_ret
  exact ⟨ret_int (by rw [HF.out]; exact or4 b0 b1 b2 b3), nq, rfl⟩

set_option maxRecDepth 100000 in
set_option maxHeartbeats 400000 in
theorem rnumber_any (A : Option Addr) (c : Nat) (l : List UInt8) (w : World) (B n : Nat) (h : BytesIn w B A c l) (h4 : 4 ≤ l.length) (hn : n = l.length) :
    Calls Tryd.prog 73 #[.slice A n c] w fun e w' => e = .returned (.int .i64 (num4 l : Int)) ∧ ∃ n, w' = w.drewN n := by
  subst hn
  obtain ⟨b, off, rfl, hb, hc⟩ := h.at_ (show 0 < l.length by omega)
  have hh4 : (3 : Int) < (l.length : Int) := by omega
  have c0 := hc 0 (by omega)
  have c1 := hc 1 (by omega)
  have c2 := hc 2 (by omega)
  have c3 := hc 3 (by omega)
  obtain ⟨b0, hb0⟩ : ∃ x, x = l[0] := ⟨_, rfl⟩
  obtain ⟨b1, hb1⟩ : ∃ x, x = l[1] := ⟨_, rfl⟩
  obtain ⟨b2, hb2⟩ : ∃ x, x = l[2] := ⟨_, rfl⟩
  obtain ⟨b3, hb3⟩ : ∃ x, x = l[3] := ⟨_, rfl⟩
  rw [← hb0] at c0
  rw [← hb1] at c1
  rw [← hb2] at c2
  rw [← hb3] at c3
  have hl0 : (0 : Int) < l.length := by omega
  have hl1 : (1 : Int) < l.length := by omega
  have hl2 : (2 : Int) < l.length := by omega
  have hfin : num4 l = 16777216 * b0.toNat + 65536 * b1.toNat + 256 * b2.toNat + b3.toNat := by
    rw [hb0, hb1, hb2, hb3]; unfold num4
    rw [← List.getElem_eq_getD 0 (h := by omega), ← List.getElem_eq_getD 0 (h := by omega), ← List.getElem_eq_getD 0 (h := by omega), ← List.getElem_eq_getD 0 (h := by omega)]
  have HF := Lib.hid hfin; clear hfin
  clear hc h4 hb0 hb1 hb2 hb3
  simp only [Nat.add_zero] at c0
  have g0 : b0.toNat < 256 := b0.toNat_lt
  have g1 : b1.toNat < 256 := b1.toNat_lt
  have g2 : b2.toNat < 256 := b2.toNat_lt
  have g3 : b3.toNat < 256 := b3.toNat_lt
  go_enter Tryd.func73, Tryd.ntmps73
  go_wp2
  go_quiet (fail)
  go_wp2
  go_ret
  refine ⟨ret_int ?_, nq, rfl⟩
  rw [HF.out]; omega

def be4 (n : Nat) : List UInt8 := [UInt8.ofNat (n / 16777216), UInt8.ofNat (n / 65536), UInt8.ofNat (n / 256), UInt8.ofNat n]
theorem be4_length (n : Nat) : (be4 n).length = 4 := rfl
theorem u8_of (n : Nat) : ((UInt8.ofNat n).toNat : Int) = (n : Int) % 256 := by simp


theorem be4_cells (n : Nat) (h : n < 4294967296) : [Value.int .u8 ((n : Int) / 16777216), .int .u8 ((n : Int) / 65536 % 256), .int .u8 ((n : Int) / 256 % 256), .int .u8 ((n : Int) % 256)] = cells8 (be4 n) := by
  unfold cells8 be4
  simp only [List.map_cons, List.map_nil, u8_of]
  rw [show (((n / 16777216 : Nat) : Int)) % 256 = (n : Int) / 16777216 by omega]
  simp only [Int.natCast_ediv]
  rfl

set_option maxRecDepth 100000 in
set_option maxHeartbeats 400000 in
theorem four_any (A : Option Addr) (c : Nat) (l : List UInt8) (n : Nat) (w : World) (base m : Nat) (hn : n < 4294967296) (h : w.ownsRow base 5 1 (.slice A m c) m (cells8 l))
    (hl : m ≤ 100000000) (hbase : base ≤ w.heap.size) :
    Calls Tryd.prog 64 #[.slice A m c, .int .u32 (n : Int)] w fun e w' => ∃ A2 c2, e = .returned (.slice A2 (m + 4) c2) ∧ w'.ownsRow base 5 1 (.slice A2 (m + 4) c2) (m + 4) (cells8 (l ++ be4 n)) ∧ w.grownBy w' (Value.ownBlock (.slice A m c)) := by
  obtain ⟨i0, hi, hz0, hz1, hz2⟩ := info_parts Tryd.info5
  have H := Lib.hid h; clear h
  go_enter Tryd.func64, Tryd.ntmps64
  go_wp2_with (at_builtin; refine wpList_append_row _ rfl (.tmp 5) (.tmp 17) _ rfl base 5 i0 _ 1 1 Tryd.underlying24 hi hz0 hz1 hz2 rfl (by omega) A m c (cells8 l) rfl (H.out.alloc _) _ _ 4 _ _ rfl (cellsIn_alloc _ _ _ _ 1 4 rfl) ?c1 ?c2 ?c3 ?c4 ?_)
  case c1 => exact ⟨rfl, rfl, rfl, rfl⟩
  case c2 => unfold maxLen; omega
  case c3 => omega
  case c4 => simp; omega
  intro A2 c2 w1 hown1 hg1 _
  have hfin : w1.ownsRow base 5 1 (.slice A2 (m + 4) c2) (m + 4) (cells8 (l ++ be4 n)) := by
    rw [cells8_append, ← be4_cells n hn]; exact hown1
  have HF := Lib.hid hfin
  clear hown1 hfin
  have hg2 : w.grownBy w1 (Value.ownBlock (.slice A m c)) := World.grownBy.trans (World.grownBy_alloc w _ _) hg1
  have HG := Lib.hid hg2
  clear hg1 hg2
  go_wp2
  go_ret
  exact ⟨A2, c2, rfl, HF.out, HG.out⟩

set_option maxRecDepth 100000 in
set_option maxHeartbeats 400000 in
theorem rfour_any (n : Nat) (w : World) (hn : n < 4294967296) :
    Calls Tryd.prog 55 #[.int .u32 (n : Int)] w fun e w' => ∃ A2 c2, e = .returned (.slice A2 4 c2) ∧ w'.ownsRow w.heap.size 5 1 (.slice A2 4 c2) 4 (cells8 (be4 n)) ∧ Below w.heap.size w w' := by
  go_enter Tryd.func55, Tryd.ntmps55
  go_wp2
  go_ret
  refine ⟨_, _, rfl, ?_, (Below.refl _ _).alloc (Nat.le_refl _) _⟩
  rw [← be4_cells n hn]
  exact own_alloc w _ 5 1 4 _ rfl (by unfold maxLen; omega) (Nat.le_refl _)

/-- The frame of a body, as bytes. -/
def frameOf (l : List UInt8) : List UInt8 := (be4 l.length ++ l) ++ be4 (crc (be4 l.length ++ l))
theorem frameOf_length (l : List UInt8) : (frameOf l).length = l.length + 8 := by unfold frameOf; simp [be4_length]; omega
theorem crc_lt (l : List UInt8) : crc l < 4294967296 := by unfold crc; omega

set_option maxRecDepth 100000 in
set_option maxHeartbeats 400000 in
theorem frame_any (A : Option Addr) (c n : Nat) (l : List UInt8) (w : World) (h : BytesIn w w.heap.size A c l) (hh : Hal w) (h0 : 0 < w.heap.size) (hl : l.length ≤ 65536) (hn : n = l.length) :
    Calls Tryd.prog 39 #[.slice A n c] w fun e w' => ∃ A2 c2, e = .returned (.tuple #[.slice A2 (n + 8) c2, .int .i64 0]) ∧
      w'.ownsRow w.heap.size 5 1 (.slice A2 (n + 8) c2) (n + 8) (cells8 (frameOf l)) ∧ Below w.heap.size w w' := by
  obtain ⟨i0, hi, hz0, hz1, hz2⟩ := info_parts Tryd.info5
  have hn2 : n ≤ 65536 := by omega
  have hc1 := h.cap
  have HN := Lib.hid hn; clear hn
  have HB := Lib.hid h; clear h
  have HH := Lib.hid hh; clear hh
  go_enter Tryd.func39, Tryd.ntmps39
  go_wp2_with (at_make; refine wpList_make_own _ rfl _ _ 24 rfl w.heap.size 5 i0 (.int .u8 0) 1 Tryd.underlying24 hi hz0 hz1 _ _ _ (n + 8) rfl rfl (by omega) (by rw [hz2]; omega) (by unfold maxLen; omega) (Nat.le_refl _) ?_; intro w1 hown1 hg1)
  have hb1 : Below w.heap.size w w1 := below_of_grown hg1 (by simp)
  have HB1 := Lib.hid hb1
  clear hg1 hb1
  have hs1 : w.heap.size ≤ w1.heap.size := HB1.out.size
  go_wp2_with fail
  have hown1' : w1.ownsRow w.heap.size 5 1 (.slice (some ⟨w.heap.size, 0, none⟩) 0 (n + 8)) 0 (cells8 []) := hown1
  refine (four_any _ _ [] n w1 _ 0 (by omega) hown1' (by omega) hs1).mono ?_
  rintro e w2 ⟨A2, c2, rfl, hown2, hg2⟩
  clear hown1 hown1'
  simp only [Nat.zero_add, List.nil_append] at hown2 ⊢
  have hb2 : Below w.heap.size w w2 := HB1.out.grown hg2 hs1 (by simp [Value.ownBlock])
  have HB2 := Lib.hid hb2
  have hr2 := (HB.out.below hb2 (Nat.le_refl _)).cells
  rw [← HN.out] at hr2
  have hs2 : w.heap.size ≤ w2.heap.size := HB2.out.size
  clear hg2 hb2
  go_wp2_with (at_builtin; refine wpList_append_row _ rfl (.tmp 16) (.tmp 17) _ rfl w.heap.size 5 i0 _ 1 1 Tryd.underlying24 hi hz0 hz1 hz2 rfl (by omega) A2 4 c2 (cells8 (be4 n)) rfl hown2 _ _ n _ _ rfl hr2 (cells8_one l) (by unfold maxLen; omega) (by omega) hs2 ?_; intro A3 c3 w3 hown3 hg3 _)
  rw [← cells8_append] at hown3
  have hb3 : Below w.heap.size w w3 := HB2.out.grown hg3 hs2 (fun k hk => (hown2.lt k hk).1)
  have HB3 := Lib.hid hb3
  have hs3 : w.heap.size ≤ w3.heap.size := HB3.out.size
  clear hown2 hg3 hr2 hb3
  obtain ⟨hl3, hr3⟩ := bytesIn_of_own hown3
  have HR3 := Lib.hid hr3
  have HL3 := Lib.hid hl3
  have HO3 := Lib.hid hown3
  clear hown3 hr3 hl3
  refine (sum_n _ _ _ _ w3 _ HR3.out (HH.out.below HB3.out h0) HL3.out).mono ?_
  rintro e w' ⟨rfl, rfl⟩
  go_wp2_with fail
  refine (four_any _ _ _ _ w3 _ _ (crc_lt _) HO3.out (by omega) hs3).mono ?_
  rintro e w4 ⟨A4, c4, rfl, hown4, hg4⟩
  have e48 : 4 + n + 4 = n + 8 := by omega
  rw [e48] at hown4
  rw [e48]
  have hfin : w4.ownsRow w.heap.size 5 1 (.slice A4 (n + 8) c4) (n + 8) (cells8 (frameOf l)) := by
    unfold frameOf; rw [← HN.out]; exact hown4
  have HF := Lib.hid hfin
  have hb4 : Below w.heap.size w w4 := HB3.out.grown hg4 hs3 (fun k hk => (HO3.out.lt k hk).1)
  have HB4 := Lib.hid hb4
  clear hown4 hg4 hfin hb4 e48
  go_wp2
  go_ret2
  exact ⟨A4, c4, rfl, HF.out, HB4.out⟩

set_option maxRecDepth 100000 in
set_option maxHeartbeats 400000 in
theorem frame_big (A : Option Addr) (c n : Nat) (w : World) (hn : 65536 < n) (hc : n ≤ 9223372036854775807) :
    Calls Tryd.prog 39 #[.slice A n c] w fun e w' => e = .returned (.tuple #[.slice none 0 0, .int .i64 2]) ∧ w = w' := by
  go_enter Tryd.func39, Tryd.ntmps39
  go_wp2_with fail
  go_ret2
  exact ⟨rfl, rfl⟩

set_option maxRecDepth 100000 in
set_option maxHeartbeats 400000 in
theorem rframe_any (A : Option Addr) (c n : Nat) (l : List UInt8) (w : World) (h : BytesIn w w.heap.size A c l) (hl : l.length ≤ 65536) (hn : n = l.length) :
    Calls Tryd.prog 26 #[.slice A n c] w fun e w' => ∃ A2 c2, e = .returned (.tuple #[.slice A2 (n + 8) c2, .int .i64 0]) ∧
      w'.ownsRow w.heap.size 5 1 (.slice A2 (n + 8) c2) (n + 8) (cells8 (frameOf l)) ∧ Below w.heap.size w w' := by
  obtain ⟨i0, hi, hz0, hz1, hz2⟩ := info_parts Tryd.info5
  have hn2 : n ≤ 65536 := by omega
  have hc1 := h.cap
  have HN := Lib.hid hn; clear hn
  have HB := Lib.hid h; clear h
  go_enter Tryd.func26, Tryd.ntmps26
  go_wp2_with fail
  refine (rfour_any n w (by omega)).mono ?_
  rintro e w2 ⟨A2, c2, rfl, hown2, hb2⟩
  have HB2 := Lib.hid hb2
  have hr2 := (HB.out.below hb2 (Nat.le_refl _)).cells
  rw [← HN.out] at hr2
  have hs2 : w.heap.size ≤ w2.heap.size := HB2.out.size
  clear hb2
  go_wp2_with (at_builtin; refine wpList_append_row _ rfl (.tmp 11) (.tmp 12) _ rfl w.heap.size 5 i0 _ 1 1 Tryd.underlying24 hi hz0 hz1 hz2 rfl (by omega) A2 4 c2 (cells8 (be4 n)) rfl hown2 _ _ n _ _ rfl hr2 (cells8_one l) (by unfold maxLen; omega) (by omega) hs2 ?_; intro A3 c3 w3 hown3 hg3 _)
  rw [← cells8_append] at hown3
  have hb3 : Below w.heap.size w w3 := HB2.out.grown hg3 hs2 (fun k hk => (hown2.lt k hk).1)
  have HB3 := Lib.hid hb3
  have hs3 : w.heap.size ≤ w3.heap.size := HB3.out.size
  clear hown2 hg3 hr2 hb3
  obtain ⟨hl3, hr3⟩ := bytesIn_of_own hown3
  have HR3 := Lib.hid hr3
  have HL3 := Lib.hid hl3
  have HO3 := Lib.hid hown3
  clear hown3 hr3 hl3
  refine (rsum_n _ _ _ _ w3 _ HR3.out HL3.out).mono ?_
  rintro e w' ⟨rfl, rfl⟩
  go_wp2_with fail
  refine (rfour_any _ w3 (crc_lt _)).mono ?_
  rintro e w4 ⟨A4, c4, rfl, hown4, hb4⟩
  have hs4 : w3.heap.size ≤ w4.heap.size := hb4.size
  have ho3 : w4.ownsRow w.heap.size 5 1 (.slice A3 (4 + n) c3) (4 + n) (cells8 (be4 n ++ l)) := HO3.out.kept (grown_of_below hb4 none) (by cases A3 <;> simp [Value.ownBlock])
  have hr4 := (bytesIn_of_own hown4).2.cells
  have HB4 := Lib.hid (HB3.out.trans (hb4.mono hs3))
  clear hown4 hb4
  go_wp2_with (at_builtin; refine wpList_append_row _ rfl (.tmp 14) (.tmp 17) _ rfl w.heap.size 5 i0 _ 1 1 Tryd.underlying24 hi hz0 hz1 hz2 rfl (by omega) A3 (4 + n) c3 (cells8 (be4 n ++ l)) rfl ho3 _ _ 4 _ _ rfl hr4 (cells8_one _) (by unfold maxLen; omega) (by omega) (by omega) ?_; intro A5 c5 w5 hown5 hg5 _)
  have e48 : 4 + n + 4 = n + 8 := by omega
  have hfin : w5.ownsRow w.heap.size 5 1 (.slice A5 (n + 8) c5) (n + 8) (cells8 (frameOf l)) := by
    unfold frameOf; rw [← HN.out, cells8_append _ (be4 (crc _)), ← e48]; exact hown5
  have hb5 : Below w.heap.size w w5 := HB4.out.grown hg5 (by omega) (fun k hk => (ho3.lt k hk).1)
  rw [e48]
  go_ret2
  exact ⟨A5, c5, rfl, hfin, hb5⟩

/-- The error of the first frame of l. -/
def lookE (l : List UInt8) : Nat :=
  if l.length < 4 then 10 else if 65536 < num4 l then 11 else if l.length < num4 l + 8 then 10
  else if num4 (l.drop (num4 l + 4)) = crc (l.take (num4 l + 4)) then 0 else 20
/-- Where its body ends (0 with an error). -/
def lookN (l : List UInt8) : Nat := if lookE l = 0 then num4 l + 4 else 0

set_option maxRecDepth 100000 in
set_option maxHeartbeats 400000 in
theorem look_any (A : Option Addr) (c n : Nat) (l : List UInt8) (w : World) (B : Nat) (h : BytesIn w B A c l) (hh : Hal w) (hn : n = l.length) :
    Calls Tryd.prog 68 #[.slice A n c] w fun e w' => e = .returned (.tuple #[.int .i64 (lookN l : Int), .int .i64 (lookE l : Int)]) ∧ ∃ n, w' = w.drewN n := by
  have hc1 := h.cap
  have hc2 := h.le
  have hnc : n ≤ c := by omega
  have HN := Lib.hid hn; clear hn
  have HB := Lib.hid h; clear h
  have HH := Lib.hid hh; clear hh
  by_cases h4 : n < 4
  · have e1 : lookE l = 10 := by unfold lookE; rw [if_pos (by rw [← HN.out]; exact h4)]
    have e2 : lookN l = 0 := by unfold lookN; rw [e1]; rfl
    have E1 := Lib.hid e1
    have E2 := Lib.hid e2
    clear e1 e2
    go_enter Tryd.func68, Tryd.ntmps68
    go_wp2_with fail
    go_ret2
    exact ⟨by rw [E1.out, E2.out]; rfl, 0, rfl⟩
  · obtain ⟨m, hm⟩ : ∃ m, m = num4 l := ⟨_, rfl⟩
    have hml : m < 4294967296 := by rw [hm]; exact num4_lt l
    have HM := Lib.hid hm; clear hm
    go_enter Tryd.func68, Tryd.ntmps68
    go_wp2_with fail
    refine (number_any _ _ l w B _ HB.out (by have := HN.out; omega) HN.out).mono ?_
    rintro e w' ⟨rfl, k1, rfl⟩
    rw [← HM.out]
    by_cases h6 : 65536 < m
    · have e1 : lookE l = 11 := by unfold lookE; rw [if_neg (by rw [← HN.out]; exact h4), if_pos (by rw [← HM.out]; exact h6)]
      have e2 : lookN l = 0 := by unfold lookN; rw [e1]; rfl
      have E1 := Lib.hid e1
      have E2 := Lib.hid e2
      clear e1 e2
      go_wp2_with fail
      go_ret2
      exact ⟨by rw [E1.out, E2.out]; rfl, k1, rfl⟩
    · by_cases h8 : n < m + 8
      · have e1 : lookE l = 10 := by unfold lookE; rw [if_neg (by rw [← HN.out]; exact h4), if_neg (by rw [← HM.out]; exact h6), if_pos (by rw [← HM.out, ← HN.out]; exact h8)]
        have e2 : lookN l = 0 := by unfold lookN; rw [e1]; rfl
        have E1 := Lib.hid e1
        have E2 := Lib.hid e2
        clear e1 e2
        go_wp2_with fail
        go_ret2
        exact ⟨by rw [E1.out, E2.out]; rfl, k1, rfl⟩
      · go_wp2_with fail
        generalize hW : w.drewN k1 = W
        have HW : Hid (W = w.drewN k1) := hW.symm
        clear hW
        have hlen := HN.out
        obtain ⟨b, off, rfl, hb, _⟩ := HB.out.at_ (show 0 < l.length by omega)
        have hbd : BytesIn W B (some ⟨b, off + (m + 4), none⟩) (c - (m + 4)) (l.drop (m + 4)) := by
          rw [HW.out]; exact (HB.out.drewN k1).dropLit (by omega) (by omega)
        have hbt : BytesIn W B (some ⟨b, off, none⟩) c (l.take (m + 4)) := by rw [HW.out]; exact (HB.out.drewN k1).take
        have hhw : Hal W := by rw [HW.out]; exact fun i hi => HH.out i hi
        have HBD := Lib.hid hbd
        have HBT := Lib.hid hbt
        have HHW := Lib.hid hhw
        clear hbd hbt hhw hlen
        go_quiet (first | (go_at_call 80; exact Calls.quiet_of (number_any _ _ (l.drop (m + 4)) _ B _ (HBD.out.drewN _) (by rw [List.length_drop]; have := HN.out; omega) (by rw [List.length_drop]; have := HN.out; omega))) | (go_at_call 65; exact quiet_eq (sum_n _ _ _ (l.take (m + 4)) _ B (HBT.out.drewN _) HHW.out (by rw [List.length_take]; have := HN.out; omega))))
        by_cases hs : num4 (l.drop (m + 4)) = crc (l.take (m + 4))
        · have e1 : lookE l = 0 := by unfold lookE; rw [if_neg (by rw [← HN.out]; exact h4), if_neg (by rw [← HM.out]; exact h6), if_neg (by rw [← HM.out, ← HN.out]; exact h8), if_pos (by rw [← HM.out]; exact hs)]
          have e2 : lookN l = m + 4 := by unfold lookN; rw [e1, ← HM.out]; rfl
          have E1 := Lib.hid e1
          have E2 := Lib.hid e2
          have q : (((num4 (l.drop (m + 4)) : Nat) : Int) != ((crc (l.take (m + 4)) : Nat) : Int)) = false := by rw [hs]; simp
          clear e1 e2 hs
          go_wp2_with fail
          go_ret2
          exact ⟨by rw [E1.out, E2.out]; rfl, k1 + nq, by rw [HW.out]; simp⟩
        · have e1 : lookE l = 20 := by unfold lookE; rw [if_neg (by rw [← HN.out]; exact h4), if_neg (by rw [← HM.out]; exact h6), if_neg (by rw [← HM.out, ← HN.out]; exact h8), if_neg (by rw [← HM.out]; exact hs)]
          have e2 : lookN l = 0 := by unfold lookN; rw [e1]; rfl
          have E1 := Lib.hid e1
          have E2 := Lib.hid e2
          have q : (((num4 (l.drop (m + 4)) : Nat) : Int) != ((crc (l.take (m + 4)) : Nat) : Int)) = true := by rw [bne_iff_ne]; omega
          clear e1 e2 hs
          go_wp2_with fail
          go_ret2
          exact ⟨by rw [E1.out, E2.out]; rfl, k1 + nq, by rw [HW.out]; simp⟩

end Go.Proofs.YtkenaoejijpgpaaDoor
