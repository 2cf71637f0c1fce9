/- An amount's text. -/
import Derived.Test.YtfbmjejkhnopiaaDoorVecB
import Derived.Test.YtfbmjejkhnopiaaDoorShelf
import Derived.Lib.AppendIntMem
import Derived.Lib.ItoaLen
namespace Go.Proofs.YtfbmjejkhnopiaaDoor
open Go.RowKit

theorem i5x : (Tryd.prog.info? 5).map (fun i => (i.zero, i.size, i.bytes)) = some (some (.int .u8 0), 1, 1) := by kernel_rfl
theorem i5p : ∃ i, Tryd.prog.info? 5 = some i ∧ i.zero = some (.int .u8 0) ∧ i.size = 1 ∧ i.bytes = 1 := by
  have h := i5x
  cases hi : Tryd.prog.info? 5 with
  | none => rw [hi] at h; cases h
  | some i => rw [hi] at h; simp at h; exact ⟨i, rfl, h.1, h.2.1, h.2.2⟩
theorem own_slice {w : World} {base n : Nat} {e : TypeId} {v : Value} {xs : List Value} (h : w.ownsRow base e 1 v n xs) : ∃ A c, v = .slice A n c := by
  rcases h.2 with ⟨h1, h0⟩ | ⟨g, cap, cur, h1, _⟩
  · subst h0; exact ⟨none, 0, h1⟩
  · exact ⟨_, _, h1⟩
theorem zc {w : World} {B c n : Nat} {A : Option Addr} {l : List UInt8} (h : BytesIn w B A c l) (hn : n = l.length) : (convert 49 9 (.slice A n c)).run Tryd.prog w = .ok (.string (str l)) w :=
  run_string h hn 49 5 9 Tryd.underlying49 Tryd.underlying5 Tryd.underlying9
theorem byteCells_eq (l : List UInt8) : Lib.byteCells l = cells8 l := rfl
/-- The first j numbers' text. -/
def pt (d : Nat → Int) : Nat → List UInt8
  | 0 => []
  | j + 1 => pt d j ++ ((if j = 0 then [] else [44]) ++ Lib.itoa (d j))
def Fits64 (d : Nat → Int) : Prop := ∀ i, i < 4 → -9223372036854775808 ≤ d i ∧ d i ≤ 9223372036854775807
theorem pt_len (d : Nat → Int) (h : Fits64 d) : ∀ j, j ≤ 4 → (pt d j).length ≤ 22 * j := by
  intro j
  induction j with
  | zero => intro _; simp [pt]
  | succ j ih =>
    intro hj
    have h1 := ih (by omega)
    have h2 := Lib.itoa_length_le (d j) (h j (by omega)).1 (h j (by omega)).2
    simp only [pt, List.length_append]
    split <;> simp <;> omega
set_option maxRecDepth 100000 in
set_option maxHeartbeats 4000000 in
theorem text_any (d : Nat → Int) (w : World) (h : Fits64 d) (htab : Lib.TabBelow Tryd.prog w.heap.size w "internal/strconv.uint64pow10" .u64 Lib.pow10Tab) :
    Calls Tryd.prog 24 #[.agg #[.int .i64 (d 0), .int .i64 (d 1), .int .i64 (d 2), .int .i64 (d 3)]] w fun e w' => e = .returned (.string (str (pt d 4))) ∧ Below w.heap.size w w' := by
  obtain ⟨i5, hi, hz0, hz1, hz2⟩ := i5p
  obtain ⟨S, hS⟩ : ∃ S, S = w.heap.size := ⟨_, rfl⟩
  have HF := Lib.hid h
  have HT := Lib.hid htab
  have HL := Lib.hid (pt_len d h)
  have hb : Below w.heap.size w (w.alloc (.cells #[.int .i64 (d 0), .int .i64 (d 1), .int .i64 (d 2), .int .i64 (d 3)] 23)) := (Below.refl _ _).alloc (Nat.le_refl _) _
  have HB := Lib.hid hb
  have HV : Hid (VAt (w.alloc (.cells #[.int .i64 (d 0), .int .i64 (d 1), .int .i64 (d 2), .int .i64 (d 3)] 23)) S d) := Lib.hid (by rw [hS]; exact VAt.new w d)
  have hx : ∀ j : Nat, j < 4 → ∀ w, (Instr.index 23 (.agg #[.int .i64 (d 0), .int .i64 (d 1), .int .i64 (d 2), .int .i64 (d 3)]) (.int .i64 j)).run Tryd.prog w = .ok (.int .i64 (d j)) w := by
    intro j hj w
    have hj : j = 0 ∨ j = 1 ∨ j = 2 ∨ j = 3 := by omega
    rcases hj with rfl | rfl | rfl | rfl <;> rfl
  have HX := Lib.hid hx
  clear h htab hb hx
  go_enter Tryd.func24, Tryd.ntmps24
  go_upto_region 1 with (fail)
  rw [← hS]
  clear hS
  generalize w.alloc (.cells #[.int .i64 (d 0), .int .i64 (d 1), .int .i64 (d 2), .int .i64 (d 3)] 23) = w1 at HB HV ⊢
  go_wp2_with (refine wpList_load_row rfl 23 (.tmp 1) rfl S rfl 23 _ (0, 0) _ HV.out Tryd.underlying23 rfl (by kernel_rfl) ?_)
  clear HV
  go_loopw [3, 7] (fun v i wr => ∃ (j n c : Nat) (A : Option Addr), j ≤ 4 ∧ i = .int .i64 j ∧ v = .slice A n c ∧ n ≤ 100 ∧ Hid (n = (pt d j).length) ∧ Hid (wr.ownsRow w.heap.size 5 1 (.slice A n c) n (cells8 (pt d j))) ∧ Hid (Below w.heap.size w wr)) (fun _ i _ => 4 - (intOf i).toNat)
  case atStart => exact ⟨0, 0, 0, none, by omega, rfl, rfl, by omega, Lib.hid rfl, Lib.hid (World.ownsRow_nil _ _ _ _), HB⟩
  case round =>
    clear HB
    obtain ⟨j, n, c, A, hj, rfl, rfl, hn, HN, HO, HBw⟩ := hrel
    have hs : w.heap.size ≤ wr.heap.size := HBw.out.size
    by_cases hj4 : j < 4
    · have hj' : (j : Int) < 4 := by omega
      have hx := HX.out j hj4
      have hf := HF.out j hj4
      obtain ⟨hf0, hf1⟩ := hf
      have hl1 := HL.out j (by omega)
      have hl := HL.out (j + 1) (by omega)
      have HLl := Lib.hid (And.intro hl hl1)
      clear hl hl1
      by_cases hj0 : j = 0
      · have hnp : ¬ (0 : Int) < (j : Int) := by omega
        have HJ := Lib.hid hj0
        clear hj0
        go_wp2_with fail
        clear hx
        refine (Tryd.strconv_AppendInt_10 w.heap.size n (d j) hf0 hf1 (.slice A n c) (cells8 (pt d j)) wr HO.out hs (by omega) (HT.out.on HBw.out)).mono ?_
        rintro e w2 ⟨v2, rfl, ho, hb, -⟩
        obtain ⟨A2, c2, rfl⟩ := own_slice ho
        have hep : pt d (j + 1) = pt d j ++ Lib.itoa (d j) := by rw [HJ.out]; rfl
        have hep2 : n + (Lib.itoa (d j)).length = (pt d (j + 1)).length := by rw [hep, List.length_append, ← HN.out]
        rw [byteCells_eq, ← cells8_append, ← hep, hep2] at ho
        obtain ⟨m, hm⟩ : ∃ m, m = (pt d (j + 1)).length := ⟨_, rfl⟩
        rw [← hm] at ho
        have hm2 : n + (Lib.itoa (d j)).length = m := by rw [hep2, hm]
        have hmb : m ≤ 100 := by have := HLl.out.1; omega
        have HO2 := Lib.hid ho
        have HM := Lib.hid hm
        have HB2 := Lib.hid (HBw.out.trans hb)
        rw [hm2]
        clear ho hm hep hep2 hb hm2
        go_wp2_with fail
        go_roundw
        case rel => exact ⟨j + 1, m, c2, A2, by omega, by go_num, rfl, hmb, HM, HO2, HB2⟩
        case measure => simp [intOf]; omega
      · have hnp : (0 : Int) < (j : Int) := by omega
        have HJ := Lib.hid hj0
        clear hj0
        go_wp2_with (at_builtin; refine wpList_append_row _ rfl (.tmp 13) (.tmp 14) _ rfl w.heap.size 5 i5 _ 1 1 Tryd.underlying49 hi hz0 hz1 hz2 rfl (by omega) A n c (cells8 (pt d j)) rfl (HO.out.alloc _) (wr.heap.size + 1) (some ⟨wr.heap.size, 0, none⟩) 1 1 [.int .u8 44] rfl (cellsIn_alloc wr #[.int .u8 44] 5 (0, 0) 1 1 rfl) (by simp [Value.oneCell']) (by unfold maxLen; omega) (by omega) (by simp; omega) ?_; intro A3 c3 w3 hown3 hg3 hat3; have HO3 := Lib.hid hown3; have HG3 := Lib.hid hg3; clear hown3 hg3 hat3)
        clear hx
        have hb3 : Below w.heap.size w w3 := (HBw.out.alloc hs _).grown HG3.out (by simp; omega) (fun q hq => (HO.out.lt q hq).1)
        have HB3 := Lib.hid hb3
        clear hb3
        refine (Tryd.strconv_AppendInt_10 w.heap.size (n + 1) (d j) hf0 hf1 (.slice A3 (n + 1) c3) (cells8 (pt d j) ++ [.int .u8 44]) w3 HO3.out HB3.out.size (by omega) (HT.out.on HB3.out)).mono ?_
        rintro e w2 ⟨v2, rfl, ho, hb, -⟩
        obtain ⟨A2, c2, rfl⟩ := own_slice ho
        have hep : pt d (j + 1) = pt d j ++ [44] ++ Lib.itoa (d j) := by
          show pt d j ++ ((if j = 0 then [] else [44]) ++ Lib.itoa (d j)) = _
          rw [if_neg HJ.out]; simp
        have hep2 : n + 1 + (Lib.itoa (d j)).length = (pt d (j + 1)).length := by rw [hep, List.length_append, List.length_append, ← HN.out]; rfl
        have hc44 : cells8 (pt d j) ++ [.int .u8 44] = cells8 (pt d j ++ [44]) := by rw [cells8_append]; rfl
        rw [byteCells_eq, hc44, ← cells8_append, ← hep, hep2] at ho
        obtain ⟨m, hm⟩ : ∃ m, m = (pt d (j + 1)).length := ⟨_, rfl⟩
        rw [← hm] at ho
        have hm2 : n + 1 + (Lib.itoa (d j)).length = m := by rw [hep2, hm]
        have hmb : m ≤ 100 := by have := HLl.out.1; omega
        have HO2 := Lib.hid ho
        have HM := Lib.hid hm
        have HB2 := Lib.hid (HB3.out.trans hb)
        rw [hm2]
        clear ho hm hep hep2 hb hm2 hc44
        go_wp2_with fail
        go_roundw
        case rel => exact ⟨j + 1, m, c2, A2, by omega, by go_num, rfl, hmb, HM, HO2, HB2⟩
        case measure => simp [intOf]; omega
    · have hj4' : j = 4 := by omega
      have HE : Hid (pt d j = pt d 4) := Lib.hid (by rw [hj4'])
      have z := zc (bytesIn_of_own HO.out).2 HN.out
      have hj5 : ¬ (j : Int) < 4 := by omega
      clear hj4'
      go_wp2_with fail
      go_ret
      exact ⟨by rw [HE.out]; rfl, HBw.out⟩
end Go.Proofs.YtfbmjejkhnopiaaDoor
