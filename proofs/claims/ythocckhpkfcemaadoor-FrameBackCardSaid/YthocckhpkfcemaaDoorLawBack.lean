/- The law FrameBack: the plain law and the walk. -/
import Derived.Test.YthocckhpkfcemaaDoorTurn
namespace Go.Proofs.YthocckhpkfcemaaDoor
open Go.RowKit

def flat (ls : List (List UInt8)) : List UInt8 := (ls.map frameOf).flatten
theorem CellsIn.below {w w' : World} {B B' size m : Nat} {A : Option Addr} {xs : List Value} (h : CellsIn w B size A m xs) (hb : Below B' w w') (hB : B ≤ B') : CellsIn w' B size A m xs := by
  refine ⟨h.len, ?_⟩
  rcases h.rd with e | ⟨b, off, e, hb', hc⟩
  · exact .inl e
  · exact .inr ⟨b, off, e, hb', fun j u hu => (hb.cell (p := ⟨b, off + j, none⟩) (by show b < B'; omega)).trans (hc j u hu)⟩
theorem flat_nil : flat [] = [] := rfl
theorem flat_cons (l : List UInt8) (ls : List (List UInt8)) : flat (l :: ls) = frameOf l ++ flat ls := rfl
theorem flat_snoc (ls : List (List UInt8)) (l : List UInt8) : flat (ls ++ [l]) = flat ls ++ frameOf l := by unfold flat; simp
theorem num4_frame (l r : List UInt8) (hl : l.length ≤ 65536) : num4 (frameOf l ++ r) = l.length := by
  rw [frame_split, List.append_assoc]; exact num4_be4 _ (by omega) _
theorem take_frame (l r : List UInt8) : (frameOf l ++ r).take (l.length + 4) = be4 l.length ++ l := by
  have hX : (be4 l.length ++ l).length = l.length + 4 := by simp [be4_length]; omega
  unfold frameOf
  rw [← hX, List.append_assoc, List.take_left]
theorem drop_frame (l r : List UInt8) : (frameOf l ++ r).drop (l.length + 4) = be4 (crc (be4 l.length ++ l)) ++ r := by
  have hX : (be4 l.length ++ l).length = l.length + 4 := by simp [be4_length]; omega
  unfold frameOf
  rw [← hX, List.append_assoc, List.drop_left]
theorem look_frame (l r : List UInt8) (hl : l.length ≤ 65536) : lookE (frameOf l ++ r) = 0 := by
  have hlen : (frameOf l ++ r).length = l.length + 8 + r.length := by rw [List.length_append, frameOf_length]
  unfold lookE
  rw [hlen, num4_frame l r hl, if_neg (by omega), if_neg (by omega), if_neg (by omega), if_pos (by rw [drop_frame, take_frame, num4_be4 _ (crc_lt _)])]
theorem body_frame (l r : List UInt8) (hl : l.length ≤ 65536) : bodyOf (frameOf l ++ r) = l := by
  unfold bodyOf
  rw [num4_frame l r hl, frame_split, List.append_assoc, List.append_assoc]
  have : (be4 l.length).length = 4 := be4_length _
  rw [← this, List.drop_left, List.take_left]
theorem rest_frame (l r : List UInt8) : (frameOf l ++ r).drop (l.length + 8) = r := by
  rw [← frameOf_length l, List.drop_left]
theorem look_short (l : List UInt8) (h : l.length < 8) : ¬ lookE l = 0 := by
  intro h0
  have := lookE_ok h0
  omega
theorem scan_flat (ls : List (List UInt8)) (r : List UInt8) (hr : r.length < 8) (h : ∀ l ∈ ls, l.length ≤ 65536) : scanL (flat ls ++ r) = ls ∧ scanAt (flat ls ++ r) = (flat ls).length := by
  induction ls with
  | nil => rw [flat_nil, List.nil_append, scanL_no (look_short r hr), scanAt_no (look_short r hr)]; exact ⟨rfl, rfl⟩
  | cons l ls ih =>
    obtain ⟨h1, h2⟩ := ih (fun x hx => h x (List.mem_cons_of_mem _ hx))
    have hl := h l List.mem_cons_self
    have e0 := look_frame l (flat ls ++ r) hl
    rw [flat_cons, List.append_assoc]
    rw [scanL_ok e0, scanAt_ok e0, num4_frame _ _ hl, body_frame _ _ hl, rest_frame, h1, h2, List.length_append, frameOf_length]
    exact ⟨rfl, rfl⟩
set_option maxHeartbeats 4000000 in
theorem law_back (Al A : Option Addr) (cl c L n : Nat) (vs : List Value) (ls : List (List UInt8)) (l : List UInt8) (w : World) (hv : CellsIn w w.heap.size 1 Al L vs) (hr : RowsIn w w.heap.size vs ls) (hL : L = ls.length) (hL63 : L ≤ 9223372036854775807)
    (h : BytesIn w w.heap.size A c l) (hn : n = l.length) (h0 : 0 < w.heap.size) (hh : Hal w) :
    Calls Tryd.prog 5 #[.slice Al L cl, .slice A n c] w fun e w' => e = .returned (.bool true) ∧ Below w.heap.size w w' := by
  obtain ⟨i5, hi, hz0, hz1, hz2⟩ := info_parts Tryd.info5
  have hc1 := h.cap
  have hnc : n ≤ c := by have := h.le; omega
  have HN := Lib.hid hn; clear hn
  have HL := Lib.hid hL; clear hL
  have HB := Lib.hid h; clear h
  have HV := Lib.hid hv; clear hv
  have HR := Lib.hid hr; clear hr
  have HH := Lib.hid hh; clear hh
  go_enter Tryd.func5, Tryd.ntmps5
  go_wp2_with fail
  refine (awake_any w h0 HH.out).mono ?_
  rintro e w1 ⟨rfl, hb1⟩
  have HB1 := Lib.hid hb1
  have hs1 : w.heap.size ≤ w1.heap.size := hb1.size
  clear hb1
  by_cases hbig : 20 < L
  · go_wp2_with fail
    go_ret
    exact ⟨rfl, HB1.out⟩
  by_cases hbeh : 7 < n
  · go_wp2_with fail
    go_ret
    exact ⟨rfl, HB1.out⟩
  go_wp2_with fail
  go_loopw [6, 7] (fun v i wr => ∃ (k m cb : Nat) (Ab : Option Addr), k ≤ L ∧ i = .int .i64 k ∧ v = .slice Ab m cb ∧ m ≤ k * 508 ∧ Hid (m = (flat (ls.take k)).length) ∧ Hid (∀ x ∈ ls.take k, x.length ≤ 500) ∧ Hid (wr.ownsRow w.heap.size 5 1 (.slice Ab m cb) m (cells8 (flat (ls.take k)))) ∧ Hid (Below w.heap.size w wr)) (fun _ i _ => L - (intOf i).toNat)
  case atStart => exact ⟨0, 0, 0, none, Nat.zero_le _, rfl, rfl, Nat.le_refl _, rfl, Lib.hid (by simp), Lib.hid (World.ownsRow_nil _ _ _ _), HB1⟩
  case round =>
    obtain ⟨k, m, cb, Ab, hk, rfl, rfl, hmk, HM, HX, HO, HBw⟩ := hrel
    have hsw : w.heap.size ≤ wr.heap.size := HBw.out.size
    by_cases hkL : k < L
    · have hkl : k < ls.length := by have := HL.out; omega
      obtain ⟨A', c', hv1, hr1⟩ := HR.out.2 k hkl
      obtain ⟨g, off, rfl, hgw, hcell⟩ := HV.out.at_ hv1
      have hcw : wr.cell? ⟨g, off + k, none⟩ = some (.slice A' ls[k].length c') := (HBw.out.cell (p := ⟨g, off + k, none⟩) hgw).trans hcell
      have hkL' : (k : Int) < (L : Int) := by omega
      have hr1c := hr1.cap
      have hr1l := hr1.le
      obtain ⟨x, hx⟩ : ∃ x, x = ls[k] := ⟨_, rfl⟩
      rw [← hx] at hr1 hcw hr1l
      obtain ⟨N, hN⟩ : ∃ N, N = x.length := ⟨_, rfl⟩
      rw [← hN] at hcw hr1l
      have HNX := Lib.hid hN
      have HXK := Lib.hid hx
      have HR1 := Lib.hid hr1
      clear hx hN hr1 hcell hv1
      by_cases h500 : 500 < N
      · go_wp2_with fail
        go_ret
        exact ⟨rfl, HBw.out⟩
      · go_wp2_with fail
        refine (frame_any _ _ _ x wr ((HR1.out.below HBw.out (Nat.le_refl _)).more hsw) (HH.out.below HBw.out h0) (by omega) (by have := HNX.out; omega) HNX.out).mono ?_
        rintro e w2 ⟨A2, c2, rfl, hown2, hb2⟩
        have HB2 := Lib.hid (HBw.out.trans (hb2.mono hsw))
        have hs2 : w.heap.size ≤ w2.heap.size := HB2.out.size
        have hcw2 : w2.cell? ⟨g, off + k, none⟩ = some (.slice A' N c') := (hb2.cell (p := ⟨g, off + k, none⟩) (Nat.lt_of_lt_of_le hgw hsw)).trans hcw
        have HO2 : Hid (w2.ownsRow w.heap.size 5 1 (.slice Ab m cb) m (cells8 (flat (ls.take k)))) := Lib.hid (HO.out.kept (grown_of_below hb2 none) (by cases Ab <;> simp [Value.ownBlock]))
        have hr2 := (bytesIn_of_own hown2).2.cells
        rw [frameOf_length, ← HNX.out] at hr2
        have HR2 := Lib.hid hr2
        clear hb2 hown2 hr2
        have q : ((N : Int) + 8 != (N : Int) + 8) = false := by simp
        go_wp2_with (at_builtin; refine wpList_append_row _ rfl (.tmp 56) (.tmp 57) _ rfl w.heap.size 5 i5 _ 1 1 Tryd.underlying22 hi hz0 hz1 hz2 rfl (by omega) Ab m cb (cells8 (flat (ls.take k))) rfl HO2.out _ _ (N + 8) _ _ rfl HR2.out (cells8_one _) (by unfold maxLen; omega) (by omega) hs2 ?_; intro A3 c3 w3 hown3 hg3 _; have HO3 := Lib.hid hown3; have HG3 := Lib.hid hg3; clear hown3 hg3)
        have htk : ls.take (k + 1) = ls.take k ++ [x] := by rw [take_snoc ls k hkl, HXK.out]
        have ho3 : w3.ownsRow w.heap.size 5 1 (.slice A3 (m + (N + 8)) c3) (m + (N + 8)) (cells8 (flat (ls.take (k + 1)))) := by
          rw [htk, flat_snoc, cells8_append]; exact HO3.out
        have hm3 : m + (N + 8) = (flat (ls.take (k + 1))).length := by
          rw [htk, flat_snoc, List.length_append, frameOf_length, ← HM.out, ← HNX.out]
        have hx3 : ∀ y ∈ ls.take (k + 1), y.length ≤ 500 := by
          intro y hy
          rw [htk, List.mem_append] at hy
          rcases hy with hy | hy
          · exact HX.out y hy
          · have : y = x := by simpa using hy
            rw [this, ← HNX.out]; omega
        have HO4 := Lib.hid ho3
        have HM4 := Lib.hid hm3
        have HX4 := Lib.hid hx3
        have HB4 : Hid (Below w.heap.size w w3) := Lib.hid (HB2.out.grown HG3.out hs2 (fun q hq => (HO2.out.lt q hq).1))
        clear htk ho3 hm3 hx3
        go_roundw
        case rel => exact ⟨k + 1, m + (N + 8), c3, A3, by omega, by go_num, rfl, by omega, HM4, HX4, HO4, HB4⟩
        case measure => simp [intOf]; omega
    · have hkl : k = L := by omega
      have htk : ls.take k = ls := List.take_of_length_le (by have := HL.out; omega)
      rw [htk] at HM HX HO
      clear htk hkl
      have hm1 : m ≤ 10160 := by omega
      have hrb := (bytesIn_of_own HO.out).2
      have HRB := Lib.hid hrb
      clear hrb
      have HBh := Lib.hid (HB.out.below HBw.out (Nat.le_refl _))
      have ow0 : (wr.alloc (.cells #[] 5)).ownsRow w.heap.size 5 1 (.slice (some ⟨wr.heap.size, 0, none⟩) 0 0) 0 (cells8 []) := own_alloc wr #[] 5 1 0 _ rfl (by unfold maxLen; omega) hsw
      have OW0 := Lib.hid ow0
      have hba : Below wr.heap.size wr (wr.alloc (.cells #[] 5)) := (Below.refl _ _).alloc (Nat.le_refl _) _
      have HBA := Lib.hid hba
      have hsa : w.heap.size ≤ (wr.alloc (.cells #[] 5)).heap.size := by simp; omega
      have HSA := Lib.hid hsa
      clear ow0 hba hsa
      go_wp2_with (first
        | (at_builtin; refine wpList_append_row _ rfl (.tmp 60) (.tmp 61) _ rfl w.heap.size 5 i5 _ 1 1 Tryd.underlying22 hi hz0 hz1 hz2 rfl (by omega) (some ⟨wr.heap.size, 0, none⟩) 0 0 (cells8 []) rfl OW0.out _ Ab m cb (cells8 (flat ls)) rfl ((HRB.out.below HBA.out (Nat.le_refl _)).cellsN HM.out) (cells8_one _) (by unfold maxLen; omega) (by omega) HSA.out ?_; intro A3 c3 w3 hown3 hg3 _; have HB3 := Lib.hid ((HBw.out.trans (HBA.out.mono hsw)).grown hg3 HSA.out (fun q hq => (OW0.out.lt q hq).1)); have hs3 := HB3.out.size; have HO3 := Lib.hid (own_norm hown3); clear hown3 hg3)
        | (at_builtin; refine wpList_append_row _ rfl (.tmp 62) (.tmp 63) _ rfl w.heap.size 5 i5 _ 1 1 Tryd.underlying22 hi hz0 hz1 hz2 rfl (by omega) A3 m c3 (cells8 (flat ls)) rfl HO3.out _ A n c (cells8 l) rfl ((HB.out.below HB3.out (Nat.le_refl _)).cellsN HN.out) (cells8_one _) (by unfold maxLen; omega) (by omega) hs3 ?_; intro A4 c4 w4 hown4 hg4 _; have HB4 := Lib.hid (HB3.out.grown hg4 hs3 (fun q hq => (HO3.out.lt q hq).1)); have HO4 := Lib.hid hown4; clear hown4 hg4))
      have hs4 := HB4.out.size
      have ho4 : w4.ownsRow w.heap.size 5 1 (.slice A4 (m + n) c4) (m + n) (cells8 (flat ls ++ l)) := by rw [cells8_append]; exact HO4.out
      have HR4 := Lib.hid (bytesIn_of_own ho4)
      obtain ⟨sc1, sc2⟩ := scan_flat ls l (by have := HN.out; omega) (fun x hx => by have := HX.out x hx; omega)
      rw [← HM.out] at sc2
      have hsc := scan_any A4 c4 (m + n) (flat ls ++ l) w4 HR4.out.2 (by omega) (HH.out.below HB4.out h0) HR4.out.1 (by omega)
      rw [sc1, sc2, ← HL.out] at hsc
      clear ho4 sc1 sc2
      refine hsc.mono ?_
      clear hsc
      rintro e w5 ⟨Ao, co, vo, rfl, hown5, hrow5, hb5⟩
      have HB5 := Lib.hid (HB4.out.trans (hb5.mono hs4))
      have hs5 := HB5.out.size
      have hsm := same_any Ao Al co cl L vo vs ls w5 w5.heap.size w.heap.size HL.out (by omega) (cellsIn_of_own hown5) (.of_own hrow5) (HV.out.below HB5.out (Nat.le_refl _)) (HR.out.below HB5.out (Nat.le_refl _))
      have HSM := Lib.hid hsm
      clear hown5 hrow5 hb5 hsm
      go_wp2_with fail
      refine HSM.out.mono ?_
      rintro e w' ⟨rfl, k1, rfl⟩
      have HB6 := Lib.hid (below_dn (n := k1) HB5.out)
      go_wp2_with fail
      go_ret
      exact ⟨rfl, HB6.out⟩
end Go.Proofs.YthocckhpkfcemaaDoor
