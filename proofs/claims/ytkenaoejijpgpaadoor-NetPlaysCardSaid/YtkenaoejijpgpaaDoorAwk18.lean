/- The document's example of a network. -/
import Derived.Test.YtkenaoejijpgpaaDoorNetC
import Derived.Test.YtkenaoejijpgpaaDoorPack
import Derived.Test.YtkenaoejijpgpaaDoorUnp
import Derived.Deep.Cut
namespace Go.Proofs.YtkenaoejijpgpaaDoor
open Go.RowKit

def vA : Nat → Int
  | 0 => 1
  | 2 => 1
  | 3 => 5
  | _ => 0
theorem okA : OkM vA 0 := by decide +kernel
theorem bodyA : bodyV vA [] = [2, 2, 10] := by
  unfold bodyV numsK
  rw [if_neg (by decide), show vA 0 = 1 from rfl, flK_1]
  simp only [List.map_cons, List.map_nil, vrow]
  rw [show vA 2 = 1 from rfl, show vA 3 = 5 from rfl, show zz 1 = 2 from rfl, show zz 5 = 10 from rfl, vb_small (by omega), vb_small (by omega)]
  rfl
theorem upEA : upE (frameOf [2, 2, 10]) = 0 := by decide +kernel
theorem outVA : outV (frameOf [2, 2, 10]) 3 = 5 := by decide +kernel
theorem lenA : (frameOf [2, 2, 10]).length = 11 := by rw [frameOf_length]; rfl
theorem deliver0 (w : World) {B N Lc : Nat} {LA : Option Addr} {p : Pv} (h : NAt w B N LA Lc [p]) :
    Calls Tryd.prog 25 #[.pointer (some ⟨N, 0, none⟩), .int .i64 0] w fun e w' => DelTo w B N 0 [p] p e w' :=
  deliver_any (j := 0) w h rfl (by simp)
set_option maxRecDepth 100000 in
set_option maxHeartbeats 4000000 in
theorem awake_any (w : World) (h0 : 0 < w.heap.size) (hh : Hal w) : Calls Tryd.prog 10 #[] w fun e w' => e = .returned (.bool true) ∧ Below w.heap.size w w' := by
  have hP := pack_ok vA none 0 0 [] w (.emp (by omega)) rfl hh h0 okA
  rw [bodyA] at hP
  have HP := Lib.hid hP
  have HH := Lib.hid hh
  obtain ⟨F, hF⟩ : ∃ F, F = frameOf [2, 2, 10] := ⟨_, rfl⟩
  have hup := upEA
  have hov := outVA
  have hlen := lenA
  rw [← hF] at hup hov hlen HP
  have HF := Lib.hid hF
  have HUP := Lib.hid hup
  have HOV := Lib.hid hov
  have HLN : Hid (11 = F.length) := Lib.hid hlen.symm
  obtain ⟨S, hS⟩ : ∃ S, S = w.heap.size := ⟨_, rfl⟩
  rw [← hS] at HP h0 ⊢
  have HSW := Lib.hid hS
  clear hP hh hF hup hov hlen hS
  go_enter Tryd.func10, Tryd.ntmps10
  go_wp2_with fail
  refine HP.out.mono ?_
  clear HP
  rintro e w1 ⟨A1, c1, rfl, ho, hb⟩
  have HO1 : Hid (w1.ownsRow S 5 1 (.slice A1 11 c1) 11 (cells8 F)) := Lib.hid ho
  have HB1 := Lib.hid hb
  have hs1 : S ≤ w1.heap.size := by have := HSW.out; have := hb.size; omega
  clear ho hb
  obtain ⟨w2, hw2⟩ : ∃ y, y = w1.alloc (.cells #[.int .u8 2, .int .u8 2, .int .u8 10] 5) := ⟨_, rfl⟩
  have hal : Below w1.heap.size w1 w2 := by rw [hw2]; exact (Below.refl _ _).alloc (Nat.le_refl _) _
  have hby := bytes_new w1 #[.int .u8 2, .int .u8 2, .int .u8 10] 5 (0, 0) [2, 2, 10] 3 rfl rfl (by omega)
  rw [← hw2] at hby
  have HY2 : Hid (BytesIn w2 w2.heap.size (some ⟨w1.heap.size, 0, none⟩) 3 [2, 2, 10]) := Lib.hid (hby.more (by rw [hw2]; simp))
  have HO2 : Hid (w2.ownsRow S 5 1 (.slice A1 11 c1) 11 (cells8 F)) := Lib.hid (HO1.out.kept (grown_of_below hal none) (by cases A1 <;> simp [Value.ownBlock]))
  have HB2 := Lib.hid (HB1.out.trans (hal.mono hs1))
  have hs2 : S ≤ w2.heap.size := Nat.le_trans hs1 hal.size
  clear hal hby HO1 HB1
  go_wp2_with fail
  rw [← hw2]
  clear hw2
  refine (rframe_any _ 3 3 [2, 2, 10] w2 HY2.out (by decide) rfl).mono ?_
  rintro e w3 ⟨A3, c3, rfl, ho, hb⟩
  rw [← HF.out] at ho
  have HR3 : Hid (w3.ownsRow S 5 1 (.slice A3 11 c3) 11 (cells8 F)) := Lib.hid (own_low ho hs2)
  have HO3 : Hid (w3.ownsRow S 5 1 (.slice A1 11 c1) 11 (cells8 F)) := Lib.hid (HO2.out.kept (grown_of_below hb none) (by cases A1 <;> simp [Value.ownBlock]))
  have HB3 := Lib.hid (HB2.out.trans (hb.mono hs2))
  have hs3 : S ≤ w3.heap.size := Nat.le_trans hs2 hb.size
  clear ho hb HO2 HB2 HY2
  go_wp2_with fail
  refine (unpack_any A1 11 c1 F w3 (bytesIn_of_own HO3.out).2 HLN.out (by omega) (HH.out.below HB3.out h0) (by omega)).mono ?_
  rintro e w4 ⟨A4, c4, rfl, _, hb⟩
  rw [HUP.out]
  have HR4 : Hid (w4.ownsRow S 5 1 (.slice A3 11 c3) 11 (cells8 F)) := Lib.hid (HR3.out.kept (grown_of_below hb none) (by cases A3 <;> simp [Value.ownBlock]))
  have HO4 : Hid (w4.ownsRow S 5 1 (.slice A1 11 c1) 11 (cells8 F)) := Lib.hid (HO3.out.kept (grown_of_below hb none) (by cases A1 <;> simp [Value.ownBlock]))
  have HB4 := Lib.hid (HB3.out.trans (hb.mono hs3))
  have hs4 : S ≤ w4.heap.size := Nat.le_trans hs3 hb.size
  clear hb HO3 HB3 HR3
  obtain ⟨n4, hn4⟩ : ∃ n, n = (outT F).length := ⟨_, rfl⟩
  rw [← hn4]
  clear hn4
  obtain ⟨v, hv⟩ : ∃ v, v = outV F := ⟨_, rfl⟩
  rw [← hv] at HOV
  rw [← hv]
  clear hv
  go_upto_region 4 with (refine wpList_store_row rfl 29 (.tmp 4) (.tmp 20) rfl w4.heap.size _ rfl rfl 29 _ (heap_alloc_new w4 _) (by kernel_rfl) rfl (by simp [Value.oneCell']) ?_; rw [World.setRow_alloc_new])
  obtain ⟨Mb, hMb⟩ : ∃ x, x = w4.heap.size := ⟨_, rfl⟩
  obtain ⟨w5, hw5⟩ : ∃ y, y = w4.alloc (.cells #[.int .i64 (v 0), .int .i64 (v 1), .int .i64 (v 2), .int .i64 (v 3), .int .i64 (v 4), .int .i64 (v 5), .int .i64 (v 6), .int .i64 (v 7), .int .i64 (v 8), .int .i64 (v 9), .int .i64 (v 10), .int .i64 (v 11), .int .i64 (v 12), .int .i64 (v 13), .int .i64 (v 14), .int .i64 (v 15), .int .i64 (v 16), .slice A4 n4 c4, .int .i64 (v 18), .int .i64 (v 19), .int .i64 (v 20)] 29) := ⟨_, rfl⟩
  have hal : Below w4.heap.size w4 w5 := by rw [hw5]; exact (Below.refl _ _).alloc (Nat.le_refl _) _
  have hx5 : w5.heap[Mb]? = some (.cells #[.int .i64 (v 0), .int .i64 (v 1), .int .i64 (v 2), .int .i64 (v 3), .int .i64 (v 4), .int .i64 (v 5), .int .i64 (v 6), .int .i64 (v 7), .int .i64 (v 8), .int .i64 (v 9), .int .i64 (v 10), .int .i64 (v 11), .int .i64 (v 12), .int .i64 (v 13), .int .i64 (v 14), .int .i64 (v 15), .int .i64 (v 16), .slice A4 n4 c4, .int .i64 (v 18), .int .i64 (v 19), .int .i64 (v 20)] 29 (0, 0)) := by rw [hw5, hMb]; exact heap_alloc_new w4 _
  rw [← hw5, ← hMb]
  have HX5 := Lib.hid hx5
  have HR5 : Hid (w5.ownsRow S 5 1 (.slice A3 11 c3) 11 (cells8 F)) := Lib.hid (HR4.out.kept (grown_of_below hal none) (by cases A3 <;> simp [Value.ownBlock]))
  have HO5 : Hid (w5.ownsRow S 5 1 (.slice A1 11 c1) 11 (cells8 F)) := Lib.hid (HO4.out.kept (grown_of_below hal none) (by cases A1 <;> simp [Value.ownBlock]))
  have HB5 := Lib.hid (HB4.out.trans (hal.mono hs4))
  have hs5 : S ≤ w5.heap.size := Nat.le_trans hs4 hal.size
  clear hal hx5 hw5 hMb HR4 HO4 HB4 hs4
  go_wp2_with fail
  refine (new_any S w5 hs5).mono ?_
  rintro e w6 ⟨rfl, hn, hb⟩
  obtain ⟨N, hN⟩ : ∃ x, x = w5.heap.size := ⟨_, rfl⟩
  rw [← hN] at hn ⊢
  have HN6 := Lib.hid hn
  have HX6 := Lib.hid ((hb.block Mb (ltb HX5.out)).trans HX5.out)
  have HR6 : Hid (w6.ownsRow S 5 1 (.slice A3 11 c3) 11 (cells8 F)) := Lib.hid (HR5.out.kept (grown_of_below hb none) (by cases A3 <;> simp [Value.ownBlock]))
  have HO6 : Hid (w6.ownsRow S 5 1 (.slice A1 11 c1) 11 (cells8 F)) := Lib.hid (HO5.out.kept (grown_of_below hb none) (by cases A1 <;> simp [Value.ownBlock]))
  have HB6 := Lib.hid (HB5.out.trans (hb.mono hs5))
  clear hn hb hN HX5 HR5 HO5 HB5
  go_wp2_with fail
  refine (send_any w6 HN6.out (by simp) 3 A1 11 c1 F (bytesIn_of_own HO6.out).2 HLN.out (by omega)).mono ?_
  rintro e w7 ⟨LA, Lc, PA, Pc, rfl, hn, hc⟩
  rw [List.nil_append] at hn
  have HN7 := Lib.hid hn
  have HX7 := Lib.hid (hc.kp _ _ HX6.out (by show (29 + 1 : Nat) ≠ _; decide) (by show (29 + 1 : Nat) ≠ _; decide))
  have HR7 := Lib.hid (hc.own HR6.out (by decide) (by decide))
  have HO7 := Lib.hid (hc.own HO6.out (by decide) (by decide))
  have HB7 := Lib.hid (HB6.out.trans hc.low)
  clear hn hc HN6 HX6 HR6 HO6 HB6
  go_wp2_with fail
  refine (deliver0 w7 HN7.out).mono ?_
  rintro e w8 ⟨LA8, Lc8, rfl, hn, hc⟩
  have HN8 : Hid (NAt w8 S N LA8 Lc8 []) := Lib.hid hn
  have hp8 := hc.own (HN7.out.own _ (List.mem_singleton.2 rfl)) (by decide) (by decide)
  unfold Pv.sl at hp8 ⊢
  simp only at hp8 ⊢
  rw [← HLN.out] at hp8 ⊢
  have hx8 := hc.kp _ _ HX7.out (by show (29 + 1 : Nat) ≠ _; decide) (by show (29 + 1 : Nat) ≠ _; decide)
  have z1 := zc (bytesIn_of_own (hc.own HO7.out (by decide) (by decide))).2 HLN.out
  have z2 := zc (bytesIn_of_own (hc.own HR7.out (by decide) (by decide))).2 HLN.out
  have z3 := zc (bytesIn_of_own hp8).2 HLN.out
  have c3' : w8.cell? ⟨Mb, 3, none⟩ = some (.int .i64 5) := by rw [← HOV.out]; exact cellb (i := 3) hx8 rfl
  have HB8 := Lib.hid (HB7.out.trans hc.low)
  clear hn hc hp8 hx8 HN7 HX7 HR7 HO7 HB7
  go_wp2_with fail
  refine (len_any w8 HN8.out).mono ?_
  rintro e w9 ⟨rfl, rfl⟩
  go_wp2_with fail
  go_ret
  exact ⟨rfl, HB8.out⟩
end Go.Proofs.YtkenaoejijpgpaaDoor
