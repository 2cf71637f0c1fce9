/- A pair: a move. -/
import Derived.Test.YtlcbpodjmafoeaaOnce5
import Derived.Test.YtlcbpodjmafoeaaAwk19
namespace Go.Proofs.Ytlcbpodjmafoeaa
open Go.RowKit

theorem mgs_snocA (l : List Mg) (ep id sq : Int) (A : Option Addr) (n c : Nat) : mgs (l ++ [⟨askV ep id sq, A, n, c⟩]) = mgs l ++ [.int .i64 7, .int .i64 ep, .int .i64 0, .int .i64 0, .int .i64 0, .int .i64 0, .int .i64 0, .int .i64 0, .int .i64 0, .int .i64 0, .int .i64 0, .int .i64 0, .int .i64 0, .int .i64 0, .int .i64 0, .int .i64 id, .int .i64 sq, .slice A n c, .int .i64 0, .int .i64 0, .int .i64 0] := by rw [mgs_append]; rfl
theorem bytes_x {w : World} {b : Nat} {f : Nat × Nat} (h : w.heap[b]? = some (.cells #[.int .u8 120] 5 f)) : BytesIn w w.heap.size (some ⟨b, 0, none⟩) 1 [120] := by
  refine ⟨Nat.le_refl _, by omega, .inr ⟨b, 0, rfl, (Array.getElem?_eq_some_iff.1 h).1, fun i hi => ?_⟩⟩
  have : i = 0 := by simp at hi; omega
  subst this
  exact cellb h rfl
theorem wfid' {id : Int} (h2 : 1 ≤ id) (h3 : id ≤ 16) : (Lit.int .i64 id).wf = true := by
  show (decide ((-9223372036854775808 : Int) ≤ id) && decide (id ≤ 9223372036854775807)) = true
  simp; omega
theorem askD_keep (s : Ct) (hb : s.body.length ≤ 5000) : (askD s [120]).at_ = s.at_ ∧ (askD s [120]).body.length ≤ 5000 := by
  unfold askD; split
  · exact ⟨rfl, by simp⟩
  · exact ⟨rfl, hb⟩
theorem asks_of {s : Ct} {now : Int} (h : ¬ SendNo s now) : s.asks = true := by
  unfold SendNo at h
  cases hq : s.asks
  · exact absurd (.inl hq) h
  · rfl
theorem ne_blk {w : World} {a b : Nat} {o o' : Obj} (h1 : w.heap[a]? = some o) (h2 : w.heap[b]? = some o') (h : otag o ≠ otag o') : a ≠ b := fun e => by
  subst e; rw [h1] at h2; injection h2 with h2; subst h2; exact h rfl
set_option maxRecDepth 100000 in
set_option maxHeartbeats 16000000 in
theorem move_any (lo : Nat) (id : Int) (w : World) (P : Nat) (x : Px) (f : Int → Kp) (p : Pst) (kd pick : Int) (well : Bool) (now : Int) (h : PAt lo id w P x f p) (i1 : 1 ≤ id) (i2 : id ≤ 16)
    (hn1 : p.way.length ≤ 900) (hn2 : p.book.length ≤ 900) (hn3 : x.nn ≤ 900) (hep : p.ep ≤ 900) (hat : p.s.at_ < 1099511627776) (hbd : p.s.body.length ≤ 5000) (ht1 : now < 1099511627776) (hi : Inv id p) (hw : WfM p.way) :
    Calls Try.prog 16 #[.pointer (some ⟨P, 0, none⟩), .agg #[.int .i64 kd, .int .i64 pick, .bool well], .int .i64 now] w fun e w' => e = .returned (.bool true) ∧ AskedPost lo id w P x p w' := by
  have HI := Lib.hid hi
  have HW := Lib.hid hw
  have HWI : Hid ((Lit.int .i64 id).wf = true) := Lib.hid (wfid' i1 i2)
  obtain ⟨w0, rfl⟩ : ∃ y, y = w := ⟨_, rfl⟩
  obtain ⟨K, hK7, hKb⟩ := and_mask kd 7 (by omega)
  have q0 : bits .and .i64 kd 7 = (K : Int) := hKb
  clear hi hw hKb
  have HPB_0 : Hid (w0.heap[P]? = some (.cells #[.int .i64 id, .pointer (some ⟨x.gc, 0, none⟩), .pointer (some ⟨x.gs, 0, none⟩), .int .i64 p.ep, .slice x.wA p.way.length x.wc, .slice x.bA p.book.length x.bc, .int .i64 p.told, .int .i64 x.t1, .int .i64 x.t2, .slice ((some ⟨x.H, 0, none⟩)) p.heard.length p.heard.length] 54 (0, 0))) := Lib.hid h.blk
  have HC_0 : Hid (CAt w0 x.gc p.s x.cA x.cc) := Lib.hid h.cl
  have HS_0 : Hid (SAt w0 x.gs p.ep x.M x.nn f) := Lib.hid h.sv
  have HWAY_0 : Hid (w0.ownsRow (x.H + 1) 36 21 (.slice x.wA p.way.length x.wc) p.way.length (mgs p.way)) := Lib.hid h.way
  have HBOOK_0 : Hid (w0.ownsRow (x.H + 1) 3 1 (.slice x.bA p.book.length x.bc) p.book.length (ints p.book)) := Lib.hid h.book
  have HHD_0 : Hid (w0.heap[x.H]? = some (.cells (ints p.heard).toArray 3 (0, 0))) := Lib.hid h.hrd
  have HB_0 : Hid (Chg (fun k => lo ≤ k) w0 w0) := Lib.hid (Chg.refl _ w0)
  have HKF := Lib.hid h.kf
  have l1 := h.lc
  have l2 := h.lP
  have l3 := h.lH
  have l4 := h.lM
  obtain ⟨i36, hi, hz0, hz1, hz2⟩ := i36p
  have HI36 := Lib.hid hi
  have HZ36 : Hid (i36.zero = some (.agg #[.int .i64 0, .int .i64 0, .int .i64 0, .int .i64 0, .int .i64 0, .int .i64 0, .int .i64 0, .int .i64 0, .int .i64 0, .int .i64 0, .int .i64 0, .int .i64 0, .int .i64 0, .int .i64 0, .int .i64 0, .int .i64 0, .int .i64 0, .slice none 0 0, .int .i64 0, .int .i64 0, .int .i64 0])) := Lib.hid hz0
  have HY36 := Lib.hid hz1
  have HX36 := Lib.hid hz2
  clear h hi hz0 hz1 hz2
  go_enter Try.func16, Try.ntmps16
  obtain ⟨P4, hP4⟩ : ∃ x, x = w0.heap.size := ⟨_, rfl⟩
  have loP4 : lo ≤ P4 := (by have := ltb HPB_0.out; omega)
  obtain ⟨w1, hw1⟩ : ∃ y, y = w0.alloc (.cells #[.int .i64 kd, .int .i64 pick, .bool well] 57) := ⟨_, rfl⟩
  have hal : Below w0.heap.size w0 w1 := by rw [hw1]; exact (Below.refl _ _).alloc (Nat.le_refl _) _
  have hnew : w1.heap[P4]? = some (.cells #[.int .i64 kd, .int .i64 pick, .bool well] 57 (0, 0)) := by rw [hw1, hP4]; exact heap_alloc_new _ _
  have HPB_1 : Hid (w1.heap[P]? = some (.cells #[.int .i64 id, .pointer (some ⟨x.gc, 0, none⟩), .pointer (some ⟨x.gs, 0, none⟩), .int .i64 p.ep, .slice x.wA p.way.length x.wc, .slice x.bA p.book.length x.bc, .int .i64 p.told, .int .i64 x.t1, .int .i64 x.t2, .slice ((some ⟨x.H, 0, none⟩)) p.heard.length p.heard.length] 54 (0, 0))) := Lib.hid ((hal.block P (ltb HPB_0.out)).trans HPB_0.out)
  have HC_1 : Hid (CAt w1 x.gc p.s x.cA x.cc) := Lib.hid (HC_0.out.below hal)
  have HS_1 : Hid (SAt w1 x.gs p.ep x.M x.nn f) := Lib.hid (HS_0.out.below hal)
  have HWAY_1 : Hid (w1.ownsRow (x.H + 1) 36 21 (.slice x.wA p.way.length x.wc) p.way.length (mgs p.way)) := Lib.hid ((Chg.of_below (S := fun _ => False) hal).own HWAY_0.out (fun _ _ h => h))
  have HBOOK_1 : Hid (w1.ownsRow (x.H + 1) 3 1 (.slice x.bA p.book.length x.bc) p.book.length (ints p.book)) := Lib.hid ((Chg.of_below (S := fun _ => False) hal).own HBOOK_0.out (fun _ _ h => h))
  have HHD_1 : Hid (w1.heap[x.H]? = some (.cells (ints p.heard).toArray 3 (0, 0))) := Lib.hid ((hal.block x.H (ltb HHD_0.out)).trans HHD_0.out)
  have HB_1 : Hid (Chg (fun k => lo ≤ k) w0 w1) := Lib.hid (HB_0.out.trans (Chg.of_below hal))
  clear hal HPB_0 HC_0 HS_0 HWAY_0 HBOOK_0 HHD_0 HB_0
  have HP4_1 := Lib.hid hnew
  clear hnew
  go_upto_region 1 with fail
  rw [← hw1]
  clear hw1
  rw [← hP4]
  clear hP4
  have cc2 : w1.cell? ⟨P4, 0, none⟩ = some (.int .i64 kd) := cellb (i := 0) HP4_1.out rfl
  go_upto_region 2 with fail
  clear cc2
  have hKc : K = 0 ∨ K = 1 ∨ K = 2 ∨ K = 7 ∨ (K ≠ 0 ∧ K ≠ 1 ∧ K ≠ 2 ∧ K ≠ 7) := by omega
  rcases hKc with rfl | rfl | rfl | rfl | ⟨k0, k1, k2, k7⟩
  · skip
    have kc := fun (w : World) (C : Array Value) (n c : Nat) => Lib.run_convert_bytes_const (P := Try.prog) w 31 5 C n c Try.underlying31 Try.underlying5
    have cc3 : w1.cell? ⟨P, 1, none⟩ = some (.pointer (some ⟨x.gc, 0, none⟩)) := cellb (i := 1) HPB_1.out rfl
    obtain ⟨P19, hP19⟩ : ∃ x, x = w1.heap.size := ⟨_, rfl⟩
    have hal : Below w1.heap.size w1 (w1.alloc (.cells #[.int .u8 120] 5 (1, 2))) := (Below.refl _ _).alloc (Nat.le_refl _) _
    have hnew : (w1.alloc (.cells #[.int .u8 120] 5 (1, 2))).heap[P19]? = some (.cells #[.int .u8 120] 5 (1, 2)) := by rw [hP19]; exact heap_alloc_new _ _
    have HPB_2 : Hid ((w1.alloc (.cells #[.int .u8 120] 5 (1, 2))).heap[P]? = some (.cells #[.int .i64 id, .pointer (some ⟨x.gc, 0, none⟩), .pointer (some ⟨x.gs, 0, none⟩), .int .i64 p.ep, .slice x.wA p.way.length x.wc, .slice x.bA p.book.length x.bc, .int .i64 p.told, .int .i64 x.t1, .int .i64 x.t2, .slice ((some ⟨x.H, 0, none⟩)) p.heard.length p.heard.length] 54 (0, 0))) := Lib.hid ((hal.block P (ltb HPB_1.out)).trans HPB_1.out)
    have HC_2 : Hid (CAt (w1.alloc (.cells #[.int .u8 120] 5 (1, 2))) x.gc p.s x.cA x.cc) := Lib.hid (HC_1.out.below hal)
    have HS_2 : Hid (SAt (w1.alloc (.cells #[.int .u8 120] 5 (1, 2))) x.gs p.ep x.M x.nn f) := Lib.hid (HS_1.out.below hal)
    have HWAY_2 : Hid ((w1.alloc (.cells #[.int .u8 120] 5 (1, 2))).ownsRow (x.H + 1) 36 21 (.slice x.wA p.way.length x.wc) p.way.length (mgs p.way)) := Lib.hid ((Chg.of_below (S := fun _ => False) hal).own HWAY_1.out (fun _ _ h => h))
    have HBOOK_2 : Hid ((w1.alloc (.cells #[.int .u8 120] 5 (1, 2))).ownsRow (x.H + 1) 3 1 (.slice x.bA p.book.length x.bc) p.book.length (ints p.book)) := Lib.hid ((Chg.of_below (S := fun _ => False) hal).own HBOOK_1.out (fun _ _ h => h))
    have HHD_2 : Hid ((w1.alloc (.cells #[.int .u8 120] 5 (1, 2))).heap[x.H]? = some (.cells (ints p.heard).toArray 3 (0, 0))) := Lib.hid ((hal.block x.H (ltb HHD_1.out)).trans HHD_1.out)
    have HB_2 : Hid (Chg (fun k => lo ≤ k) w0 (w1.alloc (.cells #[.int .u8 120] 5 (1, 2)))) := Lib.hid (HB_1.out.trans (Chg.of_below hal))
    have HP4_2 : Hid ((w1.alloc (.cells #[.int .u8 120] 5 (1, 2))).heap[P4]? = some (.cells #[.int .i64 kd, .int .i64 pick, .bool well] 57 (0, 0))) := Lib.hid ((hal.block P4 (ltb HP4_1.out)).trans HP4_1.out)
    clear hal HPB_1 HC_1 HS_1 HWAY_1 HBOOK_1 HHD_1 HB_1 HP4_1
    have HP19_2 : Hid ((w1.alloc (.cells #[.int .u8 120] 5 (1, 2))).heap[P19]? = some (.cells #[.int .u8 120] 5 (1, 2))) := Lib.hid hnew
    clear hnew
    go_wp2_with fail
    clear cc3
    rw [← hP19]
    clear hP19
    generalize w1.alloc (.cells #[.int .u8 120] 5 (1, 2)) = w2 at HPB_2 HC_2 HS_2 HWAY_2 HBOOK_2 HHD_2 HB_2 HP4_2 HP19_2 ⊢
    have hne : ([120] : List UInt8) ≠ [] → ∀ ad : Addr, some (⟨P19, 0, none⟩ : Addr) = some ad → ad.block ≠ x.gc := fun _ ad e => by injection e with e; subst e; exact ne_blk HP19_2.out HC_2.out.blk (by show (5 + 1 : Nat) ≠ 90 + 1; decide)
    refine (ask_any x.gc 1 p.s x.cA x.cc (some ⟨P19, 0, none⟩) 1 [120] w2 HC_2.out (bytes_x HP19_2.out) rfl hne HI.out.seq0).mono ?_
    rintro e w3 ⟨rfl, A', c', hc, hg⟩
    have hch := Ch.ofChg HC_2.out.blk hg
    clear hg hne HC_2
    have HPB_3 : Hid (w3.heap[P]? = some (.cells #[.int .i64 id, .pointer (some ⟨x.gc, 0, none⟩), .pointer (some ⟨x.gs, 0, none⟩), .int .i64 p.ep, .slice x.wA p.way.length x.wc, .slice x.bA p.book.length x.bc, .int .i64 p.told, .int .i64 x.t1, .int .i64 x.t2, .slice ((some ⟨x.H, 0, none⟩)) p.heard.length p.heard.length] 54 (0, 0))) := Lib.hid (hch.blk HPB_2.out (by show (54 + 1 : Nat) ≠ _; decide))
    have HS_3 : Hid (SAt w3 x.gs p.ep x.M x.nn f) := Lib.hid (hch.sat HS_2.out (by decide) (by decide))
    have HWAY_3 : Hid (w3.ownsRow (x.H + 1) 36 21 (.slice x.wA p.way.length x.wc) p.way.length (mgs p.way)) := Lib.hid (hch.own HWAY_2.out (by decide))
    have HBOOK_3 : Hid (w3.ownsRow (x.H + 1) 3 1 (.slice x.bA p.book.length x.bc) p.book.length (ints p.book)) := Lib.hid (hch.own HBOOK_2.out (by decide))
    have HHD_3 : Hid (w3.heap[x.H]? = some (.cells (ints p.heard).toArray 3 (0, 0))) := Lib.hid (hch.blk HHD_2.out (by show (3 + 1 : Nat) ≠ _; decide))
    have HB_3 : Hid (Chg (fun k => lo ≤ k) w0 w3) := Lib.hid (hch.low HB_2.out (fun k hk => by injection hk with hk; omega))
    have HP4_3 : Hid (w3.heap[P4]? = some (.cells #[.int .i64 kd, .int .i64 pick, .bool well] 57 (0, 0))) := Lib.hid (hch.blk HP4_2.out (by show (57 + 1 : Nat) ≠ _; decide))
    have HP19_3 : Hid (w3.heap[P19]? = some (.cells #[.int .u8 120] 5 (1, 2))) := Lib.hid (hch.blk HP19_2.out (by show (5 + 1 : Nat) ≠ _; decide))
    clear hch HPB_2 HS_2 HWAY_2 HBOOK_2 HHD_2 HB_2 HP4_2 HP19_2
    have HC_3 : Hid (CAt w3 x.gc (askD p.s [120]) A' c') := Lib.hid hc
    clear hc
    go_wp2_with fail
    go_ret
    have hb := askD_keep p.s hbd
    exact ⟨rfl, { x with cA := A', cc := c' }, f, { p with s := askD p.s [120] }, ⟨HPB_3.out, HC_3.out, HS_3.out, HWAY_3.out, HBOOK_3.out, HHD_3.out, HKF.out, l1, l2, l3, l4⟩, HI.out.ask [120], fun h => h, by simp, by simp, by simp, rfl, ⟨by show p.ep ≤ p.ep + 1; omega, by show (askD p.s [120]).at_ < _; rw [hb.1]; exact hat, hb.2⟩, HB_3.out⟩
  · skip
    by_cases hno : SendNo p.s now
    · skip
      have HNO := Lib.hid hno
      clear hno
      have cc4 : w1.cell? ⟨P, 1, none⟩ = some (.pointer (some ⟨x.gc, 0, none⟩)) := cellb (i := 1) HPB_1.out rfl
      go_wp2_with fail
      clear cc4
      refine (send_no x.gc p.s x.cA x.cc now w1 HC_1.out HNO.out hat).mono ?_
      rintro e w2 ⟨rfl, hb⟩
      have HPB_2 : Hid (w2.heap[P]? = some (.cells #[.int .i64 id, .pointer (some ⟨x.gc, 0, none⟩), .pointer (some ⟨x.gs, 0, none⟩), .int .i64 p.ep, .slice x.wA p.way.length x.wc, .slice x.bA p.book.length x.bc, .int .i64 p.told, .int .i64 x.t1, .int .i64 x.t2, .slice ((some ⟨x.H, 0, none⟩)) p.heard.length p.heard.length] 54 (0, 0))) := Lib.hid ((hb.block P (ltb HPB_1.out)).trans HPB_1.out)
      have HC_2 : Hid (CAt w2 x.gc p.s x.cA x.cc) := Lib.hid (HC_1.out.below hb)
      have HS_2 : Hid (SAt w2 x.gs p.ep x.M x.nn f) := Lib.hid (HS_1.out.below hb)
      have HWAY_2 : Hid (w2.ownsRow (x.H + 1) 36 21 (.slice x.wA p.way.length x.wc) p.way.length (mgs p.way)) := Lib.hid ((Chg.of_below (S := fun _ => False) hb).own HWAY_1.out (fun _ _ h => h))
      have HBOOK_2 : Hid (w2.ownsRow (x.H + 1) 3 1 (.slice x.bA p.book.length x.bc) p.book.length (ints p.book)) := Lib.hid ((Chg.of_below (S := fun _ => False) hb).own HBOOK_1.out (fun _ _ h => h))
      have HHD_2 : Hid (w2.heap[x.H]? = some (.cells (ints p.heard).toArray 3 (0, 0))) := Lib.hid ((hb.block x.H (ltb HHD_1.out)).trans HHD_1.out)
      have HB_2 : Hid (Chg (fun k => lo ≤ k) w0 w2) := Lib.hid (HB_1.out.trans (Chg.of_below hb))
      have HP4_2 : Hid (w2.heap[P4]? = some (.cells #[.int .i64 kd, .int .i64 pick, .bool well] 57 (0, 0))) := Lib.hid ((hb.block P4 (ltb HP4_1.out)).trans HP4_1.out)
      clear hb HPB_1 HC_1 HS_1 HWAY_1 HBOOK_1 HHD_1 HB_1 HP4_1
      obtain ⟨P7, hP7⟩ : ∃ x, x = w2.heap.size := ⟨_, rfl⟩
      have loP7 : lo ≤ P7 := (by have := ltb HPB_2.out; omega)
      obtain ⟨w3, hw5⟩ : ∃ y, y = w2.alloc (.cells #[.int .i64 0, .int .i64 0, .int .i64 0, .int .i64 0, .int .i64 0, .int .i64 0, .int .i64 0, .int .i64 0, .int .i64 0, .int .i64 0, .int .i64 0, .int .i64 0, .int .i64 0, .int .i64 0, .int .i64 0, .int .i64 0, .int .i64 0, .slice none 0 0, .int .i64 0, .int .i64 0, .int .i64 0] 36) := ⟨_, rfl⟩
      have hal : Below w2.heap.size w2 w3 := by rw [hw5]; exact (Below.refl _ _).alloc (Nat.le_refl _) _
      have hnew : w3.heap[P7]? = some (.cells (mcv (fun _ => 0) (.slice none 0 0)) 36 (0, 0)) := by rw [hw5, hP7]; exact heap_alloc_new _ _
      have HNWAY_P7 : Hid ((.slice x.wA p.way.length x.wc : Value).ownBlock ≠ some P7) := Lib.hid (fun e => by have := (HWAY_2.out.lt _ e).2; omega)
      have HPB_3 : Hid (w3.heap[P]? = some (.cells #[.int .i64 id, .pointer (some ⟨x.gc, 0, none⟩), .pointer (some ⟨x.gs, 0, none⟩), .int .i64 p.ep, .slice x.wA p.way.length x.wc, .slice x.bA p.book.length x.bc, .int .i64 p.told, .int .i64 x.t1, .int .i64 x.t2, .slice ((some ⟨x.H, 0, none⟩)) p.heard.length p.heard.length] 54 (0, 0))) := Lib.hid ((hal.block P (ltb HPB_2.out)).trans HPB_2.out)
      have HC_3 : Hid (CAt w3 x.gc p.s x.cA x.cc) := Lib.hid (HC_2.out.below hal)
      have HS_3 : Hid (SAt w3 x.gs p.ep x.M x.nn f) := Lib.hid (HS_2.out.below hal)
      have HWAY_3 : Hid (w3.ownsRow (x.H + 1) 36 21 (.slice x.wA p.way.length x.wc) p.way.length (mgs p.way)) := Lib.hid ((Chg.of_below (S := fun _ => False) hal).own HWAY_2.out (fun _ _ h => h))
      have HBOOK_3 : Hid (w3.ownsRow (x.H + 1) 3 1 (.slice x.bA p.book.length x.bc) p.book.length (ints p.book)) := Lib.hid ((Chg.of_below (S := fun _ => False) hal).own HBOOK_2.out (fun _ _ h => h))
      have HHD_3 : Hid (w3.heap[x.H]? = some (.cells (ints p.heard).toArray 3 (0, 0))) := Lib.hid ((hal.block x.H (ltb HHD_2.out)).trans HHD_2.out)
      have HB_3 : Hid (Chg (fun k => lo ≤ k) w0 w3) := Lib.hid (HB_2.out.trans (Chg.of_below hal))
      have HP4_3 : Hid (w3.heap[P4]? = some (.cells #[.int .i64 kd, .int .i64 pick, .bool well] 57 (0, 0))) := Lib.hid ((hal.block P4 (ltb HP4_2.out)).trans HP4_2.out)
      clear hal HPB_2 HC_2 HS_2 HWAY_2 HBOOK_2 HHD_2 HB_2 HP4_2
      have HP7_3 := Lib.hid hnew
      clear hnew
      go_upto_region 8 with (refine wpList_store_row rfl 36 (.tmp 7) (.tmp 32) rfl w2.heap.size _ rfl rfl 36 _ (heap_alloc_new w2 _) (by kernel_rfl) rfl (by simp [Value.oneCell']) ?_; rw [World.setRow_alloc_new])
      rw [← hw5]
      clear hw5
      rw [← hP7]
      clear hP7
      go_wp2_with fail
      go_ret
      exact ⟨rfl, x, f, p, ⟨HPB_3.out, HC_3.out, HS_3.out, HWAY_3.out, HBOOK_3.out, HHD_3.out, HKF.out, l1, l2, l3, l4⟩, HI.out, fun h => h, by omega, by omega, by omega, rfl, ⟨by omega, hat, hbd⟩, HB_3.out⟩
    · skip
      have HNO := Lib.hid hno
      clear hno
      have cc6 : w1.cell? ⟨P, 1, none⟩ = some (.pointer (some ⟨x.gc, 0, none⟩)) := cellb (i := 1) HPB_1.out rfl
      go_wp2_with fail
      clear cc6
      refine (send_ok x.gc p.s x.cA x.cc now w1 HC_1.out HNO.out hbd hat).mono ?_
      rintro e w2 ⟨A', c', rfl, hc, ho, hg⟩
      have hch := Ch.ofChg HC_1.out.blk hg
      clear hg ho HC_1
      have HPB_2 : Hid (w2.heap[P]? = some (.cells #[.int .i64 id, .pointer (some ⟨x.gc, 0, none⟩), .pointer (some ⟨x.gs, 0, none⟩), .int .i64 p.ep, .slice x.wA p.way.length x.wc, .slice x.bA p.book.length x.bc, .int .i64 p.told, .int .i64 x.t1, .int .i64 x.t2, .slice ((some ⟨x.H, 0, none⟩)) p.heard.length p.heard.length] 54 (0, 0))) := Lib.hid (hch.blk HPB_1.out (by show (54 + 1 : Nat) ≠ _; decide))
      have HS_2 : Hid (SAt w2 x.gs p.ep x.M x.nn f) := Lib.hid (hch.sat HS_1.out (by decide) (by decide))
      have HWAY_2 : Hid (w2.ownsRow (x.H + 1) 36 21 (.slice x.wA p.way.length x.wc) p.way.length (mgs p.way)) := Lib.hid (hch.own HWAY_1.out (by decide))
      have HBOOK_2 : Hid (w2.ownsRow (x.H + 1) 3 1 (.slice x.bA p.book.length x.bc) p.book.length (ints p.book)) := Lib.hid (hch.own HBOOK_1.out (by decide))
      have HHD_2 : Hid (w2.heap[x.H]? = some (.cells (ints p.heard).toArray 3 (0, 0))) := Lib.hid (hch.blk HHD_1.out (by show (3 + 1 : Nat) ≠ _; decide))
      have HB_2 : Hid (Chg (fun k => lo ≤ k) w0 w2) := Lib.hid (hch.low HB_1.out (fun k hk => by injection hk with hk; omega))
      have HP4_2 : Hid (w2.heap[P4]? = some (.cells #[.int .i64 kd, .int .i64 pick, .bool well] 57 (0, 0))) := Lib.hid (hch.blk HP4_1.out (by show (57 + 1 : Nat) ≠ _; decide))
      clear hch HPB_1 HS_1 HWAY_1 HBOOK_1 HHD_1 HB_1 HP4_1
      have HC_2 : Hid (CAt w2 x.gc { p.s with sent := true, at_ := now } x.cA x.cc) := Lib.hid hc
      clear hc
      obtain ⟨P7, hP7⟩ : ∃ x, x = w2.heap.size := ⟨_, rfl⟩
      have loP7 : lo ≤ P7 := (by have := ltb HPB_2.out; omega)
      obtain ⟨w3, hw7⟩ : ∃ y, y = w2.alloc (.cells #[.int .i64 7, .int .i64 p.s.epoch, .int .i64 0, .int .i64 0, .int .i64 0, .int .i64 0, .int .i64 0, .int .i64 0, .int .i64 0, .int .i64 0, .int .i64 0, .int .i64 0, .int .i64 0, .int .i64 0, .int .i64 0, .int .i64 p.s.id, .int .i64 p.s.seq, .slice A' p.s.body.length c', .int .i64 0, .int .i64 0, .int .i64 0] 36) := ⟨_, rfl⟩
      have hal : Below w2.heap.size w2 w3 := by rw [hw7]; exact (Below.refl _ _).alloc (Nat.le_refl _) _
      have hnew : w3.heap[P7]? = some (.cells #[.int .i64 7, .int .i64 p.s.epoch, .int .i64 0, .int .i64 0, .int .i64 0, .int .i64 0, .int .i64 0, .int .i64 0, .int .i64 0, .int .i64 0, .int .i64 0, .int .i64 0, .int .i64 0, .int .i64 0, .int .i64 0, .int .i64 p.s.id, .int .i64 p.s.seq, .slice A' p.s.body.length c', .int .i64 0, .int .i64 0, .int .i64 0] 36 (0, 0)) := by rw [hw7, hP7]; exact heap_alloc_new _ _
      have HNWAY_P7 : Hid ((.slice x.wA p.way.length x.wc : Value).ownBlock ≠ some P7) := Lib.hid (fun e => by have := (HWAY_2.out.lt _ e).2; omega)
      have HPB_3 : Hid (w3.heap[P]? = some (.cells #[.int .i64 id, .pointer (some ⟨x.gc, 0, none⟩), .pointer (some ⟨x.gs, 0, none⟩), .int .i64 p.ep, .slice x.wA p.way.length x.wc, .slice x.bA p.book.length x.bc, .int .i64 p.told, .int .i64 x.t1, .int .i64 x.t2, .slice ((some ⟨x.H, 0, none⟩)) p.heard.length p.heard.length] 54 (0, 0))) := Lib.hid ((hal.block P (ltb HPB_2.out)).trans HPB_2.out)
      have HS_3 : Hid (SAt w3 x.gs p.ep x.M x.nn f) := Lib.hid (HS_2.out.below hal)
      have HWAY_3 : Hid (w3.ownsRow (x.H + 1) 36 21 (.slice x.wA p.way.length x.wc) p.way.length (mgs p.way)) := Lib.hid ((Chg.of_below (S := fun _ => False) hal).own HWAY_2.out (fun _ _ h => h))
      have HBOOK_3 : Hid (w3.ownsRow (x.H + 1) 3 1 (.slice x.bA p.book.length x.bc) p.book.length (ints p.book)) := Lib.hid ((Chg.of_below (S := fun _ => False) hal).own HBOOK_2.out (fun _ _ h => h))
      have HHD_3 : Hid (w3.heap[x.H]? = some (.cells (ints p.heard).toArray 3 (0, 0))) := Lib.hid ((hal.block x.H (ltb HHD_2.out)).trans HHD_2.out)
      have HB_3 : Hid (Chg (fun k => lo ≤ k) w0 w3) := Lib.hid (HB_2.out.trans (Chg.of_below hal))
      have HP4_3 : Hid (w3.heap[P4]? = some (.cells #[.int .i64 kd, .int .i64 pick, .bool well] 57 (0, 0))) := Lib.hid ((hal.block P4 (ltb HP4_2.out)).trans HP4_2.out)
      have HC_3 : Hid (CAt w3 x.gc { p.s with sent := true, at_ := now } x.cA x.cc) := Lib.hid (HC_2.out.below hal)
      clear hal HPB_2 HS_2 HWAY_2 HBOOK_2 HHD_2 HB_2 HP4_2 HC_2
      have HP7_3 := Lib.hid hnew
      clear hnew
      go_upto_region 8 with (refine wpList_store_row rfl 36 (.tmp 7) (.tmp 32) rfl w2.heap.size _ rfl rfl 36 _ (heap_alloc_new w2 _) (by kernel_rfl) rfl (by simp [Value.oneCell']) ?_; rw [World.setRow_alloc_new])
      rw [← hw7]
      clear hw7
      rw [← hP7]
      clear hP7
      go_upto_region 9 with (fail)
      have HPB_4 : Hid (w3.drew.heap[P]? = some (.cells #[.int .i64 id, .pointer (some ⟨x.gc, 0, none⟩), .pointer (some ⟨x.gs, 0, none⟩), .int .i64 p.ep, .slice x.wA p.way.length x.wc, .slice x.bA p.book.length x.bc, .int .i64 p.told, .int .i64 x.t1, .int .i64 x.t2, .slice ((some ⟨x.H, 0, none⟩)) p.heard.length p.heard.length] 54 (0, 0))) := Lib.hid ((((Below.refl w3.heap.size w3).drew).block P (ltb HPB_3.out)).trans HPB_3.out)
      have HS_4 : Hid (SAt w3.drew x.gs p.ep x.M x.nn f) := Lib.hid (HS_3.out.below ((Below.refl w3.heap.size w3).drew))
      have HWAY_4 : Hid (w3.drew.ownsRow (x.H + 1) 36 21 (.slice x.wA p.way.length x.wc) p.way.length (mgs p.way)) := Lib.hid ((Chg.of_below (S := fun _ => False) ((Below.refl w3.heap.size w3).drew)).own HWAY_3.out (fun _ _ h => h))
      have HBOOK_4 : Hid (w3.drew.ownsRow (x.H + 1) 3 1 (.slice x.bA p.book.length x.bc) p.book.length (ints p.book)) := Lib.hid ((Chg.of_below (S := fun _ => False) ((Below.refl w3.heap.size w3).drew)).own HBOOK_3.out (fun _ _ h => h))
      have HHD_4 : Hid (w3.drew.heap[x.H]? = some (.cells (ints p.heard).toArray 3 (0, 0))) := Lib.hid ((((Below.refl w3.heap.size w3).drew).block x.H (ltb HHD_3.out)).trans HHD_3.out)
      have HB_4 : Hid (Chg (fun k => lo ≤ k) w0 w3.drew) := Lib.hid (HB_3.out.trans (Chg.of_below ((Below.refl w3.heap.size w3).drew)))
      have HP4_4 : Hid (w3.drew.heap[P4]? = some (.cells #[.int .i64 kd, .int .i64 pick, .bool well] 57 (0, 0))) := Lib.hid ((((Below.refl w3.heap.size w3).drew).block P4 (ltb HP4_3.out)).trans HP4_3.out)
      have HC_4 : Hid (CAt w3.drew x.gc { p.s with sent := true, at_ := now } x.cA x.cc) := Lib.hid (HC_3.out.below ((Below.refl w3.heap.size w3).drew))
      have HP7_4 : Hid (w3.drew.heap[P7]? = some (.cells #[.int .i64 7, .int .i64 p.s.epoch, .int .i64 0, .int .i64 0, .int .i64 0, .int .i64 0, .int .i64 0, .int .i64 0, .int .i64 0, .int .i64 0, .int .i64 0, .int .i64 0, .int .i64 0, .int .i64 0, .int .i64 0, .int .i64 p.s.id, .int .i64 p.s.seq, .slice A' p.s.body.length c', .int .i64 0, .int .i64 0, .int .i64 0] 36 (0, 0))) := Lib.hid ((((Below.refl w3.heap.size w3).drew).block P7 (ltb HP7_3.out)).trans HP7_3.out)
      clear HPB_3 HS_3 HWAY_3 HBOOK_3 HHD_3 HB_3 HP4_3 HC_3 HP7_3
      have FP7 : w3.drew.heap[P7]? = some (.cells #[.int .i64 7, .int .i64 p.s.epoch, .int .i64 0, .int .i64 0, .int .i64 0, .int .i64 0, .int .i64 0, .int .i64 0, .int .i64 0, .int .i64 0, .int .i64 0, .int .i64 0, .int .i64 0, .int .i64 0, .int .i64 0, .int .i64 p.s.id, .int .i64 p.s.seq, .slice A' p.s.body.length c', .int .i64 0, .int .i64 0, .int .i64 0] 36 (0, 0)) := HP7_4.out
      refine wp_region_noPanic ?_
      refine wp_region_held_drew (S := fun w' => w'.heap[P7]? = some (.cells #[.int .i64 7, .int .i64 p.s.epoch, .int .i64 0, .int .i64 0, .int .i64 0, .int .i64 0, .int .i64 0, .int .i64 0, .int .i64 0, .int .i64 0, .int .i64 0, .int .i64 0, .int .i64 0, .int .i64 0, .int .i64 0, .int .i64 p.s.id, .int .i64 p.s.seq, .slice A' p.s.body.length c', .int .i64 0, .int .i64 0, .int .i64 0] 36 (0, 0))) (by kernel_rfl) ?_ (fun hHeld => ?_)
      · try dsimp only
        (refine ?_ <;> (first | with_reducible assumption))
      generalize w3.drew = w4 at *
      refine wpAnyH_take (i := 0) (v := ?_) (by (simp only [List.getElem?_toArray, List.getElem?_cons_zero]; rfl)) (by kernel_rfl) (by kernel_rfl) (by kernel_rfl) (fun _ _ _ h => h) (Or.inl ⟨by rfl, ?_⟩) (by assumption) ?_
      rotate_left
      · (intro w hSw; (try dsimp only at hSw); go_simp; try with_reducible rfl)
      try simp only [Act.put, List.setIfInBounds_toArray, List.set_cons_zero, List.set_cons_succ]
      refine wpAnyH_take (i := 1) (v := ?_) (by (simp only [List.getElem?_toArray, List.getElem?_cons_succ, List.getElem?_cons_zero]; rfl)) (by kernel_rfl) (by kernel_rfl) (by kernel_rfl) (fun _ _ _ h => h) (Or.inl ⟨by rfl, ?_⟩) (by assumption) ?_
      rotate_left
      · (intro w hSw; (try dsimp only at hSw); go_simp; try with_reducible rfl)
      try simp only [Act.put, List.setIfInBounds_toArray, List.set_cons_zero, List.set_cons_succ]
      refine wpAnyH_take (i := 2) (v := ?_) (by (simp only [List.getElem?_toArray, List.getElem?_cons_succ, List.getElem?_cons_zero]; rfl)) (by kernel_rfl) (by kernel_rfl) (by kernel_rfl) (fun _ _ _ h => h) (Or.inl ⟨by rfl, ?_⟩) (by assumption) ?_
      rotate_left
      · (intro w hSw; (try dsimp only at hSw); go_simp; try with_reducible rfl)
      try simp only [Act.put, List.setIfInBounds_toArray, List.set_cons_zero, List.set_cons_succ]
      refine wpAnyH_take (i := 3) (v := ?_) (by (simp only [List.getElem?_toArray, List.getElem?_cons_succ, List.getElem?_cons_zero]; rfl)) (by kernel_rfl) (by kernel_rfl) (by kernel_rfl) (fun _ _ _ h => h) (Or.inl ⟨by rfl, ?_⟩) (by assumption) ?_
      rotate_left
      · (intro w hSw; (try dsimp only at hSw); go_simp; try with_reducible rfl)
      try simp only [Act.put, List.setIfInBounds_toArray, List.set_cons_zero, List.set_cons_succ]
      refine wpAnyH_take (i := 5) (v := ?_) (by (simp only [List.getElem?_toArray, List.getElem?_cons_succ, List.getElem?_cons_zero]; rfl)) (by kernel_rfl) (by kernel_rfl) (by kernel_rfl) (fun _ _ _ h => h) (Or.inl ⟨by rfl, ?_⟩) (by assumption) ?_
      rotate_left
      · intro w hSw
        try dsimp only at hSw
        refine take_load (x := .tmp 7) (ty := 36) ?_ P7 ?_ 36 _ (0, 0) _ hSw Try.underlying36 rfl (by kernel_rfl)
        all_goals rfl
      try simp only [Act.put, List.setIfInBounds_toArray, List.set_cons_zero, List.set_cons_succ]
      apply cutC
      · intro hC
        refine wpAnyH_ready (rs := [4, 6]) (by kernel_rfl) (by simp) ?_
        refine AllReadyH.cons (by (simp only [List.getElem?_toArray, List.getElem?_cons_succ, List.getElem?_cons_zero]; rfl)) (fun K hK => ?_) (AllReadyH.cons (by (simp only [List.getElem?_toArray, List.getElem?_cons_succ, List.getElem?_cons_zero]; rfl)) (fun K hK => ?_) AllReadyH.nil)
        · have c0 : w4.cell? ⟨P, 4, none⟩ = some (.slice x.wA p.way.length x.wc) := cellb (i := 4) HPB_4.out rfl
          go_simp
          clear c0
          refine hK.out _ _ ?_ (fun hHeld => ?_)
          · try dsimp only
            (refine ?_ <;> (first | with_reducible assumption))
          clear hK K
          try simp only [Act.put, List.setIfInBounds_toArray, List.set_cons_zero, List.set_cons_succ]
          refine wpAnyH_ready (rs := [6]) (by kernel_rfl) (by simp) ?_
          refine AllReadyH.cons (by (simp only [List.getElem?_toArray, List.getElem?_cons_succ, List.getElem?_cons_zero]; rfl)) (fun K hK => ?_) AllReadyH.nil
          go_simp
          have GFP7 : (w4.alloc (.cells #[.int .i64 7, .int .i64 p.s.epoch, .int .i64 0, .int .i64 0, .int .i64 0, .int .i64 0, .int .i64 0, .int .i64 0, .int .i64 0, .int .i64 0, .int .i64 0, .int .i64 0, .int .i64 0, .int .i64 0, .int .i64 0, .int .i64 p.s.id, .int .i64 p.s.seq, .slice A' p.s.body.length c', .int .i64 0, .int .i64 0, .int .i64 0] 36)).heap[P7]? = some (.cells #[.int .i64 7, .int .i64 p.s.epoch, .int .i64 0, .int .i64 0, .int .i64 0, .int .i64 0, .int .i64 0, .int .i64 0, .int .i64 0, .int .i64 0, .int .i64 0, .int .i64 0, .int .i64 0, .int .i64 0, .int .i64 0, .int .i64 p.s.id, .int .i64 p.s.seq, .slice A' p.s.body.length c', .int .i64 0, .int .i64 0, .int .i64 0] 36 (0, 0)) := alloc_blk FP7
          refine hK.out _ _ ?_ (fun hHeld => ?_)
          · try dsimp only
            (refine ?_ <;> (first | with_reducible assumption))
          clear hK K
          try simp only [Act.put, List.setIfInBounds_toArray, List.set_cons_zero, List.set_cons_succ]
          exact hC.out
        · go_simp
          have GFP7 : (w4.alloc (.cells #[.int .i64 7, .int .i64 p.s.epoch, .int .i64 0, .int .i64 0, .int .i64 0, .int .i64 0, .int .i64 0, .int .i64 0, .int .i64 0, .int .i64 0, .int .i64 0, .int .i64 0, .int .i64 0, .int .i64 0, .int .i64 0, .int .i64 p.s.id, .int .i64 p.s.seq, .slice A' p.s.body.length c', .int .i64 0, .int .i64 0, .int .i64 0] 36)).heap[P7]? = some (.cells #[.int .i64 7, .int .i64 p.s.epoch, .int .i64 0, .int .i64 0, .int .i64 0, .int .i64 0, .int .i64 0, .int .i64 0, .int .i64 0, .int .i64 0, .int .i64 0, .int .i64 0, .int .i64 0, .int .i64 0, .int .i64 0, .int .i64 p.s.id, .int .i64 p.s.seq, .slice A' p.s.body.length c', .int .i64 0, .int .i64 0, .int .i64 0] 36 (0, 0)) := alloc_blk FP7
          refine hK.out _ _ ?_ (fun hHeld => ?_)
          · try dsimp only
            (refine ?_ <;> (first | with_reducible assumption))
          clear hK K
          try simp only [Act.put, List.setIfInBounds_toArray, List.set_cons_zero, List.set_cons_succ]
          refine wpAnyH_ready (rs := [4]) (by kernel_rfl) (by simp) ?_
          refine AllReadyH.cons (by (simp only [List.getElem?_toArray, List.getElem?_cons_succ, List.getElem?_cons_zero]; rfl)) (fun K hK => ?_) AllReadyH.nil
          have c0 : (w4.alloc (.cells #[.int .i64 7, .int .i64 p.s.epoch, .int .i64 0, .int .i64 0, .int .i64 0, .int .i64 0, .int .i64 0, .int .i64 0, .int .i64 0, .int .i64 0, .int .i64 0, .int .i64 0, .int .i64 0, .int .i64 0, .int .i64 0, .int .i64 p.s.id, .int .i64 p.s.seq, .slice A' p.s.body.length c', .int .i64 0, .int .i64 0, .int .i64 0] 36)).cell? ⟨P, 4, none⟩ = some (.slice x.wA p.way.length x.wc) := keepA (cellb (i := 4) HPB_4.out rfl)
          go_simp
          clear c0
          refine hK.out _ _ ?_ (fun hHeld => ?_)
          · try dsimp only
            (refine ?_ <;> (first | with_reducible assumption))
          clear hK K
          try simp only [Act.put, List.setIfInBounds_toArray, List.set_cons_zero, List.set_cons_succ]
          exact hC.out
      obtain ⟨P41, hP41⟩ : ∃ x, x = w4.heap.size := ⟨_, rfl⟩
      have loP41 : lo ≤ P41 := (by have := ltb HPB_4.out; omega)
      have oP41_P7 : P7 < P41 := (by have := ltb HP7_4.out; omega)
      obtain ⟨w5, hw8⟩ : ∃ y, y = w4.alloc (.cells #[.int .i64 7, .int .i64 p.s.epoch, .int .i64 0, .int .i64 0, .int .i64 0, .int .i64 0, .int .i64 0, .int .i64 0, .int .i64 0, .int .i64 0, .int .i64 0, .int .i64 0, .int .i64 0, .int .i64 0, .int .i64 0, .int .i64 p.s.id, .int .i64 p.s.seq, .slice A' p.s.body.length c', .int .i64 0, .int .i64 0, .int .i64 0] 36) := ⟨_, rfl⟩
      have hal : Below w4.heap.size w4 w5 := by rw [hw8]; exact (Below.refl _ _).alloc (Nat.le_refl _) _
      have hnew : w5.heap[P41]? = some (.cells #[.int .i64 7, .int .i64 p.s.epoch, .int .i64 0, .int .i64 0, .int .i64 0, .int .i64 0, .int .i64 0, .int .i64 0, .int .i64 0, .int .i64 0, .int .i64 0, .int .i64 0, .int .i64 0, .int .i64 0, .int .i64 0, .int .i64 p.s.id, .int .i64 p.s.seq, .slice A' p.s.body.length c', .int .i64 0, .int .i64 0, .int .i64 0] 36 (0, 0)) := by rw [hw8, hP41]; exact heap_alloc_new _ _
      have HNWAY_P41 : Hid ((.slice x.wA p.way.length x.wc : Value).ownBlock ≠ some P41) := Lib.hid (fun e => by have := (HWAY_4.out.lt _ e).2; omega)
      have HPB_5 : Hid (w5.heap[P]? = some (.cells #[.int .i64 id, .pointer (some ⟨x.gc, 0, none⟩), .pointer (some ⟨x.gs, 0, none⟩), .int .i64 p.ep, .slice x.wA p.way.length x.wc, .slice x.bA p.book.length x.bc, .int .i64 p.told, .int .i64 x.t1, .int .i64 x.t2, .slice ((some ⟨x.H, 0, none⟩)) p.heard.length p.heard.length] 54 (0, 0))) := Lib.hid ((hal.block P (ltb HPB_4.out)).trans HPB_4.out)
      have HS_5 : Hid (SAt w5 x.gs p.ep x.M x.nn f) := Lib.hid (HS_4.out.below hal)
      have HWAY_5 : Hid (w5.ownsRow (x.H + 1) 36 21 (.slice x.wA p.way.length x.wc) p.way.length (mgs p.way)) := Lib.hid ((Chg.of_below (S := fun _ => False) hal).own HWAY_4.out (fun _ _ h => h))
      have HBOOK_5 : Hid (w5.ownsRow (x.H + 1) 3 1 (.slice x.bA p.book.length x.bc) p.book.length (ints p.book)) := Lib.hid ((Chg.of_below (S := fun _ => False) hal).own HBOOK_4.out (fun _ _ h => h))
      have HHD_5 : Hid (w5.heap[x.H]? = some (.cells (ints p.heard).toArray 3 (0, 0))) := Lib.hid ((hal.block x.H (ltb HHD_4.out)).trans HHD_4.out)
      have HB_5 : Hid (Chg (fun k => lo ≤ k) w0 w5) := Lib.hid (HB_4.out.trans (Chg.of_below hal))
      have HP4_5 : Hid (w5.heap[P4]? = some (.cells #[.int .i64 kd, .int .i64 pick, .bool well] 57 (0, 0))) := Lib.hid ((hal.block P4 (ltb HP4_4.out)).trans HP4_4.out)
      have HC_5 : Hid (CAt w5 x.gc { p.s with sent := true, at_ := now } x.cA x.cc) := Lib.hid (HC_4.out.below hal)
      have HP7_5 : Hid (w5.heap[P7]? = some (.cells #[.int .i64 7, .int .i64 p.s.epoch, .int .i64 0, .int .i64 0, .int .i64 0, .int .i64 0, .int .i64 0, .int .i64 0, .int .i64 0, .int .i64 0, .int .i64 0, .int .i64 0, .int .i64 0, .int .i64 0, .int .i64 0, .int .i64 p.s.id, .int .i64 p.s.seq, .slice A' p.s.body.length c', .int .i64 0, .int .i64 0, .int .i64 0] 36 (0, 0))) := Lib.hid ((hal.block P7 (ltb HP7_4.out)).trans HP7_4.out)
      clear hal HPB_4 HS_4 HWAY_4 HBOOK_4 HHD_4 HB_4 HP4_4 HC_4 HP7_4
      have HP41_5 := Lib.hid hnew
      clear hnew
      rw [← hw8]
      clear hw8
      rw [← hP41]
      clear hP41
      have FP7' : w5.heap[P7]? = some (.cells #[.int .i64 7, .int .i64 p.s.epoch, .int .i64 0, .int .i64 0, .int .i64 0, .int .i64 0, .int .i64 0, .int .i64 0, .int .i64 0, .int .i64 0, .int .i64 0, .int .i64 0, .int .i64 0, .int .i64 0, .int .i64 0, .int .i64 p.s.id, .int .i64 p.s.seq, .slice A' p.s.body.length c', .int .i64 0, .int .i64 0, .int .i64 0] 36 (0, 0)) := HP7_5.out
      clear FP7
      have FP7 := FP7'
      clear FP7'
      have hHeld := True.intro
      refine wpAnyH_ready (rs := [7]) (by kernel_rfl) (by simp) ?_
      refine AllReadyH.cons (by (simp only [List.getElem?_toArray, List.getElem?_cons_succ, List.getElem?_cons_zero]; rfl)) (fun K hK => ?_) AllReadyH.nil
      refine step_append_row _ rfl (.tmp 39) (.tmp 41) _ rfl (x.H + 1) 36 i36 _ 21 184 Try.underlying52 HI36.out HZ36.out HY36.out HX36.out rfl (by omega) x.wA p.way.length x.wc (mgs p.way) rfl HWAY_5.out _ (some ⟨P41, 0, none⟩) 1 1 [.int .i64 7, .int .i64 p.s.epoch, .int .i64 0, .int .i64 0, .int .i64 0, .int .i64 0, .int .i64 0, .int .i64 0, .int .i64 0, .int .i64 0, .int .i64 0, .int .i64 0, .int .i64 0, .int .i64 0, .int .i64 0, .int .i64 p.s.id, .int .i64 p.s.seq, .slice A' p.s.body.length c', .int .i64 0, .int .i64 0, .int .i64 0] rfl (cellsIn_blk HP41_5.out 21 1 rfl) (by simp [Value.oneCell']) (by unfold maxLen; omega) (by omega) (by have := ltb HHD_5.out; omega) ?_
      intro A9 c10 w6 hown hg hor
      have hch := Ch.ofOwn HWAY_5.out hg
      clear hg
      have HNWAY_P7' : Hid ((.slice A9 ((p.way.length + 1)) c10 : Value).ownBlock ≠ some P7) := Lib.hid (row_new2 HNWAY_P7.out hor (ltb HP7_5.out))
      have HNWAY_P41' : Hid ((.slice A9 ((p.way.length + 1)) c10 : Value).ownBlock ≠ some P41) := Lib.hid (row_new2 HNWAY_P41.out hor (ltb HP41_5.out))
      clear HNWAY_P41'
      have HPB_6 : Hid (w6.heap[P]? = some (.cells #[.int .i64 id, .pointer (some ⟨x.gc, 0, none⟩), .pointer (some ⟨x.gs, 0, none⟩), .int .i64 p.ep, .slice x.wA p.way.length x.wc, .slice x.bA p.book.length x.bc, .int .i64 p.told, .int .i64 x.t1, .int .i64 x.t2, .slice ((some ⟨x.H, 0, none⟩)) p.heard.length p.heard.length] 54 (0, 0))) := Lib.hid (hch.blk HPB_5.out (by show (54 + 1 : Nat) ≠ _; decide))
      have HS_6 : Hid (SAt w6 x.gs p.ep x.M x.nn f) := Lib.hid (hch.sat HS_5.out (by decide) (by decide))
      have HBOOK_6 : Hid (w6.ownsRow (x.H + 1) 3 1 (.slice x.bA p.book.length x.bc) p.book.length (ints p.book)) := Lib.hid (hch.own HBOOK_5.out (by decide))
      have HHD_6 : Hid (w6.heap[x.H]? = some (.cells (ints p.heard).toArray 3 (0, 0))) := Lib.hid (hch.blk HHD_5.out (by show (3 + 1 : Nat) ≠ _; decide))
      have HB_6 : Hid (Chg (fun k => lo ≤ k) w0 w6) := Lib.hid (hch.low HB_5.out (fun k hk => by have := own_lowk HWAY_5.out k hk; omega))
      have HP4_6 : Hid (w6.heap[P4]? = some (.cells #[.int .i64 kd, .int .i64 pick, .bool well] 57 (0, 0))) := Lib.hid (hch.blk HP4_5.out (by show (57 + 1 : Nat) ≠ _; decide))
      have HC_6 : Hid (CAt w6 x.gc { p.s with sent := true, at_ := now } x.cA x.cc) := Lib.hid (hch.cat HC_5.out (by decide) (by decide))
      have HP7_6 : Hid (w6.heap[P7]? = some (.cells #[.int .i64 7, .int .i64 p.s.epoch, .int .i64 0, .int .i64 0, .int .i64 0, .int .i64 0, .int .i64 0, .int .i64 0, .int .i64 0, .int .i64 0, .int .i64 0, .int .i64 0, .int .i64 0, .int .i64 0, .int .i64 0, .int .i64 p.s.id, .int .i64 p.s.seq, .slice A' p.s.body.length c', .int .i64 0, .int .i64 0, .int .i64 0] 36 (0, 0))) := Lib.hid (hch.blkN HP7_5.out HNWAY_P7.out)
      clear hch HPB_5 HS_5 HBOOK_5 HHD_5 HB_5 HP4_5 HC_5 HP7_5 HP41_5
      clear HNWAY_P7
      clear HNWAY_P41
      clear hor
      have HWAY_6 : Hid (w6.ownsRow (x.H + 1) 36 21 (.slice A9 ((p.way.length + 1)) c10) (p.way.length + 1) ((mgs p.way) ++ [.int .i64 7, .int .i64 p.s.epoch, .int .i64 0, .int .i64 0, .int .i64 0, .int .i64 0, .int .i64 0, .int .i64 0, .int .i64 0, .int .i64 0, .int .i64 0, .int .i64 0, .int .i64 0, .int .i64 0, .int .i64 0, .int .i64 p.s.id, .int .i64 p.s.seq, .slice A' p.s.body.length c', .int .i64 0, .int .i64 0, .int .i64 0])) := Lib.hid hown
      clear hown HWAY_5
      have FP7' : w6.heap[P7]? = some (.cells #[.int .i64 7, .int .i64 p.s.epoch, .int .i64 0, .int .i64 0, .int .i64 0, .int .i64 0, .int .i64 0, .int .i64 0, .int .i64 0, .int .i64 0, .int .i64 0, .int .i64 0, .int .i64 0, .int .i64 0, .int .i64 0, .int .i64 p.s.id, .int .i64 p.s.seq, .slice A' p.s.body.length c', .int .i64 0, .int .i64 0, .int .i64 0] 36 (0, 0)) := HP7_6.out
      clear FP7
      have FP7 := FP7'
      clear FP7'
      refine hK.out _ _ ?_ (fun hHeld => ?_)
      · try dsimp only
        (refine ?_ <;> (first | with_reducible assumption))
      clear hK K
      try simp only [Act.put, List.setIfInBounds_toArray, List.set_cons_zero, List.set_cons_succ]
      refine wpAnyH_take (i := 8) (v := ?_) (by (simp only [List.getElem?_toArray, List.getElem?_cons_succ, List.getElem?_cons_zero]; rfl)) (by kernel_rfl) (by kernel_rfl) (by kernel_rfl) (fun _ _ _ h => h) (Or.inl ⟨by rfl, ?_⟩) (by assumption) ?_
      rotate_left
      · (intro w hSw; (try dsimp only at hSw); go_simp; try with_reducible rfl)
      try simp only [Act.put, List.setIfInBounds_toArray, List.set_cons_zero, List.set_cons_succ]
      refine wpAnyH_take (i := 9) (v := ?_) (by (simp only [List.getElem?_toArray, List.getElem?_cons_succ, List.getElem?_cons_zero]; rfl)) (by kernel_rfl) (by kernel_rfl) (by kernel_rfl) (fun _ _ _ h => h) (Or.inl ⟨by rfl, ?_⟩) (by assumption) ?_
      rotate_left
      · (intro w hSw; (try dsimp only at hSw); go_simp; try with_reducible rfl)
      try simp only [Act.put, List.setIfInBounds_toArray, List.set_cons_zero, List.set_cons_succ]
      refine wpAnyH_ready (rs := [10]) (by kernel_rfl) (by simp) ?_
      refine AllReadyH.cons (by (simp only [List.getElem?_toArray, List.getElem?_cons_succ, List.getElem?_cons_zero]; rfl)) (fun K hK => ?_) AllReadyH.nil
      have c0 : w6.cell? ⟨P, 4, none⟩ = some (.slice x.wA p.way.length x.wc) := cellb (i := 4) HPB_6.out rfl
      have f0 : w6.frozen? ⟨P, 4, none⟩ = false := fzb HPB_6.out 4
      go_simp
      clear c0 f0
      obtain ⟨w7, hw11⟩ : ∃ y, y = w6.setCell ⟨P, 4, none⟩ (.slice A9 ((p.way.length + 1)) c10) := ⟨_, rfl⟩
      have hch := Ch.ofCell (i := 4) HPB_6.out (.slice A9 ((p.way.length + 1)) c10)
      rw [← hw11] at hch
      have hnew : w7.heap[P]? = some (.cells #[.int .i64 id, .pointer (some ⟨x.gc, 0, none⟩), .pointer (some ⟨x.gs, 0, none⟩), .int .i64 p.ep, .slice A9 ((p.way.length + 1)) c10, .slice x.bA p.book.length x.bc, .int .i64 p.told, .int .i64 x.t1, .int .i64 x.t2, .slice ((some ⟨x.H, 0, none⟩)) p.heard.length p.heard.length] 54 (0, 0)) := by rw [hw11]; exact set_blk HPB_6.out _
      have HS_7 : Hid (SAt w7 x.gs p.ep x.M x.nn f) := Lib.hid (hch.sat HS_6.out (by decide) (by decide))
      have HBOOK_7 : Hid (w7.ownsRow (x.H + 1) 3 1 (.slice x.bA p.book.length x.bc) p.book.length (ints p.book)) := Lib.hid (hch.own HBOOK_6.out (by decide))
      have HHD_7 : Hid (w7.heap[x.H]? = some (.cells (ints p.heard).toArray 3 (0, 0))) := Lib.hid (hch.blk HHD_6.out (by show (3 + 1 : Nat) ≠ _; decide))
      have HB_7 : Hid (Chg (fun k => lo ≤ k) w0 w7) := Lib.hid (hch.low HB_6.out (fun k hk => by injection hk with hk; omega))
      have HP4_7 : Hid (w7.heap[P4]? = some (.cells #[.int .i64 kd, .int .i64 pick, .bool well] 57 (0, 0))) := Lib.hid (hch.blk HP4_6.out (by show (57 + 1 : Nat) ≠ _; decide))
      have HC_7 : Hid (CAt w7 x.gc { p.s with sent := true, at_ := now } x.cA x.cc) := Lib.hid (hch.cat HC_6.out (by decide) (by decide))
      have HP7_7 : Hid (w7.heap[P7]? = some (.cells #[.int .i64 7, .int .i64 p.s.epoch, .int .i64 0, .int .i64 0, .int .i64 0, .int .i64 0, .int .i64 0, .int .i64 0, .int .i64 0, .int .i64 0, .int .i64 0, .int .i64 0, .int .i64 0, .int .i64 0, .int .i64 0, .int .i64 p.s.id, .int .i64 p.s.seq, .slice A' p.s.body.length c', .int .i64 0, .int .i64 0, .int .i64 0] 36 (0, 0))) := Lib.hid (hch.blk HP7_6.out (by show (36 + 1 : Nat) ≠ _; decide))
      have HWAY_7 : Hid (w7.ownsRow (x.H + 1) 36 21 (.slice A9 ((p.way.length + 1)) c10) (p.way.length + 1) ((mgs p.way) ++ [.int .i64 7, .int .i64 p.s.epoch, .int .i64 0, .int .i64 0, .int .i64 0, .int .i64 0, .int .i64 0, .int .i64 0, .int .i64 0, .int .i64 0, .int .i64 0, .int .i64 0, .int .i64 0, .int .i64 0, .int .i64 0, .int .i64 p.s.id, .int .i64 p.s.seq, .slice A' p.s.body.length c', .int .i64 0, .int .i64 0, .int .i64 0])) := Lib.hid (hch.own HWAY_6.out (by decide))
      clear hch HS_6 HBOOK_6 HHD_6 HB_6 HP4_6 HC_6 HP7_6 HWAY_6
      have HPB_7 := Lib.hid hnew
      clear hnew HPB_6
      rw [← hw11]
      clear hw11
      have FP7' : w7.heap[P7]? = some (.cells #[.int .i64 7, .int .i64 p.s.epoch, .int .i64 0, .int .i64 0, .int .i64 0, .int .i64 0, .int .i64 0, .int .i64 0, .int .i64 0, .int .i64 0, .int .i64 0, .int .i64 0, .int .i64 0, .int .i64 0, .int .i64 0, .int .i64 p.s.id, .int .i64 p.s.seq, .slice A' p.s.body.length c', .int .i64 0, .int .i64 0, .int .i64 0] 36 (0, 0)) := HP7_7.out
      clear FP7
      have FP7 := FP7'
      clear FP7'
      refine hK.out _ _ ?_ (fun hHeld => ?_)
      · try dsimp only
        (refine ?_ <;> (first | with_reducible assumption))
      clear hK K
      try simp only [Act.put]
      refine wpAnyH_done (by kernel_rfl) ?_ _
      refine NoPanic.normal ?_
      clear hHeld FP7
      go_wp2_with fail
      go_ret
      have hs := asks_of HNO.out
      have e : (p.way ++ [(⟨askV p.s.epoch p.s.id p.s.seq, A', p.s.body.length, c'⟩ : Mg)]).length = p.way.length + 1 := by simp
      have hP : w7.heap[P]? = some (.cells #[.int .i64 id, .pointer (some ⟨x.gc, 0, none⟩), .pointer (some ⟨x.gs, 0, none⟩), .int .i64 p.ep, .slice A9 ((p.way ++ [(⟨askV p.s.epoch p.s.id p.s.seq, A', p.s.body.length, c'⟩ : Mg)]).length) c10, .slice x.bA p.book.length x.bc, .int .i64 p.told, .int .i64 x.t1, .int .i64 x.t2, .slice ((some ⟨x.H, 0, none⟩)) p.heard.length p.heard.length] 54 (0, 0)) := by rw [e]; exact HPB_7.out
      have hR : w7.ownsRow (x.H + 1) 36 21 (.slice A9 (p.way ++ [(⟨askV p.s.epoch p.s.id p.s.seq, A', p.s.body.length, c'⟩ : Mg)]).length c10) (p.way ++ [(⟨askV p.s.epoch p.s.id p.s.seq, A', p.s.body.length, c'⟩ : Mg)]).length (mgs (p.way ++ [(⟨askV p.s.epoch p.s.id p.s.seq, A', p.s.body.length, c'⟩ : Mg)])) := by rw [e, mgs_snocA]; exact HWAY_7.out
      refine ⟨rfl, { x with wA := A9, wc := c10 }, f, { p with s := { p.s with sent := true, at_ := now }, way := p.way ++ [(⟨askV p.s.epoch p.s.id p.s.seq, A', p.s.body.length, c'⟩ : Mg)] }, ⟨hP, HC_7.out, HS_7.out, hR, HBOOK_7.out, HHD_7.out, HKF.out, l1, l2, l3, l4⟩, HI.out.send now (⟨askV p.s.epoch p.s.id p.s.seq, A', p.s.body.length, c'⟩ : Mg) hs HI.out.hid rfl rfl rfl, fun h m hm => ?_, by show (p.way ++ [(⟨askV p.s.epoch p.s.id p.s.seq, A', p.s.body.length, c'⟩ : Mg)]).length ≤ _; omega, by simp, by simp, rfl, ⟨by show p.ep ≤ p.ep + 1; omega, ht1, hbd⟩, HB_7.out⟩
      rcases List.mem_append.1 hm with h2 | h2
      · exact h m h2
      · rw [List.mem_singleton.1 h2]; show (Lit.int .i64 p.s.id).wf = true; rw [HI.out.hid]; exact HWI.out
  · skip
    by_cases hno : SendNo p.s now
    · skip
      have HNO := Lib.hid hno
      clear hno
      have cc12 : w1.cell? ⟨P, 1, none⟩ = some (.pointer (some ⟨x.gc, 0, none⟩)) := cellb (i := 1) HPB_1.out rfl
      go_wp2_with fail
      clear cc12
      refine (send_no x.gc p.s x.cA x.cc now w1 HC_1.out HNO.out hat).mono ?_
      rintro e w2 ⟨rfl, hb⟩
      have HPB_2 : Hid (w2.heap[P]? = some (.cells #[.int .i64 id, .pointer (some ⟨x.gc, 0, none⟩), .pointer (some ⟨x.gs, 0, none⟩), .int .i64 p.ep, .slice x.wA p.way.length x.wc, .slice x.bA p.book.length x.bc, .int .i64 p.told, .int .i64 x.t1, .int .i64 x.t2, .slice ((some ⟨x.H, 0, none⟩)) p.heard.length p.heard.length] 54 (0, 0))) := Lib.hid ((hb.block P (ltb HPB_1.out)).trans HPB_1.out)
      have HC_2 : Hid (CAt w2 x.gc p.s x.cA x.cc) := Lib.hid (HC_1.out.below hb)
      have HS_2 : Hid (SAt w2 x.gs p.ep x.M x.nn f) := Lib.hid (HS_1.out.below hb)
      have HWAY_2 : Hid (w2.ownsRow (x.H + 1) 36 21 (.slice x.wA p.way.length x.wc) p.way.length (mgs p.way)) := Lib.hid ((Chg.of_below (S := fun _ => False) hb).own HWAY_1.out (fun _ _ h => h))
      have HBOOK_2 : Hid (w2.ownsRow (x.H + 1) 3 1 (.slice x.bA p.book.length x.bc) p.book.length (ints p.book)) := Lib.hid ((Chg.of_below (S := fun _ => False) hb).own HBOOK_1.out (fun _ _ h => h))
      have HHD_2 : Hid (w2.heap[x.H]? = some (.cells (ints p.heard).toArray 3 (0, 0))) := Lib.hid ((hb.block x.H (ltb HHD_1.out)).trans HHD_1.out)
      have HB_2 : Hid (Chg (fun k => lo ≤ k) w0 w2) := Lib.hid (HB_1.out.trans (Chg.of_below hb))
      have HP4_2 : Hid (w2.heap[P4]? = some (.cells #[.int .i64 kd, .int .i64 pick, .bool well] 57 (0, 0))) := Lib.hid ((hb.block P4 (ltb HP4_1.out)).trans HP4_1.out)
      clear hb HPB_1 HC_1 HS_1 HWAY_1 HBOOK_1 HHD_1 HB_1 HP4_1
      obtain ⟨P7, hP7⟩ : ∃ x, x = w2.heap.size := ⟨_, rfl⟩
      have loP7 : lo ≤ P7 := (by have := ltb HPB_2.out; omega)
      obtain ⟨w3, hw13⟩ : ∃ y, y = w2.alloc (.cells #[.int .i64 0, .int .i64 0, .int .i64 0, .int .i64 0, .int .i64 0, .int .i64 0, .int .i64 0, .int .i64 0, .int .i64 0, .int .i64 0, .int .i64 0, .int .i64 0, .int .i64 0, .int .i64 0, .int .i64 0, .int .i64 0, .int .i64 0, .slice none 0 0, .int .i64 0, .int .i64 0, .int .i64 0] 36) := ⟨_, rfl⟩
      have hal : Below w2.heap.size w2 w3 := by rw [hw13]; exact (Below.refl _ _).alloc (Nat.le_refl _) _
      have hnew : w3.heap[P7]? = some (.cells (mcv (fun _ => 0) (.slice none 0 0)) 36 (0, 0)) := by rw [hw13, hP7]; exact heap_alloc_new _ _
      have HNWAY_P7 : Hid ((.slice x.wA p.way.length x.wc : Value).ownBlock ≠ some P7) := Lib.hid (fun e => by have := (HWAY_2.out.lt _ e).2; omega)
      have HPB_3 : Hid (w3.heap[P]? = some (.cells #[.int .i64 id, .pointer (some ⟨x.gc, 0, none⟩), .pointer (some ⟨x.gs, 0, none⟩), .int .i64 p.ep, .slice x.wA p.way.length x.wc, .slice x.bA p.book.length x.bc, .int .i64 p.told, .int .i64 x.t1, .int .i64 x.t2, .slice ((some ⟨x.H, 0, none⟩)) p.heard.length p.heard.length] 54 (0, 0))) := Lib.hid ((hal.block P (ltb HPB_2.out)).trans HPB_2.out)
      have HC_3 : Hid (CAt w3 x.gc p.s x.cA x.cc) := Lib.hid (HC_2.out.below hal)
      have HS_3 : Hid (SAt w3 x.gs p.ep x.M x.nn f) := Lib.hid (HS_2.out.below hal)
      have HWAY_3 : Hid (w3.ownsRow (x.H + 1) 36 21 (.slice x.wA p.way.length x.wc) p.way.length (mgs p.way)) := Lib.hid ((Chg.of_below (S := fun _ => False) hal).own HWAY_2.out (fun _ _ h => h))
      have HBOOK_3 : Hid (w3.ownsRow (x.H + 1) 3 1 (.slice x.bA p.book.length x.bc) p.book.length (ints p.book)) := Lib.hid ((Chg.of_below (S := fun _ => False) hal).own HBOOK_2.out (fun _ _ h => h))
      have HHD_3 : Hid (w3.heap[x.H]? = some (.cells (ints p.heard).toArray 3 (0, 0))) := Lib.hid ((hal.block x.H (ltb HHD_2.out)).trans HHD_2.out)
      have HB_3 : Hid (Chg (fun k => lo ≤ k) w0 w3) := Lib.hid (HB_2.out.trans (Chg.of_below hal))
      have HP4_3 : Hid (w3.heap[P4]? = some (.cells #[.int .i64 kd, .int .i64 pick, .bool well] 57 (0, 0))) := Lib.hid ((hal.block P4 (ltb HP4_2.out)).trans HP4_2.out)
      clear hal HPB_2 HC_2 HS_2 HWAY_2 HBOOK_2 HHD_2 HB_2 HP4_2
      have HP7_3 := Lib.hid hnew
      clear hnew
      go_upto_region 8 with (refine wpList_store_row rfl 36 (.tmp 7) (.tmp 32) rfl w2.heap.size _ rfl rfl 36 _ (heap_alloc_new w2 _) (by kernel_rfl) rfl (by simp [Value.oneCell']) ?_; rw [World.setRow_alloc_new])
      rw [← hw13]
      clear hw13
      rw [← hP7]
      clear hP7
      go_wp2_with fail
      go_ret
      exact ⟨rfl, x, f, p, ⟨HPB_3.out, HC_3.out, HS_3.out, HWAY_3.out, HBOOK_3.out, HHD_3.out, HKF.out, l1, l2, l3, l4⟩, HI.out, fun h => h, by omega, by omega, by omega, rfl, ⟨by omega, hat, hbd⟩, HB_3.out⟩
    · skip
      have HNO := Lib.hid hno
      clear hno
      have cc14 : w1.cell? ⟨P, 1, none⟩ = some (.pointer (some ⟨x.gc, 0, none⟩)) := cellb (i := 1) HPB_1.out rfl
      go_wp2_with fail
      clear cc14
      refine (send_ok x.gc p.s x.cA x.cc now w1 HC_1.out HNO.out hbd hat).mono ?_
      rintro e w2 ⟨A', c', rfl, hc, ho, hg⟩
      have hch := Ch.ofChg HC_1.out.blk hg
      clear hg ho HC_1
      have HPB_2 : Hid (w2.heap[P]? = some (.cells #[.int .i64 id, .pointer (some ⟨x.gc, 0, none⟩), .pointer (some ⟨x.gs, 0, none⟩), .int .i64 p.ep, .slice x.wA p.way.length x.wc, .slice x.bA p.book.length x.bc, .int .i64 p.told, .int .i64 x.t1, .int .i64 x.t2, .slice ((some ⟨x.H, 0, none⟩)) p.heard.length p.heard.length] 54 (0, 0))) := Lib.hid (hch.blk HPB_1.out (by show (54 + 1 : Nat) ≠ _; decide))
      have HS_2 : Hid (SAt w2 x.gs p.ep x.M x.nn f) := Lib.hid (hch.sat HS_1.out (by decide) (by decide))
      have HWAY_2 : Hid (w2.ownsRow (x.H + 1) 36 21 (.slice x.wA p.way.length x.wc) p.way.length (mgs p.way)) := Lib.hid (hch.own HWAY_1.out (by decide))
      have HBOOK_2 : Hid (w2.ownsRow (x.H + 1) 3 1 (.slice x.bA p.book.length x.bc) p.book.length (ints p.book)) := Lib.hid (hch.own HBOOK_1.out (by decide))
      have HHD_2 : Hid (w2.heap[x.H]? = some (.cells (ints p.heard).toArray 3 (0, 0))) := Lib.hid (hch.blk HHD_1.out (by show (3 + 1 : Nat) ≠ _; decide))
      have HB_2 : Hid (Chg (fun k => lo ≤ k) w0 w2) := Lib.hid (hch.low HB_1.out (fun k hk => by injection hk with hk; omega))
      have HP4_2 : Hid (w2.heap[P4]? = some (.cells #[.int .i64 kd, .int .i64 pick, .bool well] 57 (0, 0))) := Lib.hid (hch.blk HP4_1.out (by show (57 + 1 : Nat) ≠ _; decide))
      clear hch HPB_1 HS_1 HWAY_1 HBOOK_1 HHD_1 HB_1 HP4_1
      have HC_2 : Hid (CAt w2 x.gc { p.s with sent := true, at_ := now } x.cA x.cc) := Lib.hid hc
      clear hc
      obtain ⟨P7, hP7⟩ : ∃ x, x = w2.heap.size := ⟨_, rfl⟩
      have loP7 : lo ≤ P7 := (by have := ltb HPB_2.out; omega)
      obtain ⟨w3, hw15⟩ : ∃ y, y = w2.alloc (.cells #[.int .i64 7, .int .i64 p.s.epoch, .int .i64 0, .int .i64 0, .int .i64 0, .int .i64 0, .int .i64 0, .int .i64 0, .int .i64 0, .int .i64 0, .int .i64 0, .int .i64 0, .int .i64 0, .int .i64 0, .int .i64 0, .int .i64 p.s.id, .int .i64 p.s.seq, .slice A' p.s.body.length c', .int .i64 0, .int .i64 0, .int .i64 0] 36) := ⟨_, rfl⟩
      have hal : Below w2.heap.size w2 w3 := by rw [hw15]; exact (Below.refl _ _).alloc (Nat.le_refl _) _
      have hnew : w3.heap[P7]? = some (.cells #[.int .i64 7, .int .i64 p.s.epoch, .int .i64 0, .int .i64 0, .int .i64 0, .int .i64 0, .int .i64 0, .int .i64 0, .int .i64 0, .int .i64 0, .int .i64 0, .int .i64 0, .int .i64 0, .int .i64 0, .int .i64 0, .int .i64 p.s.id, .int .i64 p.s.seq, .slice A' p.s.body.length c', .int .i64 0, .int .i64 0, .int .i64 0] 36 (0, 0)) := by rw [hw15, hP7]; exact heap_alloc_new _ _
      have HNWAY_P7 : Hid ((.slice x.wA p.way.length x.wc : Value).ownBlock ≠ some P7) := Lib.hid (fun e => by have := (HWAY_2.out.lt _ e).2; omega)
      have HPB_3 : Hid (w3.heap[P]? = some (.cells #[.int .i64 id, .pointer (some ⟨x.gc, 0, none⟩), .pointer (some ⟨x.gs, 0, none⟩), .int .i64 p.ep, .slice x.wA p.way.length x.wc, .slice x.bA p.book.length x.bc, .int .i64 p.told, .int .i64 x.t1, .int .i64 x.t2, .slice ((some ⟨x.H, 0, none⟩)) p.heard.length p.heard.length] 54 (0, 0))) := Lib.hid ((hal.block P (ltb HPB_2.out)).trans HPB_2.out)
      have HS_3 : Hid (SAt w3 x.gs p.ep x.M x.nn f) := Lib.hid (HS_2.out.below hal)
      have HWAY_3 : Hid (w3.ownsRow (x.H + 1) 36 21 (.slice x.wA p.way.length x.wc) p.way.length (mgs p.way)) := Lib.hid ((Chg.of_below (S := fun _ => False) hal).own HWAY_2.out (fun _ _ h => h))
      have HBOOK_3 : Hid (w3.ownsRow (x.H + 1) 3 1 (.slice x.bA p.book.length x.bc) p.book.length (ints p.book)) := Lib.hid ((Chg.of_below (S := fun _ => False) hal).own HBOOK_2.out (fun _ _ h => h))
      have HHD_3 : Hid (w3.heap[x.H]? = some (.cells (ints p.heard).toArray 3 (0, 0))) := Lib.hid ((hal.block x.H (ltb HHD_2.out)).trans HHD_2.out)
      have HB_3 : Hid (Chg (fun k => lo ≤ k) w0 w3) := Lib.hid (HB_2.out.trans (Chg.of_below hal))
      have HP4_3 : Hid (w3.heap[P4]? = some (.cells #[.int .i64 kd, .int .i64 pick, .bool well] 57 (0, 0))) := Lib.hid ((hal.block P4 (ltb HP4_2.out)).trans HP4_2.out)
      have HC_3 : Hid (CAt w3 x.gc { p.s with sent := true, at_ := now } x.cA x.cc) := Lib.hid (HC_2.out.below hal)
      clear hal HPB_2 HS_2 HWAY_2 HBOOK_2 HHD_2 HB_2 HP4_2 HC_2
      have HP7_3 := Lib.hid hnew
      clear hnew
      go_upto_region 8 with (refine wpList_store_row rfl 36 (.tmp 7) (.tmp 32) rfl w2.heap.size _ rfl rfl 36 _ (heap_alloc_new w2 _) (by kernel_rfl) rfl (by simp [Value.oneCell']) ?_; rw [World.setRow_alloc_new])
      rw [← hw15]
      clear hw15
      rw [← hP7]
      clear hP7
      go_upto_region 9 with (fail)
      have HPB_4 : Hid (w3.drew.heap[P]? = some (.cells #[.int .i64 id, .pointer (some ⟨x.gc, 0, none⟩), .pointer (some ⟨x.gs, 0, none⟩), .int .i64 p.ep, .slice x.wA p.way.length x.wc, .slice x.bA p.book.length x.bc, .int .i64 p.told, .int .i64 x.t1, .int .i64 x.t2, .slice ((some ⟨x.H, 0, none⟩)) p.heard.length p.heard.length] 54 (0, 0))) := Lib.hid ((((Below.refl w3.heap.size w3).drew).block P (ltb HPB_3.out)).trans HPB_3.out)
      have HS_4 : Hid (SAt w3.drew x.gs p.ep x.M x.nn f) := Lib.hid (HS_3.out.below ((Below.refl w3.heap.size w3).drew))
      have HWAY_4 : Hid (w3.drew.ownsRow (x.H + 1) 36 21 (.slice x.wA p.way.length x.wc) p.way.length (mgs p.way)) := Lib.hid ((Chg.of_below (S := fun _ => False) ((Below.refl w3.heap.size w3).drew)).own HWAY_3.out (fun _ _ h => h))
      have HBOOK_4 : Hid (w3.drew.ownsRow (x.H + 1) 3 1 (.slice x.bA p.book.length x.bc) p.book.length (ints p.book)) := Lib.hid ((Chg.of_below (S := fun _ => False) ((Below.refl w3.heap.size w3).drew)).own HBOOK_3.out (fun _ _ h => h))
      have HHD_4 : Hid (w3.drew.heap[x.H]? = some (.cells (ints p.heard).toArray 3 (0, 0))) := Lib.hid ((((Below.refl w3.heap.size w3).drew).block x.H (ltb HHD_3.out)).trans HHD_3.out)
      have HB_4 : Hid (Chg (fun k => lo ≤ k) w0 w3.drew) := Lib.hid (HB_3.out.trans (Chg.of_below ((Below.refl w3.heap.size w3).drew)))
      have HP4_4 : Hid (w3.drew.heap[P4]? = some (.cells #[.int .i64 kd, .int .i64 pick, .bool well] 57 (0, 0))) := Lib.hid ((((Below.refl w3.heap.size w3).drew).block P4 (ltb HP4_3.out)).trans HP4_3.out)
      have HC_4 : Hid (CAt w3.drew x.gc { p.s with sent := true, at_ := now } x.cA x.cc) := Lib.hid (HC_3.out.below ((Below.refl w3.heap.size w3).drew))
      have HP7_4 : Hid (w3.drew.heap[P7]? = some (.cells #[.int .i64 7, .int .i64 p.s.epoch, .int .i64 0, .int .i64 0, .int .i64 0, .int .i64 0, .int .i64 0, .int .i64 0, .int .i64 0, .int .i64 0, .int .i64 0, .int .i64 0, .int .i64 0, .int .i64 0, .int .i64 0, .int .i64 p.s.id, .int .i64 p.s.seq, .slice A' p.s.body.length c', .int .i64 0, .int .i64 0, .int .i64 0] 36 (0, 0))) := Lib.hid ((((Below.refl w3.heap.size w3).drew).block P7 (ltb HP7_3.out)).trans HP7_3.out)
      clear HPB_3 HS_3 HWAY_3 HBOOK_3 HHD_3 HB_3 HP4_3 HC_3 HP7_3
      have FP7 : w3.drew.heap[P7]? = some (.cells #[.int .i64 7, .int .i64 p.s.epoch, .int .i64 0, .int .i64 0, .int .i64 0, .int .i64 0, .int .i64 0, .int .i64 0, .int .i64 0, .int .i64 0, .int .i64 0, .int .i64 0, .int .i64 0, .int .i64 0, .int .i64 0, .int .i64 p.s.id, .int .i64 p.s.seq, .slice A' p.s.body.length c', .int .i64 0, .int .i64 0, .int .i64 0] 36 (0, 0)) := HP7_4.out
      refine wp_region_noPanic ?_
      refine wp_region_held_drew (S := fun w' => w'.heap[P7]? = some (.cells #[.int .i64 7, .int .i64 p.s.epoch, .int .i64 0, .int .i64 0, .int .i64 0, .int .i64 0, .int .i64 0, .int .i64 0, .int .i64 0, .int .i64 0, .int .i64 0, .int .i64 0, .int .i64 0, .int .i64 0, .int .i64 0, .int .i64 p.s.id, .int .i64 p.s.seq, .slice A' p.s.body.length c', .int .i64 0, .int .i64 0, .int .i64 0] 36 (0, 0))) (by kernel_rfl) ?_ (fun hHeld => ?_)
      · try dsimp only
        (refine ?_ <;> (first | with_reducible assumption))
      generalize w3.drew = w4 at *
      refine wpAnyH_take (i := 0) (v := ?_) (by (simp only [List.getElem?_toArray, List.getElem?_cons_zero]; rfl)) (by kernel_rfl) (by kernel_rfl) (by kernel_rfl) (fun _ _ _ h => h) (Or.inl ⟨by rfl, ?_⟩) (by assumption) ?_
      rotate_left
      · (intro w hSw; (try dsimp only at hSw); go_simp; try with_reducible rfl)
      try simp only [Act.put, List.setIfInBounds_toArray, List.set_cons_zero, List.set_cons_succ]
      refine wpAnyH_take (i := 1) (v := ?_) (by (simp only [List.getElem?_toArray, List.getElem?_cons_succ, List.getElem?_cons_zero]; rfl)) (by kernel_rfl) (by kernel_rfl) (by kernel_rfl) (fun _ _ _ h => h) (Or.inl ⟨by rfl, ?_⟩) (by assumption) ?_
      rotate_left
      · (intro w hSw; (try dsimp only at hSw); go_simp; try with_reducible rfl)
      try simp only [Act.put, List.setIfInBounds_toArray, List.set_cons_zero, List.set_cons_succ]
      refine wpAnyH_take (i := 2) (v := ?_) (by (simp only [List.getElem?_toArray, List.getElem?_cons_succ, List.getElem?_cons_zero]; rfl)) (by kernel_rfl) (by kernel_rfl) (by kernel_rfl) (fun _ _ _ h => h) (Or.inl ⟨by rfl, ?_⟩) (by assumption) ?_
      rotate_left
      · (intro w hSw; (try dsimp only at hSw); go_simp; try with_reducible rfl)
      try simp only [Act.put, List.setIfInBounds_toArray, List.set_cons_zero, List.set_cons_succ]
      refine wpAnyH_take (i := 3) (v := ?_) (by (simp only [List.getElem?_toArray, List.getElem?_cons_succ, List.getElem?_cons_zero]; rfl)) (by kernel_rfl) (by kernel_rfl) (by kernel_rfl) (fun _ _ _ h => h) (Or.inl ⟨by rfl, ?_⟩) (by assumption) ?_
      rotate_left
      · (intro w hSw; (try dsimp only at hSw); go_simp; try with_reducible rfl)
      try simp only [Act.put, List.setIfInBounds_toArray, List.set_cons_zero, List.set_cons_succ]
      refine wpAnyH_take (i := 5) (v := ?_) (by (simp only [List.getElem?_toArray, List.getElem?_cons_succ, List.getElem?_cons_zero]; rfl)) (by kernel_rfl) (by kernel_rfl) (by kernel_rfl) (fun _ _ _ h => h) (Or.inl ⟨by rfl, ?_⟩) (by assumption) ?_
      rotate_left
      · intro w hSw
        try dsimp only at hSw
        refine take_load (x := .tmp 7) (ty := 36) ?_ P7 ?_ 36 _ (0, 0) _ hSw Try.underlying36 rfl (by kernel_rfl)
        all_goals rfl
      try simp only [Act.put, List.setIfInBounds_toArray, List.set_cons_zero, List.set_cons_succ]
      apply cutC
      · intro hC
        refine wpAnyH_ready (rs := [4, 6]) (by kernel_rfl) (by simp) ?_
        refine AllReadyH.cons (by (simp only [List.getElem?_toArray, List.getElem?_cons_succ, List.getElem?_cons_zero]; rfl)) (fun K hK => ?_) (AllReadyH.cons (by (simp only [List.getElem?_toArray, List.getElem?_cons_succ, List.getElem?_cons_zero]; rfl)) (fun K hK => ?_) AllReadyH.nil)
        · have c0 : w4.cell? ⟨P, 4, none⟩ = some (.slice x.wA p.way.length x.wc) := cellb (i := 4) HPB_4.out rfl
          go_simp
          clear c0
          refine hK.out _ _ ?_ (fun hHeld => ?_)
          · try dsimp only
            (refine ?_ <;> (first | with_reducible assumption))
          clear hK K
          try simp only [Act.put, List.setIfInBounds_toArray, List.set_cons_zero, List.set_cons_succ]
          refine wpAnyH_ready (rs := [6]) (by kernel_rfl) (by simp) ?_
          refine AllReadyH.cons (by (simp only [List.getElem?_toArray, List.getElem?_cons_succ, List.getElem?_cons_zero]; rfl)) (fun K hK => ?_) AllReadyH.nil
          go_simp
          have GFP7 : (w4.alloc (.cells #[.int .i64 7, .int .i64 p.s.epoch, .int .i64 0, .int .i64 0, .int .i64 0, .int .i64 0, .int .i64 0, .int .i64 0, .int .i64 0, .int .i64 0, .int .i64 0, .int .i64 0, .int .i64 0, .int .i64 0, .int .i64 0, .int .i64 p.s.id, .int .i64 p.s.seq, .slice A' p.s.body.length c', .int .i64 0, .int .i64 0, .int .i64 0] 36)).heap[P7]? = some (.cells #[.int .i64 7, .int .i64 p.s.epoch, .int .i64 0, .int .i64 0, .int .i64 0, .int .i64 0, .int .i64 0, .int .i64 0, .int .i64 0, .int .i64 0, .int .i64 0, .int .i64 0, .int .i64 0, .int .i64 0, .int .i64 0, .int .i64 p.s.id, .int .i64 p.s.seq, .slice A' p.s.body.length c', .int .i64 0, .int .i64 0, .int .i64 0] 36 (0, 0)) := alloc_blk FP7
          refine hK.out _ _ ?_ (fun hHeld => ?_)
          · try dsimp only
            (refine ?_ <;> (first | with_reducible assumption))
          clear hK K
          try simp only [Act.put, List.setIfInBounds_toArray, List.set_cons_zero, List.set_cons_succ]
          exact hC.out
        · go_simp
          have GFP7 : (w4.alloc (.cells #[.int .i64 7, .int .i64 p.s.epoch, .int .i64 0, .int .i64 0, .int .i64 0, .int .i64 0, .int .i64 0, .int .i64 0, .int .i64 0, .int .i64 0, .int .i64 0, .int .i64 0, .int .i64 0, .int .i64 0, .int .i64 0, .int .i64 p.s.id, .int .i64 p.s.seq, .slice A' p.s.body.length c', .int .i64 0, .int .i64 0, .int .i64 0] 36)).heap[P7]? = some (.cells #[.int .i64 7, .int .i64 p.s.epoch, .int .i64 0, .int .i64 0, .int .i64 0, .int .i64 0, .int .i64 0, .int .i64 0, .int .i64 0, .int .i64 0, .int .i64 0, .int .i64 0, .int .i64 0, .int .i64 0, .int .i64 0, .int .i64 p.s.id, .int .i64 p.s.seq, .slice A' p.s.body.length c', .int .i64 0, .int .i64 0, .int .i64 0] 36 (0, 0)) := alloc_blk FP7
          refine hK.out _ _ ?_ (fun hHeld => ?_)
          · try dsimp only
            (refine ?_ <;> (first | with_reducible assumption))
          clear hK K
          try simp only [Act.put, List.setIfInBounds_toArray, List.set_cons_zero, List.set_cons_succ]
          refine wpAnyH_ready (rs := [4]) (by kernel_rfl) (by simp) ?_
          refine AllReadyH.cons (by (simp only [List.getElem?_toArray, List.getElem?_cons_succ, List.getElem?_cons_zero]; rfl)) (fun K hK => ?_) AllReadyH.nil
          have c0 : (w4.alloc (.cells #[.int .i64 7, .int .i64 p.s.epoch, .int .i64 0, .int .i64 0, .int .i64 0, .int .i64 0, .int .i64 0, .int .i64 0, .int .i64 0, .int .i64 0, .int .i64 0, .int .i64 0, .int .i64 0, .int .i64 0, .int .i64 0, .int .i64 p.s.id, .int .i64 p.s.seq, .slice A' p.s.body.length c', .int .i64 0, .int .i64 0, .int .i64 0] 36)).cell? ⟨P, 4, none⟩ = some (.slice x.wA p.way.length x.wc) := keepA (cellb (i := 4) HPB_4.out rfl)
          go_simp
          clear c0
          refine hK.out _ _ ?_ (fun hHeld => ?_)
          · try dsimp only
            (refine ?_ <;> (first | with_reducible assumption))
          clear hK K
          try simp only [Act.put, List.setIfInBounds_toArray, List.set_cons_zero, List.set_cons_succ]
          exact hC.out
      obtain ⟨P41, hP41⟩ : ∃ x, x = w4.heap.size := ⟨_, rfl⟩
      have loP41 : lo ≤ P41 := (by have := ltb HPB_4.out; omega)
      have oP41_P7 : P7 < P41 := (by have := ltb HP7_4.out; omega)
      obtain ⟨w5, hw16⟩ : ∃ y, y = w4.alloc (.cells #[.int .i64 7, .int .i64 p.s.epoch, .int .i64 0, .int .i64 0, .int .i64 0, .int .i64 0, .int .i64 0, .int .i64 0, .int .i64 0, .int .i64 0, .int .i64 0, .int .i64 0, .int .i64 0, .int .i64 0, .int .i64 0, .int .i64 p.s.id, .int .i64 p.s.seq, .slice A' p.s.body.length c', .int .i64 0, .int .i64 0, .int .i64 0] 36) := ⟨_, rfl⟩
      have hal : Below w4.heap.size w4 w5 := by rw [hw16]; exact (Below.refl _ _).alloc (Nat.le_refl _) _
      have hnew : w5.heap[P41]? = some (.cells #[.int .i64 7, .int .i64 p.s.epoch, .int .i64 0, .int .i64 0, .int .i64 0, .int .i64 0, .int .i64 0, .int .i64 0, .int .i64 0, .int .i64 0, .int .i64 0, .int .i64 0, .int .i64 0, .int .i64 0, .int .i64 0, .int .i64 p.s.id, .int .i64 p.s.seq, .slice A' p.s.body.length c', .int .i64 0, .int .i64 0, .int .i64 0] 36 (0, 0)) := by rw [hw16, hP41]; exact heap_alloc_new _ _
      have HNWAY_P41 : Hid ((.slice x.wA p.way.length x.wc : Value).ownBlock ≠ some P41) := Lib.hid (fun e => by have := (HWAY_4.out.lt _ e).2; omega)
      have HPB_5 : Hid (w5.heap[P]? = some (.cells #[.int .i64 id, .pointer (some ⟨x.gc, 0, none⟩), .pointer (some ⟨x.gs, 0, none⟩), .int .i64 p.ep, .slice x.wA p.way.length x.wc, .slice x.bA p.book.length x.bc, .int .i64 p.told, .int .i64 x.t1, .int .i64 x.t2, .slice ((some ⟨x.H, 0, none⟩)) p.heard.length p.heard.length] 54 (0, 0))) := Lib.hid ((hal.block P (ltb HPB_4.out)).trans HPB_4.out)
      have HS_5 : Hid (SAt w5 x.gs p.ep x.M x.nn f) := Lib.hid (HS_4.out.below hal)
      have HWAY_5 : Hid (w5.ownsRow (x.H + 1) 36 21 (.slice x.wA p.way.length x.wc) p.way.length (mgs p.way)) := Lib.hid ((Chg.of_below (S := fun _ => False) hal).own HWAY_4.out (fun _ _ h => h))
      have HBOOK_5 : Hid (w5.ownsRow (x.H + 1) 3 1 (.slice x.bA p.book.length x.bc) p.book.length (ints p.book)) := Lib.hid ((Chg.of_below (S := fun _ => False) hal).own HBOOK_4.out (fun _ _ h => h))
      have HHD_5 : Hid (w5.heap[x.H]? = some (.cells (ints p.heard).toArray 3 (0, 0))) := Lib.hid ((hal.block x.H (ltb HHD_4.out)).trans HHD_4.out)
      have HB_5 : Hid (Chg (fun k => lo ≤ k) w0 w5) := Lib.hid (HB_4.out.trans (Chg.of_below hal))
      have HP4_5 : Hid (w5.heap[P4]? = some (.cells #[.int .i64 kd, .int .i64 pick, .bool well] 57 (0, 0))) := Lib.hid ((hal.block P4 (ltb HP4_4.out)).trans HP4_4.out)
      have HC_5 : Hid (CAt w5 x.gc { p.s with sent := true, at_ := now } x.cA x.cc) := Lib.hid (HC_4.out.below hal)
      have HP7_5 : Hid (w5.heap[P7]? = some (.cells #[.int .i64 7, .int .i64 p.s.epoch, .int .i64 0, .int .i64 0, .int .i64 0, .int .i64 0, .int .i64 0, .int .i64 0, .int .i64 0, .int .i64 0, .int .i64 0, .int .i64 0, .int .i64 0, .int .i64 0, .int .i64 0, .int .i64 p.s.id, .int .i64 p.s.seq, .slice A' p.s.body.length c', .int .i64 0, .int .i64 0, .int .i64 0] 36 (0, 0))) := Lib.hid ((hal.block P7 (ltb HP7_4.out)).trans HP7_4.out)
      clear hal HPB_4 HS_4 HWAY_4 HBOOK_4 HHD_4 HB_4 HP4_4 HC_4 HP7_4
      have HP41_5 := Lib.hid hnew
      clear hnew
      rw [← hw16]
      clear hw16
      rw [← hP41]
      clear hP41
      have FP7' : w5.heap[P7]? = some (.cells #[.int .i64 7, .int .i64 p.s.epoch, .int .i64 0, .int .i64 0, .int .i64 0, .int .i64 0, .int .i64 0, .int .i64 0, .int .i64 0, .int .i64 0, .int .i64 0, .int .i64 0, .int .i64 0, .int .i64 0, .int .i64 0, .int .i64 p.s.id, .int .i64 p.s.seq, .slice A' p.s.body.length c', .int .i64 0, .int .i64 0, .int .i64 0] 36 (0, 0)) := HP7_5.out
      clear FP7
      have FP7 := FP7'
      clear FP7'
      have hHeld := True.intro
      refine wpAnyH_ready (rs := [7]) (by kernel_rfl) (by simp) ?_
      refine AllReadyH.cons (by (simp only [List.getElem?_toArray, List.getElem?_cons_succ, List.getElem?_cons_zero]; rfl)) (fun K hK => ?_) AllReadyH.nil
      refine step_append_row _ rfl (.tmp 39) (.tmp 41) _ rfl (x.H + 1) 36 i36 _ 21 184 Try.underlying52 HI36.out HZ36.out HY36.out HX36.out rfl (by omega) x.wA p.way.length x.wc (mgs p.way) rfl HWAY_5.out _ (some ⟨P41, 0, none⟩) 1 1 [.int .i64 7, .int .i64 p.s.epoch, .int .i64 0, .int .i64 0, .int .i64 0, .int .i64 0, .int .i64 0, .int .i64 0, .int .i64 0, .int .i64 0, .int .i64 0, .int .i64 0, .int .i64 0, .int .i64 0, .int .i64 0, .int .i64 p.s.id, .int .i64 p.s.seq, .slice A' p.s.body.length c', .int .i64 0, .int .i64 0, .int .i64 0] rfl (cellsIn_blk HP41_5.out 21 1 rfl) (by simp [Value.oneCell']) (by unfold maxLen; omega) (by omega) (by have := ltb HHD_5.out; omega) ?_
      intro A17 c18 w6 hown hg hor
      have hch := Ch.ofOwn HWAY_5.out hg
      clear hg
      have HNWAY_P7' : Hid ((.slice A17 ((p.way.length + 1)) c18 : Value).ownBlock ≠ some P7) := Lib.hid (row_new2 HNWAY_P7.out hor (ltb HP7_5.out))
      have HNWAY_P41' : Hid ((.slice A17 ((p.way.length + 1)) c18 : Value).ownBlock ≠ some P41) := Lib.hid (row_new2 HNWAY_P41.out hor (ltb HP41_5.out))
      clear HNWAY_P41'
      have HPB_6 : Hid (w6.heap[P]? = some (.cells #[.int .i64 id, .pointer (some ⟨x.gc, 0, none⟩), .pointer (some ⟨x.gs, 0, none⟩), .int .i64 p.ep, .slice x.wA p.way.length x.wc, .slice x.bA p.book.length x.bc, .int .i64 p.told, .int .i64 x.t1, .int .i64 x.t2, .slice ((some ⟨x.H, 0, none⟩)) p.heard.length p.heard.length] 54 (0, 0))) := Lib.hid (hch.blk HPB_5.out (by show (54 + 1 : Nat) ≠ _; decide))
      have HS_6 : Hid (SAt w6 x.gs p.ep x.M x.nn f) := Lib.hid (hch.sat HS_5.out (by decide) (by decide))
      have HBOOK_6 : Hid (w6.ownsRow (x.H + 1) 3 1 (.slice x.bA p.book.length x.bc) p.book.length (ints p.book)) := Lib.hid (hch.own HBOOK_5.out (by decide))
      have HHD_6 : Hid (w6.heap[x.H]? = some (.cells (ints p.heard).toArray 3 (0, 0))) := Lib.hid (hch.blk HHD_5.out (by show (3 + 1 : Nat) ≠ _; decide))
      have HB_6 : Hid (Chg (fun k => lo ≤ k) w0 w6) := Lib.hid (hch.low HB_5.out (fun k hk => by have := own_lowk HWAY_5.out k hk; omega))
      have HP4_6 : Hid (w6.heap[P4]? = some (.cells #[.int .i64 kd, .int .i64 pick, .bool well] 57 (0, 0))) := Lib.hid (hch.blk HP4_5.out (by show (57 + 1 : Nat) ≠ _; decide))
      have HC_6 : Hid (CAt w6 x.gc { p.s with sent := true, at_ := now } x.cA x.cc) := Lib.hid (hch.cat HC_5.out (by decide) (by decide))
      have HP7_6 : Hid (w6.heap[P7]? = some (.cells #[.int .i64 7, .int .i64 p.s.epoch, .int .i64 0, .int .i64 0, .int .i64 0, .int .i64 0, .int .i64 0, .int .i64 0, .int .i64 0, .int .i64 0, .int .i64 0, .int .i64 0, .int .i64 0, .int .i64 0, .int .i64 0, .int .i64 p.s.id, .int .i64 p.s.seq, .slice A' p.s.body.length c', .int .i64 0, .int .i64 0, .int .i64 0] 36 (0, 0))) := Lib.hid (hch.blkN HP7_5.out HNWAY_P7.out)
      clear hch HPB_5 HS_5 HBOOK_5 HHD_5 HB_5 HP4_5 HC_5 HP7_5 HP41_5
      clear HNWAY_P7
      clear HNWAY_P41
      clear hor
      have HWAY_6 : Hid (w6.ownsRow (x.H + 1) 36 21 (.slice A17 ((p.way.length + 1)) c18) (p.way.length + 1) ((mgs p.way) ++ [.int .i64 7, .int .i64 p.s.epoch, .int .i64 0, .int .i64 0, .int .i64 0, .int .i64 0, .int .i64 0, .int .i64 0, .int .i64 0, .int .i64 0, .int .i64 0, .int .i64 0, .int .i64 0, .int .i64 0, .int .i64 0, .int .i64 p.s.id, .int .i64 p.s.seq, .slice A' p.s.body.length c', .int .i64 0, .int .i64 0, .int .i64 0])) := Lib.hid hown
      clear hown HWAY_5
      have FP7' : w6.heap[P7]? = some (.cells #[.int .i64 7, .int .i64 p.s.epoch, .int .i64 0, .int .i64 0, .int .i64 0, .int .i64 0, .int .i64 0, .int .i64 0, .int .i64 0, .int .i64 0, .int .i64 0, .int .i64 0, .int .i64 0, .int .i64 0, .int .i64 0, .int .i64 p.s.id, .int .i64 p.s.seq, .slice A' p.s.body.length c', .int .i64 0, .int .i64 0, .int .i64 0] 36 (0, 0)) := HP7_6.out
      clear FP7
      have FP7 := FP7'
      clear FP7'
      refine hK.out _ _ ?_ (fun hHeld => ?_)
      · try dsimp only
        (refine ?_ <;> (first | with_reducible assumption))
      clear hK K
      try simp only [Act.put, List.setIfInBounds_toArray, List.set_cons_zero, List.set_cons_succ]
      refine wpAnyH_take (i := 8) (v := ?_) (by (simp only [List.getElem?_toArray, List.getElem?_cons_succ, List.getElem?_cons_zero]; rfl)) (by kernel_rfl) (by kernel_rfl) (by kernel_rfl) (fun _ _ _ h => h) (Or.inl ⟨by rfl, ?_⟩) (by assumption) ?_
      rotate_left
      · (intro w hSw; (try dsimp only at hSw); go_simp; try with_reducible rfl)
      try simp only [Act.put, List.setIfInBounds_toArray, List.set_cons_zero, List.set_cons_succ]
      refine wpAnyH_take (i := 9) (v := ?_) (by (simp only [List.getElem?_toArray, List.getElem?_cons_succ, List.getElem?_cons_zero]; rfl)) (by kernel_rfl) (by kernel_rfl) (by kernel_rfl) (fun _ _ _ h => h) (Or.inl ⟨by rfl, ?_⟩) (by assumption) ?_
      rotate_left
      · (intro w hSw; (try dsimp only at hSw); go_simp; try with_reducible rfl)
      try simp only [Act.put, List.setIfInBounds_toArray, List.set_cons_zero, List.set_cons_succ]
      refine wpAnyH_ready (rs := [10]) (by kernel_rfl) (by simp) ?_
      refine AllReadyH.cons (by (simp only [List.getElem?_toArray, List.getElem?_cons_succ, List.getElem?_cons_zero]; rfl)) (fun K hK => ?_) AllReadyH.nil
      have c0 : w6.cell? ⟨P, 4, none⟩ = some (.slice x.wA p.way.length x.wc) := cellb (i := 4) HPB_6.out rfl
      have f0 : w6.frozen? ⟨P, 4, none⟩ = false := fzb HPB_6.out 4
      go_simp
      clear c0 f0
      obtain ⟨w7, hw19⟩ : ∃ y, y = w6.setCell ⟨P, 4, none⟩ (.slice A17 ((p.way.length + 1)) c18) := ⟨_, rfl⟩
      have hch := Ch.ofCell (i := 4) HPB_6.out (.slice A17 ((p.way.length + 1)) c18)
      rw [← hw19] at hch
      have hnew : w7.heap[P]? = some (.cells #[.int .i64 id, .pointer (some ⟨x.gc, 0, none⟩), .pointer (some ⟨x.gs, 0, none⟩), .int .i64 p.ep, .slice A17 ((p.way.length + 1)) c18, .slice x.bA p.book.length x.bc, .int .i64 p.told, .int .i64 x.t1, .int .i64 x.t2, .slice ((some ⟨x.H, 0, none⟩)) p.heard.length p.heard.length] 54 (0, 0)) := by rw [hw19]; exact set_blk HPB_6.out _
      have HS_7 : Hid (SAt w7 x.gs p.ep x.M x.nn f) := Lib.hid (hch.sat HS_6.out (by decide) (by decide))
      have HBOOK_7 : Hid (w7.ownsRow (x.H + 1) 3 1 (.slice x.bA p.book.length x.bc) p.book.length (ints p.book)) := Lib.hid (hch.own HBOOK_6.out (by decide))
      have HHD_7 : Hid (w7.heap[x.H]? = some (.cells (ints p.heard).toArray 3 (0, 0))) := Lib.hid (hch.blk HHD_6.out (by show (3 + 1 : Nat) ≠ _; decide))
      have HB_7 : Hid (Chg (fun k => lo ≤ k) w0 w7) := Lib.hid (hch.low HB_6.out (fun k hk => by injection hk with hk; omega))
      have HP4_7 : Hid (w7.heap[P4]? = some (.cells #[.int .i64 kd, .int .i64 pick, .bool well] 57 (0, 0))) := Lib.hid (hch.blk HP4_6.out (by show (57 + 1 : Nat) ≠ _; decide))
      have HC_7 : Hid (CAt w7 x.gc { p.s with sent := true, at_ := now } x.cA x.cc) := Lib.hid (hch.cat HC_6.out (by decide) (by decide))
      have HP7_7 : Hid (w7.heap[P7]? = some (.cells #[.int .i64 7, .int .i64 p.s.epoch, .int .i64 0, .int .i64 0, .int .i64 0, .int .i64 0, .int .i64 0, .int .i64 0, .int .i64 0, .int .i64 0, .int .i64 0, .int .i64 0, .int .i64 0, .int .i64 0, .int .i64 0, .int .i64 p.s.id, .int .i64 p.s.seq, .slice A' p.s.body.length c', .int .i64 0, .int .i64 0, .int .i64 0] 36 (0, 0))) := Lib.hid (hch.blk HP7_6.out (by show (36 + 1 : Nat) ≠ _; decide))
      have HWAY_7 : Hid (w7.ownsRow (x.H + 1) 36 21 (.slice A17 ((p.way.length + 1)) c18) (p.way.length + 1) ((mgs p.way) ++ [.int .i64 7, .int .i64 p.s.epoch, .int .i64 0, .int .i64 0, .int .i64 0, .int .i64 0, .int .i64 0, .int .i64 0, .int .i64 0, .int .i64 0, .int .i64 0, .int .i64 0, .int .i64 0, .int .i64 0, .int .i64 0, .int .i64 p.s.id, .int .i64 p.s.seq, .slice A' p.s.body.length c', .int .i64 0, .int .i64 0, .int .i64 0])) := Lib.hid (hch.own HWAY_6.out (by decide))
      clear hch HS_6 HBOOK_6 HHD_6 HB_6 HP4_6 HC_6 HP7_6 HWAY_6
      have HPB_7 := Lib.hid hnew
      clear hnew HPB_6
      rw [← hw19]
      clear hw19
      have FP7' : w7.heap[P7]? = some (.cells #[.int .i64 7, .int .i64 p.s.epoch, .int .i64 0, .int .i64 0, .int .i64 0, .int .i64 0, .int .i64 0, .int .i64 0, .int .i64 0, .int .i64 0, .int .i64 0, .int .i64 0, .int .i64 0, .int .i64 0, .int .i64 0, .int .i64 p.s.id, .int .i64 p.s.seq, .slice A' p.s.body.length c', .int .i64 0, .int .i64 0, .int .i64 0] 36 (0, 0)) := HP7_7.out
      clear FP7
      have FP7 := FP7'
      clear FP7'
      refine hK.out _ _ ?_ (fun hHeld => ?_)
      · try dsimp only
        (refine ?_ <;> (first | with_reducible assumption))
      clear hK K
      try simp only [Act.put]
      refine wpAnyH_done (by kernel_rfl) ?_ _
      refine NoPanic.normal ?_
      clear hHeld FP7
      go_wp2_with fail
      go_ret
      have hs := asks_of HNO.out
      have e : (p.way ++ [(⟨askV p.s.epoch p.s.id p.s.seq, A', p.s.body.length, c'⟩ : Mg)]).length = p.way.length + 1 := by simp
      have hP : w7.heap[P]? = some (.cells #[.int .i64 id, .pointer (some ⟨x.gc, 0, none⟩), .pointer (some ⟨x.gs, 0, none⟩), .int .i64 p.ep, .slice A17 ((p.way ++ [(⟨askV p.s.epoch p.s.id p.s.seq, A', p.s.body.length, c'⟩ : Mg)]).length) c18, .slice x.bA p.book.length x.bc, .int .i64 p.told, .int .i64 x.t1, .int .i64 x.t2, .slice ((some ⟨x.H, 0, none⟩)) p.heard.length p.heard.length] 54 (0, 0)) := by rw [e]; exact HPB_7.out
      have hR : w7.ownsRow (x.H + 1) 36 21 (.slice A17 (p.way ++ [(⟨askV p.s.epoch p.s.id p.s.seq, A', p.s.body.length, c'⟩ : Mg)]).length c18) (p.way ++ [(⟨askV p.s.epoch p.s.id p.s.seq, A', p.s.body.length, c'⟩ : Mg)]).length (mgs (p.way ++ [(⟨askV p.s.epoch p.s.id p.s.seq, A', p.s.body.length, c'⟩ : Mg)])) := by rw [e, mgs_snocA]; exact HWAY_7.out
      refine ⟨rfl, { x with wA := A17, wc := c18 }, f, { p with s := { p.s with sent := true, at_ := now }, way := p.way ++ [(⟨askV p.s.epoch p.s.id p.s.seq, A', p.s.body.length, c'⟩ : Mg)] }, ⟨hP, HC_7.out, HS_7.out, hR, HBOOK_7.out, HHD_7.out, HKF.out, l1, l2, l3, l4⟩, HI.out.send now (⟨askV p.s.epoch p.s.id p.s.seq, A', p.s.body.length, c'⟩ : Mg) hs HI.out.hid rfl rfl rfl, fun h m hm => ?_, by show (p.way ++ [(⟨askV p.s.epoch p.s.id p.s.seq, A', p.s.body.length, c'⟩ : Mg)]).length ≤ _; omega, by simp, by simp, rfl, ⟨by show p.ep ≤ p.ep + 1; omega, ht1, hbd⟩, HB_7.out⟩
      rcases List.mem_append.1 hm with h2 | h2
      · exact h m h2
      · rw [List.mem_singleton.1 h2]; show (Lit.int .i64 p.s.id).wf = true; rw [HI.out.hid]; exact HWI.out
  · skip
    have qe : IntKind.i64.wrap (p.ep + 1) = p.ep + 1 := by have := HI.out.ep1; exact IntWalk.i64_in _ (by omega)
    have cc20 : w1.cell? ⟨P, 3, none⟩ = some (.int .i64 p.ep) := cellb (i := 3) HPB_1.out rfl
    have cc21 : w1.cell? ⟨P, 3, none⟩ = some (.int .i64 p.ep) := cellb (i := 3) HPB_1.out rfl
    have fz22 : w1.frozen? ⟨P, 3, none⟩ = false := fzb HPB_1.out 3
    obtain ⟨w2, hw23⟩ : ∃ y, y = w1.setCell ⟨P, 3, none⟩ (.int .i64 ((p.ep + 1))) := ⟨_, rfl⟩
    have hch := Ch.ofCell (i := 3) HPB_1.out (.int .i64 ((p.ep + 1)))
    rw [← hw23] at hch
    have hnew : w2.heap[P]? = some (.cells #[.int .i64 id, .pointer (some ⟨x.gc, 0, none⟩), .pointer (some ⟨x.gs, 0, none⟩), .int .i64 ((p.ep + 1)), .slice x.wA p.way.length x.wc, .slice x.bA p.book.length x.bc, .int .i64 p.told, .int .i64 x.t1, .int .i64 x.t2, .slice ((some ⟨x.H, 0, none⟩)) p.heard.length p.heard.length] 54 (0, 0)) := by rw [hw23]; exact set_blk HPB_1.out _
    have HC_2 : Hid (CAt w2 x.gc p.s x.cA x.cc) := Lib.hid (hch.cat HC_1.out (by decide) (by decide))
    have HS_2 : Hid (SAt w2 x.gs p.ep x.M x.nn f) := Lib.hid (hch.sat HS_1.out (by decide) (by decide))
    have HWAY_2 : Hid (w2.ownsRow (x.H + 1) 36 21 (.slice x.wA p.way.length x.wc) p.way.length (mgs p.way)) := Lib.hid (hch.own HWAY_1.out (by decide))
    have HBOOK_2 : Hid (w2.ownsRow (x.H + 1) 3 1 (.slice x.bA p.book.length x.bc) p.book.length (ints p.book)) := Lib.hid (hch.own HBOOK_1.out (by decide))
    have HHD_2 : Hid (w2.heap[x.H]? = some (.cells (ints p.heard).toArray 3 (0, 0))) := Lib.hid (hch.blk HHD_1.out (by show (3 + 1 : Nat) ≠ _; decide))
    have HB_2 : Hid (Chg (fun k => lo ≤ k) w0 w2) := Lib.hid (hch.low HB_1.out (fun k hk => by injection hk with hk; omega))
    have HP4_2 : Hid (w2.heap[P4]? = some (.cells #[.int .i64 kd, .int .i64 pick, .bool well] 57 (0, 0))) := Lib.hid (hch.blk HP4_1.out (by show (57 + 1 : Nat) ≠ _; decide))
    clear hch HC_1 HS_1 HWAY_1 HBOOK_1 HHD_1 HB_1 HP4_1
    have HPB_2 := Lib.hid hnew
    clear hnew HPB_1
    go_upto_region 13 with fail
    clear cc20 cc21 fz22
    rw [← hw23]
    clear hw23
    have cc24 : w2.cell? ⟨P, 3, none⟩ = some (.int .i64 ((p.ep + 1))) := cellb (i := 3) HPB_2.out rfl
    go_wp2_with fail
    clear cc24
    obtain ⟨M', hM'⟩ : ∃ y, y = w2.heap.size := ⟨_, rfl⟩
    have hns := news_any (p.ep + 1) w2 (by have := HI.out.ep1; omega) (by omega)
    rw [← hM'] at hns
    have loM : lo ≤ M' := by have := ltb HPB_2.out; omega
    refine hns.mono ?_
    clear hns
    rintro e w3 ⟨rfl, hs, hb⟩
    rw [hM'] at hb
    clear hM' HS_2
    have HC_3 : Hid (CAt w3 x.gc p.s x.cA x.cc) := Lib.hid (HC_2.out.below hb)
    have HWAY_3 : Hid (w3.ownsRow (x.H + 1) 36 21 (.slice x.wA p.way.length x.wc) p.way.length (mgs p.way)) := Lib.hid ((Chg.of_below (S := fun _ => False) hb).own HWAY_2.out (fun _ _ h => h))
    have HBOOK_3 : Hid (w3.ownsRow (x.H + 1) 3 1 (.slice x.bA p.book.length x.bc) p.book.length (ints p.book)) := Lib.hid ((Chg.of_below (S := fun _ => False) hb).own HBOOK_2.out (fun _ _ h => h))
    have HHD_3 : Hid (w3.heap[x.H]? = some (.cells (ints p.heard).toArray 3 (0, 0))) := Lib.hid ((hb.block x.H (ltb HHD_2.out)).trans HHD_2.out)
    have HB_3 : Hid (Chg (fun k => lo ≤ k) w0 w3) := Lib.hid (HB_2.out.trans (Chg.of_below hb))
    have HP4_3 : Hid (w3.heap[P4]? = some (.cells #[.int .i64 kd, .int .i64 pick, .bool well] 57 (0, 0))) := Lib.hid ((hb.block P4 (ltb HP4_2.out)).trans HP4_2.out)
    have HPB_3 : Hid (w3.heap[P]? = some (.cells #[.int .i64 id, .pointer (some ⟨x.gc, 0, none⟩), .pointer (some ⟨x.gs, 0, none⟩), .int .i64 ((p.ep + 1)), .slice x.wA p.way.length x.wc, .slice x.bA p.book.length x.bc, .int .i64 p.told, .int .i64 x.t1, .int .i64 x.t2, .slice ((some ⟨x.H, 0, none⟩)) p.heard.length p.heard.length] 54 (0, 0))) := Lib.hid ((hb.block P (ltb HPB_2.out)).trans HPB_2.out)
    clear hb HC_2 HWAY_2 HBOOK_2 HHD_2 HB_2 HP4_2 HPB_2
    have HS_3 : Hid (SAt w3 (M' + 1) (p.ep + 1) M' 0 (fun _ => ⟨0, 0, 0, 0⟩)) := Lib.hid hs
    clear hs
    have cc25 : w3.cell? ⟨P, 2, none⟩ = some (.pointer (some ⟨x.gs, 0, none⟩)) := cellb (i := 2) HPB_3.out rfl
    have fz26 : w3.frozen? ⟨P, 2, none⟩ = false := fzb HPB_3.out 2
    obtain ⟨w4, hw27⟩ : ∃ y, y = w3.setCell ⟨P, 2, none⟩ (.pointer (some ⟨(M' + 1), 0, none⟩)) := ⟨_, rfl⟩
    have hch := Ch.ofCell (i := 2) HPB_3.out (.pointer (some ⟨(M' + 1), 0, none⟩))
    rw [← hw27] at hch
    have hnew : w4.heap[P]? = some (.cells #[.int .i64 id, .pointer (some ⟨x.gc, 0, none⟩), .pointer (some ⟨(M' + 1), 0, none⟩), .int .i64 ((p.ep + 1)), .slice x.wA p.way.length x.wc, .slice x.bA p.book.length x.bc, .int .i64 p.told, .int .i64 x.t1, .int .i64 x.t2, .slice ((some ⟨x.H, 0, none⟩)) p.heard.length p.heard.length] 54 (0, 0)) := by rw [hw27]; exact set_blk HPB_3.out _
    have HC_4 : Hid (CAt w4 x.gc p.s x.cA x.cc) := Lib.hid (hch.cat HC_3.out (by decide) (by decide))
    have HWAY_4 : Hid (w4.ownsRow (x.H + 1) 36 21 (.slice x.wA p.way.length x.wc) p.way.length (mgs p.way)) := Lib.hid (hch.own HWAY_3.out (by decide))
    have HBOOK_4 : Hid (w4.ownsRow (x.H + 1) 3 1 (.slice x.bA p.book.length x.bc) p.book.length (ints p.book)) := Lib.hid (hch.own HBOOK_3.out (by decide))
    have HHD_4 : Hid (w4.heap[x.H]? = some (.cells (ints p.heard).toArray 3 (0, 0))) := Lib.hid (hch.blk HHD_3.out (by show (3 + 1 : Nat) ≠ _; decide))
    have HB_4 : Hid (Chg (fun k => lo ≤ k) w0 w4) := Lib.hid (hch.low HB_3.out (fun k hk => by injection hk with hk; omega))
    have HP4_4 : Hid (w4.heap[P4]? = some (.cells #[.int .i64 kd, .int .i64 pick, .bool well] 57 (0, 0))) := Lib.hid (hch.blk HP4_3.out (by show (57 + 1 : Nat) ≠ _; decide))
    have HS_4 : Hid (SAt w4 (M' + 1) (p.ep + 1) M' 0 (fun _ => ⟨0, 0, 0, 0⟩)) := Lib.hid (hch.sat HS_3.out (by decide) (by decide))
    clear hch HC_3 HWAY_3 HBOOK_3 HHD_3 HB_3 HP4_3 HS_3
    have HPB_4 := Lib.hid hnew
    clear hnew HPB_3
    go_upto_region 14 with fail
    clear cc25 fz26
    rw [← hw27]
    clear hw27
    go_wp2_with fail
    go_ret
    exact ⟨rfl, { x with gs := M' + 1, M := M', nn := 0 }, fun _ => ⟨0, 0, 0, 0⟩, { p with ep := p.ep + 1, k := ⟨0, 0, 0, 0⟩ }, ⟨HPB_4.out, HC_4.out, HS_4.out, HWAY_4.out, HBOOK_4.out, HHD_4.out, rfl, l1, l2, l3, loM⟩, HI.out.next, fun h => h, by simp, by simp, by simp, rfl, ⟨Int.le_refl _, hat, hbd⟩, HB_4.out⟩
  · skip
    have e0 : ((K : Int) == 0) = false := by rw [beq_eq_false_iff_ne]; omega
    have e1 : ((K : Int) == 1) = false := by rw [beq_eq_false_iff_ne]; omega
    have e2 : ((K : Int) == 2) = false := by rw [beq_eq_false_iff_ne]; omega
    have e7 : ((K : Int) == 7) = false := by rw [beq_eq_false_iff_ne]; omega
    clear k0 k1 k2 k7
    by_cases hz : p.way.length = 0
    · skip
      have qz : ((p.way.length : Int) == 0) = true := by rw [beq_iff_eq]; omega
      clear hz
      have cc28 : w1.cell? ⟨P, 4, none⟩ = some (.slice x.wA p.way.length x.wc) := cellb (i := 4) HPB_1.out rfl
      go_wp2_with fail
      clear cc28
      go_ret
      exact ⟨rfl, x, f, p, ⟨HPB_1.out, HC_1.out, HS_1.out, HWAY_1.out, HBOOK_1.out, HHD_1.out, HKF.out, l1, l2, l3, l4⟩, HI.out, fun h => h, by omega, by omega, by omega, rfl, ⟨by omega, hat, hbd⟩, HB_1.out⟩
    · skip
      have qz : ((p.way.length : Int) == 0) = false := by rw [beq_eq_false_iff_ne]; omega
      have cc29 : w1.cell? ⟨P, 4, none⟩ = some (.slice x.wA p.way.length x.wc) := cellb (i := 4) HPB_1.out rfl
      have cc30 : w1.cell? ⟨P4, 1, none⟩ = some (.int .i64 pick) := cellb (i := 1) HP4_1.out rfl
      have cc31 : w1.cell? ⟨P4, 0, none⟩ = some (.int .i64 kd) := cellb (i := 0) HP4_1.out rfl
      go_wp2_with fail
      clear cc29 cc30 cc31
      refine (take_any lo id w1 P x f p pick _ ⟨HPB_1.out, HC_1.out, HS_1.out, HWAY_1.out, HBOOK_1.out, HHD_1.out, HKF.out, l1, l2, l3, l4⟩ (by omega) (by omega)).mono ?_
      rintro e w2 ⟨m, x1, way1, rfl, hp, hmem, hsub, hlen, hnn, hz, hg⟩
      obtain ⟨p1, hp1⟩ : ∃ q : Pst, q = { p with way := way1 } := ⟨_, rfl⟩
      rw [← hp1] at hp
      have HP4' := Lib.hid (hz _ _ HP4_1.out)
      have HB' := Lib.hid (HB_1.out.trans (hg.mono (fun _ _ h => h)))
      clear HPB_1 HC_1 HS_1 HWAY_1 HBOOK_1 HHD_1 HB_1 HP4_1 hz hg
      have HPB_2 : Hid (w2.heap[P]? = some (.cells #[.int .i64 id, .pointer (some ⟨x1.gc, 0, none⟩), .pointer (some ⟨x1.gs, 0, none⟩), .int .i64 p1.ep, .slice x1.wA p1.way.length x1.wc, .slice x1.bA p1.book.length x1.bc, .int .i64 p1.told, .int .i64 x1.t1, .int .i64 x1.t2, .slice ((some ⟨x1.H, 0, none⟩)) p1.heard.length p1.heard.length] 54 (0, 0))) := Lib.hid hp.blk
      have HC_2 : Hid (CAt w2 x1.gc p1.s x1.cA x1.cc) := Lib.hid hp.cl
      have HS_2 : Hid (SAt w2 x1.gs p1.ep x1.M x1.nn f) := Lib.hid hp.sv
      have HWAY_2 : Hid (w2.ownsRow (x1.H + 1) 36 21 (.slice x1.wA p1.way.length x1.wc) p1.way.length (mgs p1.way)) := Lib.hid hp.way
      have HBOOK_2 : Hid (w2.ownsRow (x1.H + 1) 3 1 (.slice x1.bA p1.book.length x1.bc) p1.book.length (ints p1.book)) := Lib.hid hp.book
      have HHD_2 : Hid (w2.heap[x1.H]? = some (.cells (ints p1.heard).toArray 3 (0, 0))) := Lib.hid hp.hrd
      have HB_2 : Hid (Chg (fun k => lo ≤ k) w0 w2) := Lib.hid HB'.out
      have HP4_2 : Hid (w2.heap[P4]? = some (.cells #[.int .i64 kd, .int .i64 pick, .bool well] 57 (0, 0))) := HP4'
      have HKF1 := Lib.hid hp.kf
      have m1 := hp.lc
      have m2 := hp.lP
      have m3 := hp.lH
      have m4 := hp.lM
      have HMEM := Lib.hid hmem
      have HSUB := Lib.hid hsub
      have HP1 := Lib.hid hp1
      clear hp hmem hsub hp1 HB' HP4'
      obtain ⟨P9, hP9⟩ : ∃ x, x = w2.heap.size := ⟨_, rfl⟩
      have loP9 : lo ≤ P9 := (by have := ltb HPB_2.out; omega)
      obtain ⟨w3, hw32⟩ : ∃ y, y = w2.alloc (.cells #[.int .i64 (m.v 0), .int .i64 (m.v 1), .int .i64 (m.v 2), .int .i64 (m.v 3), .int .i64 (m.v 4), .int .i64 (m.v 5), .int .i64 (m.v 6), .int .i64 (m.v 7), .int .i64 (m.v 8), .int .i64 (m.v 9), .int .i64 (m.v 10), .int .i64 (m.v 11), .int .i64 (m.v 12), .int .i64 (m.v 13), .int .i64 (m.v 14), .int .i64 (m.v 15), .int .i64 (m.v 16), .slice m.A m.n m.c, .int .i64 (m.v 18), .int .i64 (m.v 19), .int .i64 (m.v 20)] 36) := ⟨_, rfl⟩
      have hal : Below w2.heap.size w2 w3 := by rw [hw32]; exact (Below.refl _ _).alloc (Nat.le_refl _) _
      have hnew : w3.heap[P9]? = some (.cells (mcv m.v (.slice m.A m.n m.c)) 36 (0, 0)) := by rw [hw32, hP9]; exact heap_alloc_new _ _
      have HNWAY_P9 : Hid ((.slice x1.wA p1.way.length x1.wc : Value).ownBlock ≠ some P9) := Lib.hid (fun e => by have := (HWAY_2.out.lt _ e).2; omega)
      have HPB_3 : Hid (w3.heap[P]? = some (.cells #[.int .i64 id, .pointer (some ⟨x1.gc, 0, none⟩), .pointer (some ⟨x1.gs, 0, none⟩), .int .i64 p1.ep, .slice x1.wA p1.way.length x1.wc, .slice x1.bA p1.book.length x1.bc, .int .i64 p1.told, .int .i64 x1.t1, .int .i64 x1.t2, .slice ((some ⟨x1.H, 0, none⟩)) p1.heard.length p1.heard.length] 54 (0, 0))) := Lib.hid ((hal.block P (ltb HPB_2.out)).trans HPB_2.out)
      have HC_3 : Hid (CAt w3 x1.gc p1.s x1.cA x1.cc) := Lib.hid (HC_2.out.below hal)
      have HS_3 : Hid (SAt w3 x1.gs p1.ep x1.M x1.nn f) := Lib.hid (HS_2.out.below hal)
      have HWAY_3 : Hid (w3.ownsRow (x1.H + 1) 36 21 (.slice x1.wA p1.way.length x1.wc) p1.way.length (mgs p1.way)) := Lib.hid ((Chg.of_below (S := fun _ => False) hal).own HWAY_2.out (fun _ _ h => h))
      have HBOOK_3 : Hid (w3.ownsRow (x1.H + 1) 3 1 (.slice x1.bA p1.book.length x1.bc) p1.book.length (ints p1.book)) := Lib.hid ((Chg.of_below (S := fun _ => False) hal).own HBOOK_2.out (fun _ _ h => h))
      have HHD_3 : Hid (w3.heap[x1.H]? = some (.cells (ints p1.heard).toArray 3 (0, 0))) := Lib.hid ((hal.block x1.H (ltb HHD_2.out)).trans HHD_2.out)
      have HB_3 : Hid (Chg (fun k => lo ≤ k) w0 w3) := Lib.hid (HB_2.out.trans (Chg.of_below hal))
      have HP4_3 : Hid (w3.heap[P4]? = some (.cells #[.int .i64 kd, .int .i64 pick, .bool well] 57 (0, 0))) := Lib.hid ((hal.block P4 (ltb HP4_2.out)).trans HP4_2.out)
      clear hal HPB_2 HC_2 HS_2 HWAY_2 HBOOK_2 HHD_2 HB_2 HP4_2
      have HP9_3 := Lib.hid hnew
      clear hnew
      go_upto_region 18 with (refine wpList_store_row rfl 36 (.tmp 9) (.tmp 75) rfl w2.heap.size _ rfl rfl 36 _ (heap_alloc_new w2 _) (by kernel_rfl) rfl (by simp [Value.oneCell']) ?_; rw [World.setRow_alloc_new])
      rw [← hw32]
      clear hw32
      rw [← hP9]
      clear hP9
      by_cases h8 : m.v 0 = 8
      · skip
        have HK8 := Lib.hid h8
        have q8 : (m.v 0 == 8) = true := by rw [beq_iff_eq]; exact h8
        clear h8
        have cc33 : w3.cell? ⟨P9, 0, none⟩ = some (.int .i64 (m.v 0)) := cellb (i := 0) HP9_3.out rfl
        have K34 := HP9_3
        go_wp2_with (refine wpList_load_row rfl 36 (.tmp 9) rfl P9 rfl 36 #[.int .i64 (m.v 0), .int .i64 (m.v 1), .int .i64 (m.v 2), .int .i64 (m.v 3), .int .i64 (m.v 4), .int .i64 (m.v 5), .int .i64 (m.v 6), .int .i64 (m.v 7), .int .i64 (m.v 8), .int .i64 (m.v 9), .int .i64 (m.v 10), .int .i64 (m.v 11), .int .i64 (m.v 12), .int .i64 (m.v 13), .int .i64 (m.v 14), .int .i64 (m.v 15), .int .i64 (m.v 16), .slice m.A m.n m.c, .int .i64 (m.v 18), .int .i64 (m.v 19), .int .i64 (m.v 20)] (0, 0) _ K34.out Try.underlying36 rfl (by kernel_rfl) ?_)
        clear cc33 K34
        refine (hears_any lo id w3 P x1 f p1 m.v m.A m.n m.c ⟨HPB_3.out, HC_3.out, HS_3.out, HWAY_3.out, HBOOK_3.out, HHD_3.out, HKF1.out, m1, m2, m3, m4⟩).mono ?_
        rintro e w4 ⟨rfl, x2, p2, hp2, e1, e2, ⟨e3, e4, e5, e6, e7⟩, hg, hinv⟩
        have HG := Lib.hid (HB_3.out.trans (hg.mono (fun _ _ h => h)))
        have HP2 := Lib.hid hp2
        have HINV := Lib.hid hinv
        have HE := Lib.hid (And.intro e1 (And.intro e2 (And.intro e3 (And.intro e4 (And.intro e5 (And.intro e6 e7))))))
        clear hg hp2 hinv e1 e2 e3 e4 e5 e6 e7 HPB_3 HC_3 HS_3 HWAY_3 HBOOK_3 HHD_3 HB_3 HP4_3 HP9_3
        go_wp2_with fail
        go_ret
        obtain ⟨e1, e2, e3, e4, e5, e6, e7⟩ := HE.out
        have hp1 := HP1.out
        have hI1 : Inv id p1 := by rw [hp1]; exact HI.out.fewer HSUB.out
        have hr : RepIn p1 ⟨m.v, m.A, m.n, m.c⟩ := by rw [hp1]; exact HI.out.reps m HMEM.out
        refine ⟨rfl, x2, f, p2, HP2.out, HINV.out hr hI1, fun h y hy => ?_, by rw [e1, hp1]; show way1.length ≤ _; omega, by rw [e4, hp1]; simp, by omega, by rw [e2, hp1], ⟨by rw [e5, hp1]; show p.ep ≤ _; omega, by rw [e6, hp1]; exact hat, by rw [e7, hp1]; exact hbd⟩, HG.out⟩
        rw [e1, hp1] at hy
        exact h y (HSUB.out y hy)
      · skip
        have q8 : (m.v 0 == 8) = false := by rw [beq_eq_false_iff_ne]; exact h8
        clear h8
        have cc35 : w3.cell? ⟨P9, 0, none⟩ = some (.int .i64 (m.v 0)) := cellb (i := 0) HP9_3.out rfl
        have K36 := HP9_3
        have cc37 : w3.cell? ⟨P4, 2, none⟩ = some (.bool well) := cellb (i := 2) HP4_3.out rfl
        go_wp2_with (refine wpList_load_row rfl 36 (.tmp 9) rfl P9 rfl 36 #[.int .i64 (m.v 0), .int .i64 (m.v 1), .int .i64 (m.v 2), .int .i64 (m.v 3), .int .i64 (m.v 4), .int .i64 (m.v 5), .int .i64 (m.v 6), .int .i64 (m.v 7), .int .i64 (m.v 8), .int .i64 (m.v 9), .int .i64 (m.v 10), .int .i64 (m.v 11), .int .i64 (m.v 12), .int .i64 (m.v 13), .int .i64 (m.v 14), .int .i64 (m.v 15), .int .i64 (m.v 16), .slice m.A m.n m.c, .int .i64 (m.v 18), .int .i64 (m.v 19), .int .i64 (m.v 20)] (0, 0) _ K36.out Try.underlying36 rfl (by kernel_rfl) ?_)
        clear cc35 K36 cc37
        have hx : p1.way.length ≤ 1000 ∧ p1.book.length ≤ 1000 ∧ p1.s.at_ < 1099511627776 ∧ p1.s.body.length ≤ 5000 := by rw [HP1.out]; exact ⟨by show way1.length ≤ 1000; omega, by show p.book.length ≤ 1000; omega, hat, hbd⟩
        refine (asked_any lo id w3 P x1 f p1 m.v m.A m.n m.c well p.way ⟨HPB_3.out, HC_3.out, HS_3.out, HWAY_3.out, HBOOK_3.out, HHD_3.out, HKF1.out, m1, m2, m3, m4⟩ HWI.out (HW.out m HMEM.out) hx.1 hx.2.1 (by omega) hx.2.2.1 hx.2.2.2 (by rw [HP1.out]; exact HI.out) HMEM.out (by rw [HP1.out]; exact HSUB.out)).mono ?_
        rintro e w4 ⟨rfl, hp⟩
        have HPO := Lib.hid hp
        have HG := Lib.hid HB_3.out
        clear hx hp HPB_3 HC_3 HS_3 HWAY_3 HBOOK_3 HHD_3 HB_3 HP4_3 HP9_3
        go_wp2_with fail
        go_ret
        obtain ⟨x', f', p', h1, h2, h3, h4, h5, h6, h7, h8, h9⟩ := HPO.out
        have hp1 := HP1.out
        refine ⟨rfl, x', f', p', h1, h2, fun h => h3 (by rw [hp1]; exact fun y hy => h y (HSUB.out y hy)), ?_, ?_, by omega, ?_, ?_, HG.out.trans (h9.mono (fun _ _ h => h))⟩
        · rw [hp1] at h4; have h4 : p'.way.length ≤ way1.length + 1 := h4; omega
        · rw [hp1] at h5; exact h5
        · rw [hp1] at h7; exact h7
        · rw [hp1] at h8; exact h8
end Go.Proofs.Ytlcbpodjmafoeaa
