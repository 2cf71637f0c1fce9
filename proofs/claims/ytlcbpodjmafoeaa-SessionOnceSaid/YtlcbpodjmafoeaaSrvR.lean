/- The document's server: what was kept of a client. -/
import Derived.Test.YtlcbpodjmafoeaaDone19
import Derived.Deep.MidRow
namespace Go.Proofs.Ytlcbpodjmafoeaa
open Go.RowKit

structure Ke where
  cl : Int
  q : Int
  a : Int
  b : Int
  c : Int
def k0 : Ke := ⟨0, 0, 0, 0, 0⟩
def kec (k : Ke) : List Value := [.int .i64 k.cl, .int .i64 k.q, .int .i64 k.a, .int .i64 k.b, .int .i64 k.c]
def kcells (L : List Ke) : List Value := L.flatMap kec
theorem kcells_append (L M : List Ke) : kcells (L ++ M) = kcells L ++ kcells M := by simp [kcells]
theorem kcells_length (L : List Ke) : (kcells L).length = L.length * 5 := by
  induction L with
  | nil => rfl
  | cons k L ih => simp [kcells, kec] at ih ⊢; omega
theorem kcells_get (L : List Ke) (i j : Nat) (k : Ke) (hk : L[i]? = some k) (hj : j < 5) : (kcells L)[i * 5 + j]? = (kec k)[j]? := by
  induction L generalizing i with
  | nil => simp at hk
  | cons x L ih =>
    show (kec x ++ kcells L)[i * 5 + j]? = _
    cases i with
    | zero =>
      simp at hk; subst hk
      rw [List.getElem?_append_left (by simp [kec]; omega)]; simp
    | succ i =>
      rw [List.getElem?_append_right (by simp [kec]; omega)]
      have := ih i (by simpa using hk)
      rw [← this]
      congr 1
      simp [kec]; omega
/-- What was kept of a client last, among the first j rows. -/
def lkTo (L : List Ke) (cl : Int) : Nat → Ke
  | 0 => k0
  | k + 1 => if (L.getD k k0).cl = cl then L.getD k k0 else lkTo L cl k
def lk (L : List Ke) (cl : Int) : Ke := lkTo L cl L.length
theorem lkTo_append (L : List Ke) (x : Ke) (cl : Int) : ∀ j, j ≤ L.length → lkTo (L ++ [x]) cl j = lkTo L cl j := by
  intro j
  induction j with
  | zero => intro _; rfl
  | succ j ih =>
    intro hj
    have e : (L ++ [x]).getD j k0 = L.getD j k0 := by simp [List.getD, List.getElem?_append_left (show j < L.length by omega)]
    show (if ((L ++ [x]).getD j k0).cl = cl then (L ++ [x]).getD j k0 else lkTo (L ++ [x]) cl j) = _
    rw [e, ih (by omega)]; rfl
theorem lk_append (L : List Ke) (x : Ke) (cl : Int) : lk (L ++ [x]) cl = if x.cl = cl then x else lk L cl := by
  unfold lk
  rw [List.length_append]
  show (if ((L ++ [x]).getD L.length k0).cl = cl then (L ++ [x]).getD L.length k0 else lkTo (L ++ [x]) cl L.length) = _
  rw [show (L ++ [x]).getD L.length k0 = x by simp, lkTo_append L x cl L.length (Nat.le_refl _)]
/-- The rows of a server's value. -/
def LAt (w : World) (base : Nat) (A : Option Addr) (n c : Nat) (L : List Ke) : Prop := n = L.length ∧ w.ownsRow base 87 5 (.slice A n c) n (kcells L)
theorem LAt.chg {S : Nat → Prop} {w w' : World} {base n c : Nat} {A : Option Addr} {L : List Ke} (h : LAt w base A n c L) (hc : Chg S w w') (hs : ∀ k, base ≤ k → k < w.heap.size → ¬ S k) : LAt w' base A n c L :=
  ⟨h.1, hc.own h.2 (fun k hk => hs k (h.2.lt k hk).1 (h.2.lt k hk).2)⟩
theorem LAt.below {w w' : World} {base n c : Nat} {A : Option Addr} {L : List Ke} (h : LAt w base A n c L) (hb : Below w.heap.size w w') : LAt w' base A n c L := h.chg (Chg.of_below (S := fun _ => False) hb) (fun _ _ _ h => h)
theorem LAt.cells {w : World} {base n c : Nat} {A : Option Addr} {L : List Ke} (h : LAt w base A n c L) {i : Nat} (hi : i < L.length) : ∃ g, A = some ⟨g, 0, none⟩ ∧ ∀ j v, (kec (L.getD i k0))[j]? = some v → w.cell? ⟨g, i * 5 + j, none⟩ = some v := by
  have hl := kcells_length L
  have hn := h.1
  rcases h.2.2 with ⟨_, h0⟩ | ⟨g, cap, cur, h1, hb, hk, hnc, hc, hcz, ht⟩
  · omega
  · injection h1 with e1 e2 e3
    refine ⟨g, e1, fun j v hv => cellb hk ?_⟩
    have hj : j < 5 := by
      have := (List.getElem?_eq_some_iff.1 hv).1
      simpa [kec] using this
    have hg := kcells_get L i j (L.getD i k0) (by simp [List.getD, List.getElem?_eq_getElem hi]) hj
    rw [hv, ← ht, List.getElem?_take_of_lt (by have : i * 5 + 5 ≤ n * 5 := by rw [hn]; omega
                                               omega)] at hg
    rw [← Array.getElem?_toList]; exact hg
theorem results_kept (tmps : Array Value) (w : World) (g : Nat) (cs : Array Value) (hp : tmps.getD 4 undef = .pointer (some ⟨g, 0, none⟩)) (hg : w.heap[g]? = some (.cells cs 87 (0, 0))) (hc : cs.size = 5) :
    (results Try.f27 tmps).run Try.prog w = .ok (.agg cs) w :=
  results_cell_row Try.results27 tmps w g 87 cs (0, 0) _ hp hg Try.underlying87 rfl (by rw [hc]; kernel_rfl)

set_option maxRecDepth 100000 in
set_option maxHeartbeats 4000000 in
theorem of_any (ep : Int) (base : Nat) (A : Option Addr) (n c : Nat) (L : List Ke) (cl : Int) (w : World) (h : LAt w base A n c L) (hn : n ≤ 1000) :
    Calls Try.prog 27 #[.agg #[.int .i64 ep, .slice A n c], .int .i64 cl] w fun e w' => e = .returned (.agg #[.int .i64 (lk L cl).cl, .int .i64 (lk L cl).q, .int .i64 (lk L cl).a, .int .i64 (lk L cl).b, .int .i64 (lk L cl).c]) ∧ Below w.heap.size w w' := by
  obtain ⟨S, hS⟩ : ∃ S, S = w.heap.size := ⟨_, rfl⟩
  obtain ⟨w1, hw1⟩ : ∃ x, x = (w.alloc (.cells #[.int .i64 ep, .slice A n c] 28)).alloc (.cells #[.int .i64 0, .int .i64 0, .int .i64 0, .int .i64 0, .int .i64 0] 87) := ⟨_, rfl⟩
  have HB : Hid (Below w.heap.size w w1) := Lib.hid (by rw [hw1]; exact ((Below.refl w.heap.size w).alloc (Nat.le_refl _) _).alloc (by simp) _)
  have HS0 : Hid (w1.heap[S]? = some (.cells #[.int .i64 ep, .slice A n c] 28 (0, 0))) := Lib.hid (by rw [hw1, hS]; exact (Below.heap_alloc _ _ _ (by simp)).trans (heap_alloc_new w _))
  have HS1 : Hid (w1.heap[S + 1]? = some (.cells #[.int .i64 0, .int .i64 0, .int .i64 0, .int .i64 0, .int .i64 0] 87 (0, 0))) := Lib.hid (by
    rw [hw1, hS]; have := heap_alloc_new (w.alloc (.cells #[.int .i64 ep, .slice A n c] 28)) (.cells #[.int .i64 0, .int .i64 0, .int .i64 0, .int .i64 0, .int .i64 0] 87); simpa using this)
  have HL : Hid (LAt w1 base A n c L) := Lib.hid (h.below HB.out)
  have HS := Lib.hid hS
  have HN : Hid (n = L.length) := Lib.hid h.1
  have ca : w1.cell? ⟨S, 1, none⟩ = some (.slice A n c) := cellb (i := 1) HS0.out rfl
  clear h
  go_enter Try.func27, Try.ntmps27
  go_upto_region 1 with (fail)
  rw [← hw1, ← hS]
  clear hw1 hS
  have b0 : (0 : Int) ≤ (n : Int) := by omega
  go_wp2_with fail
  go_loop [5] (fun s5 => ∃ (j : Nat) (x : Int), j ≤ n ∧ x = (j : Int) - 1 ∧ s5 = .int .i64 x ∧ Hid (lk L cl = lkTo L cl j)) (fun s5 => (intOf s5 + 1).toNat)
  case atStart => exact ⟨n, _, Nat.le_refl _, rfl, rfl, Lib.hid (by rw [HN.out]; rfl)⟩
  case round =>
    obtain ⟨j, x, hj, hx, rfl, HK⟩ := hrel
    cases j with
    | zero =>
      have hx1 : x = -1 := by omega
      subst hx1
      have HE : Hid (lk L cl = k0) := Lib.hid HK.out
      have HST : Hid ((w1.setRow (S + 1) #[.int .i64 0, .int .i64 0, .int .i64 0, .int .i64 0, .int .i64 0]).heap[S + 1]? = some (.cells #[.int .i64 0, .int .i64 0, .int .i64 0, .int .i64 0, .int .i64 0] 87 (0, 0))) := Lib.hid (setRow_heap w1 (S + 1) _ _ _ _ HS1.out)
      have HBF : Hid (Below w.heap.size w (w1.setRow (S + 1) #[.int .i64 0, .int .i64 0, .int .i64 0, .int .i64 0, .int .i64 0])) := Lib.hid (HB.out.trans (((Chg.refl (fun k => k = S + 1) w1).setRow (.inr rfl) _).below HB.out.size (fun k hk e => by have := HS.out; omega)))
      clear hx
      go_wp2_with (refine wpList_store_row rfl 87 (.tmp 4) (.tmp 27) rfl (S + 1) _ rfl rfl 87 _ HS1.out (by kernel_rfl) rfl (by simp [Value.oneCell']) ?_)
      exact bodyPost_ret (v := .agg #[.int .i64 0, .int .i64 0, .int .i64 0, .int .i64 0, .int .i64 0]) (results_kept _ _ (S + 1) _ rfl HST.out rfl) rfl ⟨by rw [HE.out]; rfl, HBF.out⟩
    | succ k =>
      have hx1 : x = (k : Int) := by omega
      subst hx1
      have hkn : (k : Int) < (n : Int) := by omega
      have hk0 : (0 : Int) ≤ (k : Int) := by omega
      obtain ⟨g, rfl, hcells⟩ := HL.out.cells (i := k) (by have := HN.out; omega)
      obtain ⟨y, hy⟩ : ∃ y, y = L.getD k k0 := ⟨_, rfl⟩
      rw [← hy] at hcells
      have hc0 : w1.cell? ⟨g, k * 5, none⟩ = some (.int .i64 y.cl) := hcells 0 _ rfl
      have HR : Hid (w1.rangeAt g (k * 5) (kec y)) := Lib.hid (fun j v hv => hcells j v hv)
      have HKE : Hid (lk L cl = if y.cl = cl then y else lkTo L cl k) := Lib.hid (by rw [HK.out, hy]; rfl)
      clear hy hcells hx HK
      by_cases he : y.cl = cl
      · have HE : Hid (lk L cl = y) := Lib.hid (by rw [HKE.out, if_pos he])
        have t1 : (y.cl == cl) = true := by simpa using he
        have HST : Hid ((w1.setRow (S + 1) #[.int .i64 y.cl, .int .i64 y.q, .int .i64 y.a, .int .i64 y.b, .int .i64 y.c]).heap[S + 1]? = some (.cells #[.int .i64 y.cl, .int .i64 y.q, .int .i64 y.a, .int .i64 y.b, .int .i64 y.c] 87 (0, 0))) := Lib.hid (setRow_heap w1 (S + 1) _ _ _ _ HS1.out)
        have HBF : Hid (Below w.heap.size w (w1.setRow (S + 1) #[.int .i64 y.cl, .int .i64 y.q, .int .i64 y.a, .int .i64 y.b, .int .i64 y.c])) := Lib.hid (HB.out.trans (((Chg.refl (fun k => k = S + 1) w1).setRow (.inr rfl) _).below HB.out.size (fun k hk e => by have := HS.out; omega)))
        clear he
        go_wp2_with (first | (refine wpList_load_mid rfl 87 (.tmp 25) rfl g (k * 5) rfl (kec y) _ HR.out Try.underlying87 rfl (by kernel_rfl) ?_) | (refine wpList_store_row rfl 87 (.tmp 4) (.tmp 26) rfl (S + 1) _ rfl rfl 87 _ HS1.out (by kernel_rfl) rfl (by simp [Value.oneCell', kec]) ?_))
        exact bodyPost_ret (v := .agg #[.int .i64 y.cl, .int .i64 y.q, .int .i64 y.a, .int .i64 y.b, .int .i64 y.c]) (results_kept _ _ (S + 1) _ rfl HST.out rfl) rfl ⟨by rw [HE.out], HBF.out⟩
      · have HE : Hid (lk L cl = lkTo L cl k) := Lib.hid (by rw [HKE.out, if_neg he])
        have t1 : (y.cl == cl) = false := by simpa using he
        clear he
        go_wp2_with fail
        go_round
        case rel => exact ⟨k, _, by omega, rfl, rfl, HE⟩
        case measure => simp [intOf]
end Go.Proofs.Ytlcbpodjmafoeaa
