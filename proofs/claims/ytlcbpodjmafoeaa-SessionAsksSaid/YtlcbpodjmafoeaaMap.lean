/- What a server keeps: a map of structs. -/
import Derived.Test.YtlcbpodjmafoeaaHear
import Derived.Maps.Own
import Derived.Maps.Views
namespace Go.Proofs.Ytlcbpodjmafoeaa
open Go.RowKit Go.Maps

/-- What is kept of a client. -/
structure Kp where
  q : Int
  a : Int
  b : Int
  c : Int
def kd (k : Kp) : DataW Unit := .agg [.lit (.int .i64 k.q), .lit (.int .i64 k.a), .lit (.int .i64 k.b), .lit (.int .i64 k.c)]
theorem kd_inj {k k' : Kp} (h : kd k = kd k') : k = k' := by
  cases k; cases k'
  simp [kd] at h
  obtain ⟨rfl, rfl, rfl, rfl⟩ := h
  rfl
abbrev kv (k : Kp) : Value := .agg #[.int .i64 k.q, .int .i64 k.a, .int .i64 k.b, .int .i64 k.c]
def kR (v : Value) : Option (DataW Unit × List MemPlace) :=
  match v with
  | .agg ⟨[.int .i64 q, .int .i64 a, .int .i64 b, .int .i64 c]⟩ => some (kd ⟨q, a, b, c⟩, [])
  | _ => none
theorem kR_kv (k : Kp) : kR (kv k) = some (kd k, []) := rfl
theorem kR_inv {v : Value} {z : DataW Unit × List MemPlace} (h : kR v = some z) : ∃ k, v = kv k ∧ z = (kd k, []) := by
  unfold kR at h
  split at h
  · cases h; exact ⟨_, rfl, rfl⟩
  · cases h
/-- Block M is a map of at most n entries; of each client it keeps f. -/
def KAt (w : World) (M n : Nat) (f : Int → Kp) : Prop := ∃ D, w.ownsMap Try.prog 3 kR M n D ∧ IsMap D ∧ ∀ k, (Lit.int .i64 k).wf = true → D.atKey (.int .i64 k) (kd ⟨0, 0, 0, 0⟩) = kd (f k)
def kput (f : Int → Kp) (k : Int) (x : Kp) : Int → Kp := fun i => if i = k then x else f i
theorem key_wf (k : Int) (h : (Lit.int .i64 k).wf = true) : keyOf Try.prog 3 (.int .i64 k) = some (.int .i64 k) := keyOf_int_mk Try.underlying3 h
theorem KAt.made (w : World) : KAt (w.alloc (.map #[] 0)) w.heap.size 0 (fun _ => ⟨0, 0, 0, 0⟩) :=
  ⟨.map [], World.ownsMap_made w Try.prog 3 kR, isMap_empty, fun _ _ => rfl⟩
theorem KAt.lt {w : World} {M n : Nat} {f : Int → Kp} (h : KAt w M n f) : M < w.heap.size := by
  obtain ⟨D, h, _⟩ := h
  exact h.lt
theorem KAt.kept {w w' : World} {M n : Nat} {f : Int → Kp} {row : Option Nat} (h : KAt w M n f) (hg : w.grownBy w' row) (hne : some M ≠ row) : KAt w' M n f := by
  obtain ⟨D, h, h2⟩ := h
  exact ⟨D, h.kept hg hne, h2⟩
theorem zk (w : World) : (zeroValue 84).run Try.prog w = .ok (kv ⟨0, 0, 0, 0⟩) w := by
  go_simp
theorem KAt.look {w : World} {M n : Nat} {f : Int → Kp} (h : KAt w M n f) (k : Int) (hk : (Lit.int .i64 k).wf = true) : (Instr.lookup 79 (.map (some M)) (.int .i64 k) false).run Try.prog w = .ok (kv (f k)) w := by
  obtain ⟨D, h, _, h2⟩ := h
  obtain ⟨v, ps, hrun, hv⟩ := h.lookup (int_keyed Try.underlying3) Try.underlying79 (z := kv ⟨0, 0, 0, 0⟩) (zk w) (kR_kv _) (key_wf k hk)
  rw [h2 k hk] at hv
  obtain ⟨x, rfl, hx⟩ := kR_inv hv
  simp only [Prod.mk.injEq] at hx
  rw [kd_inj hx.1]
  exact hrun
theorem KAt.put {w w' : World} {M n : Nat} {f : Int → Kp} {k : Int} {x : Kp} (hk : (Lit.int .i64 k).wf = true) (h : ∀ D, IsMap D → (∀ i, (Lit.int .i64 i).wf = true → D.atKey (.int .i64 i) (kd ⟨0, 0, 0, 0⟩) = kd (f i)) → w.ownsMap Try.prog 3 kR M n D → w'.ownsMap Try.prog 3 kR M (n + 1) (D.put (.int .i64 k) (kd x))) (h0 : KAt w M n f) : KAt w' M (n + 1) (kput f k x) := by
  obtain ⟨D, h1, h2, h3⟩ := h0
  refine ⟨_, h D h2 h3 h1, h2.put _ _, fun i hi => ?_⟩
  by_cases e : i = k
  · subst e
    rw [atKey_put_same h2 (by trivial)]
    simp [kput]
  · rw [atKey_put_other (fun h => e (by injection h))]
    rw [h3 i hi]
    simp [kput, e]
/-- A server in a block of its own: its epoch, its map. -/
structure SAt (w : World) (g : Nat) (ep : Int) (M n : Nat) (f : Int → Kp) : Prop where
  blk : w.heap[g]? = some (.cells #[.int .i64 ep, .map (some M)] 81 (0, 0))
  map : KAt w M n f
theorem SAt.glt {w : World} {g : Nat} {ep : Int} {M n : Nat} {f : Int → Kp} (h : SAt w g ep M n f) : g < w.heap.size := ltb h.blk
theorem SAt.below {w w' : World} {g : Nat} {ep : Int} {M n : Nat} {f : Int → Kp} (h : SAt w g ep M n f) (hb : Below w.heap.size w w') : SAt w' g ep M n f :=
  ⟨(hb.block g h.glt).trans h.blk, h.map.kept (row := none) (grown_of_below hb none) (by simp)⟩
theorem news_any (ep : Int) (w : World) (h1 : 1 ≤ ep) (h2 : ep ≤ 1099511627776) : Calls Try.prog 9 #[.int .i64 ep] w fun e w' => e = .returned (.pointer (some ⟨w.heap.size + 1, 0, none⟩)) ∧ SAt w' (w.heap.size + 1) ep w.heap.size 0 (fun _ => ⟨0, 0, 0, 0⟩) ∧ Below w.heap.size w w' := by
  have hb := ((Below.refl w.heap.size w).alloc (Nat.le_refl _) (.map #[] 0)).alloc (by simp) (.cells #[.int .i64 ep, .map (some w.heap.size)] 81)
  have hm := (KAt.made w).kept (row := none) (World.grownBy_alloc (w.alloc (.map #[] 0)) (.cells #[.int .i64 ep, .map (some w.heap.size)] 81) none) (by simp)
  have hs : SAt ((w.alloc (.map #[] 0)).alloc (.cells #[.int .i64 ep, .map (some w.heap.size)] 81)) (w.heap.size + 1) ep w.heap.size 0 (fun _ => ⟨0, 0, 0, 0⟩) := by
    refine ⟨?_, hm⟩
    have := heap_alloc_new (w.alloc (.map #[] 0)) (.cells #[.int .i64 ep, .map (some w.heap.size)] 81)
    simpa using this
  have HS := Lib.hid hs
  have HB := Lib.hid hb
  have n1 : ¬ ep < 1 := by omega
  have n2 : ¬ 1099511627776 < ep := by omega
  clear hs hb hm
  have hmm := @run_makeMap Try.prog
  go_enter Try.func9, Try.ntmps9
  go_wp2_with fail
  go_ret
  exact ⟨rfl, HS.out, HB.out⟩
theorem news_no (ep : Int) (w : World) (h : ep < 1 ∨ 1099511627776 < ep) : Calls Try.prog 9 #[.int .i64 ep] w fun e w' => e = .returned (.pointer none) ∧ w = w' := by
  rcases Classical.em (ep < 1) with h1 | h1
  · clear h
    go_enter Try.func9, Try.ntmps9
    go_wp2_with fail
    go_ret
    exact ⟨rfl, rfl⟩
  · have h2 : 1099511627776 < ep := by omega
    clear h
    go_enter Try.func9, Try.ntmps9
    go_wp2_with fail
    go_ret
    exact ⟨rfl, rfl⟩
end Go.Proofs.Ytlcbpodjmafoeaa
