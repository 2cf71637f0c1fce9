/- Chapter 20: the map from keys to places: looking up, putting in. -/
import Derived.Test.YtoeamofemepgpaaAgM
import Derived.Test.YtoeamofemepgpaaTk
import Derived.Maps.Own
namespace Go.Proofs.Ytoeamofemepgpaa
open Go.RowKit

theorem eq_key (j a j' a' : Int) (w : World) : (Op.equal 71 (kc j a) (kc j' a')).run Try.prog w = .ok (j == j' && a == a') w := by
  show (Op.equalIn 10000 71 (kc j a) (kc j' a')).run Try.prog w = _
  have u3 := Try.underlying3
  by_cases h1 : j = j' <;> by_cases h2 : a = a' <;> go_simp <;> simp [h1, h2]
theorem check_int (em : Bool) (n : Nat) (x : Int) (w : World) : (Instr.checkKey em (n + 1) 3 (.int .i64 x)).run Try.prog w = .ok () w := by
  rw [Instr.checkKey]
  · simp only [Sem.run_bind, run_underlying Try.underlying3, Result.andThen_ok, Sem.run_pure]
theorem check_key' (em : Bool) (n : Nat) (j a : Int) (w : World) : (Instr.checkKey em (n + 2) 71 (kc j a)).run Try.prog w = .ok () w := by
  have u3 := Try.underlying3
  have a3 := Try.isAgg3
  have z3 := Try.sizeOf3
  rw [show n + 2 = n + 1 + 1 from rfl, Instr.checkKey]
  simp only [Sem.run_bind, run_underlying Try.underlying71, Result.andThen_ok]
  rw [← Array.forIn_toList]
  have c := check_int em n
  simp only [List.forIn_cons, List.forIn_nil]
  go_simp
theorem check_key (em : Bool) (j a : Int) (w : World) : (Instr.checkKey em 10000 71 (kc j a)).run Try.prog w = .ok () w := check_key' em 9998 j a w
/-- The place of a key in a row. -/
def placeOf (j a : Int) : List (Int × Int) → Nat → Option Nat
  | [], _ => none
  | k :: ks, i => if k.1 = j ∧ k.2 = a then some i else placeOf j a ks (i + 1)
theorem find_asking (j a : Int) (w : World) : ∀ (es : List MapEntry) (ks : List (Int × Int)) (i : Nat), es.length = ks.length → (∀ (k : Nat) (j' a' : Int), ks[k]? = some (j', a') → ∃ e, es[k]? = some e ∧ e.key = kc j' a' ∧ e.val = .int .i64 ((i + k : Nat) : Int)) →
    (Instr.findAsking 71 (kc j a) es i).run Try.prog w = .ok ((placeOf j a ks i).map fun k => (k, .int .i64 (k : Int))) w
  | [], ks, i, hl, _ => by
    cases ks with
    | nil => simp [Instr.findAsking, placeOf]
    | cons _ _ => simp at hl
  | e :: es, ks, i, hl, h => by
    cases ks with
    | nil => simp at hl
    | cons k ks =>
      obtain ⟨j', a'⟩ := k
      obtain ⟨e', he, hk, hv⟩ := h 0 j' a' rfl
      simp only [List.getElem?_cons_zero, Option.some.injEq] at he
      subst he
      have ih := find_asking j a w es ks (i + 1) (by simpa using hl) (fun k j' a' hk => by
        obtain ⟨e', h1, h2, h3⟩ := h (k + 1) j' a' (by simpa using hk)
        exact ⟨e', by simpa using h1, h2, by rw [h3, show i + 1 + k = i + (k + 1) by omega]⟩)
      unfold Instr.findAsking placeOf
      simp only [Sem.run_bind, hk, eq_key, Result.andThen_ok, hv]
      by_cases h1 : j = j'
      · by_cases h2 : a = a'
        · subst h1; subst h2
          simp
        · have h3 : ¬ (j' = j ∧ a' = a) := fun h => h2 h.2.symm
          simp only [h3, if_false]
          simpa [h2] using ih
      · have h3 : ¬ (j' = j ∧ a' = a) := fun h => h1 h.1.symm
        simp only [h3, if_false]
        simpa [h1] using ih
theorem find_key {es : Array MapEntry} {ks : List (Int × Int)} (j a : Int) (w : World) (hl : es.size = ks.length) (h : ∀ (i : Nat) (j a : Int), ks[i]? = some (j, a) → ∃ e, es[i]? = some e ∧ e.key = kc j a ∧ e.val = .int .i64 i) :
    (Instr.findKey 71 (kc j a) es.toList).run Try.prog w = .ok ((placeOf j a ks 0).map fun k => (k, .int .i64 (k : Int))) w := by
  have hf := find_asking j a w es.toList ks 0 (by simpa using hl) (fun k j' a' hk => by
    obtain ⟨e, h1, h2, h3⟩ := h k j' a' hk
    exact ⟨e, by simpa using h1, h2, by simpa using h3⟩)
  unfold Instr.findKey
  simp only [Sem.run_bind, run_underlying Try.underlying71, Result.andThen_ok]
  revert hf
  cases es.toList with
  | nil =>
    intro hf
    simp only [Instr.findNow]
    rw [← hf]
    simp [Instr.findAsking]
  | cons e r =>
    intro hf
    simp only [Instr.findNow, Instr.sameNow]
    exact hf
theorem KeysAt.look {w : World} {M : Nat} {ks : List (Int × Int)} (h : KeysAt w (some M) ks) (j a : Int) :
    (Instr.lookup 57 (.map (some M)) (kc j a) true).run Try.prog w = .ok (match placeOf j a ks 0 with | some k => .tuple #[.int .i64 (k : Int), .bool true] | none => .tuple #[.int .i64 0, .bool false]) w := by
  obtain ⟨es, clock, h1, h2, h3⟩ := h
  have hz : (zeroValue 3).run Try.prog w = .ok (.int .i64 0) w := by go_simp
  unfold Instr.lookup
  simp only [Sem.run_bind, run_underlying Try.underlying57, Result.andThen_ok, MapKept.run_getObj_map h1, check_key, find_key j a w h2 h3, Sem.run_pure]
  cases placeOf j a ks 0 with
  | none => simp [hz]
  | some k => simp
theorem KeysAt.put {w : World} {M : Nat} {ks : List (Int × Int)} (h : KeysAt w (some M) ks) (j a : Int) (hno : placeOf j a ks 0 = none) (n : Int) (hn : n = (ks.length : Int)) :
    ∃ w', (Instr.mapUpdate 57 (.map (some M)) (kc j a) (.int .i64 n)).run Try.prog w = .ok () w' ∧ KeysAt w' (some M) (ks ++ [(j, a)]) ∧ Chg (fun k => k = M) w w' := by
  obtain ⟨es, clock, h1, h2, h3⟩ := h
  have hf := find_key j a w h2 h3
  rw [hno] at hf
  have hlt := ltb h1
  refine ⟨{ w with heap := w.heap.setIfInBounds M (.map (es.push { key := kc j a, val := .int .i64 n, born := clock }) (clock + 1)) }, ?_, ⟨es.push { key := kc j a, val := .int .i64 n, born := clock }, clock + 1, by simp [hlt], by simp [h2], fun i j' a' hi => ?_⟩,
    ⟨rfl, rfl, rfl, by simp, fun k _ hk => by simp only [Array.getElem?_setIfInBounds]; rw [if_neg (fun e => hk e.symm)]⟩⟩
  · unfold Instr.mapUpdate
    simp only [Sem.run_bind, run_underlying Try.underlying57, Result.andThen_ok, MapKept.run_getObj_map h1, check_key, hf, Option.map_none]
    exact MapKept.run_setObj_map _ h1
  · by_cases e : i = ks.length
    · subst e
      simp at hi
      obtain ⟨rfl, rfl⟩ := hi
      refine ⟨{ key := kc j a, val := .int .i64 n, born := clock }, ?_, rfl, by rw [hn]⟩
      rw [Array.getElem?_push, if_pos h2.symm]
    · have hi' : i < ks.length := by
        have := (List.getElem?_eq_some_iff.1 hi).1
        simp at this; omega
      rw [List.getElem?_append_left hi'] at hi
      obtain ⟨e', q1, q2⟩ := h3 i j' a' hi
      refine ⟨e', ?_, q2⟩
      rw [Array.getElem?_push, if_neg (by omega)]
      exact q1
/-- A part's place. -/
def Ag.place (s : Ag) (j a : Int) : Option Nat := placeOf j a (s.ps.map fun p => (p.job, p.att)) 0
theorem placeOf_some {j a : Int} : ∀ {ks : List (Int × Int)} {i k : Nat}, placeOf j a ks i = some k → i ≤ k ∧ ks[k - i]? = some (j, a)
  | [], i, k, h => by simp [placeOf] at h
  | (j', a') :: ks, i, k, h => by
    unfold placeOf at h
    split at h
    · rename_i hh
      injection h with h
      subst h
      obtain ⟨e1, e2⟩ := hh
      simp only at e1 e2
      subst e1; subst e2
      simp
    · obtain ⟨h1, h2⟩ := placeOf_some h
      refine ⟨by omega, ?_⟩
      rw [show k - i = (k - (i + 1)) + 1 by omega, List.getElem?_cons_succ]
      exact h2
theorem place_some {s : Ag} {j a : Int} {i : Nat} (h : s.place j a = some i) : ∃ p, s.ps[i]? = some p ∧ p.job = j ∧ p.att = a := by
  obtain ⟨_, h⟩ := placeOf_some h
  rw [Nat.sub_zero, List.getElem?_map] at h
  cases hp : s.ps[i]? with
  | none => rw [hp] at h; cases h
  | some p =>
    rw [hp] at h
    injection h with h; injection h with h1 h2
    exact ⟨p, rfl, h1, h2⟩
theorem placeOf_none {j a : Int} : ∀ {ks : List (Int × Int)} {i : Nat}, placeOf j a ks i = none → (j, a) ∉ ks
  | [], _, _, hm => by simp at hm
  | (j', a') :: ks, i, h, hm => by
    unfold placeOf at h
    split at h
    · cases h
    · rename_i hh
      rcases List.mem_cons.1 hm with e | hm
      · injection e with e1 e2
        exact hh ⟨e1.symm, e2.symm⟩
      · exact placeOf_none h hm
end Go.Proofs.Ytoeamofemepgpaa
