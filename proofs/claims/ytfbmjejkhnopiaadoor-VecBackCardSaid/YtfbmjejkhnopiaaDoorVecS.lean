/- The document's parts of a text, and its amount of a text. -/
import Derived.Test.YtfbmjejkhnopiaaDoorVecR
namespace Go.Proofs.YtfbmjejkhnopiaaDoor
open Go.RowKit

def sv (x : List UInt8) : Value := .string (str x)
theorem i9x : (Tryd.prog.info? 9).map (fun i => (i.zero, i.size, i.bytes)) = some (some (.string ⟨#[]⟩), 1, 16) := by kernel_rfl
theorem i9p : ∃ i, Tryd.prog.info? 9 = some i ∧ i.zero = some (.string ⟨#[]⟩) ∧ i.size = 1 ∧ i.bytes = 16 := by
  have h := i9x
  cases hi : Tryd.prog.info? 9 with
  | none => rw [hi] at h; cases h
  | some i => rw [hi] at h; simp at h; exact ⟨i, rfl, h.1, h.2.1, h.2.2⟩
theorem sp_len (l : List UInt8) : ∀ cur, ∀ x ∈ sp cur l, x.length ≤ cur.length + l.length := by
  induction l with
  | nil => intro cur x hx; simp [sp] at hx; subst hx; simp
  | cons c t ih =>
    intro cur x hx
    rw [sp_cons] at hx
    split at hx
    · rcases List.mem_cons.1 hx with e | hx
      · subst e; simp
      · have := ih [] x hx; simp at this ⊢; omega
    · have := ih _ x hx; simp at this ⊢; omega
theorem sp_num (l : List UInt8) : ∀ cur, (sp cur l).length ≤ l.length + 1 := by
  induction l with
  | nil => intro cur; simp [sp]
  | cons c t ih => intro cur; rw [sp_cons]; split <;> simp <;> (have := ih []; have := ih (cur ++ [c]); omega)
theorem ext_list (s : ByteArray) (a b : Nat) (_ : a ≤ b) (_ : b ≤ s.size) : s.extract a b = str ((s.data.toList.take b).drop a) := by
  unfold str
  ext1
  simp only [ByteArray.data_extract]
  apply Array.toList_inj.1
  rw [Array.toList_extract]
  simp [List.extract, List.drop_take]
theorem own_cell {w : World} {base n c : Nat} {e : TypeId} {A : Option Addr} {xs : List Value} (h : w.ownsRow base e 1 (.slice A n c) n xs) {i : Nat} {v : Value} (hi : xs[i]? = some v) : ∃ g, A = some ⟨g, 0, none⟩ ∧ w.cell? ⟨g, i, none⟩ = some v ∧ base ≤ g ∧ g < w.heap.size := by
  have hlt : i < xs.length := (List.getElem?_eq_some_iff.1 hi).1
  have hx := h.1
  rcases h.2 with ⟨_, h0⟩ | ⟨g, cap, cur, h1, hb, hk, hn, hc, hcz, ht⟩
  · omega
  · injection h1 with e1 e2 e3
    refine ⟨g, e1, ?_, hb, ltb hk⟩
    refine cellb hk ?_
    rw [← ht] at hi
    rw [List.getElem?_take_of_lt (by omega)] at hi
    rw [← Array.getElem?_toList]; exact hi
set_option maxRecDepth 100000 in
set_option maxHeartbeats 4000000 in
theorem rcut_any (s : ByteArray) (w : World) (hs : s.size ≤ 1000) :
    Calls Tryd.prog 37 #[.string s, .int .u8 44] w fun e w' => ∃ A n c, e = .returned (.slice A n c) ∧ n = (parts s.data.toList).length ∧ w'.ownsRow w.heap.size 9 1 (.slice A n c) n ((parts s.data.toList).map sv) ∧ Below w.heap.size w w' := by
  obtain ⟨i9, hi, hz0, hz1, hz2⟩ := i9p
  have HB := Lib.hid (Below.refl w.heap.size w)
  have HLEN : Hid (s.data.toList.length = s.size) := Lib.hid (by simp)
  obtain ⟨l, hl⟩ : ∃ l, l = s.data.toList := ⟨_, rfl⟩
  have HLE := Lib.hid hl
  rw [← hl] at HLEN
  have HN1 := Lib.hid (sp_num l [])
  go_enter Tryd.func37, Tryd.ntmps37
  rw [← hl]
  clear hl
  go_wp2_with fail
  go_loopw [5, 6, 7] (fun v t i wr => ∃ (k f n c : Nat) (A : Option Addr) (done : List (List UInt8)), k ≤ s.size ∧ i = .int .i64 k ∧ t = .int .i64 f ∧ f ≤ k ∧ v = .slice A n c ∧ n ≤ k ∧ Hid (n = done.length) ∧ Hid (wr.ownsRow w.heap.size 9 1 (.slice A n c) n (done.map sv)) ∧ Hid (parts l = done ++ sp ((l.take k).drop f) (l.drop k)) ∧ Hid (Below w.heap.size w wr)) (fun _ _ i _ => s.size - (intOf i).toNat)
  case atStart => exact ⟨0, 0, 0, 0, none, [], Nat.zero_le _, rfl, rfl, Nat.le_refl _, rfl, Nat.le_refl _, Lib.hid rfl, Lib.hid (World.ownsRow_nil _ _ _ _), Lib.hid (by simp [parts]), HB⟩
  case round =>
    clear HB
    obtain ⟨k, f, n, c, A, done, hk, rfl, rfl, hf, rfl, hn, HN, HO, HP, HBw⟩ := hrel
    have hsz : w.heap.size ≤ wr.heap.size := HBw.out.size
    by_cases hlt : k < s.size
    · have hlt' : (k : Int) < (s.size : Int) := by omega
      have HD : Hid (l.drop k = s[k] :: l.drop (k + 1)) := Lib.hid (by
        rw [List.drop_eq_getElem_cons (by rw [HLEN.out]; exact hlt)]
        congr 1
        have h := HLE.out
        subst h; rfl)
      have HT : Hid ((l.take (k + 1)).drop f = (l.take k).drop f ++ [s[k]]) := Lib.hid (by
        have h := HLE.out
        subst h
        rw [take_snoc s k hlt, List.drop_append_of_le_length (by rw [List.length_take, HLEN.out]; omega)])
      by_cases hc : (s[k].toNat : Int) = 44
      · have t1 : ((s[k].toNat : Int) == 44) = true := by simpa using hc
        have HS44 : Hid (s[k] = 44) := Lib.hid (UInt8.toNat_inj.1 (by have h44 : (44 : UInt8).toNat = 44 := rfl; omega))
        have HX : Hid (Value.string (s.extract f k) = sv ((l.take k).drop f)) := Lib.hid (by unfold sv; rw [ext_list s f k hf hk, HLE.out])
        have b1 : (f : Int) ≤ (k : Int) := by omega
        have b2 : (k : Int) ≤ (s.size : Int) := by omega
        have b3 : (0 : Int) ≤ (f : Int) := by omega
        have b4 : k ≤ s.size := hk
        clear hc
        go_wp2_with (at_builtin; refine wpList_append_row _ rfl (.tmp 19) (.tmp 24) _ rfl w.heap.size 9 i9 _ 1 16 Tryd.underlying46 hi hz0 hz1 hz2 rfl (by omega) A n c (done.map sv) rfl (HO.out.alloc _) (wr.heap.size + 1) (some ⟨wr.heap.size, 0, none⟩) 1 1 [.string (s.extract f k)] rfl (cellsIn_alloc wr #[.string (s.extract f k)] 9 (0, 0) 1 1 rfl) (by simp [Value.oneCell']) (by unfold maxLen; omega) (by omega) (by simp; omega) ?_; intro A3 c3 w3 hown3 hg3 hat3; have HO3 := Lib.hid hown3; have HG3 := Lib.hid hg3; clear hown3 hg3 hat3)
        have hb3 : Below w.heap.size w w3 := (HBw.out.alloc hsz _).grown HG3.out (by simp; omega) (fun q hq => (HO.out.lt q hq).1)
        have HB3 := Lib.hid hb3
        clear hb3
        have HO4 : Hid (w3.ownsRow w.heap.size 9 1 (.slice A3 (n + 1) c3) (n + 1) ((done ++ [(l.take k).drop f]).map sv)) := Lib.hid (by
          rw [List.map_append]; show w3.ownsRow w.heap.size 9 1 (.slice A3 (n + 1) c3) (n + 1) (done.map sv ++ [sv ((l.take k).drop f)]); rw [← HX.out]; exact HO3.out)
        go_roundw
        case rel => exact ⟨k + 1, k + 1, n + 1, c3, A3, done ++ [(l.take k).drop f], by omega, by go_num, by go_num, Nat.le_refl _, rfl, by omega, Lib.hid (by rw [List.length_append, ← HN.out]; rfl), HO4, Lib.hid (by
          rw [HP.out, HD.out, sp_cons, if_pos HS44.out, show (l.take (k + 1)).drop (k + 1) = [] from List.drop_eq_nil_of_le (by rw [List.length_take]; omega)]; simp), HB3⟩
        case measure => simp [intOf]; omega
      · have t1 : ((s[k].toNat : Int) == 44) = false := by simpa using hc
        have HS44 : Hid (s[k] ≠ 44) := Lib.hid (fun e => hc (by rw [e]; rfl))
        clear hc
        go_wp2_with fail
        go_roundw
        case rel => exact ⟨k + 1, f, n, c, A, done, by omega, by go_num, rfl, by omega, rfl, by omega, HN, HO, Lib.hid (by
          rw [HP.out, HD.out, sp_cons, if_neg HS44.out, HT.out]), HBw⟩
        case measure => simp [intOf]; omega
    · have hge : ¬ (k : Int) < (s.size : Int) := by omega
      have HKS : Hid (k = s.size) := Lib.hid (by omega)
      have HX : Hid (Value.string (s.extract f s.size) = sv ((l.take k).drop f)) := Lib.hid (by unfold sv; rw [ext_list s f s.size (by omega) (Nat.le_refl _), HLE.out, show k = s.size by omega])
      have HF : Hid (parts l = done ++ [(l.take k).drop f]) := Lib.hid (by
        rw [HP.out, List.drop_eq_nil_of_le (show l.length ≤ k by rw [HLEN.out]; omega)]; rfl)
      have b1 : (f : Int) ≤ (s.size : Int) := by omega
      have b3 : (0 : Int) ≤ (f : Int) := by omega
      have b4 : f ≤ s.size := by omega
      go_wp2_with (at_builtin; refine wpList_append_row _ rfl (.tmp 28) (.tmp 32) _ rfl w.heap.size 9 i9 _ 1 16 Tryd.underlying46 hi hz0 hz1 hz2 rfl (by omega) A n c (done.map sv) rfl (HO.out.alloc _) (wr.heap.size + 1) (some ⟨wr.heap.size, 0, none⟩) 1 1 [.string (s.extract f s.size)] rfl (cellsIn_alloc wr #[.string (s.extract f s.size)] 9 (0, 0) 1 1 rfl) (by simp [Value.oneCell']) (by unfold maxLen; omega) (by omega) (by simp; omega) ?_; intro A3 c3 w3 hown3 hg3 hat3; have HO3 := Lib.hid hown3; have HG3 := Lib.hid hg3; clear hown3 hg3 hat3)
      have hb3 : Below w.heap.size w w3 := (HBw.out.alloc hsz _).grown HG3.out (by simp; omega) (fun q hq => (HO.out.lt q hq).1)
      have HB3 := Lib.hid hb3
      clear hb3
      go_ret
      refine ⟨A3, n + 1, c3, rfl, ?_, ?_, HB3.out⟩
      · rw [HF.out, List.length_append, ← HN.out]; rfl
      · rw [HF.out, List.map_append]
        show w3.ownsRow w.heap.size 9 1 (.slice A3 (n + 1) c3) (n + 1) (done.map sv ++ [sv ((l.take k).drop f)])
        rw [← HX.out]; exact HO3.out
end Go.Proofs.YtfbmjejkhnopiaaDoor
