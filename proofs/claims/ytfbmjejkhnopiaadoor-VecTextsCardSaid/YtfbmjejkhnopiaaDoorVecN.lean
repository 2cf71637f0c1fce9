/- A text's number. -/
import Derived.Test.YtfbmjejkhnopiaaDoorNum
namespace Go.Proofs.YtfbmjejkhnopiaaDoor
open Go.RowKit

theorem take_snoc (s : ByteArray) (k : Nat) (h : k < s.size) : s.data.toList.take (k + 1) = s.data.toList.take k ++ [s[k]] := by
  rw [List.take_succ_eq_append_getElem (by simpa using h)]; rfl
theorem numB_no {l : List UInt8} {k : Nat} (h : l.length = 0 ∨ k < l.length ∨ (1 < l.length ∧ l[0]? = some 48) ∨ l.all isD = false) : numB l k = -1 := by unfold numB; rw [if_pos h]
theorem all_not {s : ByteArray} {k : Nat} (h : k < s.size) (hc : isD s[k] = false) : s.data.toList.all isD = false := by
  cases e : s.data.toList.all isD with
  | false => rfl
  | true =>
    have : isD s[k] = true := List.all_eq_true.1 e _ (by
      have : s[k] = s.data.toList[k]'(by simpa using h) := rfl
      rw [this]; exact List.getElem_mem _)
    rw [this] at hc; cases hc
theorem isD_no {c : UInt8} (h : (c.toNat : Int) < 48 ∨ 57 < (c.toNat : Int)) : isD c = false := by
  simp [isD]; omega
theorem isD_yes {c : UInt8} (h : 48 ≤ (c.toNat : Int)) (h' : (c.toNat : Int) ≤ 57) : isD c = true := by
  simp [isD]; omega
theorem head48 {s : ByteArray} (h : 0 < s.size) (hc : (s[0].toNat : Int) = 48) : s.data.toList[0]? = some 48 := by
  have e : s.data.toList[0]? = some s[0] := by rw [List.getElem?_eq_getElem (by simpa using h)]; rfl
  rw [e]; congr 1; exact UInt8.toNat_inj.1 (by have h48 : (48 : UInt8).toNat = 48 := rfl; omega)
theorem head48' {s : ByteArray} (h : 0 < s.size) (hc : (s[0].toNat : Int) ≠ 48) : s.data.toList[0]? ≠ some 48 := by
  have e : s.data.toList[0]? = some s[0] := by rw [List.getElem?_eq_getElem (by simpa using h)]; rfl
  rw [e]; intro h2
  have h2 : s[0] = 48 := by simpa using h2
  rw [h2] at hc; exact hc rfl
theorem pow10_le {k : Nat} (h : k ≤ 10) : (10 : Int) ^ k ≤ 10000000000 := by
  have : k = 0 ∨ k = 1 ∨ k = 2 ∨ k = 3 ∨ k = 4 ∨ k = 5 ∨ k = 6 ∨ k = 7 ∨ k = 8 ∨ k = 9 ∨ k = 10 := by omega
  rcases this with rfl | rfl | rfl | rfl | rfl | rfl | rfl | rfl | rfl | rfl | rfl <;> decide
theorem nv_le {l : List UInt8} (h : l.all isD = true) (hl : l.length ≤ 10) : 0 ≤ nv l ∧ nv l ≤ 9999999999 := by
  have h1 := nv_bd l h
  have h2 := pow10_le hl
  omega

set_option maxRecDepth 100000 in
set_option maxHeartbeats 1000000 in
theorem number_any (s : ByteArray) (w : World) (hs : s.size ≤ 1000) :
    Calls Tryd.prog 36 #[.string s] w fun e w' => e = .returned (.int .i64 (numB s.data.toList 10)) ∧ w = w' := by
  have hlen : s.data.toList.length = s.size := by simp
  by_cases h0 : s.size = 0
  · have HE := Lib.hid (numB_no (k := 10) (.inl (show s.data.toList.length = 0 by simpa using h0)))
    have t1 : ((s.size : Int) == 0) = true := by simpa using h0
    have t2 : (s.size : Int) < 1 := by omega
    clear h0
    go_enter Tryd.func36, Tryd.ntmps36
    go_wp2_with fail
    go_ret
    exact ⟨by rw [HE.out]; rfl, rfl⟩
  have t1 : ((s.size : Int) == 0) = false := by have h : ¬ (s.size : Int) = 0 := by omega
                                                simpa using h
  have t2 : ¬ (s.size : Int) < 1 := by omega
  by_cases h1 : 10 < s.size
  · have HE := Lib.hid (numB_no (k := 10) (.inr (.inl (show 10 < s.data.toList.length by omega))))
    have t3 : (10 : Int) < (s.size : Int) := by omega
    clear hlen
    go_enter Tryd.func36, Tryd.ntmps36
    go_wp2_with fail
    go_ret
    exact ⟨by rw [HE.out]; rfl, rfl⟩
  have t3 : ¬ (10 : Int) < (s.size : Int) := by omega
  have t4 : 0 < s.size := by omega
  by_cases h2 : 1 < s.size ∧ (s[0].toNat : Int) = 48
  · have HE := Lib.hid (numB_no (k := 10) (.inr (.inr (.inl ⟨show 1 < s.data.toList.length by omega, head48 t4 h2.2⟩))))
    have t5 : (1 : Int) < (s.size : Int) := by omega
    have t6 : ((s[0].toNat : Int) == 48) = true := by simpa using h2.2
    clear hlen h2
    go_enter Tryd.func36, Tryd.ntmps36
    go_wp2_with fail
    go_ret
    exact ⟨by rw [HE.out]; rfl, rfl⟩
  have HNH : Hid (¬ (1 < s.data.toList.length ∧ s.data.toList[0]? = some 48)) := Lib.hid (fun h => h2 ⟨by omega, by
    by_cases e : (s[0].toNat : Int) = 48
    · exact e
    · exact absurd h.2 (head48' t4 e)⟩)
  have HLEN := Lib.hid hlen
  have key : (s.size : Int) ≤ 1 ∨ ((1 : Int) < (s.size : Int) ∧ (s[0].toNat : Int) ≠ 48) := by
    by_cases e : (s[0].toNat : Int) = 48
    · left; have : ¬ 1 < s.size := fun h => h2 ⟨h, e⟩; omega
    · by_cases e2 : (1 : Int) < (s.size : Int)
      · exact .inr ⟨e2, e⟩
      · exact .inl (by omega)
  clear h2 hlen
  rcases key with t5 | ⟨t5, t6'⟩
  all_goals
    try (have t6 : ((s[0].toNat : Int) == 48) = false := by simpa using t6')
    try clear t6'
    try (have t5' : ¬ (1 : Int) < (s.size : Int) := by omega)
    go_enter Tryd.func36, Tryd.ntmps36
    go_wp2_with fail
    try clear t6
    go_loop [3, 25] (fun n i => ∃ (k : Nat) (N : Int), k ≤ s.size ∧ i = .int .i64 k ∧ n = .int .i64 N ∧ 0 ≤ N ∧ N ≤ 9999999999 ∧ Hid (N = nv (s.data.toList.take k)) ∧ Hid ((s.data.toList.take k).all isD = true)) (fun _ i => s.size - (intOf i).toNat)
    case atStart => exact ⟨0, 0, Nat.zero_le _, rfl, rfl, by omega, by omega, Lib.hid rfl, Lib.hid rfl⟩
    case round =>
      obtain ⟨k, N, hk, rfl, rfl, hN0, hN1, HN, HA⟩ := hrel
      by_cases hlt : k < s.size
      · have hlt' : (k : Int) < (s.size : Int) := by omega
        have HTS := Lib.hid (take_snoc s k hlt)
        by_cases hc : (s[k].toNat : Int) < 48 ∨ 57 < (s[k].toNat : Int)
        · have HE := Lib.hid (numB_no (k := 10) (.inr (.inr (.inr (all_not hlt (isD_no hc))))))
          have key : (s[k].toNat : Int) < 48 ∨ (¬ (s[k].toNat : Int) < 48 ∧ 57 < (s[k].toNat : Int)) := by omega
          clear hc
          rcases key with hc | ⟨hc, hc'⟩
          · go_wp2_with fail
            go_ret
            exact ⟨by rw [HE.out]; rfl, rfl⟩
          · go_wp2_with fail
            go_ret
            exact ⟨by rw [HE.out]; rfl, rfl⟩
        · have c1 : ¬ (s[k].toNat : Int) < 48 := by omega
          have c2 : ¬ 57 < (s[k].toNat : Int) := by omega
          have c3 : 48 ≤ (s[k].toNat : Int) := by omega
          have c4 : (s[k].toNat : Int) ≤ 57 := by omega
          have HA' : Hid ((s.data.toList.take (k + 1)).all isD = true) := Lib.hid (by rw [HTS.out, List.all_append, HA.out, List.all_cons, isD_yes c3 c4]; rfl)
          have HN' : Hid (N * 10 + ((s[k].toNat : Int) - 48) = nv (s.data.toList.take (k + 1))) := Lib.hid (by rw [HTS.out, nv_snoc, HN.out])
          have hb := nv_le HA'.out (by rw [List.length_take, HLEN.out]; omega)
          rw [← HN'.out] at hb
          obtain ⟨hb0, hb1⟩ := hb
          clear hc
          go_wp2_with fail
          go_round
          case rel => exact ⟨k + 1, N * 10 + ((s[k].toNat : Int) - 48), by omega, by go_num, by first | rfl | (congr 1; omega), hb0, hb1, HN', HA'⟩
          case measure => simp [intOf]; omega
      · have hge : ¬ (k : Int) < (s.size : Int) := by omega
        have HF : Hid (N = numB s.data.toList 10) := Lib.hid (by
          have e : s.data.toList.take k = s.data.toList := List.take_of_length_le (by rw [HLEN.out]; omega)
          rw [HN.out, e]
          unfold numB
          rw [if_neg]
          have ha := HA.out
          rw [e] at ha
          have hl := HLEN.out
          rintro (h | h | h | h)
          · omega
          · omega
          · exact HNH.out h
          · rw [ha] at h; cases h)
        go_wp2_with fail
        go_ret
        exact ⟨by rw [HF.out]; rfl, rfl⟩
set_option maxRecDepth 100000 in
set_option maxHeartbeats 1000000 in
theorem rnumber_any (s : ByteArray) (w : World) (hs : s.size ≤ 1000) :
    Calls Tryd.prog 38 #[.string s, .int .i64 10] w fun e w' => e = .returned (.int .i64 (numB s.data.toList 10)) ∧ w = w' := by
  have hlen : s.data.toList.length = s.size := by simp
  by_cases h0 : s.size = 0
  · have HE := Lib.hid (numB_no (k := 10) (.inl (show s.data.toList.length = 0 by simpa using h0)))
    have t1 : ((s.size : Int) == 0) = true := by simpa using h0
    have t2 : (s.size : Int) < 1 := by omega
    clear h0
    go_enter Tryd.func38, Tryd.ntmps38
    go_wp2_with fail
    go_ret
    exact ⟨by rw [HE.out]; rfl, rfl⟩
  have t1 : ((s.size : Int) == 0) = false := by have h : ¬ (s.size : Int) = 0 := by omega
                                                simpa using h
  have t2 : ¬ (s.size : Int) < 1 := by omega
  by_cases h1 : 10 < s.size
  · have HE := Lib.hid (numB_no (k := 10) (.inr (.inl (show 10 < s.data.toList.length by omega))))
    have t3 : (10 : Int) < (s.size : Int) := by omega
    clear hlen
    go_enter Tryd.func38, Tryd.ntmps38
    go_wp2_with fail
    go_ret
    exact ⟨by rw [HE.out]; rfl, rfl⟩
  have t3 : ¬ (10 : Int) < (s.size : Int) := by omega
  have t4 : 0 < s.size := by omega
  by_cases h2 : 1 < s.size ∧ (s[0].toNat : Int) = 48
  · have HE := Lib.hid (numB_no (k := 10) (.inr (.inr (.inl ⟨show 1 < s.data.toList.length by omega, head48 t4 h2.2⟩))))
    have t5 : (1 : Int) < (s.size : Int) := by omega
    have t6 : ((s[0].toNat : Int) == 48) = true := by simpa using h2.2
    clear hlen h2
    go_enter Tryd.func38, Tryd.ntmps38
    go_wp2_with fail
    go_ret
    exact ⟨by rw [HE.out]; rfl, rfl⟩
  have HNH : Hid (¬ (1 < s.data.toList.length ∧ s.data.toList[0]? = some 48)) := Lib.hid (fun h => h2 ⟨by omega, by
    by_cases e : (s[0].toNat : Int) = 48
    · exact e
    · exact absurd h.2 (head48' t4 e)⟩)
  have HLEN := Lib.hid hlen
  have key : (s.size : Int) ≤ 1 ∨ ((1 : Int) < (s.size : Int) ∧ (s[0].toNat : Int) ≠ 48) := by
    by_cases e : (s[0].toNat : Int) = 48
    · left; have : ¬ 1 < s.size := fun h => h2 ⟨h, e⟩; omega
    · by_cases e2 : (1 : Int) < (s.size : Int)
      · exact .inr ⟨e2, e⟩
      · exact .inl (by omega)
  clear h2 hlen
  rcases key with t5 | ⟨t5, t6'⟩
  all_goals
    try (have t6 : ((s[0].toNat : Int) == 48) = false := by simpa using t6')
    try clear t6'
    try (have t5' : ¬ (1 : Int) < (s.size : Int) := by omega)
    go_enter Tryd.func38, Tryd.ntmps38
    go_wp2_with fail
    try clear t6
    go_loop [5, 6] (fun n i => ∃ (k : Nat) (N : Int), k ≤ s.size ∧ i = .int .i64 k ∧ n = .int .i64 N ∧ 0 ≤ N ∧ N ≤ 9999999999 ∧ Hid (N = nv (s.data.toList.take k)) ∧ Hid ((s.data.toList.take k).all isD = true)) (fun _ i => s.size - (intOf i).toNat)
    case atStart => exact ⟨0, 0, Nat.zero_le _, rfl, rfl, by omega, by omega, Lib.hid rfl, Lib.hid rfl⟩
    case round =>
      obtain ⟨k, N, hk, rfl, rfl, hN0, hN1, HN, HA⟩ := hrel
      by_cases hlt : k < s.size
      · have hlt' : (k : Int) < (s.size : Int) := by omega
        have HTS := Lib.hid (take_snoc s k hlt)
        by_cases hc : (s[k].toNat : Int) < 48 ∨ 57 < (s[k].toNat : Int)
        · have HE := Lib.hid (numB_no (k := 10) (.inr (.inr (.inr (all_not hlt (isD_no hc))))))
          have key : (s[k].toNat : Int) < 48 ∨ (¬ (s[k].toNat : Int) < 48 ∧ 57 < (s[k].toNat : Int)) := by omega
          clear hc
          rcases key with hc | ⟨hc, hc'⟩
          · go_wp2_with fail
            go_ret
            exact ⟨by rw [HE.out]; rfl, rfl⟩
          · go_wp2_with fail
            go_ret
            exact ⟨by rw [HE.out]; rfl, rfl⟩
        · have c1 : ¬ (s[k].toNat : Int) < 48 := by omega
          have c2 : ¬ 57 < (s[k].toNat : Int) := by omega
          have c3 : 48 ≤ (s[k].toNat : Int) := by omega
          have c4 : (s[k].toNat : Int) ≤ 57 := by omega
          have HA' : Hid ((s.data.toList.take (k + 1)).all isD = true) := Lib.hid (by rw [HTS.out, List.all_append, HA.out, List.all_cons, isD_yes c3 c4]; rfl)
          have HN' : Hid (N * 10 + ((s[k].toNat : Int) - 48) = nv (s.data.toList.take (k + 1))) := Lib.hid (by rw [HTS.out, nv_snoc, HN.out])
          have hb := nv_le HA'.out (by rw [List.length_take, HLEN.out]; omega)
          rw [← HN'.out] at hb
          obtain ⟨hb0, hb1⟩ := hb
          clear hc
          go_wp2_with fail
          go_round
          case rel => exact ⟨k + 1, N * 10 + ((s[k].toNat : Int) - 48), by omega, by go_num, by first | rfl | (congr 1; omega), hb0, hb1, HN', HA'⟩
          case measure => simp [intOf]; omega
      · have hge : ¬ (k : Int) < (s.size : Int) := by omega
        have HF : Hid (N = numB s.data.toList 10) := Lib.hid (by
          have e : s.data.toList.take k = s.data.toList := List.take_of_length_le (by rw [HLEN.out]; omega)
          rw [HN.out, e]
          unfold numB
          rw [if_neg]
          have ha := HA.out
          rw [e] at ha
          have hl := HLEN.out
          rintro (h | h | h | h)
          · omega
          · omega
          · exact HNH.out h
          · rw [ha] at h; cases h)
        go_wp2_with fail
        go_ret
        exact ⟨by rw [HF.out]; rfl, rfl⟩
end Go.Proofs.YtfbmjejkhnopiaaDoor
