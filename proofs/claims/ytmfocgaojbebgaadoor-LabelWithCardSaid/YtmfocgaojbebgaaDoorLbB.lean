/- Names and values, of the program and of the reference. Condition: a string's length is an int. -/
import Derived.Test.YtmfocgaojbebgaaDoorProg
import Derived.Test.YtmfocgaojbebgaaDoorLbP
import Derived.Test.YtmfocgaojbebgaaDoorLbS
namespace Go.Proofs.YtmfocgaojbebgaaDoor
open Go.RowKit

theorem nameC_iff (c : UInt8) : nameC c = true ↔ (97 ≤ c.toNat ∧ c.toNat ≤ 122) ∨ (48 ≤ c.toNat ∧ c.toNat ≤ 57) ∨ c.toNat = 95 := by
  unfold nameC letC
  simp only [Bool.or_eq_true, Bool.and_eq_true, decide_eq_true_eq, beq_iff_eq]
  omega
theorem letC_iff (c : UInt8) : letC c = true ↔ (97 ≤ c.toNat ∧ c.toNat ≤ 122) := by
  unfold letC
  simp only [Bool.and_eq_true, decide_eq_true_eq]
theorem valC_iff (c : UInt8) : valC c = true ↔ 33 ≤ c.toNat ∧ c.toNat ≤ 126 ∧ c.toNat ≠ 44 ∧ c.toNat ≠ 61 ∧ c.toNat ≠ 33 ∧ c.toNat ≠ 126 := by
  unfold valC
  simp only [Bool.and_eq_true, decide_eq_true_eq, Bool.not_eq_true', Bool.or_eq_false_iff, beq_eq_false_iff_ne]
  constructor
  · rintro ⟨⟨h1, h2⟩, ⟨⟨h3, h4⟩, h5⟩, h6⟩; exact ⟨h1, h2, h3, h4, h5, h6⟩
  · rintro ⟨h1, h2, h3, h4, h5, h6⟩; exact ⟨⟨h1, h2⟩, ⟨⟨h3, h4⟩, h5⟩, h6⟩
theorem ba_len (s : ByteArray) : s.data.toList.length = s.size := Array.length_toList
theorem headD_get : ∀ (l : Tx) (h : 0 < l.length), l.headD 0 = l[0]
  | [], h => absurd h (by simp)
  | _ :: _, _ => rfl
theorem name_bad {s : ByteArray} {k : Nat} (h : k < s.size) (hb : ¬ nameC s[k] = true) : nameB s.data.toList = false := by
  have : s.data.toList.all nameC = false := by
    rw [← Bool.not_eq_true, List.all_eq_true]
    exact fun ha => hb (ha _ (List.getElem_mem (by rw [ba_len]; exact h)))
  unfold nameB
  rw [this]; rfl
theorem name_good {s : ByteArray} (h1 : 1 ≤ s.size) (h2 : s.size ≤ 16) (ha : ∀ k (h : k < s.size), nameC s[k] = true) (h0 : letC (s[0]'h1) = true) : nameB s.data.toList = true := by
  have hh : s.data.toList.headD 0 = s[0]'h1 := by
    rw [ba_get]
    exact headD_get _ _
  unfold nameB
  rw [hh, h0, ba_len]
  simp only [Bool.and_true, Bool.and_eq_true, decide_eq_true_eq]
  refine ⟨⟨?_, h1⟩, h2⟩
  rw [List.all_eq_true]
  intro x hx
  obtain ⟨k, hk, rfl⟩ := List.getElem_of_mem hx
  exact ha k (by rw [ba_len] at hk; exact hk)
theorem name_len {s : ByteArray} (h : ¬ (1 ≤ s.size ∧ s.size ≤ 16)) : nameB s.data.toList = false := by
  rw [← Bool.not_eq_true]
  unfold nameB
  simp only [Bool.and_eq_true, decide_eq_true_eq, ba_len]
  omega
theorem name_head {s : ByteArray} (h1 : 1 ≤ s.size) (h : ¬ letC (s[0]'h1) = true) : nameB s.data.toList = false := by
  have hh : s.data.toList.headD 0 = s[0]'h1 := by
    rw [ba_get]
    exact headD_get _ _
  rw [← Bool.not_eq_true]
  unfold nameB
  rw [hh]
  simp only [Bool.and_eq_true]
  exact fun h2 => h h2.2
theorem value_bad {s : ByteArray} {k : Nat} (h : k < s.size) (hb : ¬ valC s[k] = true) : valueB s.data.toList = false := by
  have : s.data.toList.all valC = false := by
    rw [← Bool.not_eq_true, List.all_eq_true]
    exact fun ha => hb (ha _ (List.getElem_mem (by rw [ba_len]; exact h)))
  unfold valueB
  rw [this]; rfl
theorem value_is {s : ByteArray} (ha : ∀ k (h : k < s.size), valC s[k] = true) : valueB s.data.toList = decide (s.size ≤ 32) := by
  have : s.data.toList.all valC = true := by
    rw [List.all_eq_true]
    intro x hx
    obtain ⟨k, hk, rfl⟩ := List.getElem_of_mem hx
    exact ha k (by rw [ba_len] at hk; exact hk)
  unfold valueB
  rw [this, ba_len, Bool.true_and]
theorem value_len {s : ByteArray} (h : ¬ s.size ≤ 32) : valueB s.data.toList = false := by
  rw [← Bool.not_eq_true]
  unfold valueB
  simp only [Bool.and_eq_true, decide_eq_true_eq, ba_len]
  exact fun h2 => h h2.2

/-- The letters of a name, by their numbers. -/
theorem name_cases (n : Nat) : n < 48 ∨ (48 ≤ n ∧ n ≤ 57) ∨ (58 ≤ n ∧ n < 95) ∨ n = 95 ∨ n = 96 ∨ (97 ≤ n ∧ n ≤ 122) ∨ 123 ≤ n := by omega

set_option maxHeartbeats 2000000 in
theorem isName_any (s : ByteArray) (w : World) : Calls Tryd.prog 49 #[.string s] w fun e w' => e = .returned (.bool (nameB s.data.toList)) ∧ w = w' := by
  by_cases h1 : 1 ≤ s.size ∧ s.size ≤ 16
  · obtain ⟨h1, h2⟩ := h1
    by_cases h3 : letC (s[0]'h1) = true
    · have hL := Lib.hid h3
      have n0 := (letC_iff _).1 h3
      clear h3
      have m0 : ¬ ((s[0]'h1).toNat : Int) < 97 := by omega
      have m1 : ¬ ((s[0]'h1).toNat : Int) > 122 := by omega
      have h2' : ¬ (s.size : Int) > 16 := by omega
      have h1' : ¬ (s.size : Int) < 1 := by omega
      go_enter Tryd.func49, Tryd.ntmps49
      go_wp2
      go_loop [25] (fun i => ∃ k : Nat, k ≤ s.size ∧ i = .int .i64 k ∧ Hid (∀ j (h : j < s.size), j < k → nameC s[j] = true)) (fun i => s.size - (intOf i).toNat)
      case atStart => exact ⟨0, Nat.zero_le _, rfl, Lib.hid (fun j _ h => absurd h (by omega))⟩
      case round =>
        obtain ⟨k, hk, rfl, HA⟩ := hrel
        by_cases hlt : k < s.size
        · by_cases hg : nameC s[k] = true
          · have HS : Hid (∀ j (h : j < s.size), j < k + 1 → nameC s[j] = true) := Lib.hid (fun j h hj => by
              rcases Nat.lt_or_ge j k with h5 | h5
              · exact HA.out j h h5
              · obtain rfl : j = k := by omega
                exact hg)
            have hn := (nameC_iff _).1 hg
            clear hg n0 m0 m1
            rcases hn with hn | hn | hn
            · go_wp2
              go_round
              case rel => exact ⟨k + 1, by omega, by go_num, HS⟩
              case measure => simp [intOf]; omega
            · go_wp2
              go_round
              case rel => exact ⟨k + 1, by omega, by go_num, HS⟩
              case measure => simp [intOf]; omega
            · have h95 : (((s[k].toNat : Nat) : Int) != 95) = false := by rw [hn]; rfl
              have hm : ((s[k].toNat : Nat) : Int) < 97 ∧ ((s[k].toNat : Nat) : Int) > 57 ∧ ¬ ((s[k].toNat : Nat) : Int) < 48 := by omega
              obtain ⟨hm1, hm2, hm3⟩ := hm
              have HN := Lib.hid hn
              clear hn
              go_wp2
              go_round
              case rel => exact ⟨k + 1, by omega, by go_num, HS⟩
              case measure => simp [intOf]; omega
          · have HB := Lib.hid (name_bad hlt hg)
            have hn : ¬ ((97 ≤ s[k].toNat ∧ s[k].toNat ≤ 122) ∨ (48 ≤ s[k].toNat ∧ s[k].toNat ≤ 57) ∨ s[k].toNat = 95) := fun h => hg ((nameC_iff _).2 h)
            have h95 : (((s[k].toNat : Nat) : Int) != 95) = true := by
              rw [bne_iff_ne]; omega
            clear hg n0 m0 m1
            rcases name_cases s[k].toNat with hc | hc | hc | hc | hc | hc | hc
            all_goals first | (exfalso; omega) | skip
            all_goals clear hn
            all_goals
              go_wp2
              go_ret
              exact ⟨(ret_bool HB.out).symm, rfl⟩
        · have HB := Lib.hid (name_good h1 h2 (fun j h => HA.out j h (by omega)) hL.out)
          clear n0 m0 m1
          go_wp2
          go_ret
          exact ⟨(ret_bool HB.out).symm, rfl⟩
    · have HB := Lib.hid (name_head h1 h3)
      have n0 : ¬ (97 ≤ (s[0]'h1).toNat ∧ (s[0]'h1).toNat ≤ 122) := fun h => h3 ((letC_iff _).2 h)
      have h2' : ¬ (s.size : Int) > 16 := by omega
      have h1' : ¬ (s.size : Int) < 1 := by omega
      clear h3
      rcases Nat.lt_or_ge (s[0]'h1).toNat 97 with h5 | h5
      · have m0 : ((s[0]'h1).toNat : Int) < 97 := by omega
        clear n0
        go_enter Tryd.func49, Tryd.ntmps49
        go_wp2
        go_ret
        exact ⟨(ret_bool HB.out).symm, rfl⟩
      · have m0 : ¬ ((s[0]'h1).toNat : Int) < 97 := by omega
        have m1 : ((s[0]'h1).toNat : Int) > 122 := by omega
        clear n0
        go_enter Tryd.func49, Tryd.ntmps49
        go_wp2
        go_ret
        exact ⟨(ret_bool HB.out).symm, rfl⟩
  · have HB := Lib.hid (name_len h1)
    by_cases h3 : s.size < 1
    · have h3' : (s.size : Int) < 1 := by omega
      clear h1
      go_enter Tryd.func49, Tryd.ntmps49
      go_wp2
      go_ret
      exact ⟨(ret_bool HB.out).symm, rfl⟩
    · have h3' : ¬ (s.size : Int) < 1 := by omega
      have h4' : (s.size : Int) > 16 := by omega
      clear h1
      go_enter Tryd.func49, Tryd.ntmps49
      go_wp2
      go_ret
      exact ⟨(ret_bool HB.out).symm, rfl⟩
set_option maxHeartbeats 2000000 in
theorem rname_any (s : ByteArray) (w : World) (hs : s.size ≤ 9223372036854775807) : Calls Tryd.prog 36 #[.string s] w fun e w' => e = .returned (.bool (nameB s.data.toList)) ∧ w = w' := by
  go_enter Tryd.func36, Tryd.ntmps36
  go_wp2
  go_loop [3] (fun i => ∃ k : Nat, k ≤ s.size ∧ i = .int .i64 k ∧ Hid (∀ j (h : j < s.size), j < k → nameC s[j] = true ∧ (j = 0 → letC s[j] = true))) (fun i => s.size - (intOf i).toNat)
  case atStart => exact ⟨0, Nat.zero_le _, rfl, Lib.hid (fun j _ h => absurd h (by omega))⟩
  case round =>
    obtain ⟨k, hk, rfl, HA⟩ := hrel
    by_cases hlt : k < s.size
    · by_cases hg : nameC s[k] = true ∧ (k = 0 → letC s[k] = true)
      · have HS : Hid (∀ j (h : j < s.size), j < k + 1 → nameC s[j] = true ∧ (j = 0 → letC s[j] = true)) := Lib.hid (fun j h hj => by
          rcases Nat.lt_or_ge j k with h5 | h5
          · exact HA.out j h h5
          · obtain rfl : j = k := by omega
            exact hg)
        have hn := (nameC_iff _).1 hg.1
        have hz : k = 0 → (97 ≤ s[k].toNat ∧ s[k].toNat ≤ 122) := fun h => (letC_iff _).1 (hg.2 h)
        clear hg
        by_cases hL : 97 ≤ s[k].toNat ∧ s[k].toNat ≤ 122
        · clear hn hz
          rcases Nat.lt_or_ge s[k].toNat 48 with h | h
          · omega
          · have h1 : ¬ ((s[k].toNat : Nat) : Int) ≤ 57 := by omega
            go_wp2
            go_round
            case rel => exact ⟨k + 1, by omega, by go_num, HS⟩
            case measure => simp [intOf]; omega
        · have hk0 : 0 < k := Nat.pos_of_ne_zero fun h => hL (hz h)
          have hk1 : ((k : Int) == 0) = false := by rw [beq_eq_false_iff_ne]; omega
          clear hz
          by_cases h5 : s[k].toNat = 95
          · have h95 : (((s[k].toNat : Nat) : Int) != 95) = false := by rw [h5]; rfl
            have h1 : ((s[k].toNat : Nat) : Int) < 97 ∧ ¬ ((s[k].toNat : Nat) : Int) ≤ 57 := by omega
            obtain ⟨h1, h2⟩ := h1
            clear hn hL
            have H5 := Lib.hid h5
            clear h5
            go_wp2
            go_round
            case rel => exact ⟨k + 1, by omega, by go_num, HS⟩
            case measure => simp [intOf]; omega
          · have h1 : 48 ≤ ((s[k].toNat : Nat) : Int) ∧ ((s[k].toNat : Nat) : Int) ≤ 57 := by omega
            obtain ⟨h1, h2⟩ := h1
            clear hn hL h5
            go_wp2
            go_round
            case rel => exact ⟨k + 1, by omega, by go_num, HS⟩
            case measure => simp [intOf]; omega
      · have HB : Hid (nameB s.data.toList = false) := Lib.hid (by
          by_cases h1 : nameC s[k] = true
          · have h2 : ¬ (k = 0 → letC s[k] = true) := fun h => hg ⟨h1, h⟩
            have h3 : k = 0 := Nat.eq_zero_of_not_pos fun h => h2 (fun e => by omega)
            subst h3
            exact name_head (by omega) (fun h => h2 (fun _ => h))
          · exact name_bad hlt h1)
        have hn : ¬ (97 ≤ s[k].toNat ∧ s[k].toNat ≤ 122) := fun h => hg ⟨(nameC_iff _).2 (.inl h), fun _ => (letC_iff _).2 h⟩
        have hn2 : k = 0 ∨ ¬ ((48 ≤ s[k].toNat ∧ s[k].toNat ≤ 57) ∨ s[k].toNat = 95) := by
          rcases Nat.eq_zero_or_pos k with h | h
          · exact .inl h
          · exact .inr fun h1 => hg ⟨(nameC_iff _).2 (.inr h1), fun e => by omega⟩
        clear hg
        by_cases hk0 : k = 0
        · subst hk0
          clear hn2
          rcases name_cases (s[0]'hlt).toNat with hc | hc | hc | hc | hc | hc | hc
          all_goals first | (exfalso; omega) | skip
          all_goals clear hn
          all_goals
            go_wp2
            all_goals first
              | (go_ret; exact ⟨(ret_bool HB.out).symm, rfl⟩)
              | (exfalso; simp only [Bool.not_eq_false', decide_eq_true_eq] at *; omega)
        · have hn3 := hn2.resolve_left hk0
          have h95 : (((s[k].toNat : Nat) : Int) != 95) = true := by rw [bne_iff_ne]; omega
          have hk1 : ((k : Int) == 0) = false := by rw [beq_eq_false_iff_ne]; omega
          clear hn2
          rcases name_cases s[k].toNat with hc | hc | hc | hc | hc | hc | hc
          all_goals first | (exfalso; omega) | skip
          all_goals clear hn hn3 hk0
          all_goals
            go_wp2
            all_goals first
              | (go_ret; exact ⟨(ret_bool HB.out).symm, rfl⟩)
              | (exfalso; simp only [Bool.not_eq_false', decide_eq_true_eq] at *; omega)
    · by_cases h1 : 1 ≤ s.size
      · have HB : Hid (nameB s.data.toList = decide ((s.size : Int) ≤ 16)) := Lib.hid (by
          by_cases h2 : s.size ≤ 16
          · rw [name_good h1 h2 (fun j h => (HA.out j h (by omega)).1) ((HA.out 0 h1 (by omega)).2 rfl), decide_eq_true (by omega)]
          · rw [name_len (s := s) (by omega), decide_eq_false (by omega)])
        go_wp2
        go_ret
        exact ⟨(ret_bool HB.out).symm, rfl⟩
      · have HB := Lib.hid (name_len (s := s) (by omega))
        go_wp2
        go_ret
        exact ⟨(ret_bool HB.out).symm, rfl⟩

set_option maxHeartbeats 2000000 in
theorem rvalue_any (s : ByteArray) (w : World) (hs : s.size ≤ 9223372036854775807) : Calls Tryd.prog 37 #[.string s] w fun e w' => e = .returned (.bool (valueB s.data.toList)) ∧ w = w' := by
  go_enter Tryd.func37, Tryd.ntmps37
  go_wp2
  go_loop [3] (fun i => ∃ k : Nat, k ≤ s.size ∧ i = .int .i64 k ∧ Hid (∀ j (h : j < s.size), j < k → valC s[j] = true)) (fun i => s.size - (intOf i).toNat)
  case atStart => exact ⟨0, Nat.zero_le _, rfl, Lib.hid (fun j _ h => absurd h (by omega))⟩
  case round =>
    obtain ⟨k, hk, rfl, HA⟩ := hrel
    by_cases hlt : k < s.size
    · have hb (m : Nat) : ((((s[k].toNat : Nat) : Int) == (m : Int)) = true ↔ s[k].toNat = m) := by rw [beq_iff_eq]; omega
      by_cases hg : valC s[k] = true
      · have HS : Hid (∀ j (h : j < s.size), j < k + 1 → valC s[j] = true) := Lib.hid (fun j h hj => by
          rcases Nat.lt_or_ge j k with h5 | h5
          · exact HA.out j h h5
          · obtain rfl : j = k := by omega
            exact hg)
        have hn := (valC_iff _).1 hg
        have e44 : (((s[k].toNat : Nat) : Int) == 44) = false := by rw [beq_eq_false_iff_ne]; omega
        have e61 : (((s[k].toNat : Nat) : Int) == 61) = false := by rw [beq_eq_false_iff_ne]; omega
        have e33 : (((s[k].toNat : Nat) : Int) == 33) = false := by rw [beq_eq_false_iff_ne]; omega
        have e126 : (((s[k].toNat : Nat) : Int) == 126) = false := by rw [beq_eq_false_iff_ne]; omega
        have h1 : 33 ≤ ((s[k].toNat : Nat) : Int) ∧ ((s[k].toNat : Nat) : Int) ≤ 126 := by omega
        obtain ⟨h1, h2⟩ := h1
        clear hg hn hb
        go_wp2
        go_round
        case rel => exact ⟨k + 1, by omega, by go_num, HS⟩
        case measure => simp [intOf]; omega
      · have HB := Lib.hid (value_bad hlt hg)
        have hn : ¬ (33 ≤ s[k].toNat ∧ s[k].toNat ≤ 126 ∧ s[k].toNat ≠ 44 ∧ s[k].toNat ≠ 61 ∧ s[k].toNat ≠ 33 ∧ s[k].toNat ≠ 126) := fun h => hg ((valC_iff _).2 h)
        clear hg hb
        obtain ⟨n, hn0⟩ : ∃ n : Nat, s[k].toNat = n := ⟨_, rfl⟩
        by_cases h1 : n < 33
        · have h1' : ((s[k].toNat : Nat) : Int) < 33 := by omega
          clear hn hn0
          go_wp2
          go_ret
          exact ⟨(ret_bool HB.out).symm, rfl⟩
        by_cases h2 : 126 < n
        · have h1' : ¬ ((s[k].toNat : Nat) : Int) < 33 := by omega
          have h2' : 126 < ((s[k].toNat : Nat) : Int) := by omega
          clear hn hn0
          go_wp2
          go_ret
          exact ⟨(ret_bool HB.out).symm, rfl⟩
        have h3 : n = 44 ∨ n = 61 ∨ n = 33 ∨ n = 126 := by omega
        have g1 : ¬ ((s[k].toNat : Nat) : Int) < 33 := by omega
        have g2 : ((s[k].toNat : Nat) : Int) ≤ 126 := by omega
        have e44 : (((s[k].toNat : Nat) : Int) == 44) = decide (n = 44) := by rw [hn0, Bool.eq_iff_iff, beq_iff_eq, decide_eq_true_eq]; omega
        have e61 : (((s[k].toNat : Nat) : Int) == 61) = decide (n = 61) := by rw [hn0, Bool.eq_iff_iff, beq_iff_eq, decide_eq_true_eq]; omega
        have e33 : (((s[k].toNat : Nat) : Int) == 33) = decide (n = 33) := by rw [hn0, Bool.eq_iff_iff, beq_iff_eq, decide_eq_true_eq]; omega
        have e126 : (((s[k].toNat : Nat) : Int) == 126) = decide (n = 126) := by rw [hn0, Bool.eq_iff_iff, beq_iff_eq, decide_eq_true_eq]; omega
        clear hn h1 h2 hn0
        rcases h3 with rfl | rfl | rfl | rfl
        all_goals
          simp only [decide_true, Nat.reduceEqDiff, decide_false] at e44 e61 e33 e126
          go_wp2
          go_ret
          exact ⟨(ret_bool HB.out).symm, rfl⟩
    · have HB : Hid (valueB s.data.toList = decide ((s.size : Int) ≤ 32)) := Lib.hid (by
        rw [value_is (s := s) (fun j h => HA.out j h (by omega))]
        exact decide_eq_decide.2 (by omega))
      go_wp2
      go_ret
      exact ⟨(ret_bool HB.out).symm, rfl⟩

/-- The letters that no value has. -/
theorem no_letter (c : UInt8) : Lib.indexByte [44, 61, 33, 126] c = if c = 44 then 0 else if c = 61 then 1 else if c = 33 then 2 else if c = 126 then 3 else -1 := by
  have h : ∀ n : Fin 256, Lib.indexByte [44, 61, 33, 126] (UInt8.ofNat n.val) = if UInt8.ofNat n.val = 44 then 0 else if UInt8.ofNat n.val = 61 then 1 else if UInt8.ofNat n.val = 33 then 2 else if UInt8.ofNat n.val = 126 then 3 else -1 := by decide +kernel
  have := h ⟨c.toNat, c.toNat_lt⟩
  simpa using this
set_option maxHeartbeats 2000000 in
theorem isValue_any (s : ByteArray) (w : World) : Calls Tryd.prog 50 #[.string s] w fun e w' => e = .returned (.bool (valueB s.data.toList)) ∧ w = w' := by
  by_cases h32 : s.size ≤ 32
  · have h32' : ¬ (s.size : Int) > 32 := by omega
    have hs : s.size ≤ 9223372036854775807 := by omega
    go_enter Tryd.func50, Tryd.ntmps50
    go_wp2_with fail
    go_loop [9] (fun i => ∃ k : Nat, k ≤ s.size ∧ i = .int .i64 k ∧ Hid (∀ j (h : j < s.size), j < k → valC s[j] = true)) (fun i => s.size - (intOf i).toNat)
    case atStart => exact ⟨0, Nat.zero_le _, rfl, Lib.hid (fun j _ h => absurd h (by omega))⟩
    case round =>
      obtain ⟨k, hk, rfl, HA⟩ := hrel
      by_cases hlt : k < s.size
      · have HI := Lib.hid (no_letter s[k])
        have hne (m : UInt8) : s[k] = m ↔ s[k].toNat = m.toNat := UInt8.toNat_inj.symm
        by_cases hg : valC s[k] = true
        · have HS : Hid (∀ j (h : j < s.size), j < k + 1 → valC s[j] = true) := Lib.hid (fun j h hj => by
            rcases Nat.lt_or_ge j k with h5 | h5
            · exact HA.out j h h5
            · obtain rfl : j = k := by omega
              exact hg)
          have hn := (valC_iff _).1 hg
          have hI : Hid (Lib.indexByte [44, 61, 33, 126] s[k] = -1) := Lib.hid (by
            rw [HI.out, if_neg (by rw [hne]; exact hn.2.2.1), if_neg (by rw [hne]; exact hn.2.2.2.1), if_neg (by rw [hne]; exact hn.2.2.2.2.1), if_neg (by rw [hne]; exact hn.2.2.2.2.2)])
          have h1 : 33 ≤ ((s[k].toNat : Nat) : Int) ∧ ((s[k].toNat : Nat) : Int) ≤ 126 := by omega
          obtain ⟨h1, h2⟩ := h1
          clear hg hn HI hne
          go_wp2_with fail
          refine (Tryd.strings_IndexByte ⟨#[44, 61, 33, 126]⟩ ((s[k].toNat : Nat) : Int) w).mono ?_
          rintro e w' ⟨rfl, rfl⟩
          have hI2 := hI.out
          go_wp2_with fail
          clear hI2
          go_round
          case rel => exact ⟨k + 1, by omega, by go_num, HS⟩
          case measure => simp [intOf]; omega
        · have HB := Lib.hid (value_bad hlt hg)
          have hn : ¬ (33 ≤ s[k].toNat ∧ s[k].toNat ≤ 126 ∧ s[k].toNat ≠ 44 ∧ s[k].toNat ≠ 61 ∧ s[k].toNat ≠ 33 ∧ s[k].toNat ≠ 126) := fun h => hg ((valC_iff _).2 h)
          clear hg
          by_cases h1 : s[k].toNat < 33
          · have h1' : ((s[k].toNat : Nat) : Int) < 33 := by omega
            clear hn hne
            go_wp2_with fail
            go_ret
            exact ⟨(ret_bool HB.out).symm, rfl⟩
          by_cases h2 : 126 < s[k].toNat
          · have h1' : ¬ ((s[k].toNat : Nat) : Int) < 33 := by omega
            have h2' : 126 < ((s[k].toNat : Nat) : Int) := by omega
            clear hn hne
            go_wp2_with fail
            go_ret
            exact ⟨(ret_bool HB.out).symm, rfl⟩
          have hI : Hid (∃ n : Nat, Lib.indexByte [44, 61, 33, 126] s[k] = n) := Lib.hid (by
            rw [HI.out]
            split
            · exact ⟨0, rfl⟩
            split
            · exact ⟨1, rfl⟩
            split
            · exact ⟨2, rfl⟩
            split
            · exact ⟨3, rfl⟩
            · rename_i g1 g2 g3 g4
              rw [hne] at g1 g2 g3 g4
              exact absurd ⟨by omega, by omega, g1, g2, g3, g4⟩ hn)
          obtain ⟨n, hI⟩ := hI.out
          have h1' : ¬ ((s[k].toNat : Nat) : Int) < 33 := by omega
          have h2' : ¬ 126 < ((s[k].toNat : Nat) : Int) := by omega
          have HI2 := Lib.hid hI
          clear hn hne HI hI h1 h2
          go_wp2_with fail
          refine (Tryd.strings_IndexByte ⟨#[44, 61, 33, 126]⟩ ((s[k].toNat : Nat) : Int) w).mono ?_
          rintro e w' ⟨rfl, rfl⟩
          have hI2 := HI2.out
          go_wp2_with fail
          go_ret
          exact ⟨(ret_bool HB.out).symm, rfl⟩
      · have HB : Hid (valueB s.data.toList = true) := Lib.hid (by
          rw [value_is (s := s) (fun j h => HA.out j h (by omega))]
          exact decide_eq_true h32)
        go_wp2_with fail
        go_ret
        exact ⟨(ret_bool HB.out).symm, rfl⟩
  · have HB := Lib.hid (value_len h32)
    have h32' : (s.size : Int) > 32 := by omega
    clear h32
    go_enter Tryd.func50, Tryd.ntmps50
    go_wp2_with fail
    go_ret
    exact ⟨(ret_bool HB.out).symm, rfl⟩
end Go.Proofs.YtmfocgaojbebgaaDoor
