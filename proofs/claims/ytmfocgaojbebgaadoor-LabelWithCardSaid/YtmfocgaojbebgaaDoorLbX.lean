/- Cond of the reference. Condition: a text has at most a million letters. -/
import Derived.Test.YtmfocgaojbebgaaDoorLbV
import Derived.Test.YtmfocgaojbebgaaDoorLbQ
namespace Go.Proofs.YtmfocgaojbebgaaDoor
open Go.RowKit

theorem opAt_le : ∀ s : Tx, opAt s ≤ s.length
  | [] => Nat.le_refl _
  | c :: s => by
    rw [opAt]
    split
    · omega
    · have := opAt_le s
      rw [List.length_cons]; omega
theorem opAt_hit : ∀ {s : Tx} {j : Nat} (h : j < s.length), j ≤ opAt s → isOp s[j] = true → opAt s = j
  | c :: s, 0, _, _, ho => by
    rw [opAt, if_pos (by simpa using ho)]
  | c :: s, j + 1, h, hj, ho => by
    rw [opAt] at hj ⊢
    split at hj
    · omega
    · rename_i hc
      rw [if_neg hc, opAt_hit (s := s) (j := j) (by simpa using h) (by omega) (by simpa using ho)]
theorem opAt_miss : ∀ {s : Tx} {j : Nat} (h : j < s.length), j ≤ opAt s → isOp s[j] = false → j + 1 ≤ opAt s
  | c :: s, 0, _, _, ho => by
    rw [opAt, if_neg (by simpa using ho)]
    omega
  | c :: s, j + 1, h, hj, ho => by
    rw [opAt] at hj ⊢
    split at hj
    · omega
    · rename_i hc
      rw [if_neg hc]
      have := opAt_miss (s := s) (j := j) (by simpa using h) (by omega) (by simpa using ho)
      omega
theorem isOp_iff (c : UInt8) : isOp c = true ↔ c.toNat = 61 ∨ c.toNat = 33 ∨ c.toNat = 126 := by
  unfold isOp
  rw [Bool.or_eq_true, Bool.or_eq_true, beq_iff_eq, beq_iff_eq, beq_iff_eq, ← UInt8.toNat_inj, ← UInt8.toNat_inj, ← UInt8.toNat_inj]
  constructor
  · rintro ((h | h) | h)
    · exact .inl h
    · exact .inr (.inl h)
    · exact .inr (.inr h)
  · rintro (h | h | h)
    · exact .inl (.inl h)
    · exact .inl (.inr h)
    · exact .inr h
theorem opAt_isOp : ∀ {s : Tx} (h : opAt s < s.length), isOp s[opAt s] = true
  | [], h => by simp at h
  | c :: s, h => by
    by_cases hc : isOp c = true
    · have e : opAt (c :: s) = 0 := by rw [opAt, if_pos hc]
      simp only [e, List.getElem_cons_zero]
      exact hc
    · have e : opAt (c :: s) = opAt s + 1 := by rw [opAt, if_neg hc]
      simp only [e, List.length_cons] at h
      simp only [e, List.getElem_cons_succ]
      exact opAt_isOp (s := s) (by omega)
def okS (g : Tx) : Bool := g == [61] || g == [126] || g == [33, 61] || g == [33, 126]
def opL (t : Tx) : Nat := if t.headD 0 == 33 then 2 else 1
theorem signT_op (t : Tx) : signT t = if opL t ≤ t.length ∧ okS (t.take (opL t)) = true then some (t.take (opL t), t.drop (opL t)) else none := by
  unfold signT
  split
  · simp [opL, okS]
  · simp [opL, okS]
  · simp [opL, okS]
  · simp [opL, okS]
  · rename_i n1 n2 n3 n4
    refine (if_neg fun ⟨_, h⟩ => ?_).symm
    have e := List.take_append_drop (opL t) t
    unfold okS at h
    simp only [Bool.or_eq_true, beq_iff_eq] at h
    rcases h with ((h | h) | h) | h
    · rw [h] at e; exact n3 _ e.symm
    · rw [h] at e; exact n4 _ e.symm
    · rw [h] at e; exact n1 _ e.symm
    · rw [h] at e; exact n2 _ e.symm
theorem condT_op (s : Tx) : condT s = if opL (s.drop (opAt s)) ≤ s.length - opAt s ∧ nameB (s.take (opAt s)) = true ∧ valueB (s.drop (opAt s + opL (s.drop (opAt s)))) = true ∧ okS ((s.drop (opAt s)).take (opL (s.drop (opAt s)))) = true
    then some (s.take (opAt s), (s.drop (opAt s)).take (opL (s.drop (opAt s))), s.drop (opAt s + opL (s.drop (opAt s)))) else none := by
  unfold condT
  rw [signT_op, List.length_drop, List.drop_drop]
  generalize opL (s.drop (opAt s)) = o
  by_cases h : o ≤ s.length - opAt s ∧ okS ((s.drop (opAt s)).take o) = true
  · rw [if_pos h]
    by_cases h2 : nameB (s.take (opAt s)) = true ∧ valueB (s.drop (opAt s + o)) = true
    · rw [if_pos ⟨h.1, h2.1, h2.2, h.2⟩]
      simp only [h2.1, h2.2, Bool.and_self, if_true]
    · rw [if_neg (fun h3 => h2 ⟨h3.2.1, h3.2.2.1⟩)]
      simp only
      rw [if_neg (by simpa using h2)]
  · rw [if_neg h, if_neg (fun h3 => h ⟨h3.1, h3.2.2.2⟩)]
set_option maxRecDepth 100000 in
set_option maxHeartbeats 8000000 in
theorem rCond_b (b : ByteArray) (w : World) (hs : b.size ≤ 1000000) : Calls Tryd.prog 17 #[.string b] w (CondP b.data.toList w) := by
  have hbl := ba_len b
  obtain ⟨s, hss⟩ : ∃ s, b.data.toList = s := ⟨_, rfl⟩
  rw [hss] at hbl ⊢
  have HBL := Lib.hid hbl
  have HSS := Lib.hid hss
  clear hbl hss
  have hsl : s.length = b.size := HBL.out
  go_enter Tryd.func17, Tryd.ntmps17
  go_upto_block 0 with fail
  obtain ⟨u, hu⟩ : ∃ u, w.alloc (.cells #[.string ⟨#[]⟩, .string ⟨#[]⟩, .string ⟨#[]⟩] 39) = u := ⟨_, rfl⟩
  rw [hu]
  have HU := Lib.hid hu
  clear hu
  go_cut [4] (fun v wr => v = .int .i64 (opAt s) ∧ u = wr)
  case first =>
    go_wp2_with fail
    go_loopg [4] b.size (fun q i wr => ∃ j : Nat, q = b.size - j ∧ j ≤ b.size ∧ i = .int .i64 j ∧ Hid (j ≤ opAt s) ∧ u = wr)
    case atStart => exact ⟨0, by omega, by omega, rfl, Lib.hid (Nat.zero_le _), rfl⟩
    case round =>
      obtain ⟨j, hk, hj, rfl, HJ, rfl⟩ := hrel
      have HK := Lib.hid hk
      clear hk
      by_cases hlt : j < b.size
      · have hlt' : j < s.length := by omega
        have hg : s[j] = b[j] := by have := ba_get b j hlt; rw [this]; simp only [HSS.out]
        by_cases hc : isOp s[j] = true
        · have HE := Lib.hid (opAt_hit hlt' HJ.out hc)
          rw [hg, isOp_iff] at hc
          clear hg
          rcases hc with hc | hc | hc
          · have q1 : (((b[j].toNat : Nat) : Int) != 61) = false := by rw [hc]; rfl
            clear hc
            go_wp2_with fail
            go_meet
            exact ⟨by rw [HE.out], rfl⟩
          · have q1 : (((b[j].toNat : Nat) : Int) != 61) = true := by rw [hc]; rfl
            have q2 : (((b[j].toNat : Nat) : Int) != 33) = false := by rw [hc]; rfl
            clear hc
            go_wp2_with fail
            go_meet
            exact ⟨by rw [HE.out], rfl⟩
          · have q1 : (((b[j].toNat : Nat) : Int) != 61) = true := by rw [hc]; rfl
            have q2 : (((b[j].toNat : Nat) : Int) != 33) = true := by rw [hc]; rfl
            have q3 : (((b[j].toNat : Nat) : Int) != 126) = false := by rw [hc]; rfl
            clear hc
            go_wp2_with fail
            go_meet
            exact ⟨by rw [HE.out], rfl⟩
        · have HN := Lib.hid (opAt_miss hlt' HJ.out (by simpa using hc))
          rw [hg, isOp_iff] at hc
          have q1 : (((b[j].toNat : Nat) : Int) != 61) = true := by rw [bne_iff_ne]; omega
          have q2 : (((b[j].toNat : Nat) : Int) != 33) = true := by rw [bne_iff_ne]; omega
          have q3 : (((b[j].toNat : Nat) : Int) != 126) = true := by rw [bne_iff_ne]; omega
          clear hg hc
          go_wp2_with fail
          go_roundg (b.size - (j + 1))
          case measure => have := HK.out; omega
          case rel => exact ⟨j + 1, rfl, by omega, by go_num, HN, rfl⟩
      · have HE : Hid (opAt s = j) := Lib.hid (by have := opAt_le s; have := HJ.out; omega)
        go_wp2_with fail
        go_meet
        exact ⟨by rw [HE.out], rfl⟩
  case rest =>
    obtain ⟨rfl, rfl⟩ := hcut
    have hle := opAt_le s
    have HC := Lib.hid (condT_op s)
    have hIs := fun h => opAt_isOp (s := s) h
    have HO := Lib.hid hIs
    clear hIs
    generalize opAt s = k at *
    obtain ⟨o, ho⟩ : ∃ o, opL (s.drop k) = o := ⟨_, rfl⟩
    rw [ho] at HC
    have HOL := Lib.hid ho
    clear ho
    have hbk : Blk u w.heap.size 39 #[.string ⟨#[]⟩, .string ⟨#[]⟩, .string ⟨#[]⟩] := by rw [← HU.out]; exact Blk.new w _ _
    have hbu : Below w.heap.size w u := by rw [← HU.out]; exact (Below.refl _ _).alloc (Nat.le_refl _) _
    have HBK := Lib.hid hbk
    have HBU := Lib.hid hbu
    have hru := hbk.lt
    clear hbk hbu
    have hob : o = if k < b.size then (if (s.drop k).headD 0 == 33 then 2 else 1) else 1 := by
      rw [← HOL.out]
      unfold opL
      by_cases h : k < b.size
      · rw [if_pos h]
      · rw [if_neg h, List.drop_of_length_le (by omega)]; rfl
    have H0 := Lib.hid hob
    clear hob
    obtain ⟨q, hq⟩ : ∃ q, (decide (k < b.size) && ((s.drop k).headD 0 == 33)) = q := ⟨_, rfl⟩
    have HQ := Lib.hid hq
    clear hq
    have hcut5 : o = if q then 2 else 1 := by
      rw [H0.out, ← HQ.out]
      by_cases h : k < b.size
      · simp [h]
      · simp [h]
    have H5 := Lib.hid hcut5
    clear hcut5
    have hbl : b.size ≤ 1000000 := hs
    go_upto_region 5 with fail
    go_cut [40] (fun v wr => v = .bool q ∧ u = wr)
    case first =>
      by_cases h : k < b.size
      · have hg : (s.drop k).headD 0 = b[k] := by
          have h' : k < s.length := by omega
          rw [List.drop_eq_getElem_cons h']
          have := ba_get b k h
          rw [this]
          simp only [HSS.out, List.headD_cons]
        by_cases hc : b[k].toNat = 33
        · have q1 : (((b[k].toNat : Nat) : Int) == 33) = true := by rw [hc]; rfl
          have HQ2 : Hid (q = true) := Lib.hid (by
            have e : b[k] = 33 := UInt8.toNat_inj.1 hc
            rw [← HQ.out, hg, e, decide_eq_true h]; rfl)
          clear hc hg
          go_wp2_with fail
          go_meet
          exact ⟨by rw [HQ2.out], rfl⟩
        · have q1 : (((b[k].toNat : Nat) : Int) == 33) = false := by rw [beq_eq_false_iff_ne]; omega
          have HQ2 : Hid (q = false) := Lib.hid (by
            have e : ¬ b[k] = 33 := fun h => hc (by rw [h]; rfl)
            rw [← HQ.out, hg, beq_eq_false_iff_ne.2 e, Bool.and_false])
          clear hc hg
          go_wp2_with fail
          go_meet
          exact ⟨by rw [HQ2.out], rfl⟩
      · have HQ2 : Hid (q = false) := Lib.hid (by rw [← HQ.out, decide_eq_false h]; rfl)
        go_wp2_with fail
        go_meet
        exact ⟨by rw [HQ2.out], rfl⟩
    case rest =>
      obtain ⟨rfl, rfl⟩ := hcut
      go_upto_if 40 with (fail)
      go_cut [5] (fun v wr => v = .int .i64 o ∧ u = wr)
      case first =>
        cases q
        · have HO5 := Lib.hid H5.out
          go_wp2_with fail
          go_meet
          exact ⟨by rw [HO5.out]; rfl, rfl⟩
        · have HO5 := Lib.hid H5.out
          go_wp2_with fail
          go_meet
          exact ⟨by rw [HO5.out]; rfl, rfl⟩
      case rest =>
        obtain ⟨rfl, rfl⟩ := hcut
        have hoo : 1 ≤ o ∧ o ≤ 2 := by rw [H5.out]; cases q <;> simp
        have b0 := HBK.out.cell 0
        have b1 := HBK.out.cell 1
        have b2 := HBK.out.cell 2
        have z0 := HBK.out.frozen 0
        have z1 := HBK.out.frozen 1
        have z2 := HBK.out.frozen 2
        simp only [List.getElem?_toArray, List.getElem?_cons_succ, List.getElem?_cons_zero] at b0 b1 b2
        clear HO HOL H0 HQ H5
        by_cases hko : k + o ≤ b.size
        · have e1 : b.extract 0 k = bsOf (s.take k) := by rw [ba_cut, HSS.out]; rfl
          have e2 : b.extract k (k + o) = bsOf ((s.drop k).take o) := by rw [ba_cut, HSS.out, Nat.add_sub_cancel_left]
          have e3 : b.extract (k + o) b.size = bsOf (s.drop (k + o)) := by rw [ba_rest, HSS.out]
          have l1 : (s.take k).length ≤ 9223372036854775807 := by rw [List.length_take]; omega
          have l3 : (s.drop (k + o)).length ≤ 9223372036854775807 := by rw [List.length_drop]; omega
          have hc4 : o ≤ s.length - k := by omega
          have HC := Lib.hid (show condT s = if nameB (s.take k) = true ∧ valueB (s.drop (k + o)) = true ∧ okS ((s.drop k).take o) = true then some (s.take k, (s.drop k).take o, s.drop (k + o)) else none by rw [HC.out]; simp only [hc4, true_and])
          generalize s.take k = nm at *
          generalize s.drop (k + o) = vl at *
          generalize (s.drop k).take o = sg at *
          have CN := Lib.hid (fun W => rname_t nm W l1)
          have CV := Lib.hid (fun W => rvalue_t vl W l3)
          obtain ⟨nb, hn⟩ : ∃ q, nameB nm = q := ⟨_, rfl⟩
          obtain ⟨vb, hv⟩ : ∃ q, valueB vl = q := ⟨_, rfl⟩
          rw [hn] at CN HC
          rw [hv] at CV HC
          clear hn hv l1 l3 hc4
          have tg := bsOf_toList sg
          cases nb
          · have HN : Hid (condT s = none) := Lib.hid (by rw [HC.out]; simp)
            go_wp2_with fail
            refine (CN.out _).mono ?_
            rintro e w1 ⟨rfl, rfl⟩
            go_wp2_with fail
            refine bodyPost_ret (by simp [results, Tryd.results17, go_sem, *]; try rfl) rfl ?_
            exact CondP.no HN.out [] [] [] (by have := HBU.out; (repeat' (first | (with_reducible exact Below.refl _ _) | (with_reducible refine Below.alloc ?_ ?_ _) | (with_reducible refine Below.drew ?_) | (with_reducible refine below_drewN ?_ _) | (with_reducible refine Below.setCell ?_ ?_ _) | (with_reducible refine below_of (by assumption) ?_ ?_) | go_size)))
          · cases vb
            · have HN : Hid (condT s = none) := Lib.hid (by rw [HC.out]; simp)
              go_wp2_with fail
              refine (CN.out _).mono ?_
              rintro e w1 ⟨rfl, rfl⟩
              go_wp2_with fail
              refine (CV.out _).mono ?_
              rintro e w1 ⟨rfl, rfl⟩
              go_wp2_with fail
              refine bodyPost_ret (by simp [results, Tryd.results17, go_sem, *]; try rfl) rfl ?_
              exact CondP.no HN.out [] [] [] (by have := HBU.out; (repeat' (first | (with_reducible exact Below.refl _ _) | (with_reducible refine Below.alloc ?_ ?_ _) | (with_reducible refine Below.drew ?_) | (with_reducible refine below_drewN ?_ _) | (with_reducible refine Below.setCell ?_ ?_ _) | (with_reducible refine below_of (by assumption) ?_ ?_) | go_size)))
            · obtain ⟨q1, f1⟩ : ∃ x, (sg == ([61] : Tx)) = x := ⟨_, rfl⟩
              obtain ⟨q2, f2⟩ : ∃ x, (sg == ([126] : Tx)) = x := ⟨_, rfl⟩
              obtain ⟨q3, f3⟩ : ∃ x, (sg == ([33, 61] : Tx)) = x := ⟨_, rfl⟩
              obtain ⟨q4, f4⟩ : ∃ x, (sg == ([33, 126] : Tx)) = x := ⟨_, rfl⟩
              have HS : Hid (okS sg = (q1 || q2 || q3 || q4)) := Lib.hid (by unfold okS; rw [f1, f2, f3, f4])
              have hq : q1 = true ∨ (q1 = false ∧ q2 = true) ∨ (q1 = false ∧ q2 = false ∧ q3 = true) ∨ (q1 = false ∧ q2 = false ∧ q3 = false ∧ q4 = true) ∨ (q1 = false ∧ q2 = false ∧ q3 = false ∧ q4 = false) := by
                cases q1 <;> cases q2 <;> cases q3 <;> cases q4 <;> simp
              by_cases hok : okS sg = true
              · have HN : Hid (condT s = some (nm, sg, vl)) := Lib.hid (by rw [HC.out, if_pos ⟨rfl, rfl, hok⟩])
                rcases hq with rfl | ⟨rfl, rfl⟩ | ⟨rfl, rfl, rfl⟩ | ⟨rfl, rfl, rfl, rfl⟩ | ⟨rfl, rfl, rfl, rfl⟩
                case inr.inr.inr.inr => rw [HS.out] at hok; cases hok
                all_goals
                  clear hok
                  go_wp2_with fail
                  refine (CN.out _).mono ?_
                  rintro e w1 ⟨rfl, rfl⟩
                  go_wp2_with fail
                  refine (CV.out _).mono ?_
                  rintro e w1 ⟨rfl, rfl⟩
                  go_wp2_with fail
                  go_region
                  go_wp2_with fail
                  refine bodyPost_ret (by simp [results, Tryd.results17, go_sem, *]; try rfl) rfl ?_
                  exact CondP.yes HN.out (by have := HBU.out; (repeat' (first | (with_reducible exact Below.refl _ _) | (with_reducible refine Below.alloc ?_ ?_ _) | (with_reducible refine Below.drew ?_) | (with_reducible refine below_drewN ?_ _) | (with_reducible refine Below.setCell ?_ ?_ _) | (with_reducible refine below_of (by assumption) ?_ ?_) | go_size)))
              · have HN : Hid (condT s = none) := Lib.hid (by rw [HC.out, if_neg (fun h => hok h.2.2)])
                rcases hq with rfl | ⟨rfl, rfl⟩ | ⟨rfl, rfl, rfl⟩ | ⟨rfl, rfl, rfl, rfl⟩ | ⟨rfl, rfl, rfl, rfl⟩
                case inr.inr.inr.inr =>
                  clear hok
                  go_wp2_with fail
                  refine (CN.out _).mono ?_
                  rintro e w1 ⟨rfl, rfl⟩
                  go_wp2_with fail
                  refine (CV.out _).mono ?_
                  rintro e w1 ⟨rfl, rfl⟩
                  go_wp2_with fail
                  refine bodyPost_ret (by simp [results, Tryd.results17, go_sem, *]; try rfl) rfl ?_
                  exact CondP.no HN.out [] [] [] (by have := HBU.out; (repeat' (first | (with_reducible exact Below.refl _ _) | (with_reducible refine Below.alloc ?_ ?_ _) | (with_reducible refine Below.drew ?_) | (with_reducible refine below_drewN ?_ _) | (with_reducible refine Below.setCell ?_ ?_ _) | (with_reducible refine below_of (by assumption) ?_ ?_) | go_size)))
                all_goals exact absurd (by rw [HS.out]; rfl) hok
        · have HN : Hid (condT s = none) := Lib.hid (by rw [HC.out, if_neg (by omega)])
          go_wp2_with fail
          refine bodyPost_ret (by simp [results, Tryd.results17, go_sem, *]; try rfl) rfl ?_
          exact CondP.no HN.out [] [] [] (by have := HBU.out; (repeat' (first | (with_reducible exact Below.refl _ _) | (with_reducible refine Below.alloc ?_ ?_ _) | (with_reducible refine Below.drew ?_) | (with_reducible refine below_drewN ?_ _) | (with_reducible refine Below.setCell ?_ ?_ _) | (with_reducible refine below_of (by assumption) ?_ ?_) | go_size)))
end Go.Proofs.YtmfocgaojbebgaaDoor
