/- Between and At, of the reference. Conditions: what a stack keeps. -/
import Derived.Test.YtigmncogjbbmhaaKlO
namespace Go.Proofs.Ytigmncogjbbmhaa
open Go.RowKit

set_option maxRecDepth 100000 in
set_option maxHeartbeats 8000000 in
theorem rbetween_any {F : Nat → Prop} {g k led a : Nat} {lv : Value} {vs : List Sv} {L : LL} (v : Int) (w : World) (hs : Rst F w g k led lv vs L) (hok : PkOk (L, led, a)) :
    Calls Try.prog 34 #[.pointer (some ⟨g, 0, none⟩), .int .i64 v] w fun e w' => e = .returned (.tuple #[.int .u64 (lessL L v : Nat), .int .u64 (uptoL L v : Nat)]) ∧ w = w' := by
  obtain ⟨A, c, elv, hc1, hc2, _⟩ := hs.form
  have c1 := hs.cell1
  have HS := Lib.hid hs
  have hlenL := hok.lenL
  have hcnt := hok.cntL
  have HTL := Lib.hid (fun p h i (hh : h < L.length) => Nat.le_trans (cI_le p (i := i) hh) hok.wtL)
  have HC := Lib.hid (fun p => show cF p 1 (L.take L.length) = cF p 1 L by rw [List.take_length])
  clear hs hok
  subst elv
  go_enter Try.func34, Try.ntmps34
  go_wp2_with fail
  go_loopg [6, 7, 8, 9, 10] L.length (fun q n1 n2 p i _ wr => (∃ j : Nat, q = L.length - j ∧ j ≤ L.length ∧ n1 = .int .u64 ((cF (fun x => decide (x < v)) 1 (L.take j) : Nat) : Int) ∧ n2 = .int .u64 ((cF (fun x => decide (x ≤ v)) 1 (L.take j) : Nat) : Int) ∧ p = .int .u64 ((2 ^ j : Nat) : Int) ∧ i = .int .i64 (j : Int)) ∧ w = wr)
  case atStart => exact ⟨⟨0, by omega, by omega, rfl, rfl, rfl, rfl⟩, rfl⟩
  case round =>
    obtain ⟨⟨j, hq, hj, rfl, rfl, rfl, rfl⟩, rfl⟩ := hrel
    have HQ := Lib.hid hq
    have hpb := pow49 (j := j) (by omega)
    have HPE : Hid (2 ^ (j + 1) = 2 * 2 ^ j) := Lib.hid (by rw [Nat.pow_succ]; omega)
    clear hq
    by_cases hjl : j < L.length
    · obtain ⟨gl, cc, sA, sc, elv, hgl, _, _, _, c2, _, ol, _⟩ := HS.out.at_ hjl
      injection elv with elv e2 e3
      subst elv; subst e3
      have hlc : (lvl L j).length ≤ 1000000 := by have := lvl_le_cnt L j; omega
      have HZ1 := Lib.hid (cI_zero (fun x => decide (x < v)) L j)
      have HZ2 := Lib.hid (cI_zero (fun x => decide (x ≤ v)) L j)
      have HA1 := Lib.hid (cI_all (fun x => decide (x < v)) hjl)
      have HA2 := Lib.hid (cI_all (fun x => decide (x ≤ v)) hjl)
      have HB1 := Lib.hid (fun i => HTL.out (fun x => decide (x < v)) j i hjl)
      have HB2 := Lib.hid (fun i => HTL.out (fun x => decide (x ≤ v)) j i hjl)
      have HN1 := Lib.hid (fun (i : Nat) (hi : i < (lvl L j).length) => cI_succ (fun x => decide (x < v)) hi)
      have HN2 := Lib.hid (fun (i : Nat) (hi : i < (lvl L j).length) => cI_succ (fun x => decide (x ≤ v)) hi)
      obtain ⟨_, _, el, hl3, hl4, fl⟩ := ol.form
      injection el with el1 el2 el3
      subst el1; subst el3
      have FL := Lib.hid fl
      rw [← HZ1.out, ← HZ2.out]
      obtain ⟨p, hp⟩ : ∃ p, 2 ^ j = p := ⟨_, rfl⟩
      rw [hp] at hpb HPE HN1 HN2 ⊢
      have HPP := Lib.hid hp
      clear fl el2 ol hp
      go_wp2_with fail
      go_loopg [6, 7, 10] (lvl L j).length (fun q n1 n2 i wr => (∃ t : Nat, q = (lvl L j).length - t ∧ t ≤ (lvl L j).length ∧ n1 = .int .u64 ((cI (fun x => decide (x < v)) L j t : Nat) : Int) ∧ n2 = .int .u64 ((cI (fun x => decide (x ≤ v)) L j t : Nat) : Int) ∧ i = .int .i64 (t : Int)) ∧ w = wr)
      case atStart => exact ⟨⟨0, by omega, by omega, rfl, rfl, rfl⟩, rfl⟩
      case round =>
        obtain ⟨⟨t, hq, ht, rfl, rfl, rfl⟩, rfl⟩ := hrel
        have HQ2 := Lib.hid hq
        clear hq
        by_cases htl : t < (lvl L j).length
        · obtain ⟨ga, oa, eA, hga, ka⟩ := FL.out.i64 htl
          subst eA
          have hb1 := HB1.out (t + 1)
          have hb2 := HB2.out (t + 1)
          have n1 := HN1.out t htl
          have n2 := HN2.out t htl
          obtain ⟨x, hx⟩ : ∃ x, (lvl L j)[t] = x := ⟨_, rfl⟩
          rw [hx] at ka n1 n2
          obtain ⟨y, hy⟩ : ∃ y, (lvl L j).length = y := ⟨_, rfl⟩
          rw [hy] at c2 hl3 htl ht HQ2 hlc
          have HYE := Lib.hid hy
          rw [n1] at hb1
          rw [n2] at hb2
          have N1 := Lib.hid n1
          have N2 := Lib.hid n2
          obtain ⟨a1, ha1⟩ : ∃ a1, cI (fun x => decide (x < v)) L j t = a1 := ⟨_, rfl⟩
          obtain ⟨a2, ha2⟩ : ∃ a2, cI (fun x => decide (x ≤ v)) L j t = a2 := ⟨_, rfl⟩
          rw [ha1] at hb1 N1
          rw [ha2] at hb2 N2
          rw [ha1, ha2]
          clear hx hy n1 n2 ha1 ha2
          by_cases h1 : x < v
          · have h2 : x ≤ v := by omega
            rw [decide_eq_true h1, if_pos rfl] at N1 hb1
            rw [decide_eq_true h2, if_pos rfl] at N2 hb2
            go_wp2_with fail
            go_roundg ((lvl L j).length - (t + 1))
            case measure => have := HQ2.out; have := HYE.out; omega
            case rel => exact ⟨⟨t + 1, rfl, by have := HYE.out; omega, by rw [N1.out]; go_num, by rw [N2.out]; go_num, by go_num⟩, rfl⟩
          · rw [decide_eq_false h1] at N1 hb1
            simp only [Bool.false_eq_true, if_false, Nat.add_zero] at N1 hb1
            by_cases h2 : x ≤ v
            · rw [decide_eq_true h2, if_pos rfl] at N2 hb2
              go_wp2_with fail
              go_roundg ((lvl L j).length - (t + 1))
              case measure => have := HQ2.out; have := HYE.out; omega
              case rel => exact ⟨⟨t + 1, rfl, by have := HYE.out; omega, by rw [N1.out], by rw [N2.out]; go_num, by go_num⟩, rfl⟩
            · rw [decide_eq_false h2] at N2 hb2
              simp only [Bool.false_eq_true, if_false, Nat.add_zero] at N2 hb2
              go_wp2_with fail
              go_roundg ((lvl L j).length - (t + 1))
              case measure => have := HQ2.out; have := HYE.out; omega
              case rel => exact ⟨⟨t + 1, rfl, by have := HYE.out; omega, by rw [N1.out], by rw [N2.out], by go_num⟩, rfl⟩
        · obtain rfl : t = (lvl L j).length := by omega
          rw [HA1.out, HA2.out]
          obtain ⟨y, hy⟩ : ∃ y, (lvl L j).length = y := ⟨_, rfl⟩
          rw [hy] at c2 hl3 hlc ⊢
          clear hy
          go_wp2_with fail
          go_roundg (L.length - (j + 1))
          case measure => have := HQ.out; omega
          case rel => exact ⟨⟨j + 1, rfl, by omega, rfl, rfl, by rw [HPE.out]; go_num, by go_num⟩, rfl⟩
    · obtain rfl : j = L.length := by omega
      rw [HC.out, HC.out]
      go_wp2_with fail
      refine bodyPost_ret (by simp [results, Try.results34, go_sem, *]; try rfl) rfl ?_
      exact ⟨rfl, rfl⟩

/-! ### At, plain -/
def addO (o : Option Int) (x : Int) : Option Int := match o with | none => some x | some y => if x < y then some x else some y
def pickO (p : Int → Bool) (o : Option Int) (x : Int) : Option Int := if p x then addO o x else o
def minP (p : Int → Bool) (l : List Int) : Option Int := l.foldl (pickO p) none
theorem minP_snoc (p : Int → Bool) (l : List Int) (x : Int) : minP p (l ++ [x]) = pickO p (minP p l) x := by unfold minP; rw [List.foldl_append]; rfl
def allV (L : LL) : List Int := L.flatten
/-- The value of a rank: the least of those that are kept up to which there is so much. -/
def atV (L : LL) (r : Nat) : Int := (minP (fun x => decide (r ≤ uptoL L x)) (allV L)).getD 0
/-- What has been looked at: levels below h, and the first i values of it. -/
def seenV (L : LL) (h i : Nat) : List Int := (L.take h).flatten ++ (lvl L h).take i
theorem seenV_succ {L : LL} {h i : Nat} (hi : i < (lvl L h).length) : seenV L h (i + 1) = seenV L h i ++ [(lvl L h)[i]] := by
  unfold seenV
  rw [List.take_succ_eq_append_getElem hi, List.append_assoc]
theorem seenV_all {L : LL} {h : Nat} (hh : h < L.length) : seenV L h (lvl L h).length = seenV L (h + 1) 0 := by
  unfold seenV
  rw [List.take_length, List.take_succ_eq_append_getElem hh, lvl_at hh, List.flatten_append, List.flatten_singleton, List.take_zero, List.append_nil]
theorem seenV_end (L : LL) : seenV L L.length 0 = allV L := by unfold seenV allV; simp
set_option maxRecDepth 100000 in
set_option maxHeartbeats 8000000 in
theorem rat_any {F : Nat → Prop} {g k led a : Nat} {lv : Value} {vs : List Sv} {L : LL} (r : Nat) (w : World) (_hr : r < 18446744073709551616) (hs : Rst F w g k led lv vs L) (hok : PkOk (L, led, a)) :
    Calls Try.prog 32 #[.pointer (some ⟨g, 0, none⟩), .int .u64 r] w fun e w' => e = .returned (.int .i64 (atV L r)) ∧ w = w' := by
  obtain ⟨A, c, elv, hc1, hc2, _⟩ := hs.form
  have c1 := hs.cell1
  have HS := Lib.hid hs
  have hlenL := hok.lenL
  have hcnt := hok.cntL
  have HBT := Lib.hid (fun v => rbetween_any v w hs hok)
  have HUL := Lib.hid (fun v => Nat.le_trans (Nat.le_trans (cF_le (fun x => decide (x ≤ v)) 1 L) (Nat.le_refl _)) hok.wtL)
  have HE := Lib.hid (seenV_end L)
  clear hs hok
  subst elv
  go_enter Try.func32, Try.ntmps32
  go_wp2_with fail
  go_loopg [5, 6, 7, 8, 9, 10, 11] L.length (fun q b s i _ _ _ _ wr => (∃ j : Nat, q = L.length - j ∧ j ≤ L.length ∧ i = .int .i64 (j : Int) ∧ b = .int .i64 ((minP (fun x => decide (r ≤ uptoL L x)) (seenV L j 0)).getD 0) ∧ s = .bool (minP (fun x => decide (r ≤ uptoL L x)) (seenV L j 0)).isSome) ∧ w = wr)
  case atStart => exact ⟨⟨0, by omega, by omega, rfl, rfl, rfl⟩, rfl⟩
  case round =>
    obtain ⟨⟨j, hq, hj, rfl, rfl, rfl⟩, rfl⟩ := hrel
    have HQ := Lib.hid hq
    clear hq
    by_cases hjl : j < L.length
    · obtain ⟨gl, cc, sA, sc, elv, hgl, _, _, _, c2, _, ol, _⟩ := HS.out.at_ hjl
      injection elv with elv e2 e3
      subst elv; subst e3
      have hlc : (lvl L j).length ≤ 1000000 := by have := lvl_le_cnt L j; omega
      obtain ⟨_, _, el, hl3, hl4, fl⟩ := ol.form
      injection el with el1 el2 el3
      subst el1; subst el3
      have FL := Lib.hid fl
      have HSA := Lib.hid (seenV_all hjl)
      have HSN := Lib.hid (fun (i : Nat) (hi : i < (lvl L j).length) => seenV_succ hi)
      clear fl el2 ol
      go_wp2_with fail
      go_loopg [5, 6, 8, 9, 10, 11] (lvl L j).length (fun q b s i _ _ _ wr => (∃ t : Nat, q = (lvl L j).length - t ∧ t ≤ (lvl L j).length ∧ i = .int .i64 (t : Int) ∧ b = .int .i64 ((minP (fun x => decide (r ≤ uptoL L x)) (seenV L j t)).getD 0) ∧ s = .bool (minP (fun x => decide (r ≤ uptoL L x)) (seenV L j t)).isSome) ∧ w = wr)
      case atStart => exact ⟨⟨0, by omega, by omega, rfl, rfl, rfl⟩, rfl⟩
      case round =>
        obtain ⟨⟨t, hq, ht, rfl, rfl, rfl⟩, rfl⟩ := hrel
        have HQ2 := Lib.hid hq
        clear hq
        by_cases htl : t < (lvl L j).length
        · obtain ⟨ga, oa, eA, hga, ka⟩ := FL.out.i64 htl
          subst eA
          have sn := HSN.out t htl
          obtain ⟨x, hx⟩ : ∃ x, (lvl L j)[t] = x := ⟨_, rfl⟩
          rw [hx] at ka sn
          obtain ⟨y, hy⟩ : ∃ y, (lvl L j).length = y := ⟨_, rfl⟩
          rw [hy] at c2 hl3 htl ht HQ2 hlc
          have HYE := Lib.hid hy
          have HMP : Hid (minP (fun x => decide (r ≤ uptoL L x)) (seenV L j (t + 1)) = pickO (fun x => decide (r ≤ uptoL L x)) (minP (fun x => decide (r ≤ uptoL L x)) (seenV L j t)) x) := Lib.hid (by rw [sn, minP_snoc])
          have HBX := Lib.hid (HBT.out x)
          have hub : uptoL L x ≤ 281474976710656 := HUL.out x
          obtain ⟨u, hu⟩ : ∃ u, uptoL L x = u := ⟨_, rfl⟩
          rw [hu] at HBX hub
          obtain ⟨o, ho⟩ : ∃ o, minP (fun x => decide (r ≤ uptoL L x)) (seenV L j t) = o := ⟨_, rfl⟩
          rw [ho] at HMP ⊢
          have HPK : Hid (pickO (fun x => decide (r ≤ uptoL L x)) o x = if r ≤ u then addO o x else o) := Lib.hid (by
            unfold pickO
            simp only [decide_eq_true_eq, hu])
          clear hx hy sn ho hu
          by_cases hru : r ≤ u
          · have hru' : (u : Int) ≥ (r : Int) := by omega
            cases o with
            | none =>
              have HO : Hid (minP (fun x => decide (r ≤ uptoL L x)) (seenV L j (t + 1)) = some x) := Lib.hid (by rw [HMP.out, HPK.out, if_pos hru]; rfl)
              go_wp2_with fail
              refine (HBX.out).mono ?_
              rintro e w1 ⟨rfl, rfl⟩
              go_wp2_with fail
              go_roundg ((lvl L j).length - (t + 1))
              case measure => have := HQ2.out; have := HYE.out; omega
              case rel => exact ⟨⟨t + 1, rfl, by have := HYE.out; omega, by go_num, by rw [HO.out]; rfl, by rw [HO.out]; rfl⟩, rfl⟩
            | some z =>
              by_cases hxz : x < z
              · have HO : Hid (minP (fun x => decide (r ≤ uptoL L x)) (seenV L j (t + 1)) = some x) := Lib.hid (by rw [HMP.out, HPK.out, if_pos hru]; simp only [addO, if_pos hxz])
                go_wp2_with fail
                refine (HBX.out).mono ?_
                rintro e w1 ⟨rfl, rfl⟩
                go_wp2_with fail
                go_roundg ((lvl L j).length - (t + 1))
                case measure => have := HQ2.out; have := HYE.out; omega
                case rel => exact ⟨⟨t + 1, rfl, by have := HYE.out; omega, by go_num, by rw [HO.out]; rfl, by rw [HO.out]; rfl⟩, rfl⟩
              · have HO : Hid (minP (fun x => decide (r ≤ uptoL L x)) (seenV L j (t + 1)) = some z) := Lib.hid (by rw [HMP.out, HPK.out, if_pos hru]; simp only [addO, if_neg hxz])
                go_wp2_with fail
                refine (HBX.out).mono ?_
                rintro e w1 ⟨rfl, rfl⟩
                go_wp2_with fail
                go_roundg ((lvl L j).length - (t + 1))
                case measure => have := HQ2.out; have := HYE.out; omega
                case rel => exact ⟨⟨t + 1, rfl, by have := HYE.out; omega, by go_num, by rw [HO.out]; rfl, by rw [HO.out]; rfl⟩, rfl⟩
          · have hru' : ¬ (u : Int) ≥ (r : Int) := by omega
            have HO : Hid (minP (fun x => decide (r ≤ uptoL L x)) (seenV L j (t + 1)) = o) := Lib.hid (by rw [HMP.out, HPK.out, if_neg hru])
            go_wp2_with fail
            refine (HBX.out).mono ?_
            rintro e w1 ⟨rfl, rfl⟩
            go_wp2_with fail
            go_roundg ((lvl L j).length - (t + 1))
            case measure => have := HQ2.out; have := HYE.out; omega
            case rel => exact ⟨⟨t + 1, rfl, by have := HYE.out; omega, by go_num, by rw [HO.out], by rw [HO.out]⟩, rfl⟩
        · obtain rfl : t = (lvl L j).length := by omega
          rw [HSA.out]
          obtain ⟨y, hy⟩ : ∃ y, (lvl L j).length = y := ⟨_, rfl⟩
          rw [hy] at c2 hl3 hlc ⊢
          clear hy
          go_wp2_with fail
          go_roundg (L.length - (j + 1))
          case measure => have := HQ.out; omega
          case rel => exact ⟨⟨j + 1, rfl, by omega, by go_num, rfl, rfl⟩, rfl⟩
    · obtain rfl : j = L.length := by omega
      rw [HE.out]
      go_wp2_with fail
      refine bodyPost_ret (by simp [results, Try.results32, go_sem, *]; try rfl) rfl ?_
      exact ⟨rfl, rfl⟩
end Go.Proofs.Ytigmncogjbbmhaa
