/- A stack's mean, of the program. Conditions: what a stack keeps. -/
import Derived.Test.YtigmncogjbbmhaaMeanD
import Derived.Test.YtigmncogjbbmhaaMnK
namespace Go.Proofs.Ytigmncogjbbmhaa
open Go.RowKit Go.Lib

/-- What is kept below level j, and the first t of level j. -/
def midF (L : LL) (j t : Nat) : List Mn := keepF 1 (L.take j) ++ ((lvl L j).take t).map (fun x => (x, ((2 ^ j : Nat) : Int)))
theorem midF_zero (L : LL) (j : Nat) : midF L j 0 = keepF 1 (L.take j) := by simp [midF]
theorem midF_all {L : LL} {j : Nat} (h : j < L.length) : midF L j (lvl L j).length = keepF 1 (L.take (j + 1)) := by
  unfold midF
  rw [List.take_length, keepF_take_succ h]
theorem midF_succ {L : LL} {j t : Nat} (h : t < (lvl L j).length) : midF L j (t + 1) = midF L j t ++ [((lvl L j)[t], ((2 ^ j : Nat) : Int))] := by
  unfold midF
  rw [List.take_succ_eq_append_getElem h, List.map_append, List.append_assoc]; rfl
theorem midF_le {L : LL} {j t : Nat} (h : j < L.length) : (midF L j t).length ≤ cnt L := by
  have h1 := cnt_take_le L (j + 1)
  have h2 := congrArg List.length (keepF_take_succ h)
  rw [keepF_length, List.length_append, keepF_length, List.length_map] at h2
  unfold midF
  rw [List.length_append, keepF_length, List.length_map, List.length_take]; omega
theorem keepF_ok {L : LL} (h : ∀ x ∈ allV L, -9223372036854775808 ≤ x ∧ x ≤ 9223372036854775807) : okL (keepF 1 L) := fun m hm => by
  obtain ⟨h1, h2⟩ := keepF_mem 1 L (by omega) m hm
  exact ⟨(h _ h1).1, (h _ h1).2, h2⟩

set_option maxRecDepth 100000 in
set_option maxHeartbeats 4000000 in
theorem kmean_any {F : Nat → Prop} {g k n led a : Nat} {lv : Value} {vs : List Sv} {L : LL} (w : World) (hs : Kst F w g k n led lv vs L) (hok : PkOk (L, led, a)) (hbd : ∀ x ∈ allV L, -9223372036854775808 ≤ x ∧ x ≤ 9223372036854775807) :
    Calls Try.prog 45 #[.pointer (some ⟨g, 0, none⟩)] w fun e w' => e = .returned (.tuple #[.int .i64 (meanR (keepF 1 L)).1, .int .i64 (meanR (keepF 1 L)).2]) ∧ Below w.heap.size w w' := by
  obtain ⟨A, c, elv, hc1, hc2, _⟩ := hs.form
  have HS := Lib.hid hs
  have hlenL := hok.lenL
  have hcnt := hok.cntL
  have hwt := hok.wtL
  have HO := Lib.hid (keepF_ok hbd)
  have HLE := Lib.hid (fun j t (h : j < L.length) => midF_le (t := t) h)
  have c1 := hs.cell1
  have HTK := Lib.hid (show keepF 1 (L.take L.length) = keepF 1 L by rw [List.take_length])
  clear hs hok hbd
  subst elv
  go_enter Try.func45, Try.ntmps45
  go_wp2_with fail
  clear c1
  go_loopg [4, 5, 6, 8, 14] L.length (fun q o _ _ _ i wr => ∃ j : Nat, q = L.length - j ∧ j ≤ L.length ∧ i = .int .i64 (j : Int) ∧ Hid (OwnT w.heap.size wr o (keepF 1 (L.take j))) ∧ Hid (Below w.heap.size w wr))
  case atStart => exact ⟨0, by omega, by omega, rfl, Lib.hid (by rw [List.take_zero]; exact OwnT.nil_ _ _), Lib.hid (Below.refl _ _)⟩
  case round =>
    obtain ⟨j, hq, hj, rfl, HT, HB⟩ := hrel
    have HQ := Lib.hid hq
    clear hq
    have hz := HB.out.size
    by_cases hjl : j < L.length
    · obtain ⟨gl, cc, sA, sc, elv, hgl, _, _, _, c2, _, ol, _⟩ := HS.out.at_ hjl
      injection elv with elv e2 e3
      subst elv; subst e3
      have c3 := (HB.out.cell (p := ⟨gl, j, none⟩) hgl).trans c2
      have hz0 : w.heap.size ≤ wr.heap.size := HB.out.size
      have HLJ := Lib.hid (fun t => HLE.out j t hjl)
      have HZ := Lib.hid (midF_zero L j)
      have HA := Lib.hid (midF_all hjl)
      have HN := Lib.hid (fun (t : Nat) (ht : t < (lvl L j).length) => midF_succ ht)
      obtain ⟨_, _, el, hl3, hl4, fl⟩ := ol.rd.form
      injection el with el1 el2 el3
      subst el1; subst el3
      have FL := Lib.hid fl
      rw [← HZ.out] at HT
      have hpw : 1 * 2 ^ j ≤ 281474976710656 := by
        have : (2 : Nat) ^ j ≤ 2 ^ 48 := Nat.pow_le_pow_right (by omega) (by omega)
        omega
      have HW : Hid (IntKind.u64.wrap (2 ^ j) = ((2 ^ j : Nat) : Int)) := Lib.hid (by have := wt48 (c := 1) (h := j) hpw; simpa using this)
      clear c2 ol fl el2 hpw
      go_wp2_with fail
      clear c3
      go_loopg [4, 8, 21] (lvl L j).length (fun q o _ i wr2 => ∃ t : Nat, q = (lvl L j).length - t ∧ t ≤ (lvl L j).length ∧ i = .int .i64 (t : Int) ∧ Hid (OwnT w.heap.size wr2 o (midF L j t)) ∧ Hid (Below w.heap.size w wr2))
      case atStart => exact ⟨0, by omega, by omega, rfl, HT, HB⟩
      case round =>
        obtain ⟨t, hq2, ht, rfl, HT2, HB2⟩ := hrel
        have HQ2 := Lib.hid hq2
        clear hq2
        have hz2 := HB2.out.size
        by_cases htl : t < (lvl L j).length
        · obtain ⟨ga, oa, eA, hga, ka⟩ := FL.out.i64 htl
          subst eA
          have k1 := (HB2.out.cell (p := ⟨ga, oa + t, none⟩) hga).trans ka
          have HN1 := Lib.hid (HN.out t htl)
          have hl2 : (midF L j t).length + 1 ≤ 1099511627776 := by have := HLJ.out t; omega
          obtain ⟨x, hx⟩ : ∃ x, (lvl L j)[t] = x := ⟨_, rfl⟩
          rw [hx] at k1 HN1
          obtain ⟨m, hm⟩ : ∃ m, midF L j t = m := ⟨_, rfl⟩
          rw [hm] at HT2 HN1 hl2
          clear hx hm ka
          go_wp2_with (first
            | (at_builtin
               rw [HW.out]
               go_must (refine append_T rfl (.tmp 25) (.tmp 30) rfl w.heap.size u4 m rfl (HT2.out.alloc _) _ [(x, ((2 ^ j : Nat) : Int))] rfl (RdM.oneT_at _ (x, ((2 ^ j : Nat) : Int)) _ (by simp)) hl2 (by simp only [World.size_alloc]; omega) ?_)
               intro v5 w5 o5 g5 a5
               have HB5 : Hid (Below w.heap.size w w5) := Lib.hid ((HB2.out.alloc (by omega) _).grown g5 (by simp only [World.size_alloc]; omega) (fun k hk => (HT2.out.lt k hk).1))
               have O5 := Lib.hid o5
               clear o5 g5 a5))
          go_roundg ((lvl L j).length - (t + 1))
          case measure => have := HQ2.out; omega
          case rel => exact ⟨t + 1, rfl, by omega, by go_num, by rw [HN1.out]; exact O5, HB5⟩
        · have hE : t = (lvl L j).length := by omega
          subst hE
          rw [HA.out] at HT2
          go_wp2_with fail
          go_roundg (L.length - (j + 1))
          case measure => have := HQ.out; omega
          case rel => exact ⟨j + 1, rfl, by omega, by go_num, HT2, HB2⟩
    · have hE : j = L.length := by omega
      subst hE
      rw [HTK.out] at HT
      obtain ⟨l, hle⟩ : ∃ l, keepF 1 L = l := ⟨_, rfl⟩
      have hll : l.length ≤ 1000000000 := by rw [← hle, keepF_length]; omega
      have htt : tot l ≤ 281474976710656 := by rw [← hle, keepF_tot]; unfold wt at hwt; omega
      rw [hle] at HT HO
      have HLL := Lib.hid hle
      clear hle HTK
      obtain ⟨A2, c2, rfl, n2, m2, f2⟩ := HT.out.rd.form
      clear f2
      rcases Nat.eq_zero_or_pos l.length with h0 | h0
      · have HM : Hid (meanR l = (0, 8)) := by show meanR l = _; unfold meanR; rw [if_pos h0]
        have hzb : ((l.length : Int) == 0) = true := beq_iff_eq.2 (by omega)
        clear h0
        go_wp2_with fail
        go_ret2
        exact ⟨by rw [HLL.out, HM.out]; rfl, HB.out⟩
      · have HM : Hid (meanR l = (meanI l, 0)) := by show meanR l = _; unfold meanR; rw [if_neg (by omega)]
        have hzb : ((l.length : Int) == 0) = false := beq_eq_false_iff_ne.2 (by omega)
        go_wp2_with fail
        refine (wmean_any _ l _ HT.out.rd HO.out h0 hll htt).mono ?_
        rintro e w6 ⟨rfl, hb6⟩
        have hz6 := hb6.size
        go_wp2_with fail
        go_ret2
        exact ⟨by rw [HLL.out, HM.out]; rfl, HB.out.trans (hb6.mono hz)⟩
end Go.Proofs.Ytigmncogjbbmhaa
