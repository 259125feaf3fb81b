/- Levels, and whether levels are the same. Conditions: lengths. -/
import Derived.Test.YtigmncogjbbmhaaKlK
namespace Go.Proofs.Ytigmncogjbbmhaa
open Go.RowKit

/-- A slice of slices that reads as levels. -/
def LLR (w : World) (v : Value) (L : LL) : Prop := ∃ vs : List Sv, vs.length = L.length ∧ RdE slE w v vs ∧ ∀ i (h : i < vs.length), RdE i64E w (svV vs[i]) (lvl L i)
theorem LLR.keep {w w' : World} {v : Value} {L : LL} (h : LLR w v L) (hb : Below w.heap.size w w') : LLR w' v L := by
  obtain ⟨vs, h1, h2, h3⟩ := h
  exact ⟨vs, h1, h2.keep hb, fun i hi => (h3 i hi).keep hb⟩
theorem StG.llr {t : TypeId} {a : Value} {rest : List Value} {F : Nat → Prop} {w : World} {g : Nat} {lv : Value} {vs : List Sv} {L : LL} (h : StG t a rest F w g lv vs L) : LLR w lv L :=
  ⟨vs, h.lev.len, h.lev.row.rd, fun i hi => (h.lev.each i hi).rd⟩
theorem LLR.form {w : World} {v : Value} {L : LL} (h : LLR w v L) : ∃ A c, v = .slice A L.length c ∧ L.length ≤ c ∧ c ≤ 9223372036854775807 := by
  obtain ⟨vs, h1, h2, h3⟩ := h
  obtain ⟨A, c, e, h4, h5, _⟩ := h2.form
  rw [h1] at e h4
  exact ⟨A, c, e, h4, h5⟩
/-- A level that is read. -/
theorem LLR.at_ {w : World} {A : Option Addr} {n c : Nat} {L : LL} (h : LLR w (.slice A n c) L) {j : Nat} (hj : j < L.length) :
    ∃ gl off sA sc, A = some ⟨gl, off, none⟩ ∧ gl < w.heap.size ∧ w.cell? ⟨gl, off + j, none⟩ = some (.slice sA (lvl L j).length sc) ∧ RdE i64E w (.slice sA (lvl L j).length sc) (lvl L j) := by
  obtain ⟨vs, h1, h2, h3⟩ := h
  obtain ⟨A', c', e, _, _, hf⟩ := h2.form
  injection e with e1 e2 e3
  subst e1
  obtain ⟨gl, off, hA, hg, hc⟩ := hf.sl (j := j) (by omega)
  have hr := h3 j (by omega)
  obtain ⟨s, hs⟩ : ∃ s, vs[j]'(by omega) = s := ⟨_, rfl⟩
  rw [hs] at hr hc
  obtain ⟨sA, sn, sc⟩ := s
  obtain ⟨_, _, es, _, _, _⟩ := hr.form
  injection es with es1 es2 es3
  subst es2
  exact ⟨gl, off, sA, sc, hA, hg, hc, hr⟩

/-! ### The same levels -/
theorem drewN_add (w : World) (a b : Nat) : (w.drewN a).drewN b = w.drewN (a + b) := by unfold World.drewN; simp [Nat.add_assoc]
def sameT (A B : LL) (h : Nat) : Prop := A.length = B.length ∧ ∀ i, i < h → lvl A i = lvl B i
theorem same_all {A B : LL} (h1 : A.length = B.length) (h : ∀ i, i < A.length → lvl A i = lvl B i) : A = B := ll_ext h1 h
theorem same_not {A B : LL} {i : Nat} (h : lvl A i ≠ lvl B i) : A ≠ B := fun e => h (by rw [e])
theorem take_next {a b : List Int} {j : Nat} (ha : j < a.length) (hb : j < b.length) (h : a.take j = b.take j) (e : a[j] = b[j]) : a.take (j + 1) = b.take (j + 1) := by
  rw [List.take_succ_eq_append_getElem ha, List.take_succ_eq_append_getElem hb, h, e]
set_option maxRecDepth 100000 in
set_option maxHeartbeats 8000000 in
theorem rsame_any (va vb : Value) (A B : LL) (w : World) (ha : LLR w va A) (hb : LLR w vb B) :
    Calls Try.prog 50 #[va, vb] w fun e w' => e = .returned (.bool (decide (A = B))) ∧ ∃ n, w' = w.drewN n := by
  obtain ⟨A1, ca, rfl, ha1, ha2⟩ := ha.form
  obtain ⟨B1, cb, rfl, hb1, hb2⟩ := hb.form
  have HA := Lib.hid ha
  have HB := Lib.hid hb
  clear ha hb
  by_cases hlen : A.length = B.length
  · have HLEN := Lib.hid hlen
    obtain ⟨n, hn⟩ : ∃ n, A.length = n := ⟨_, rfl⟩
    have hn2 : B.length = n := by omega
    rw [hn] at ha1 HA ⊢
    rw [hn2] at hb1 HB ⊢
    have HN := Lib.hid hn
    have HN2 := Lib.hid hn2
    clear hn hn2 hlen
    go_enter Try.func50, Try.ntmps50
    go_wp2_with fail
    go_loopg [5, 6] n (fun q i _ wr => ∃ j : Nat, q = n - j ∧ j ≤ n ∧ i = .int .i64 (j : Int) ∧ Hid (∀ i, i < j → lvl A i = lvl B i) ∧ ∃ d, wr = w.drewN d)
    case atStart => exact ⟨0, by omega, by omega, rfl, Lib.hid (fun i hi => absurd hi (by omega)), 0, rfl⟩
    case round =>
      obtain ⟨j, hq, hj, rfl, HI, d, rfl⟩ := hrel
      have HQ := Lib.hid hq
      clear hq
      by_cases hjn : j < n
      · obtain ⟨gl, off, sA, sc, eA, hgl, cA, rA⟩ := HA.out.at_ (j := j) (by have := HN.out; omega)
        subst eA
        obtain ⟨gm, off2, tA, tc, eB, hgm, cB, rB⟩ := HB.out.at_ (j := j) (by have := HN2.out; omega)
        subst eB
        obtain ⟨a, hla⟩ : ∃ a, lvl A j = a := ⟨_, rfl⟩
        obtain ⟨b, hlb⟩ : ∃ b, lvl B j = b := ⟨_, rfl⟩
        rw [hla] at cA rA
        rw [hlb] at cB rB
        have HLA := Lib.hid hla
        have HLB := Lib.hid hlb
        obtain ⟨_, _, ea, ha3, ha4, fa⟩ := rA.form
        injection ea with ea1 ea2 ea3
        subst ea1; subst ea3
        obtain ⟨_, _, eb, hb3, hb4, fb⟩ := rB.form
        injection eb with eb1 eb2 eb3
        subst eb1; subst eb3
        have FA := Lib.hid fa
        have FB := Lib.hid fb
        clear hla hlb rA rB fa fb ea2 eb2
        by_cases hlx : a.length = b.length
        · have HLX := Lib.hid hlx
          obtain ⟨m, hm⟩ : ∃ m, a.length = m := ⟨_, rfl⟩
          have hm2 : b.length = m := by omega
          rw [hm] at cA ha3
          rw [hm2] at cB hb3
          have HM := Lib.hid hm
          have HM2 := Lib.hid hm2
          clear hm hm2 hlx
          go_wp2_with fail
          go_quiet (fail)
          go_wp2_with fail
          go_loopg [6] m (fun q i wr => ∃ k : Nat, q = m - k ∧ k ≤ m ∧ i = .int .i64 (k : Int) ∧ Hid (a.take k = b.take k) ∧ ∃ d, wr = w.drewN d)
          case atStart => exact ⟨0, by omega, by omega, rfl, Lib.hid rfl, by first | exact ⟨_, rfl⟩ | exact ⟨_, drewN_add _ _ _⟩⟩
          case round =>
            obtain ⟨k, hq, hk, rfl, HT, d2, rfl⟩ := hrel
            have HQ2 := Lib.hid hq
            clear hq
            by_cases hkm : k < m
            · obtain ⟨ga, oa, eA, hga, ka⟩ := FA.out.i64 (j := k) (by have := HM.out; omega)
              subst eA
              obtain ⟨gb, ob, eB, hgb, kb⟩ := FB.out.i64 (j := k) (by have := HM2.out; omega)
              subst eB
              obtain ⟨x, hx⟩ : ∃ x, a[k]'(by have := HM.out; omega) = x := ⟨_, rfl⟩
              obtain ⟨y, hy⟩ : ∃ y, b[k]'(by have := HM2.out; omega) = y := ⟨_, rfl⟩
              rw [hx] at ka
              rw [hy] at kb
              have HX := Lib.hid hx
              have HY := Lib.hid hy
              clear hx hy
              by_cases hxy : x = y
              · subst hxy
                have HN1 := Lib.hid (take_next (by have := HM.out; omega) (by have := HM2.out; omega) HT.out (HX.out.trans HY.out.symm))
                go_wp2_with fail
                go_quiet (fail)
                go_wp2_with fail
                go_roundg (m - (k + 1))
                case measure => have := HQ2.out; omega
                case rel => exact ⟨k + 1, rfl, by omega, by go_num, HN1, by first | exact ⟨_, rfl⟩ | exact ⟨_, drewN_add _ _ _⟩⟩
              · have HNE : Hid (A ≠ B) := Lib.hid (same_not (i := j) (by
                  rw [HLA.out, HLB.out]
                  intro e
                  have e2 : a[k]? = b[k]? := by rw [e]
                  rw [List.getElem?_eq_getElem (by have := HM.out; omega), List.getElem?_eq_getElem (by have := HM2.out; omega), HX.out, HY.out] at e2
                  exact hxy (Option.some.inj e2)))
                go_wp2_with fail
                go_quiet (fail)
                go_wp2_with fail
                refine bodyPost_ret (by simp [results, Try.results50, go_sem, *]; try rfl) rfl ?_
                exact ⟨by rw [decide_eq_false HNE.out], by first | exact ⟨_, rfl⟩ | exact ⟨_, drewN_add _ _ _⟩⟩
            · obtain rfl : k = m := by omega
              have HE : Hid (a = b) := Lib.hid (by
                have h1 := HT.out
                rw [List.take_of_length_le (by have := HM.out; omega), List.take_of_length_le (by have := HM2.out; omega)] at h1
                exact h1)
              go_wp2_with fail
              go_roundg (n - (j + 1))
              case measure => have := HQ.out; omega
              case rel =>
                refine ⟨j + 1, rfl, by omega, by go_num, Lib.hid fun i hi => ?_, _, rfl⟩
                rcases Nat.lt_or_ge i j with h1 | h1
                · exact HI.out i h1
                · obtain rfl : i = j := by omega
                  rw [HLA.out, HLB.out, HE.out]
        · have hlx2 : ¬ (a.length : Int) = (b.length : Int) := by omega
          have HNE : Hid (A ≠ B) := Lib.hid (same_not (i := j) (by
            rw [HLA.out, HLB.out]
            intro e
            exact hlx (by rw [e])))
          clear hlx
          go_wp2_with fail
          go_quiet (fail)
          go_wp2_with fail
          refine bodyPost_ret (by simp [results, Try.results50, go_sem, *]; try rfl) rfl ?_
          exact ⟨by rw [decide_eq_false HNE.out], by first | exact ⟨_, rfl⟩ | exact ⟨_, drewN_add _ _ _⟩⟩
      · obtain rfl : j = n := by omega
        have HE : Hid (A = B) := Lib.hid (same_all HLEN.out fun i hi => HI.out i (by have := HN.out; omega))
        go_wp2_with fail
        refine bodyPost_ret (by simp [results, Try.results50, go_sem, *]; try rfl) rfl ?_
        exact ⟨by rw [decide_eq_true HE.out], _, rfl⟩
  · have HNE : Hid (A ≠ B) := Lib.hid fun e => hlen (by rw [e])
    have hlen2 : ¬ (A.length : Int) = (B.length : Int) := by omega
    clear hlen
    go_enter Try.func50, Try.ntmps50
    go_wp2_with fail
    refine bodyPost_ret (by simp [results, Try.results50, go_sem, *]; try rfl) rfl ?_
    exact ⟨by rw [decide_eq_false HNE.out], 0, rfl⟩

/-! ### Levels -/
/-- A slice of slices, all made since, that holds levels. -/
structure LLO (base : Nat) (w : World) (v : Value) (vs : List Sv) (L : LL) : Prop where
  row : OwnE slE base w v vs
  len : vs.length = L.length
  each : ∀ i (h : i < vs.length), OwnE i64E base w (svV vs[i]) (lvl L i)
theorem LLO.keep {base : Nat} {w w' : World} {v : Value} {vs : List Sv} {L : LL} (h : LLO base w v vs L) (hb : Below w.heap.size w w') : LLO base w' v vs L := ⟨h.row.keep hb, h.len, fun i hi => (h.each i hi).keep hb⟩
theorem LLO.llr {base : Nat} {w : World} {v : Value} {vs : List Sv} {L : LL} (h : LLO base w v vs L) : LLR w v L := ⟨vs, h.len, h.row.rd, fun i hi => (h.each i hi).rd⟩
theorem LLO.stay {base : Nat} {w w' : World} {v : Value} {vs : List Sv} {L : LL} (h : LLO base w v vs L) (hk : ∀ k, base ≤ k → k < w.heap.size → w'.heap[k]? = w.heap[k]?) : LLO base w' v vs L :=
  ⟨h.row.stay fun k e => hk k (h.row.lt k e).1 (h.row.lt k e).2, h.len, fun i hi => (h.each i hi).stay fun k e => hk k ((h.each i hi).lt k e).1 ((h.each i hi).lt k e).2⟩
theorem LLO.nil_ (base : Nat) (w : World) : LLO base w (.slice none 0 0) [] [] := ⟨OwnE.nil_ _ _, rfl, fun i hi => absurd hi (by simp)⟩
/-- A level behind. -/
theorem LLO.snoc {base : Nat} {w w1 w2 : World} {v v2 : Value} {vs : List Sv} {L : LL} {s : Sv} {l : List Int} (h : LLO base w v vs L) (hb : Below w.heap.size w w1) (hs : OwnE i64E base w1 (svV s) l)
    (ho : OwnE slE base w2 v2 (vs ++ [s])) (hg : w1.grownBy w2 v.ownBlock) (hd : ∀ i (hi : i < vs.length) k, (svV vs[i]).ownBlock = some k → v.ownBlock ≠ some k) (hsd : ∀ k, (svV s).ownBlock = some k → v.ownBlock ≠ some k) : LLO base w2 v2 (vs ++ [s]) (L ++ [l]) := by
  refine ⟨ho, by rw [List.length_append, List.length_append, h.len]; rfl, fun i hi => ?_⟩
  rcases Nat.lt_or_ge i vs.length with h1 | h1
  · rw [List.getElem_append_left h1]
    have e : lvl (L ++ [l]) i = lvl L i := by
      unfold lvl
      simp only [List.getD]
      rw [List.getElem?_append_left (by rw [← h.len]; exact h1)]
    rw [e]
    exact ((h.each i h1).keep hb).stay fun k e2 => hg.block k (by have := ((h.each i h1).lt k e2).2; have := hb.size; omega) (fun e3 => hd i h1 k e2 e3.symm)
  · have hi' : i = vs.length := by rw [List.length_append] at hi; simp only [List.length_singleton] at hi; omega
    subst hi'
    have e : lvl (L ++ [l]) vs.length = l := by
      unfold lvl
      simp only [List.getD]
      rw [h.len, List.getElem?_append_right (Nat.le_refl _)]; simp
    rw [e]
    simp only [List.getElem_append_right (Nat.le_refl _), Nat.sub_self, List.getElem_cons_zero]
    exact hs.stay fun k e2 => hg.block k (hs.lt k e2).2 (fun e3 => hsd k e2 e3.symm)
theorem take_snoc {L : LL} {j : Nat} (h : j < L.length) : L.take (j + 1) = L.take j ++ [lvl L j] := by rw [List.take_succ_eq_append_getElem h, lvl_at h]
set_option maxRecDepth 100000 in
set_option maxHeartbeats 8000000 in
theorem levels_any {F : Nat → Prop} {g k n led : Nat} {lv : Value} {vs : List Sv} {L : LL} (w : World) (hs : Kst F w g k n led lv vs L) (hL : L.length ≤ 1000) (hl : cnt L ≤ 1000000000) :
    Calls Try.prog 31 #[.pointer (some ⟨g, 0, none⟩)] w fun e w' => ∃ v' vs', e = .returned v' ∧ LLO w.heap.size w' v' vs' L ∧ Below w.heap.size w w' := by
  obtain ⟨i1, hi0, hiz, his, hib⟩ := info_parts slI
  have JI := Lib.hid hi0
  have JZ := Lib.hid hiz
  have JSZ := Lib.hid his
  have JBY := Lib.hid hib
  clear hi0 hiz his hib
  obtain ⟨A, c, elv, hc1, hc2, _⟩ := hs.form
  have c1 := hs.cell1
  have HS := Lib.hid hs
  have HC := Lib.hid (fun j => Nat.le_trans (lvl_le_cnt L j) hl)
  clear hs
  subst elv
  go_enter Try.func31, Try.ntmps31
  go_wp2_with fail
  go_loopg [3, 5, 11] L.length (fun q o _ i wr => ∃ (j : Nat) (vs1 : List Sv), q = L.length - j ∧ j ≤ L.length ∧ i = .int .i64 (j : Int) ∧ Hid (LLO w.heap.size wr o vs1 (L.take j)) ∧ Hid (∀ s ∈ vs1, ∀ k, (svV s).ownBlock = some k → o.ownBlock ≠ some k) ∧ Hid (Below w.heap.size w wr))
  case atStart => exact ⟨0, [], by omega, by omega, rfl, Lib.hid (LLO.nil_ _ _), Lib.hid (fun i hi => absurd hi (by simp)), Lib.hid (Below.refl _ _)⟩
  case round =>
    obtain ⟨j, vs1, hq, hj, rfl, HO, HD, HB⟩ := hrel
    have HQ := Lib.hid hq
    clear hq
    have hz := HB.out.size
    by_cases hjl : j < L.length
    · obtain ⟨gl, cc, sA, sc, elv, hgl, _, _, _, c2, _, ol, _⟩ := HS.out.at_ hjl
      injection elv with elv e2 e3
      subst elv; subst e3
      have HCL := Lib.hid (clone_i64 _ (lvl L j) wr (ol.rd.keep HB.out) (by have := HC.out j; omega))
      have HTS := Lib.hid (take_snoc hjl)
      have c3 := (HB.out.cell (p := ⟨gl, j, none⟩) hgl).trans c2
      obtain ⟨x, hx⟩ : ∃ x, lvl L j = x := ⟨_, rfl⟩
      rw [hx] at HTS HCL c3
      have hvl : vs1.length = j := by rw [HO.out.len, List.length_take]; omega
      obtain ⟨A1, c1', rfl, _, _, _⟩ := HO.out.row.form
      rw [hvl] at HO HD ⊢
      clear hx ol c2
      go_wp2_with fail
      refine (HCL.out).mono ?_
      rintro e w1 ⟨s, rfl, os, b1⟩
      obtain ⟨sA2, sn2, sc2⟩ := s
      obtain ⟨_, _, es, _, _, _⟩ := os.form
      injection es with _ es2 _
      subst es2
      have OS := Lib.hid os
      have B1 := Lib.hid b1
      have HR1 := Lib.hid (HO.out.row.keep b1)
      have hz1 := b1.size
      have hxl : vs1.length ≤ 1000 := by omega
      simp only [svV]
      clear os b1 HCL c3
      go_wp2_with (at_builtin; refine wpList_append_E slE (ts := 48) i1 _ 24 Try.underlying48 JI.out JZ.out JSZ.out JBY.out rfl (by decide) (by decide) rfl (.tmp 15) (.tmp 18) rfl w.heap.size (.slice A1 j c1') vs1 rfl (HR1.out.alloc _) _ [(sA2, x.length, sc2)] rfl (RdE.one_at (E := slE) w1 (sA2, x.length, sc2) _ rfl _ rfl _ rfl) (by simp; omega) (by simp; omega) ?_; intro v7 w7 o7 g7 a7; have O7 := Lib.hid o7; have G7 := Lib.hid g7; have A7 := Lib.hid a7; clear o7 g7 a7)
      have hd : ∀ s ∈ vs1, ∀ k, (svV s).ownBlock = some k → k < wr.heap.size := fun s hs k e => by
        obtain ⟨i, hi, rfl⟩ := List.getElem_of_mem hs
        exact ((HO.out.each i hi).lt k e).2
      have hbw : Below wr.heap.size wr (w1.alloc (.cells #[.slice sA2 x.length sc2] 24)) := B1.out.alloc hz1 _
      have hnew : ∀ k, (Value.slice A1 j c1').ownBlock = some k → w.heap.size ≤ k ∧ k < wr.heap.size := fun k e => HO.out.row.lt k e
      have hfr : ∀ k, (svV (sA2, x.length, sc2)).ownBlock = some k → wr.heap.size ≤ k ∧ k < w1.heap.size := fun k e => OS.out.lt k e
      have hlo := LLO.snoc HO.out hbw (OS.out.alloc _ |>.more hz) O7.out G7.out (fun i hi k e => HD.out _ (List.getElem_mem hi) k e) (fun k e e2 => by have := hfr k e; have := hnew k e2; omega)
      rw [← HTS.out] at hlo
      have HLO := Lib.hid hlo
      have HDD : Hid (∀ s ∈ vs1 ++ [(sA2, x.length, sc2)], ∀ k, (svV s).ownBlock = some k → v7.ownBlock ≠ some k) := Lib.hid fun s hs k e => by
        have hasz : (w1.alloc (.cells #[.slice sA2 x.length sc2] 24)).heap.size = w1.heap.size + 1 := by simp
        rcases List.mem_append.1 hs with h1 | h1
        · rcases A7.out with e2 | e2
          · rw [e2]; exact HD.out s h1 k e
          · rw [e2]; intro e3
            have e3 := Option.some.inj e3
            have := hd s h1 k e; omega
        · obtain rfl := List.mem_singleton.1 h1
          have h2 := hfr k e
          rcases A7.out with e2 | e2
          · rw [e2]; intro e3
            have := hnew k e3; omega
          · rw [e2]; intro e3
            have e3 := Option.some.inj e3
            omega
      have HBB : Hid (Below w.heap.size w w7) := Lib.hid ((HB.out.trans (hbw.mono hz)).grown G7.out (by simp; omega) (fun k hk => (hnew k hk).1))
      clear hlo hd hbw hnew hfr
      go_wp2_with fail
      go_roundg (L.length - (j + 1))
      case measure => have := HQ.out; omega
      case rel => exact ⟨j + 1, _, rfl, by omega, by go_num, HLO, HDD, HBB⟩
    · obtain rfl : j = L.length := by omega
      go_wp2_with fail
      refine bodyPost_ret (by simp [results, Try.results31, go_sem, *]; try rfl) rfl ?_
      have ho := HO.out
      rw [List.take_length] at ho
      exact ⟨_, _, rfl, ho, HB.out⟩
end Go.Proofs.Ytigmncogjbbmhaa
