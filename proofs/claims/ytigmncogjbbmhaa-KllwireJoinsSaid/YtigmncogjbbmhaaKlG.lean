/- full, of the program and of the reference. Conditions: sizes that are ints. -/
import Derived.Test.YtigmncogjbbmhaaKlF
import Derived.Test.YtigmncogjbbmhaaKlD
namespace Go.Proofs.Ytigmncogjbbmhaa
open Go.RowKit

/-- A level of a stack in memory. -/
theorem StG.at_ {t : TypeId} {a : Value} {rest : List Value} {F : Nat → Prop} {w : World} {g : Nat} {lv : Value} {vs : List Sv} {L : LL} (h : StG t a rest F w g lv vs L) {j : Nat} (hj : j < L.length) :
    ∃ gl c sA sc, lv = .slice (some ⟨gl, 0, none⟩) L.length c ∧ gl < w.heap.size ∧ gl ≠ g ∧ F gl ∧ vs[j]? = some (sA, (lvl L j).length, sc) ∧ w.cell? ⟨gl, j, none⟩ = some (.slice sA (lvl L j).length sc) ∧ w.frozen? ⟨gl, j, none⟩ = false ∧
      OwnE i64E 0 w (.slice sA (lvl L j).length sc) (lvl L j) ∧ (∀ k, (Value.slice sA (lvl L j).length sc).ownBlock = some k → F k ∧ k ≠ gl ∧ k ≠ g) := by
  have hj' : j < vs.length := by rw [h.lev.len]; exact hj
  have hl : 0 < vs.length := by omega
  obtain ⟨gl, c, e, _, hg, _, _⟩ := h.lev.row.pos hl
  rw [h.lev.len] at e
  have ol := h.lev.each j hj'
  have c1 := h.lev.row
  rw [e] at c1
  have c2 := c1.cellAt hj' 0 (by decide)
  rw [show j * slE.k + 0 = j by show j * 1 + 0 = j; omega] at c2
  have f2 := c1.frozenAt j
  have hap := h.lev.apart j hj'
  have hfv := h.lev.fv j hj'
  have hg2 := h.g2 j hj'
  obtain ⟨s, hs⟩ : ∃ s, vs[j] = s := ⟨_, rfl⟩
  rw [hs] at ol c2 hap hfv hg2
  obtain ⟨sA, sn, sc⟩ := s
  obtain ⟨_, _, es, _, _, _⟩ := ol.form
  injection es with es1 es2 es3
  subst es2
  refine ⟨gl, c, sA, sc, e, hg, fun e2 => h.g1 (by rw [e, e2]; rfl), h.lev.fl gl (by rw [e]; rfl), by rw [List.getElem?_eq_getElem hj', hs], c2.trans rfl, f2, ol, fun k hk => ⟨hfv k hk, fun e2 => hap k hk (by rw [e, e2]; rfl), fun e2 => hg2 (by rw [← e2]; exact hk)⟩⟩
def fullI (k : Nat) (L : LL) : Int := match fullN k L with | none => -1 | some h => (h : Int)
theorem fullI_some {k h : Nat} {L : LL} (h1 : h < L.length) (h2 : room k L.length h < (lvl L h).length) (h3 : ∀ j, j < h → (lvl L j).length ≤ room k L.length j) : fullI k L = h := by
  unfold fullI
  rw [fullN_is h1 h2 h3]
theorem fullI_none {k : Nat} {L : LL} (h : ∀ j, j < L.length → (lvl L j).length ≤ room k L.length j) : fullI k L = -1 := by
  unfold fullI
  rw [fullN_is_none h]
set_option maxRecDepth 100000 in
set_option maxHeartbeats 4000000 in
theorem full_any {F : Nat → Prop} {g k n led : Nat} {lv : Value} {vs : List Sv} {L : LL} (w : World) (hs : Kst F w g k n led lv vs L) (h2 : 2 ≤ k) (hk : k ≤ 1000000) (hL : L.length ≤ 1000) (hl : cnt L ≤ 1000000000) :
    Calls Try.prog 92 #[.pointer (some ⟨g, 0, none⟩)] w fun e w' => e = .returned (.int .i64 (fullI k L)) ∧ w = w' := by
  have HR := Lib.hid (fun h hh => room_any h w hs h2 hk (by omega) hh)
  obtain ⟨A, c, elv, hc1, hc2, _⟩ := hs.form
  have c1 := hs.cell1
  have HS := Lib.hid hs
  have HC := Lib.hid (fun j => Nat.le_trans (lvl_le_cnt L j) hl)
  have HRL := Lib.hid (fun j => room_le (k := k) (len := L.length) (h := j) h2)
  clear hs
  subst elv
  go_enter Try.func92, Try.ntmps92
  go_wp2_with fail
  go_loopg [3, 4, 10] L.length (fun q _ _ i wr => (∃ j : Nat, q = L.length - j ∧ j ≤ L.length ∧ i = .int .i64 (j : Int) ∧ Hid (∀ i, i < j → (lvl L i).length ≤ room k L.length i)) ∧ w = wr)
  case atStart => exact ⟨⟨0, by omega, by omega, rfl, Lib.hid (fun i hi => absurd hi (by omega))⟩, rfl⟩
  case round =>
    obtain ⟨⟨j, hq, hj, rfl, HI⟩, rfl⟩ := hrel
    have HQ := Lib.hid hq
    clear hq
    by_cases hjl : j < L.length
    · obtain ⟨gl, cc, sA, sc, elv, hgl, _, _, _, c2, _, _, _⟩ := HS.out.at_ hjl
      injection elv with elv e2 e3
      subst elv; subst e3
      have HB := Lib.hid (HC.out j)
      have HRJ := Lib.hid (HR.out j (by omega))
      obtain ⟨r, hr⟩ : ∃ r, room k L.length j = r := ⟨_, rfl⟩
      obtain ⟨x, hx⟩ : ∃ x, (lvl L j).length = x := ⟨_, rfl⟩
      have hrk : r ≤ k := by rw [← hr]; exact HRL.out j
      rw [hr] at HRJ
      rw [hx] at c2 HB
      have hxb := HB.out
      have HRE := Lib.hid hr
      have HXE := Lib.hid hx
      clear hr hx
      by_cases hgt : (x : Int) > (r : Int)
      · go_wp2_with fail
        refine (HRJ.out).mono ?_
        rintro e w1 ⟨rfl, rfl⟩
        go_wp2_with fail
        refine bodyPost_ret (by simp [results, Try.results92, go_sem, *]; try rfl) rfl ?_
        exact ⟨by rw [fullI_some hjl (by rw [HRE.out, HXE.out]; omega) HI.out], rfl⟩
      · go_wp2_with fail
        refine (HRJ.out).mono ?_
        rintro e w1 ⟨rfl, rfl⟩
        go_wp2_with fail
        go_roundg (L.length - (j + 1))
        case measure => have := HQ.out; omega
        case rel =>
          refine ⟨⟨j + 1, rfl, by omega, by go_num, Lib.hid fun i hi => ?_⟩, rfl⟩
          rcases Nat.lt_or_ge i j with h1 | h1
          · exact HI.out i h1
          · obtain rfl : i = j := by omega
            rw [HRE.out, HXE.out]; omega
    · have HE := Lib.hid (fullI_none (k := k) (L := L) (fun i hi => HI.out i (by omega)))
      go_wp2_with fail
      refine bodyPost_ret (by simp [results, Try.results92, go_sem, *]; try rfl) rfl ?_
      exact ⟨by rw [HE.out], rfl⟩
end Go.Proofs.Ytigmncogjbbmhaa
