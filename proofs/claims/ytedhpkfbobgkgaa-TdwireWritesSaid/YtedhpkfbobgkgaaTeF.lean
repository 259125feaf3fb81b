/- added of law23. -/
import Derived.Test.YtedhpkfbobgkgaaDo
import Derived.Test.YtedhpkfbobgkgaaDigQ
namespace Go.Proofs.Ytedhpkfbobgkgaa
open Go.RowKit Go.Lib

/-- A value's weight. -/
def wu (n : List Int) (i : Nat) : Int := match n[i]? with
  | some x => (1 + x % 1000) * 2 ^ (x % 30).toNat
  | none => 1
/-- The first values, with their weights. -/
def gave (l n : List Int) (k : Nat) : List (Int × Int) := (List.range k).map fun i => (l[i]?.getD 0, wu n i)
theorem gave_succ (l n : List Int) (k : Nat) (h : k < l.length) : gave l n (k + 1) = gave l n k ++ [(l[k], wu n k)] := by
  simp [gave, List.range_succ, List.getElem?_eq_getElem h]
theorem gave_length (l n : List Int) (k : Nat) : (gave l n k).length = k := by simp [gave]
theorem pow_bd (x : Int) : 1 ≤ (2 : Int) ^ (x % 30).toNat ∧ (2 : Int) ^ (x % 30).toNat ≤ 536870912 := by
  have h : ∀ k : Fin 30, 1 ≤ (2 : Int) ^ k.val ∧ (2 : Int) ^ k.val ≤ 536870912 := by decide +kernel
  exact h ⟨(x % 30).toNat, by omega⟩
theorem wu_bd {n : List Int} (i : Nat) : 1 ≤ wu n i ∧ wu n i ≤ 536870912000 := by
  unfold wu
  split
  · rename_i x _
    have h := pow_bd x
    have h1 : 1 ≤ 1 + x % 1000 ∧ 1 + x % 1000 ≤ 1000 := by omega
    exact ⟨Int.le_trans (by decide : (1 : Int) ≤ 1 * 1) (Int.mul_le_mul h1.1 h.1 (by decide) (by omega)), Int.le_trans (Int.mul_le_mul h1.2 h.2 (by omega) (by decide)) (by decide)⟩
  · omega
theorem gave_ok {l n : List Int} {k : Nat} (hl : ∀ x ∈ l, -9223372036854775808 ≤ x ∧ x ≤ 9223372036854775807) : okL (gave l n k) := by
  intro m hm
  obtain ⟨i, _, rfl⟩ := List.mem_map.1 hm
  have h1 := wu_bd (n := n) i
  have h2 : -9223372036854775808 ≤ l[i]?.getD 0 ∧ l[i]?.getD 0 ≤ 9223372036854775807 := by
    rcases Nat.lt_or_ge i l.length with h | h
    · rw [List.getElem?_eq_getElem h]; exact hl _ (List.getElem_mem h)
    · rw [List.getElem?_eq_none h]; simp
  exact ⟨h2.1, h2.2, by simp only; omega⟩
theorem gave_tot (l n : List Int) : ∀ k : Nat, 0 ≤ tot (gave l n k) ∧ tot (gave l n k) ≤ 536870912000 * k
  | 0 => by simp [gave, tot]
  | k + 1 => by
    have ih := gave_tot l n k
    have h := wu_bd (n := n) k
    have e : gave l n (k + 1) = gave l n k ++ [(l[k]?.getD 0, wu n k)] := by simp [gave, List.range_succ]
    rw [e, tot_append]
    simp only [tot]
    omega
/-- The digest of values. -/
def uOf (d : Int) (l n : List Int) (k : Nat) : St := St.adds d St.zero (gave l n k)
theorem uOf_succ (d : Int) (l n : List Int) (k : Nat) (h : k < l.length) : uOf d l n (k + 1) = (uOf d l n k).add d l[k] (wu n k) := by
  unfold uOf; rw [gave_succ l n k h, St.adds_snoc]
theorem uOf_n (d : Int) (l n : List Int) (k : Nat) : tot ((uOf d l n k).L ++ (uOf d l n k).W) = tot (gave l n k) := by
  unfold uOf; rw [St.adds_n]; simp [St.zero, tot]
theorem uOf_fit {d : Int} {l n : List Int} {k : Nat} (hl : ∀ x ∈ l, -9223372036854775808 ≤ x ∧ x ≤ 9223372036854775807) (hk : k ≤ 80) (d0 : 10 ≤ d) (d1 : d ≤ 1000) : Fit d (uOf d l n k) k := by
  have h := St.adds_ok (d := d) (by omega) (gave l n k) St.zero 0 (St.zero_ok d (by omega)) (gave_ok hl)
  rw [gave_length] at h
  refine ⟨by rw [Nat.zero_add] at h; exact h, by omega, ?_, d0, d1⟩
  rw [uOf_n]
  have := (gave_tot l n k).2
  omega

/-- Pressed, if that is asked for. -/
def prO (pr : Bool) (d : Int) (s : St) : St := if pr = true then s.press d else s

set_option maxRecDepth 100000 in
set_option maxHeartbeats 2000000 in
theorem added23_any (d : Int) (vl vn : Value) (pr : Bool) (l n : List Int) (w : World) (d0 : 0 ≤ d) (d1 : d ≤ 65535) (hl : RdI .i64 w vl l) (hn : RdI .u16 w vn n)
    (bl : ∀ x ∈ l, -9223372036854775808 ≤ x ∧ x ≤ 9223372036854775807) (bn : ∀ x ∈ n, 0 ≤ x ∧ x ≤ 65535) :
    Calls Try.prog 49 #[.int .u16 d, vl, vn, .bool pr] w fun e w' => ∃ g1 g2 : Nat, e = .returned (.tuple #[.pointer (some ⟨g1, 0, none⟩), .pointer (some ⟨g2, 0, none⟩)]) ∧
      Two w.heap.size w w' g1 g2 (10 + d % 60) (prO pr (10 + d % 60) (uOf (10 + d % 60) l n (min l.length 80))) := by
  obtain ⟨A, ca, rfl, na, ma, fa⟩ := hl.form
  obtain ⟨B, cb, rfl, nb, mb, fb⟩ := hn.form
  have FA := Lib.hid fa
  have FB := Lib.hid fb
  have BL := Lib.hid bl
  have BN := Lib.hid bn
  clear hl hn fa fb bl bn
  go_enter Try.func49, Try.ntmps49
  go_wp2_with fail
  obtain ⟨D, hD⟩ : ∃ D, 10 + d % 60 = D := ⟨_, rfl⟩
  have hD0 : 10 ≤ D := by omega
  have hD1 : D ≤ 1000 := by omega
  rw [hD]
  have HDD := Lib.hid hD
  clear hD
  go_wp2_with fail
  refine (new_yes D w hD0 hD1).mono ?_
  rintro e w1 ⟨g1, rfl, hg, hd, hb1⟩
  have hz1 := hb1.size
  have DD0 : Hid (DgS w1 g1 (fun k => k = g1) D St.zero) := Lib.hid hd
  clear hd
  go_wp2_with fail
  obtain ⟨g2, hg2⟩ : ∃ g2, w1.heap.size = g2 := ⟨_, rfl⟩
  have T0 : Hid (Two w.heap.size w (w1.alloc (.cells #[.int .i64 D, .slice none 0 0, .slice none 0 0, .int .i64 0, .int .i64 0] 37)) g1 g2 D (uOf D l n 0)) := by
    have hlt := Dg.lt DD0.out
    have hb2 : Below w1.heap.size w1 (w1.alloc (.cells #[.int .i64 D, .slice none 0 0, .slice none 0 0, .int .i64 0, .int .i64 0] 37)) := (Below.refl _ _).alloc (Nat.le_refl _) _
    refine ⟨fun k => k = g1, fun k => k = g2, Dg.keep DD0.out hb2, ⟨.slice none 0 0, .slice none 0 0, by rw [← hg2]; exact Blk.new _ _ _, OwnM.nil_ _ _, OwnM.nil_ _ _, rfl, (fun k e => by cases e), (fun k e => by cases e), (fun k e => by cases e), (fun k e => by subst e; rw [World.size_alloc]; omega)⟩, ?_, ?_, ?_, hb1.trans (hb2.mono hz1)⟩
    · intro k h1 h2; omega
    · intro k h1; omega
    · intro k h1; omega
  rw [hg2]
  have hzz : w.heap.size ≤ (w1.alloc (.cells #[.int .i64 D, .slice none 0 0, .slice none 0 0, .int .i64 0, .int .i64 0] 37)).heap.size := by rw [World.size_alloc]; omega
  generalize w1.alloc (.cells #[.int .i64 D, .slice none 0 0, .slice none 0 0, .int .i64 0, .int .i64 0] 37) = w2 at *
  obtain ⟨M, hM⟩ : ∃ M, min l.length 80 = M := ⟨_, rfl⟩
  have hM1 : M ≤ 80 := by omega
  have hM2 : M ≤ l.length := by omega
  have hM3 : l.length ≤ M ∨ 80 ≤ M := by omega
  have HM := Lib.hid hM
  clear hM DD0 hb1 hg2
  go_loopg [14] M (fun q i wr => ∃ j : Nat, q = M - j ∧ j ≤ M ∧ i = .int .i64 j ∧ Hid (Two w.heap.size w wr g1 g2 D (uOf D l n j)) ∧ w.heap.size ≤ wr.heap.size)
  case atStart => exact ⟨0, rfl, Nat.zero_le _, rfl, T0, hzz⟩
  case round =>
    obtain ⟨j, hk, hj, rfl, T1, hz⟩ := hrel
    have HK := Lib.hid hk
    clear hk
    by_cases hlt : j < M
    · have hlt1 : j < l.length := by omega
      have hlt2 : j < 80 := by omega
      have HS := Lib.hid (uOf_succ D l n j hlt1)
      have FT := Lib.hid (uOf_fit (d := D) (l := l) (n := n) (k := j) BL.out (by omega) hD0 hD1)
      have hbl := BL.out l[j] (List.getElem_mem hlt1)
      have hwt := wu_bd (n := n) j
      have htt := FT.out.t
      obtain ⟨F1, F2, a1, a2, a3, a4, a5, a6⟩ := T1.out
      have A1 := Lib.hid a1
      have A2 := Lib.hid a2
      have A3 := Lib.hid a3
      have A4 := Lib.hid a4
      have A5 := Lib.hid a5
      have A6 := Lib.hid a6
      have hgt := gave_tot l n j
      have hsn : tot ((uOf D l n j).L ++ (uOf D l n j).W) ≤ 42949672960000 := by rw [uOf_n]; omega
      clear a1 a2 a3 a4 a5 hgt T1
      obtain ⟨gA, oA, rfl, hgA, e0⟩ := FA.out.at_ hlt1
      have G0 := Lib.hid e0
      clear a6 e0
      obtain ⟨x, hx⟩ : ∃ x, l[j] = x := ⟨_, rfl⟩
      rw [hx] at hbl G0 HS
      have HX := Lib.hid hx
      clear hx
      by_cases hnj : j < n.length
      · have HW : Hid (wu n j = (1 + n[j] % 1000) * 2 ^ (n[j] % 30).toNat) := by show wu n j = _; unfold wu; rw [List.getElem?_eq_getElem hnj]
        have hbn := BN.out n[j] (List.getElem_mem hnj)
        obtain ⟨gB, oB, rfl, hgB, e1⟩ := (FB.out.keep (A6.out.mono (Nat.le_refl _))).at_ hnj
        have e0 := (A6.out.cell (p := ⟨gA, oA + j, none⟩) hgA).trans G0.out
        obtain ⟨y, hy⟩ : ∃ y, n[j] = y := ⟨_, rfl⟩
        rw [hy] at hbn e1 HW
        have hzb : 1 ≤ (1 + y % 1000) * 2 ^ (y % 30).toNat ∧ (1 + y % 1000) * 2 ^ (y % 30).toNat ≤ 536870912000 := by rw [← HW.out]; exact hwt
        clear hy
        go_wp2_with fail
        go_quiet (fail)
        have hbq : Below wr.heap.size wr (wr.drewN nq) := below_drewN (Below.refl _ _) _
        have A1 : Hid (DgS (wr.drewN nq) g1 F1 D (uOf D l n j)) := Lib.hid (Dg.keep A1.out hbq)
        have A2 : Hid (RDgS (wr.drewN nq) g2 F2 D (uOf D l n j)) := Lib.hid (RDg.keep A2.out hbq)
        have A6 := Lib.hid (A6.out.trans (hbq.mono hz))
        have hz : w.heap.size ≤ (wr.drewN nq).heap.size := Nat.le_trans hz hbq.size
        clear e0 e1
        generalize wr.drewN nq = wq at *
        have e0 := (A6.out.cell (p := ⟨gA, oA + j, none⟩) hgA).trans G0.out
        go_wp2_with fail
        refine (addS_any x ((1 + y % 1000) * 2 ^ (y % 30).toNat) wq A1.out FT.out (by omega) hbl.1 hbl.2 (by omega) (by omega)).mono ?_
        rintro e w5 ⟨rfl, F1', b1, b2, b3⟩
        have hz5 := b3.size
        have R5 := Lib.hid (A2.out.far b3 A3.out)
        have hb5 : Below w.heap.size w w5 := A6.out.trans (b3.base A4.out hz)
        have e5 := (hb5.cell (p := ⟨gA, oA + j, none⟩) hgA).trans G0.out
        have Q1 := Lib.hid b1
        have Q2 := Lib.hid b2
        have Q3 := Lib.hid b3
        clear b1 b2 b3 e0
        go_wp2_with fail
        refine (radd_yes x ((1 + y % 1000) * 2 ^ (y % 30).toNat) w5 R5.out FT.out (by omega) hbl.1 hbl.2 (by omega) (by omega)).mono ?_
        rintro e w6 ⟨rfl, F2', c1, c2, c3⟩
        have hz6 := c3.size
        have T6 := Lib.hid (Two.step A1.out A2.out A3.out A4.out A5.out A6.out hz Q1.out Q2.out Q3.out c1 c2 c3)
        clear c1 c2 c3 e5
        go_wp2_with fail
        go_roundg (M - (j + 1))
        case measure => have := HK.out; omega
        case rel => exact ⟨j + 1, rfl, by omega, by go_num, by rw [HS.out, HW.out]; exact T6.out, by omega⟩
      · have HW : Hid (wu n j = 1) := by show wu n j = _; unfold wu; rw [List.getElem?_eq_none (by omega)]
        have e0 := (A6.out.cell (p := ⟨gA, oA + j, none⟩) hgA).trans G0.out
        go_wp2_with fail
        refine (addS_any x (1) wr A1.out FT.out (by omega) hbl.1 hbl.2 (by omega) (by omega)).mono ?_
        rintro e w5 ⟨rfl, F1', b1, b2, b3⟩
        have hz5 := b3.size
        have R5 := Lib.hid (A2.out.far b3 A3.out)
        have hb5 : Below w.heap.size w w5 := A6.out.trans (b3.base A4.out hz)
        have e5 := (hb5.cell (p := ⟨gA, oA + j, none⟩) hgA).trans G0.out
        have Q1 := Lib.hid b1
        have Q2 := Lib.hid b2
        have Q3 := Lib.hid b3
        clear b1 b2 b3 e0
        go_wp2_with fail
        refine (radd_yes x (1) w5 R5.out FT.out (by omega) hbl.1 hbl.2 (by omega) (by omega)).mono ?_
        rintro e w6 ⟨rfl, F2', c1, c2, c3⟩
        have hz6 := c3.size
        have T6 := Lib.hid (Two.step A1.out A2.out A3.out A4.out A5.out A6.out hz Q1.out Q2.out Q3.out c1 c2 c3)
        clear c1 c2 c3 e5
        go_wp2_with fail
        go_roundg (M - (j + 1))
        case measure => have := HK.out; omega
        case rel => exact ⟨j + 1, rfl, by omega, by go_num, by rw [HS.out, HW.out]; exact T6.out, by omega⟩
    · have hE : j = M := by omega
      subst hE
      have hcd : l.length ≤ j ∨ 80 ≤ j := hM3
      have FT := Lib.hid (uOf_fit (d := D) (l := l) (n := n) (k := j) BL.out (by omega) hD0 hD1)
      have PE : Hid (Calls Try.prog 26 #[.pointer (some ⟨g1, 0, none⟩)] wr fun e w1 => e = .returned (.tuple #[]) ∧
          Calls Try.prog 76 #[.pointer (some ⟨g2, 0, none⟩)] w1 fun e w2 => e = .returned (.tuple #[]) ∧ Two w.heap.size w w2 g1 g2 D ((uOf D l n j).press D)) := by
        obtain ⟨F1, F2, a1, a2, a3, a4, a5, a6⟩ := T1.out
        refine (acts_press ⟨a1, a2, a3, a4, a5⟩ FT.out hz).mono ?_
        rintro e w1 ⟨he, z1, t1, h2⟩
        refine ⟨he, h2.mono ?_⟩
        rintro e w2 ⟨he2, z2, t2, F', G', pm, _, _⟩
        exact ⟨he2, F', G', pm.a, pm.b, pm.ab, pm.fa, pm.fb, (a6.trans (t1.base a4 hz)).trans (t2.base a5 (by omega))⟩
      by_cases hll : j < l.length
      · have h80 : ¬ (j < 80) := by omega
        cases pr
        · go_wp2_with fail
          go_ret2
          refine ⟨g1, g2, rfl, ?_⟩
          rw [HDD.out, HM.out]
          exact T1.out
        · go_wp2_with fail
          refine (PE.out).mono ?_
          rintro e w5 ⟨rfl, h2⟩
          have H2 := Lib.hid h2
          clear h2
          go_wp2_with fail
          refine (H2.out).mono ?_
          rintro e w6 ⟨rfl, t6⟩
          have T6 := Lib.hid t6
          clear t6
          go_wp2_with fail
          go_ret2
          refine ⟨g1, g2, rfl, ?_⟩
          rw [HDD.out, HM.out]
          exact T6.out
      · cases pr
        · go_wp2_with fail
          go_ret2
          refine ⟨g1, g2, rfl, ?_⟩
          rw [HDD.out, HM.out]
          exact T1.out
        · go_wp2_with fail
          refine (PE.out).mono ?_
          rintro e w5 ⟨rfl, h2⟩
          have H2 := Lib.hid h2
          clear h2
          go_wp2_with fail
          refine (H2.out).mono ?_
          rintro e w6 ⟨rfl, t6⟩
          have T6 := Lib.hid t6
          clear t6
          go_wp2_with fail
          go_ret2
          refine ⟨g1, g2, rfl, ?_⟩
          rw [HDD.out, HM.out]
          exact T6.out
end Go.Proofs.Ytedhpkfbobgkgaa
