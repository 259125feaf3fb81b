/- added of law23. · TdwireWrites' walk. -/
import Derived.Test.YtedhpkfbobgkgaaDo
import Derived.Test.YtedhpkfbobgkgaaDigQ
import Derived.Test.YtedhpkfbobgkgaaTeE
import Derived.Test.YtedhpkfbobgkgaaSame
namespace Go.Proofs.Ytedhpkfbobgkgaa
section
open Go.RowKit Go.Lib
/-- A value's weight. -/
def wu (n : List Int) (i : Nat) : Int := match n[i]? with
  | some x => (1 + x % 1000) * 2 ^ (x % 30).toNat
  | none => 1
/-- The first values, with their weights. -/
def gave (l n : List Int) (k : Nat) : List (Int × Int) := (List.range k).map fun i => (l[i]?.getD 0, wu n i)
theorem gave_succ (l n : List Int) (k : Nat) (h : k < l.length) : gave l n (k + 1) = gave l n k ++ [(l[k], wu n k)] := by
  simp [gave, List.range_succ, List.getElem?_eq_getElem h]
theorem gave_length (l n : List Int) (k : Nat) : (gave l n k).length = k := by simp [gave]
theorem pow_bd (x : Int) : 1 ≤ (2 : Int) ^ (x % 30).toNat ∧ (2 : Int) ^ (x % 30).toNat ≤ 536870912 := by
  have h : ∀ k : Fin 30, 1 ≤ (2 : Int) ^ k.val ∧ (2 : Int) ^ k.val ≤ 536870912 := by decide +kernel
  exact h ⟨(x % 30).toNat, by omega⟩
theorem wu_bd {n : List Int} (i : Nat) : 1 ≤ wu n i ∧ wu n i ≤ 536870912000 := by
  unfold wu
  split
  · rename_i x _
    have h := pow_bd x
    have h1 : 1 ≤ 1 + x % 1000 ∧ 1 + x % 1000 ≤ 1000 := by omega
    exact ⟨Int.le_trans (by decide : (1 : Int) ≤ 1 * 1) (Int.mul_le_mul h1.1 h.1 (by decide) (by omega)), Int.le_trans (Int.mul_le_mul h1.2 h.2 (by omega) (by decide)) (by decide)⟩
  · omega
theorem gave_ok {l n : List Int} {k : Nat} (hl : ∀ x ∈ l, -9223372036854775808 ≤ x ∧ x ≤ 9223372036854775807) : okL (gave l n k) := by
  intro m hm
  obtain ⟨i, _, rfl⟩ := List.mem_map.1 hm
  have h1 := wu_bd (n := n) i
  have h2 : -9223372036854775808 ≤ l[i]?.getD 0 ∧ l[i]?.getD 0 ≤ 9223372036854775807 := by
    rcases Nat.lt_or_ge i l.length with h | h
    · rw [List.getElem?_eq_getElem h]; exact hl _ (List.getElem_mem h)
    · rw [List.getElem?_eq_none h]; simp
  exact ⟨h2.1, h2.2, by simp only; omega⟩
theorem gave_tot (l n : List Int) : ∀ k : Nat, 0 ≤ tot (gave l n k) ∧ tot (gave l n k) ≤ 536870912000 * k
  | 0 => by simp [gave, tot]
  | k + 1 => by
    have ih := gave_tot l n k
    have h := wu_bd (n := n) k
    have e : gave l n (k + 1) = gave l n k ++ [(l[k]?.getD 0, wu n k)] := by simp [gave, List.range_succ]
    rw [e, tot_append]
    simp only [tot]
    omega
/-- The digest of values. -/
def uOf (d : Int) (l n : List Int) (k : Nat) : St := St.adds d St.zero (gave l n k)
theorem uOf_succ (d : Int) (l n : List Int) (k : Nat) (h : k < l.length) : uOf d l n (k + 1) = (uOf d l n k).add d l[k] (wu n k) := by
  unfold uOf; rw [gave_succ l n k h, St.adds_snoc]
theorem uOf_n (d : Int) (l n : List Int) (k : Nat) : tot ((uOf d l n k).L ++ (uOf d l n k).W) = tot (gave l n k) := by
  unfold uOf; rw [St.adds_n]; simp [St.zero, tot]
theorem uOf_fit {d : Int} {l n : List Int} {k : Nat} (hl : ∀ x ∈ l, -9223372036854775808 ≤ x ∧ x ≤ 9223372036854775807) (hk : k ≤ 80) (d0 : 10 ≤ d) (d1 : d ≤ 1000) : Fit d (uOf d l n k) k := by
  have h := St.adds_ok (d := d) (by omega) (gave l n k) St.zero 0 (St.zero_ok d (by omega)) (gave_ok hl)
  rw [gave_length] at h
  refine ⟨by rw [Nat.zero_add] at h; exact h, by omega, ?_, d0, d1⟩
  rw [uOf_n]
  have := (gave_tot l n k).2
  omega

/-- Pressed, if that is asked for. -/
def prO (pr : Bool) (d : Int) (s : St) : St := if pr = true then s.press d else s

set_option maxRecDepth 100000 in
set_option maxHeartbeats 2000000 in
theorem added23_any (d : Int) (vl vn : Value) (pr : Bool) (l n : List Int) (w : World) (d0 : 0 ≤ d) (d1 : d ≤ 65535) (hl : RdI .i64 w vl l) (hn : RdI .u16 w vn n)
    (bl : ∀ x ∈ l, -9223372036854775808 ≤ x ∧ x ≤ 9223372036854775807) (bn : ∀ x ∈ n, 0 ≤ x ∧ x ≤ 65535) :
    Calls Try.prog 49 #[.int .u16 d, vl, vn, .bool pr] w fun e w' => ∃ g1 g2 : Nat, e = .returned (.tuple #[.pointer (some ⟨g1, 0, none⟩), .pointer (some ⟨g2, 0, none⟩)]) ∧
      Two w.heap.size w w' g1 g2 (10 + d % 60) (prO pr (10 + d % 60) (uOf (10 + d % 60) l n (min l.length 80))) := by
  obtain ⟨A, ca, rfl, na, ma, fa⟩ := hl.form
  obtain ⟨B, cb, rfl, nb, mb, fb⟩ := hn.form
  have FA := Lib.hid fa
  have FB := Lib.hid fb
  have BL := Lib.hid bl
  have BN := Lib.hid bn
  clear hl hn fa fb bl bn
  go_enter Try.func49, Try.ntmps49
  go_wp2_with fail
  obtain ⟨D, hD⟩ : ∃ D, 10 + d % 60 = D := ⟨_, rfl⟩
  have hD0 : 10 ≤ D := by omega
  have hD1 : D ≤ 1000 := by omega
  rw [hD]
  have HDD := Lib.hid hD
  clear hD
  go_wp2_with fail
  refine (new_yes D w hD0 hD1).mono ?_
  rintro e w1 ⟨g1, rfl, hg, hd, hb1⟩
  have hz1 := hb1.size
  have DD0 : Hid (DgS w1 g1 (fun k => k = g1) D St.zero) := Lib.hid hd
  clear hd
  go_wp2_with fail
  obtain ⟨g2, hg2⟩ : ∃ g2, w1.heap.size = g2 := ⟨_, rfl⟩
  have T0 : Hid (Two w.heap.size w (w1.alloc (.cells #[.int .i64 D, .slice none 0 0, .slice none 0 0, .int .i64 0, .int .i64 0] 37)) g1 g2 D (uOf D l n 0)) := by
    have hlt := Dg.lt DD0.out
    have hb2 : Below w1.heap.size w1 (w1.alloc (.cells #[.int .i64 D, .slice none 0 0, .slice none 0 0, .int .i64 0, .int .i64 0] 37)) := (Below.refl _ _).alloc (Nat.le_refl _) _
    refine ⟨fun k => k = g1, fun k => k = g2, Dg.keep DD0.out hb2, ⟨.slice none 0 0, .slice none 0 0, by rw [← hg2]; exact Blk.new _ _ _, OwnM.nil_ _ _, OwnM.nil_ _ _, rfl, (fun k e => by cases e), (fun k e => by cases e), (fun k e => by cases e), (fun k e => by subst e; rw [World.size_alloc]; omega)⟩, ?_, ?_, ?_, hb1.trans (hb2.mono hz1)⟩
    · intro k h1 h2; omega
    · intro k h1; omega
    · intro k h1; omega
  rw [hg2]
  have hzz : w.heap.size ≤ (w1.alloc (.cells #[.int .i64 D, .slice none 0 0, .slice none 0 0, .int .i64 0, .int .i64 0] 37)).heap.size := by rw [World.size_alloc]; omega
  generalize w1.alloc (.cells #[.int .i64 D, .slice none 0 0, .slice none 0 0, .int .i64 0, .int .i64 0] 37) = w2 at *
  obtain ⟨M, hM⟩ : ∃ M, min l.length 80 = M := ⟨_, rfl⟩
  have hM1 : M ≤ 80 := by omega
  have hM2 : M ≤ l.length := by omega
  have hM3 : l.length ≤ M ∨ 80 ≤ M := by omega
  have HM := Lib.hid hM
  clear hM DD0 hb1 hg2
  go_loopg [14] M (fun q i wr => ∃ j : Nat, q = M - j ∧ j ≤ M ∧ i = .int .i64 j ∧ Hid (Two w.heap.size w wr g1 g2 D (uOf D l n j)) ∧ w.heap.size ≤ wr.heap.size)
  case atStart => exact ⟨0, rfl, Nat.zero_le _, rfl, T0, hzz⟩
  case round =>
    obtain ⟨j, hk, hj, rfl, T1, hz⟩ := hrel
    have HK := Lib.hid hk
    clear hk
    by_cases hlt : j < M
    · have hlt1 : j < l.length := by omega
      have hlt2 : j < 80 := by omega
      have HS := Lib.hid (uOf_succ D l n j hlt1)
      have FT := Lib.hid (uOf_fit (d := D) (l := l) (n := n) (k := j) BL.out (by omega) hD0 hD1)
      have hbl := BL.out l[j] (List.getElem_mem hlt1)
      have hwt := wu_bd (n := n) j
      have htt := FT.out.t
      obtain ⟨F1, F2, a1, a2, a3, a4, a5, a6⟩ := T1.out
      have A1 := Lib.hid a1
      have A2 := Lib.hid a2
      have A3 := Lib.hid a3
      have A4 := Lib.hid a4
      have A5 := Lib.hid a5
      have A6 := Lib.hid a6
      have hgt := gave_tot l n j
      have hsn : tot ((uOf D l n j).L ++ (uOf D l n j).W) ≤ 42949672960000 := by rw [uOf_n]; omega
      clear a1 a2 a3 a4 a5 hgt T1
      obtain ⟨gA, oA, rfl, hgA, e0⟩ := FA.out.at_ hlt1
      have G0 := Lib.hid e0
      clear a6 e0
      obtain ⟨x, hx⟩ : ∃ x, l[j] = x := ⟨_, rfl⟩
      rw [hx] at hbl G0 HS
      have HX := Lib.hid hx
      clear hx
      by_cases hnj : j < n.length
      · have HW : Hid (wu n j = (1 + n[j] % 1000) * 2 ^ (n[j] % 30).toNat) := by show wu n j = _; unfold wu; rw [List.getElem?_eq_getElem hnj]
        have hbn := BN.out n[j] (List.getElem_mem hnj)
        obtain ⟨gB, oB, rfl, hgB, e1⟩ := (FB.out.keep (A6.out.mono (Nat.le_refl _))).at_ hnj
        have e0 := (A6.out.cell (p := ⟨gA, oA + j, none⟩) hgA).trans G0.out
        obtain ⟨y, hy⟩ : ∃ y, n[j] = y := ⟨_, rfl⟩
        rw [hy] at hbn e1 HW
        have hzb : 1 ≤ (1 + y % 1000) * 2 ^ (y % 30).toNat ∧ (1 + y % 1000) * 2 ^ (y % 30).toNat ≤ 536870912000 := by rw [← HW.out]; exact hwt
        clear hy
        go_wp2_with fail
        go_quiet (fail)
        have hbq : Below wr.heap.size wr (wr.drewN nq) := below_drewN (Below.refl _ _) _
        have A1 : Hid (DgS (wr.drewN nq) g1 F1 D (uOf D l n j)) := Lib.hid (Dg.keep A1.out hbq)
        have A2 : Hid (RDgS (wr.drewN nq) g2 F2 D (uOf D l n j)) := Lib.hid (RDg.keep A2.out hbq)
        have A6 := Lib.hid (A6.out.trans (hbq.mono hz))
        have hz : w.heap.size ≤ (wr.drewN nq).heap.size := Nat.le_trans hz hbq.size
        clear e0 e1
        generalize wr.drewN nq = wq at *
        have e0 := (A6.out.cell (p := ⟨gA, oA + j, none⟩) hgA).trans G0.out
        go_wp2_with fail
        refine (addS_any x ((1 + y % 1000) * 2 ^ (y % 30).toNat) wq A1.out FT.out (by omega) hbl.1 hbl.2 (by omega) (by omega)).mono ?_
        rintro e w5 ⟨rfl, F1', b1, b2, b3⟩
        have hz5 := b3.size
        have R5 := Lib.hid (A2.out.far b3 A3.out)
        have hb5 : Below w.heap.size w w5 := A6.out.trans (b3.base A4.out hz)
        have e5 := (hb5.cell (p := ⟨gA, oA + j, none⟩) hgA).trans G0.out
        have Q1 := Lib.hid b1
        have Q2 := Lib.hid b2
        have Q3 := Lib.hid b3
        clear b1 b2 b3 e0
        go_wp2_with fail
        refine (radd_yes x ((1 + y % 1000) * 2 ^ (y % 30).toNat) w5 R5.out FT.out (by omega) hbl.1 hbl.2 (by omega) (by omega)).mono ?_
        rintro e w6 ⟨rfl, F2', c1, c2, c3⟩
        have hz6 := c3.size
        have T6 := Lib.hid (Two.step A1.out A2.out A3.out A4.out A5.out A6.out hz Q1.out Q2.out Q3.out c1 c2 c3)
        clear c1 c2 c3 e5
        go_wp2_with fail
        go_roundg (M - (j + 1))
        case measure => have := HK.out; omega
        case rel => exact ⟨j + 1, rfl, by omega, by go_num, by rw [HS.out, HW.out]; exact T6.out, by omega⟩
      · have HW : Hid (wu n j = 1) := by show wu n j = _; unfold wu; rw [List.getElem?_eq_none (by omega)]
        have e0 := (A6.out.cell (p := ⟨gA, oA + j, none⟩) hgA).trans G0.out
        go_wp2_with fail
        refine (addS_any x (1) wr A1.out FT.out (by omega) hbl.1 hbl.2 (by omega) (by omega)).mono ?_
        rintro e w5 ⟨rfl, F1', b1, b2, b3⟩
        have hz5 := b3.size
        have R5 := Lib.hid (A2.out.far b3 A3.out)
        have hb5 : Below w.heap.size w w5 := A6.out.trans (b3.base A4.out hz)
        have e5 := (hb5.cell (p := ⟨gA, oA + j, none⟩) hgA).trans G0.out
        have Q1 := Lib.hid b1
        have Q2 := Lib.hid b2
        have Q3 := Lib.hid b3
        clear b1 b2 b3 e0
        go_wp2_with fail
        refine (radd_yes x (1) w5 R5.out FT.out (by omega) hbl.1 hbl.2 (by omega) (by omega)).mono ?_
        rintro e w6 ⟨rfl, F2', c1, c2, c3⟩
        have hz6 := c3.size
        have T6 := Lib.hid (Two.step A1.out A2.out A3.out A4.out A5.out A6.out hz Q1.out Q2.out Q3.out c1 c2 c3)
        clear c1 c2 c3 e5
        go_wp2_with fail
        go_roundg (M - (j + 1))
        case measure => have := HK.out; omega
        case rel => exact ⟨j + 1, rfl, by omega, by go_num, by rw [HS.out, HW.out]; exact T6.out, by omega⟩
    · have hE : j = M := by omega
      subst hE
      have hcd : l.length ≤ j ∨ 80 ≤ j := hM3
      have FT := Lib.hid (uOf_fit (d := D) (l := l) (n := n) (k := j) BL.out (by omega) hD0 hD1)
      have PE : Hid (Calls Try.prog 26 #[.pointer (some ⟨g1, 0, none⟩)] wr fun e w1 => e = .returned (.tuple #[]) ∧
          Calls Try.prog 76 #[.pointer (some ⟨g2, 0, none⟩)] w1 fun e w2 => e = .returned (.tuple #[]) ∧ Two w.heap.size w w2 g1 g2 D ((uOf D l n j).press D)) := by
        obtain ⟨F1, F2, a1, a2, a3, a4, a5, a6⟩ := T1.out
        refine (acts_press ⟨a1, a2, a3, a4, a5⟩ FT.out hz).mono ?_
        rintro e w1 ⟨he, z1, t1, h2⟩
        refine ⟨he, h2.mono ?_⟩
        rintro e w2 ⟨he2, z2, t2, F', G', pm, _, _⟩
        exact ⟨he2, F', G', pm.a, pm.b, pm.ab, pm.fa, pm.fb, (a6.trans (t1.base a4 hz)).trans (t2.base a5 (by omega))⟩
      by_cases hll : j < l.length
      · have h80 : ¬ (j < 80) := by omega
        cases pr
        · go_wp2_with fail
          go_ret2
          refine ⟨g1, g2, rfl, ?_⟩
          rw [HDD.out, HM.out]
          exact T1.out
        · go_wp2_with fail
          refine (PE.out).mono ?_
          rintro e w5 ⟨rfl, h2⟩
          have H2 := Lib.hid h2
          clear h2
          go_wp2_with fail
          refine (H2.out).mono ?_
          rintro e w6 ⟨rfl, t6⟩
          have T6 := Lib.hid t6
          clear t6
          go_wp2_with fail
          go_ret2
          refine ⟨g1, g2, rfl, ?_⟩
          rw [HDD.out, HM.out]
          exact T6.out
      · cases pr
        · go_wp2_with fail
          go_ret2
          refine ⟨g1, g2, rfl, ?_⟩
          rw [HDD.out, HM.out]
          exact T1.out
        · go_wp2_with fail
          refine (PE.out).mono ?_
          rintro e w5 ⟨rfl, h2⟩
          have H2 := Lib.hid h2
          clear h2
          go_wp2_with fail
          refine (H2.out).mono ?_
          rintro e w6 ⟨rfl, t6⟩
          have T6 := Lib.hid t6
          clear t6
          go_wp2_with fail
          go_ret2
          refine ⟨g1, g2, rfl, ?_⟩
          rw [HDD.out, HM.out]
          exact T6.out
end
section
open Go.RowKit Go.Lib
theorem prO_fit {d : Int} {s : St} {k : Nat} (pr : Bool) (h : Fit d s k) : Fit d (prO pr d s) k := by
  unfold prO
  split
  · exact Ok.pressS h
  · exact h

set_option maxRecDepth 100000 in
set_option maxHeartbeats 8000000 in
theorem twrites_any (d : Int) (vl vn : Value) (pr : Bool) (l n : List Int) (w : World) (d0 : 0 ≤ d) (d1 : d ≤ 65535) (hl : RdI .i64 w vl l) (hn : RdI .u16 w vn n)
    (bl : ∀ x ∈ l, -9223372036854775808 ≤ x ∧ x ≤ 9223372036854775807) (bn : ∀ x ∈ n, 0 ≤ x ∧ x ≤ 65535) :
    Calls Try.prog 14 #[.int .u16 d, vl, vn, .bool pr] w fun e w' => e = .returned (.bool true) ∧ Below w.heap.size w w' := by
  obtain ⟨A, ca, rfl, na, ma, fa⟩ := hl.form
  obtain ⟨B, cb, rfl, nb, mb, fb⟩ := hn.form
  have FT := prO_fit pr (uOf_fit (d := 10 + d % 60) (l := l) (n := n) (k := min l.length 80) bl (by omega) (by omega) (by omega))
  have AD := fun w1 (hb : Below w.heap.size w w1) => Lib.hid (added23_any d _ _ pr l n w1 d0 d1 (hl.keep hb) (hn.keep hb) bl bn)
  clear hl hn fa fb bl bn
  have hk : min l.length 80 ≤ 65536 := by omega
  generalize prO pr (10 + d % 60) (uOf (10 + d % 60) l n (min l.length 80)) = s at *
  generalize min l.length 80 = k at *
  generalize 10 + d % 60 = D at *
  have FT' := Lib.hid FT
  have hlw : s.L.length + s.W.length ≤ 1000000 := by have := FT.ok.len; omega
  have HRAW := Lib.hid (okL.raw FT.ok.ok (by have := FT.t; omega))
  obtain ⟨bs, hbs⟩ : ∃ bs, wrD D s.L s.W s.lo s.hi = bs := ⟨_, rfl⟩
  have HBS := Lib.hid hbs
  have HRT : Hid (readT bs = some ⟨D, s.lo, s.hi, s.L, s.W⟩) := Lib.hid (by rw [← hbs]; exact readT_S FT hk)
  have HBY : Hid (byL bs) := Lib.hid (by rw [← hbs]; exact leb_byS FT)
  have hlen : bs.length ≤ 1000000000 := by rw [← hbs]; exact wrD_len hlw
  clear FT hbs
  go_enter Try.func14, Try.ntmps14
  go_wp2_with fail
  refine (alive23_any w).mono ?_
  rintro e w1 ⟨rfl, hb1⟩
  have hz1 := hb1.size
  go_wp2_with fail
  refine ((AD w1 hb1).out).mono ?_
  rintro e w2 ⟨g1, g2, rfl, F1, F2, q1, q2, q3, q4, q5, hb2⟩
  have hb02 := hb1.trans (hb2.mono hz1)
  have hz2 := hb2.size
  have D2 := Lib.hid q1
  have R2 := Lib.hid q2
  clear q1 q2 q3 q4 q5 AD
  go_wp2_with fail
  refine (twrite_any g1 F1 D s k w2 D2.out FT'.out).mono ?_
  rintro e w3 ⟨va, rfl, oa, hb3⟩
  rw [HBS.out] at oa
  obtain ⟨A3, c3, rfl, n3, m3, f3⟩ := (OwnI.rd oa).form
  have O3 : Hid (RdI .u8 w3 (.slice A3 bs.length c3) bs) := Lib.hid (OwnI.rd oa)
  clear oa f3
  have hb03 := hb02.trans (hb3.mono (by omega))
  have hz3 := hb3.size
  have D3 : Hid (DgS w3 g1 F1 D s) := Lib.hid (Dg.keep D2.out hb3)
  have R3 : Hid (RDgS w3 g2 F2 D s) := Lib.hid (RDg.keep R2.out hb3)
  go_wp2_with fail
  refine (read_S (d := D) (s := s) _ w3 (by rw [HBS.out]; exact O3.out) FT'.out hk).mono ?_
  rintro e w4 ⟨g4, F4, rfl, q4, _, hb4⟩
  have hb04 := hb03.trans (hb4.mono (by omega))
  have hz4 := hb4.size
  have Y4 : Hid (DgS w4 g4 F4 D s) := Lib.hid q4
  have D4 : Hid (DgS w4 g1 F1 D s) := Lib.hid (Dg.keep D3.out hb4)
  have R4 : Hid (RDgS w4 g2 F2 D s) := Lib.hid (RDg.keep R3.out hb4)
  have O4 : Hid (RdI .u8 w4 (.slice A3 bs.length c3) bs) := Lib.hid (O3.out.keep hb4)
  clear q4
  go_wp2_with fail
  refine (weight_any _ bs w4 O4.out HBY.out hlen).mono ?_
  intro e w5 hP
  unfold WeightP at hP
  rw [HRT.out] at hP
  obtain ⟨rfl, hb5⟩ := hP
  have hb05 := hb04.trans (hb5.mono (by omega))
  have hz5 := hb5.size
  go_wp2_with fail
  refine (twrite_nil w5).mono ?_
  rintro e w6 ⟨rfl, hb6⟩
  have hb46 := hb5.trans (hb6.mono hz5)
  have hb06 := hb05.trans (hb6.mono (by omega))
  have Y6 : Hid (DgS w6 g4 F4 D s) := Lib.hid (Dg.keep Y4.out hb46)
  have D6 : Hid (DgS w6 g1 F1 D s) := Lib.hid (Dg.keep D4.out hb46)
  have R6 : Hid (RDgS w6 g2 F2 D s) := Lib.hid (RDg.keep R4.out hb46)
  have O6 : Hid (RdI .u8 w6 (.slice A3 bs.length c3) bs) := Lib.hid (O4.out.keep hb46)
  have HZ06 := Lib.hid hb06
  have hz06 := hb06.size
  clear D2 D3 D4 R2 R3 R4 Y4 O3 O4 hb1 hb2 hb3 hb4 hb5 hb6 hb46 hb02 hb03 hb04 hb05 hb06 hz1 hz2 hz3 hz4 hz5 n3 m3
  go_wp2_with fail
  refine wp_region_plan (fun w' => Below w6.heap.size w6 w') [(0, true), (1, true), (2, true), (3, true), (4, true), (5, true), (6, true), (7, true), (8, true), (9, true), (10, true), (11, true), (12, true), (13, true), (14, false), (15, false), (16, true), (17, true), (18, true), (19, true), (20, true), (21, true), (22, true), (23, true), (24, true), (25, false), (26, true), (27, true), (28, true), (29, true), (30, false), (31, false), (32, true), (33, true), (34, true), (35, true), (37, true), (38, true), (36, false), (39, true), (40, true), (41, true), (42, false), (43, true), (44, true), (45, true), (46, true), (47, true), (48, true), (49, true)] (by kernel_rfl) (by kernel_rfl) ((Below.refl _ _).drew) ?_
  iterate 14
    refine wpPlan_read (by rfl) (by rfl) (fun R hR => ?_)
    apply Exists.intro
    refine ⟨fun w' hS' => ?_, ?_⟩
    · have k0 := conv_B (O6.out.keep hS')
      go_simp
      exact ⟨rfl, rfl⟩
    go_simp
    refine hR _ ?_
    clear hR R
  refine wpPlan_do (by rfl) (by rfl) (fun K hK => ?_)
  go_simp
  refine (rwrite_any g2 F2 D s.lo s.hi s.L s.W _ (RDg.keep R6.out (Below.refl _ _).drew) FT'.out.ok.rise (fun m hm => HRAW.out m (List.mem_append_left _ hm)) (fun m hm => HRAW.out m (List.mem_append_right _ hm)) (by omega) (by have := FT'.out.d0; omega) (by have := FT'.out.d1; omega) FT'.out.ok.lo0 FT'.out.ok.lo1 FT'.out.ok.hi0 FT'.out.ok.hi1).mono ?_
  rintro e w7 ⟨v7, rfl, o7, hb7⟩
  have hbw7 : Below w6.heap.size w6 w7 := (Below.refl _ _).drew.trans hb7
  have hz7 := hbw7.size
  rw [HBS.out] at o7
  have cb := conv_B (OwnI.rd o7)
  clear o7
  refine hK _ _ (hbw7) ?_
  clear hK K
  refine wpPlan_do (by rfl) (by rfl) (fun K hK => ?_)
  go_simp
  refine hK _ _ (hbw7) ?_
  clear hK K
  iterate 9
    refine wpPlan_read (by rfl) (by rfl) (fun R hR => ?_)
    apply Exists.intro
    refine ⟨fun w' hS' => ?_, ?_⟩
    · have k0 := conv_B (O6.out.keep hS')
      go_simp
      exact ⟨rfl, rfl⟩
    go_simp
    refine hR _ ?_
    clear hR R
  refine wpPlan_do (by rfl) (by rfl) (fun K hK => ?_)
  go_simp
  refine (same_any w7 (Dg.keep Y6.out hbw7) (RDg.keep R6.out hbw7) FT'.out).mono ?_
  rintro e w8 ⟨rfl, hb8⟩
  clear cb
  have hbw8 : Below w6.heap.size w6 w8 := hbw7.trans (hb8.mono hz7)
  have hz8 := hbw8.size
  refine hK _ _ (hbw8) ?_
  clear hK K
  iterate 4
    refine wpPlan_read (by rfl) (by rfl) (fun R hR => ?_)
    apply Exists.intro
    refine ⟨fun w' hS' => ?_, ?_⟩
    · have k0 := conv_B (O6.out.keep hS')
      go_simp
      exact ⟨rfl, rfl⟩
    go_simp
    refine hR _ ?_
    clear hR R
  refine wpPlan_do (by rfl) (by rfl) (fun K hK => ?_)
  go_simp
  refine (rall_any g2 F2 D s.lo s.hi s.L s.W w8 (RDg.keep R6.out hbw8) (by omega)).mono ?_
  rintro e w9 ⟨v9, rfl, o9, hb9⟩
  have hbw9 : Below w6.heap.size w6 w9 := hbw8.trans (hb9.mono hz8)
  have hz9 := hbw9.size
  have O9 := Lib.hid o9
  clear o9
  refine hK _ _ (hbw9) ?_
  clear hK K
  refine wpPlan_do (by rfl) (by rfl) (fun K hK => ?_)
  go_simp
  refine (rtotal_any v9 _ w9 O9.out.rd FT'.out.ok.ok (by have := FT'.out.t; omega)).mono ?_
  rintro e w10 ⟨rfl, hb10⟩
  have hbw10 : Below w6.heap.size w6 w10 := hbw9.trans (hb10.mono hz9)
  have hz10 := hbw10.size
  refine hK _ _ (hbw10) ?_
  clear hK K
  iterate 6
    refine wpPlan_read (by rfl) (by rfl) (fun R hR => ?_)
    apply Exists.intro
    refine ⟨fun w' hS' => ?_, ?_⟩
    · have k0 := conv_B (O6.out.keep hS')
      go_simp
      exact ⟨rfl, rfl⟩
    go_simp
    refine hR _ ?_
    clear hR R
  refine wpPlan_do (by rfl) (by rfl) (fun K hK => ?_)
  go_simp
  refine (tsize_any g1 F1 D s k w10 (Dg.keep D6.out hbw10) FT'.out).mono ?_
  rw [HBS.out]
  rintro e w11 ⟨rfl, hb11⟩
  have hbw11 : Below w6.heap.size w6 w11 := hbw10.trans (hb11.mono hz10)
  have hz11 := hbw11.size
  refine hK _ _ (hbw11) ?_
  clear hK K
  iterate 3
    refine wpPlan_read (by rfl) (by rfl) (fun R hR => ?_)
    apply Exists.intro
    refine ⟨fun w' hS' => ?_, ?_⟩
    · have k0 := conv_B (O6.out.keep hS')
      go_simp
      exact ⟨rfl, rfl⟩
    go_simp
    refine hR _ ?_
    clear hR R
  refine wpPlan_do (by rfl) (by rfl) (fun K hK => ?_)
  go_simp
  refine (tsize_nil w11).mono ?_
  rintro e w12 ⟨rfl, hb12⟩
  have hbw12 : Below w6.heap.size w6 w12 := hbw11.trans (hb12.mono hz11)
  refine hK _ _ (hbw12) ?_
  clear hK K
  iterate 7
    refine wpPlan_read (by rfl) (by rfl) (fun R hR => ?_)
    apply Exists.intro
    refine ⟨fun w' hS' => ?_, ?_⟩
    · have k0 := conv_B (O6.out.keep hS')
      go_simp
      exact ⟨rfl, rfl⟩
    go_simp
    refine hR _ ?_
    clear hR R
  refine wpPlan_nil ?_
  go_wp2_with fail
  go_ret
  exact ⟨rfl, HZ06.out.trans (hbw12.mono hz06)⟩
end
end Go.Proofs.Ytedhpkfbobgkgaa
