/- added of the law. -/
import Derived.Test.YtedhpkfbobgkgaaDigO
namespace Go.Proofs.Ytedhpkfbobgkgaa
open Go.RowKit Go.Lib

/-- A value's weight. -/
def wt (n : List Int) (i : Nat) : Int := match n[i]? with
  | some x => 1 + x % 1000
  | none => 1
/-- The first values, with their weights. -/
def given (l n : List Int) (k : Nat) : List (Int × Int) := (List.range k).map fun i => (l[i]?.getD 0, wt n i)
theorem given_succ (l n : List Int) (k : Nat) (h : k < l.length) : given l n (k + 1) = given l n k ++ [(l[k], wt n k)] := by
  simp [given, List.range_succ, List.getElem?_eq_getElem h]
theorem given_length (l n : List Int) (k : Nat) : (given l n k).length = k := by simp [given]
theorem wt_bd {n : List Int} (i : Nat) : 1 ≤ wt n i ∧ wt n i ≤ 1000 := by
  unfold wt
  split <;> omega
theorem given_ok {l n : List Int} {k : Nat} (hl : ∀ x ∈ l, -9223372036854775808 ≤ x ∧ x ≤ 9223372036854775807) : okL (given l n k) := by
  intro m hm
  obtain ⟨i, _, rfl⟩ := List.mem_map.1 hm
  have h1 := wt_bd (n := n) i
  have h2 : -9223372036854775808 ≤ l[i]?.getD 0 ∧ l[i]?.getD 0 ≤ 9223372036854775807 := by
    rcases Nat.lt_or_ge i l.length with h | h
    · rw [List.getElem?_eq_getElem h]; exact hl _ (List.getElem_mem h)
    · rw [List.getElem?_eq_none h]; simp
  exact ⟨h2.1, h2.2, by simp only; omega⟩
theorem given_tot (l n : List Int) : ∀ k : Nat, 0 ≤ tot (given l n k) ∧ tot (given l n k) ≤ 1000 * k
  | 0 => by simp [given, tot]
  | k + 1 => by
    have ih := given_tot l n k
    have h := wt_bd (n := n) k
    have e : given l n (k + 1) = given l n k ++ [(l[k]?.getD 0, wt n k)] := by simp [given, List.range_succ]
    rw [e, tot_append]
    simp only [tot]
    omega
/-- The digest of values. -/
def sOf (d : Int) (l n : List Int) (k : Nat) : St := St.adds d St.zero (given l n k)
theorem sOf_succ (d : Int) (l n : List Int) (k : Nat) (h : k < l.length) : sOf d l n (k + 1) = (sOf d l n k).add d l[k] (wt n k) := by
  unfold sOf; rw [given_succ l n k h, St.adds_snoc]
theorem sOf_n (d : Int) (l n : List Int) (k : Nat) : tot ((sOf d l n k).L ++ (sOf d l n k).W) = tot (given l n k) := by
  unfold sOf; rw [St.adds_n]; simp [St.zero, tot]
theorem sOf_fit {d : Int} {l n : List Int} {k : Nat} (hl : ∀ x ∈ l, -9223372036854775808 ≤ x ∧ x ≤ 9223372036854775807) (hk : k ≤ 80) (d0 : 10 ≤ d) (d1 : d ≤ 1000) : Fit d (sOf d l n k) k := by
  have h := St.adds_ok (d := d) (by omega) (given l n k) St.zero 0 (St.zero_ok d (by omega)) (given_ok hl)
  rw [given_length] at h
  refine ⟨by rw [Nat.zero_add] at h; exact h, by omega, ?_, d0, d1⟩
  rw [sOf_n]
  have := (given_tot l n k).2
  omega

/-- Two digests in memory that are one state, the program's and the reference's, apart from each other, above B. -/
def Two (B : Nat) (w0 w : World) (g1 g2 : Nat) (d : Int) (s : St) : Prop :=
  ∃ F1 F2 : Nat → Prop, DgS w g1 F1 d s ∧ RDgS w g2 F2 d s ∧ (∀ k, F1 k → ¬ F2 k) ∧ (∀ k, F1 k → B ≤ k) ∧ (∀ k, F2 k → B ≤ k) ∧ Below B w0 w
theorem Two.keep {B : Nat} {w0 w w' : World} {g1 g2 : Nat} {d : Int} {s : St} (h : Two B w0 w g1 g2 d s) (hb : Below w.heap.size w w') (hB : B ≤ w.heap.size) : Two B w0 w' g1 g2 d s := by
  obtain ⟨F1, F2, h1, h2, h3, h4, h5, h6⟩ := h
  exact ⟨F1, F2, Dg.keep h1 hb, RDg.keep h2 hb, h3, h4, h5, h6.trans (hb.mono hB)⟩

theorem RDgS.far {w w' : World} {g : Nat} {F1 F2 : Nat → Prop} {d : Int} {s : St} (h : RDgS w g F2 d s) (ht : Touch F1 w w') (ha : ∀ k, F1 k → ¬ F2 k) : RDgS w' g F2 d s :=
  RDg.stay h (fun k hk => ht.block k (RDg.low h k hk) (fun h1 => ha k h1 hk)) ht.size
theorem DgS.far {w w' : World} {g : Nat} {F1 F2 : Nat → Prop} {d : Int} {s : St} (h : DgS w g F1 d s) (ht : Touch F2 w w') (ha : ∀ k, F1 k → ¬ F2 k) : DgS w' g F1 d s :=
  Dg.stay h (fun k hk => ht.block k (Dg.low h k hk) (fun h1 => ha k hk h1)) ht.size
/-- Both digests went on. -/
theorem Two.step {B : Nat} {w0 w w5 w6 : World} {g1 g2 : Nat} {d : Int} {s s' : St} {F1 F2 F1' F2' : Nat → Prop} (_A1 : DgS w g1 F1 d s) (A2 : RDgS w g2 F2 d s) (A3 : ∀ k, F1 k → ¬ F2 k) (A4 : ∀ k, F1 k → B ≤ k) (A5 : ∀ k, F2 k → B ≤ k) (A6 : Below B w0 w) (hB : B ≤ w.heap.size)
    (b1 : ∀ k, F1' k → F1 k ∨ w.heap.size ≤ k) (b2 : DgS w5 g1 F1' d s') (b3 : Touch F1 w w5) (c1 : ∀ k, F2' k → F2 k ∨ w5.heap.size ≤ k) (c2 : RDgS w6 g2 F2' d s') (c3 : Touch F2 w5 w6) : Two B w0 w6 g1 g2 d s' := by
  have z5 := b3.size
  have ha : ∀ k, F1' k → ¬ F2 k := fun k h1 h2 => by
    rcases b1 k h1 with h3 | h3
    · exact A3 k h3 h2
    · have := RDg.low A2 k h2; omega
  refine ⟨F1', F2', b2.far c3 ha, c2, fun k h1 h2 => ?_, sub_base A4 b1 hB, sub_base A5 c1 (by omega), (A6.trans (b3.base A4 hB)).trans (c3.base A5 (by omega))⟩
  rcases c1 k h2 with h3 | h3
  · exact ha k h1 h3
  · have := Dg.low b2 k h1; omega

set_option maxRecDepth 100000 in
set_option maxHeartbeats 2000000 in
theorem added_any (d : Int) (vl vn : Value) (l n : List Int) (w : World) (d0 : 0 ≤ d) (d1 : d ≤ 65535) (hl : RdI .i64 w vl l) (hn : RdI .u16 w vn n)
    (bl : ∀ x ∈ l, -9223372036854775808 ≤ x ∧ x ≤ 9223372036854775807) (bn : ∀ x ∈ n, 0 ≤ x ∧ x ≤ 65535) :
    Calls Try.prog 18 #[.int .u16 d, vl, vn] w fun e w' => ∃ g1 g2 : Nat, e = .returned (.tuple #[.pointer (some ⟨g1, 0, none⟩), .pointer (some ⟨g2, 0, none⟩)]) ∧
      Two w.heap.size w w' g1 g2 (10 + d % 60) (sOf (10 + d % 60) l n (min l.length 80)) := by
  obtain ⟨A, ca, rfl, na, ma, fa⟩ := hl.form
  obtain ⟨B, cb, rfl, nb, mb, fb⟩ := hn.form
  have FA := Lib.hid fa
  have FB := Lib.hid fb
  have BL := Lib.hid bl
  have BN := Lib.hid bn
  clear hl hn fa fb bl bn
  go_enter Try.func18, Try.ntmps18
  go_wp2_with fail
  refine (fine_any d w d0 d1).mono ?_
  rintro e w' ⟨rfl, rfl⟩
  obtain ⟨D, hD⟩ : ∃ D, 10 + d % 60 = D := ⟨_, rfl⟩
  have hD0 : 10 ≤ D := by omega
  have hD1 : D ≤ 1000 := by omega
  rw [hD]
  have HDD := Lib.hid hD
  clear hD
  go_wp2_with fail
  refine (new_yes D w hD0 hD1).mono ?_
  rintro e w1 ⟨g1, rfl, hg, hd, hb1⟩
  have hz1 := hb1.size
  have DD0 : Hid (DgS w1 g1 (fun k => k = g1) D St.zero) := Lib.hid hd
  clear hd
  go_wp2_with fail
  refine (fine_any d w1 d0 d1).mono ?_
  rintro e w' ⟨rfl, rfl⟩
  rw [HDD.out]
  go_wp2_with fail
  obtain ⟨g2, hg2⟩ : ∃ g2, w1.heap.size = g2 := ⟨_, rfl⟩
  have T0 : Hid (Two w.heap.size w (w1.alloc (.cells #[.int .i64 D, .slice none 0 0, .slice none 0 0, .int .i64 0, .int .i64 0] 37)) g1 g2 D (sOf D l n 0)) := by
    have hlt := Dg.lt DD0.out
    have hb2 : Below w1.heap.size w1 (w1.alloc (.cells #[.int .i64 D, .slice none 0 0, .slice none 0 0, .int .i64 0, .int .i64 0] 37)) := (Below.refl _ _).alloc (Nat.le_refl _) _
    refine ⟨fun k => k = g1, fun k => k = g2, Dg.keep DD0.out hb2, ⟨.slice none 0 0, .slice none 0 0, by rw [← hg2]; exact Blk.new _ _ _, OwnM.nil_ _ _, OwnM.nil_ _ _, rfl, (fun k e => by cases e), (fun k e => by cases e), (fun k e => by cases e), (fun k e => by subst e; rw [World.size_alloc]; omega)⟩, ?_, ?_, ?_, hb1.trans (hb2.mono hz1)⟩
    · intro k h1 h2; omega
    · intro k h1; omega
    · intro k h1; omega
  rw [hg2]
  have hzz : w.heap.size ≤ (w1.alloc (.cells #[.int .i64 D, .slice none 0 0, .slice none 0 0, .int .i64 0, .int .i64 0] 37)).heap.size := by rw [World.size_alloc]; omega
  generalize w1.alloc (.cells #[.int .i64 D, .slice none 0 0, .slice none 0 0, .int .i64 0, .int .i64 0] 37) = w2 at *
  obtain ⟨M, hM⟩ : ∃ M, min l.length 80 = M := ⟨_, rfl⟩
  have hM1 : M ≤ 80 := by omega
  have hM2 : M ≤ l.length := by omega
  have hM3 : l.length ≤ M ∨ 80 ≤ M := by omega
  have HM := Lib.hid hM
  clear hM DD0 hb1 hg2
  go_loopg [11] M (fun q i wr => ∃ j : Nat, q = M - j ∧ j ≤ M ∧ i = .int .i64 j ∧ Hid (Two w.heap.size w wr g1 g2 D (sOf D l n j)) ∧ w.heap.size ≤ wr.heap.size)
  case atStart => exact ⟨0, rfl, Nat.zero_le _, rfl, T0, hzz⟩
  case round =>
    obtain ⟨j, hk, hj, rfl, T1, hz⟩ := hrel
    have HK := Lib.hid hk
    clear hk
    by_cases hlt : j < M
    · have hlt1 : j < l.length := by omega
      have hlt2 : j < 80 := by omega
      have HS := Lib.hid (sOf_succ D l n j hlt1)
      have FT := Lib.hid (sOf_fit (d := D) (l := l) (n := n) (k := j) BL.out (by omega) hD0 hD1)
      have hbl := BL.out l[j] (List.getElem_mem hlt1)
      have hwt := wt_bd (n := n) j
      have htt := FT.out.t
      obtain ⟨F1, F2, a1, a2, a3, a4, a5, a6⟩ := T1.out
      have A1 := Lib.hid a1
      have A2 := Lib.hid a2
      have A3 := Lib.hid a3
      have A4 := Lib.hid a4
      have A5 := Lib.hid a5
      have A6 := Lib.hid a6
      have hgt := given_tot l n j
      have hsn : tot ((sOf D l n j).L ++ (sOf D l n j).W) ≤ 80000 := by rw [sOf_n]; omega
      clear a1 a2 a3 a4 a5 hgt T1
      obtain ⟨gA, oA, rfl, hgA, e0⟩ := FA.out.at_ hlt1
      have G0 := Lib.hid e0
      clear a6 e0
      obtain ⟨x, hx⟩ : ∃ x, l[j] = x := ⟨_, rfl⟩
      rw [hx] at hbl G0 HS
      have HX := Lib.hid hx
      clear hx
      by_cases hnj : j < n.length
      · have HW : Hid (wt n j = 1 + n[j] % 1000) := by show wt n j = _; unfold wt; rw [List.getElem?_eq_getElem hnj]
        have hbn := BN.out n[j] (List.getElem_mem hnj)
        obtain ⟨gB, oB, rfl, hgB, e1⟩ := (FB.out.keep (A6.out.mono (Nat.le_refl _))).at_ hnj
        have e0 := (A6.out.cell (p := ⟨gA, oA + j, none⟩) hgA).trans G0.out
        obtain ⟨y, hy⟩ : ∃ y, n[j] = y := ⟨_, rfl⟩
        rw [hy] at hbn e1 HW
        clear hy
        go_wp2_with fail
        refine (addS_any x (1 + y % 1000) wr A1.out FT.out (by omega) hbl.1 hbl.2 (by omega) (by omega)).mono ?_
        rintro e w5 ⟨rfl, F1', b1, b2, b3⟩
        have hz5 := b3.size
        have R5 := Lib.hid (A2.out.far b3 A3.out)
        have hb5 : Below w.heap.size w w5 := A6.out.trans (b3.base A4.out hz)
        have e5 := (hb5.cell (p := ⟨gA, oA + j, none⟩) hgA).trans G0.out
        have Q1 := Lib.hid b1
        have Q2 := Lib.hid b2
        have Q3 := Lib.hid b3
        clear b1 b2 b3 e0
        go_wp2_with fail
        refine (radd_yes x (1 + y % 1000) w5 R5.out FT.out (by omega) hbl.1 hbl.2 (by omega) (by omega)).mono ?_
        rintro e w6 ⟨rfl, F2', c1, c2, c3⟩
        have hz6 := c3.size
        have T6 := Lib.hid (Two.step A1.out A2.out A3.out A4.out A5.out A6.out hz Q1.out Q2.out Q3.out c1 c2 c3)
        clear c1 c2 c3 e5
        go_wp2_with fail
        go_roundg (M - (j + 1))
        case measure => have := HK.out; omega
        case rel => exact ⟨j + 1, rfl, by omega, by go_num, by rw [HS.out, HW.out]; exact T6.out, by omega⟩
      · have HW : Hid (wt n j = 1) := by show wt n j = _; unfold wt; rw [List.getElem?_eq_none (by omega)]
        have e0 := (A6.out.cell (p := ⟨gA, oA + j, none⟩) hgA).trans G0.out
        go_wp2_with fail
        refine (addS_any x (1) wr A1.out FT.out (by omega) hbl.1 hbl.2 (by omega) (by omega)).mono ?_
        rintro e w5 ⟨rfl, F1', b1, b2, b3⟩
        have hz5 := b3.size
        have R5 := Lib.hid (A2.out.far b3 A3.out)
        have hb5 : Below w.heap.size w w5 := A6.out.trans (b3.base A4.out hz)
        have e5 := (hb5.cell (p := ⟨gA, oA + j, none⟩) hgA).trans G0.out
        have Q1 := Lib.hid b1
        have Q2 := Lib.hid b2
        have Q3 := Lib.hid b3
        clear b1 b2 b3 e0
        go_wp2_with fail
        refine (radd_yes x (1) w5 R5.out FT.out (by omega) hbl.1 hbl.2 (by omega) (by omega)).mono ?_
        rintro e w6 ⟨rfl, F2', c1, c2, c3⟩
        have hz6 := c3.size
        have T6 := Lib.hid (Two.step A1.out A2.out A3.out A4.out A5.out A6.out hz Q1.out Q2.out Q3.out c1 c2 c3)
        clear c1 c2 c3 e5
        go_wp2_with fail
        go_roundg (M - (j + 1))
        case measure => have := HK.out; omega
        case rel => exact ⟨j + 1, rfl, by omega, by go_num, by rw [HS.out, HW.out]; exact T6.out, by omega⟩
    · have hE : j = M := by omega
      subst hE
      have hcd : l.length ≤ j ∨ 80 ≤ j := hM3
      by_cases hll : j < l.length
      · have h80 : ¬ (j < 80) := by omega
        go_wp2_with fail
        go_ret2
        refine ⟨g1, g2, rfl, ?_⟩
        rw [HDD.out, HM.out]
        exact T1.out
      · go_wp2_with fail
        go_ret2
        refine ⟨g1, g2, rfl, ?_⟩
        rw [HDD.out, HM.out]
        exact T1.out
end Go.Proofs.Ytedhpkfbobgkgaa
