/- TdwireAgain's walk. -/
import Derived.Test.YtedhpkfbobgkgaaTeX
import Derived.Test.YtedhpkfbobgkgaaOpsX
namespace Go.Proofs.Ytedhpkfbobgkgaa
open Go.RowKit Go.Lib

/-- Two pairs, apart from each other. -/
def Duet (B : Nat) (w : World) (g0 g1 r0 r1 : Nat) (d : Int) (s t : St) : Prop :=
  B ≤ w.heap.size ∧ ∃ F0 G0 F1 G1 : Nat → Prop, PairM B w g0 r0 F0 G0 d s ∧ PairM B w g1 r1 F1 G1 d t ∧ (∀ k, F0 k ∨ G0 k → ¬ F1 k ∧ ¬ G1 k)
theorem Duet.keep {B : Nat} {w w' : World} {g0 g1 r0 r1 : Nat} {d : Int} {s t : St} (h : Duet B w g0 g1 r0 r1 d s t) (hb : Below w.heap.size w w') : Duet B w' g0 g1 r0 r1 d s t := by
  obtain ⟨hs, F0, G0, F1, G1, p, q, h1⟩ := h
  exact ⟨Nat.le_trans hs hb.size, F0, G0, F1, G1, p.keep hb, q.keep hb, h1⟩
theorem duet_do {B : Nat} (w0 w : World) {bx br g0 g1 r0 r1 : Nat} {d : Int} {s t : St} {k : Nat} (o : Act4) (ho : o.fits) (h0 : Duet B w0 g0 g1 r0 r1 d s t) (hb : Below w0.heap.size w0 w)
    (x0 : w.cell? ⟨bx, 0, none⟩ = some (.pointer (some ⟨g0, 0, none⟩))) (x1 : w.cell? ⟨bx, 1, none⟩ = some (.pointer (some ⟨g1, 0, none⟩)))
    (y0 : w.cell? ⟨br, 0, none⟩ = some (.pointer (some ⟨r0, 0, none⟩))) (y1 : w.cell? ⟨br, 1, none⟩ = some (.pointer (some ⟨r1, 0, none⟩)))
    (lx : w0.heap.size ≤ bx ∧ bx < w.heap.size) (ly : w0.heap.size ≤ br ∧ br < w.heap.size) (ft : Fit d s k) (ft' : Fit d t k) (hk : k + k ≤ 100000000) :
    Calls Try.prog 40 #[.slice (some ⟨bx, 0, none⟩) 2 2, .slice (some ⟨br, 0, none⟩) 2 2, .agg #[.int .u8 o.kd, .bool o.who, .int .i64 o.v, .int .u64 o.n]] w fun e w' =>
      e = .returned (.bool true) ∧ Duet B w' g0 g1 r0 r1 d (duoS d o s t).1 (duoS d o s t).2 ∧ Below B w w' := by
  obtain ⟨hs0, F0, G0, F1, G1, p0, q0, h1⟩ := h0
  have lowp : ∀ b, F0 b ∨ G0 b → b < w0.heap.size := fun b hb => hb.elim (Dg.low p0.a b) (RDg.low p0.b b)
  have lowq : ∀ b, F1 b ∨ G1 b → b < w0.heap.size := fun b hb => hb.elim (Dg.low q0.a b) (RDg.low q0.b b)
  have hs : B ≤ w.heap.size := Nat.le_trans hs0 hb.size
  have p := p0.keep hb
  have q := q0.keep hb
  have lowp' : ∀ b, F0 b ∨ G0 b → b < w.heap.size := fun b h => Nat.lt_of_lt_of_le (lowp b h) hb.size
  have lowq' : ∀ b, F1 b ∨ G1 b → b < w.heap.size := fun b h => Nat.lt_of_lt_of_le (lowq b h) hb.size
  obtain ⟨a0, a1, a2, a3, a4, a5⟩ := ho
  obtain ⟨kd, who, v, n⟩ := o
  have n0 : ∀ b, (b = bx ∨ b = br) → (¬ F0 b ∧ ¬ G0 b) ∧ (¬ F1 b ∧ ¬ G1 b) := fun b hb =>
    ⟨⟨fun e => by have := lowp b (.inl e); omega, fun e => by have := lowp b (.inr e); omega⟩, ⟨fun e => by have := lowq b (.inl e); omega, fun e => by have := lowq b (.inr e); omega⟩⟩
  cases who with
  | false =>
    refine (do_zero w kd v n x0 x1 y0 y1 ⟨lx.2, (n0 bx (.inl rfl)).1⟩ ⟨ly.2, (n0 br (.inr rfl)).1⟩ p q ⟨fun b e => h1 b (.inl e), fun b e => h1 b (.inr e)⟩ ft ft' hk hk hs a0 a1 a2 a3 a4 a5).mono ?_
    rintro e w' ⟨he, F', G', p', tt, hf⟩
    refine ⟨he, ⟨Nat.le_trans hs tt.size, F', G', F1, G1, p', q.far tt (fun b e => ⟨fun e1 => (h1 b e).1 e1, fun e1 => (h1 b e).2 e1⟩), fun b e => ?_⟩, tt.below (fun b e => e.elim (p.fa b) (p.fb b)) hs⟩
    rcases hf b e with h3 | h3 | h3
    · exact h1 b (.inl h3)
    · exact h1 b (.inr h3)
    · exact ⟨fun e1 => by have := lowq' b (.inl e1); omega, fun e1 => by have := lowq' b (.inr e1); omega⟩
  | true =>
    refine (do_one w kd v n x1 x0 y1 y0 ⟨lx.2, (n0 bx (.inl rfl)).2⟩ ⟨ly.2, (n0 br (.inr rfl)).2⟩ q p ⟨fun b e => ⟨fun e1 => (h1 b (.inl e1)).1 e, fun e1 => (h1 b (.inr e1)).1 e⟩, fun b e => ⟨fun e1 => (h1 b (.inl e1)).2 e, fun e1 => (h1 b (.inr e1)).2 e⟩⟩ ft' ft hk hk hs a0 a1 a2 a3 a4 a5).mono ?_
    rintro e w' ⟨he, F', G', p', tt, hf⟩
    refine ⟨he, ⟨Nat.le_trans hs tt.size, F0, G0, F', G', p.far tt (fun b e => ⟨fun e1 => e.elim (h1 b (.inl e1)).1 (h1 b (.inl e1)).2, fun e1 => e.elim (h1 b (.inr e1)).1 (h1 b (.inr e1)).2⟩), p', fun b e => ?_⟩, tt.below (fun b e => e.elim (q.fa b) (q.fb b)) hs⟩
    have key : ¬ (F' b ∨ G' b) := fun e1 => by
      rcases hf b e1 with h3 | h3 | h3
      · exact (h1 b e).1 h3
      · exact (h1 b e).2 h3
      · have := lowp' b e; omega
    exact ⟨fun e1 => key (.inl e1), fun e1 => key (.inr e1)⟩

theorem boxes (w : World) (p0 p1 q0 q1 : Value) (T1 T2 : TypeId) : Below w.heap.size w ((w.alloc (.cells #[p0, p1] T1)).alloc (.cells #[q0, q1] T2)) ∧ ((w.alloc (.cells #[p0, p1] T1)).alloc (.cells #[q0, q1] T2)).heap.size = w.heap.size + 2 ∧
    ((w.alloc (.cells #[p0, p1] T1)).alloc (.cells #[q0, q1] T2)).cell? ⟨w.heap.size, 0, none⟩ = some p0 ∧ ((w.alloc (.cells #[p0, p1] T1)).alloc (.cells #[q0, q1] T2)).cell? ⟨w.heap.size, 1, none⟩ = some p1 ∧
    ((w.alloc (.cells #[p0, p1] T1)).alloc (.cells #[q0, q1] T2)).cell? ⟨w.heap.size + 1, 0, none⟩ = some q0 ∧ ((w.alloc (.cells #[p0, p1] T1)).alloc (.cells #[q0, q1] T2)).cell? ⟨w.heap.size + 1, 1, none⟩ = some q1 := by
  have k1 : Below w.heap.size w (w.alloc (.cells #[p0, p1] T1)) := (Below.refl _ _).alloc (Nat.le_refl _) _
  have x0 : (w.alloc (.cells #[p0, p1] T1)).cell? ⟨w.heap.size, 0, none⟩ = some p0 := (World.cell?_alloc_new ..).trans rfl
  have x1 : (w.alloc (.cells #[p0, p1] T1)).cell? ⟨w.heap.size, 1, none⟩ = some p1 := (World.cell?_alloc_new ..).trans rfl
  have s1 : (w.alloc (.cells #[p0, p1] T1)).heap.size = w.heap.size + 1 := by simp
  generalize w.alloc _ = v at *
  have k2 : Below v.heap.size v (v.alloc (.cells #[q0, q1] T2)) := (Below.refl _ _).alloc (Nat.le_refl _) _
  have y0 : (v.alloc (.cells #[q0, q1] T2)).cell? ⟨v.heap.size, 0, none⟩ = some q0 := (World.cell?_alloc_new ..).trans rfl
  have y1 : (v.alloc (.cells #[q0, q1] T2)).cell? ⟨v.heap.size, 1, none⟩ = some q1 := (World.cell?_alloc_new ..).trans rfl
  have s2 : (v.alloc (.cells #[q0, q1] T2)).heap.size = v.heap.size + 1 := by simp
  generalize v.alloc _ = u at *
  rw [s1] at y0 y1
  exact ⟨k1.trans (k2.mono (by omega)), by omega, (k2.cell (p := ⟨w.heap.size, 0, none⟩) (by show w.heap.size < _; omega)).trans x0, (k2.cell (p := ⟨w.heap.size, 1, none⟩) (by show w.heap.size < _; omega)).trans x1, y0, y1⟩

set_option maxRecDepth 100000 in
set_option maxHeartbeats 8000000 in
theorem tagain_any (d : Int) (vl vn vo : Value) (l n : List Int) (os : List Act4) (w : World) (d0 : 0 ≤ d) (d1 : d ≤ 65535) (hl : RdI .i64 w vl l) (hn : RdI .u16 w vn n)
    (bl : ∀ x ∈ l, -9223372036854775808 ≤ x ∧ x ≤ 9223372036854775807) (bn : ∀ x ∈ n, 0 ≤ x ∧ x ≤ 65535) (ho : RdO w vo os) (hf : ∀ o ∈ os, o.fits) :
    Calls Try.prog 15 #[.int .u16 d, vl, vn, vo] w fun e w' => e = .returned (.bool true) ∧ Below w.heap.size w w' := by
  obtain ⟨A, ca, rfl, na, ma, fa⟩ := hl.form
  obtain ⟨B, cb, rfl, nb, mb, fb⟩ := hn.form
  obtain ⟨C, cc, rfl, nc, mc, fc⟩ := ho
  have FC := Lib.hid fc
  have HF := Lib.hid hf
  have AD := fun w1 (hb : Below w.heap.size w w1) => Lib.hid (added23_any d _ _ false l n w1 d0 d1 (hl.keep hb) (hn.keep hb) bl bn)
  have AE := fun w1 (hb : Below w.heap.size w w1) => Lib.hid (added23_any d _ _ true l [] w1 d0 d1 (hl.keep hb) (Rd.nil_ w1 1) bl (fun x hx => by cases hx))
  have FT := prO_fit false (uOf_fit (d := 10 + d % 60) (l := l) (n := n) (k := min l.length 80) bl (by omega) (by omega) (by omega))
  have FU := prO_fit true (uOf_fit (d := 10 + d % 60) (l := l) (n := []) (k := min l.length 80) bl (by omega) (by omega) (by omega))
  clear hl hn fa fb fc hf bl bn
  have hk : min l.length 80 ≤ 80 := by omega
  have hD0 : 10 ≤ 10 + d % 60 := by omega
  have hD1 : 10 + d % 60 ≤ 69 := by omega
  generalize prO false (10 + d % 60) (uOf (10 + d % 60) l n (min l.length 80)) = s at *
  generalize prO true (10 + d % 60) (uOf (10 + d % 60) l [] (min l.length 80)) = t at *
  generalize min l.length 80 = k at *
  generalize 10 + d % 60 = D at *
  have FZ : Hid (Fit D s (13485 + 0)) := Lib.hid ⟨FT.ok.more (by omega), by omega, FT.t, FT.d0, FT.d1⟩
  have FZ' : Hid (Fit D t (13485 + 0)) := Lib.hid ⟨FU.ok.more (by omega), by omega, FU.t, FU.d0, FU.d1⟩
  have FT' := Lib.hid FT
  clear FT FU
  go_enter Try.func15, Try.ntmps15
  go_wp2_with fail
  refine (alive23_any w).mono ?_
  rintro e w1 ⟨rfl, hb1⟩
  have hz1 := hb1.size
  go_wp2_with fail
  refine ((AD w1 hb1).out).mono ?_
  rintro e w2 ⟨g1, g2, rfl, F1, F2, q1, q2, q3, q4, q5, hb2⟩
  have hb02 := hb1.trans (hb2.mono hz1)
  have hz2 := hb2.size
  have D2 := Lib.hid q1
  have R2 := Lib.hid q2
  have Q5 := Lib.hid q5
  clear q1 q2 q3 q4 q5 AD
  go_wp2_with fail
  refine (twrite_any g1 F1 D s k w2 D2.out FT'.out).mono ?_
  rintro e w3 ⟨va, rfl, oa, hb3⟩
  obtain ⟨A3, c3, rfl, n3, m3, f3⟩ := (OwnI.rd oa).form
  have O3 := Lib.hid (OwnI.rd oa)
  clear oa f3
  have hb03 := hb02.trans (hb3.mono (by omega))
  have hz3 := hb3.size
  have R3 : Hid (RDgS w3 g2 F2 D s) := Lib.hid (RDg.keep R2.out hb3)
  go_wp2_with fail
  refine (read_S (d := D) (s := s) _ w3 O3.out FT'.out (by omega)).mono ?_
  rintro e w4 ⟨g4, F4, rfl, q4, q4', hb4⟩
  have hb04 := hb03.trans (hb4.mono (by omega))
  have hz4 := hb4.size
  have Y4 : Hid (DgS w4 g4 F4 D s) := Lib.hid q4
  have Y4' := Lib.hid q4'
  have R4 : Hid (RDgS w4 g2 F2 D s) := Lib.hid (RDg.keep R3.out hb4)
  clear q4 q4' O3
  go_wp2_with fail
  refine ((AE w4 hb04).out).mono ?_
  rintro e w5 ⟨g5, g6, rfl, F5, F6, q1, q2, q3, q4, q5, hb5⟩
  have hb05 := hb04.trans (hb5.mono (by omega))
  have hz5 := hb5.size
  have DU : Hid (Duet w.heap.size w5 g4 g5 g2 g6 D s t) := Lib.hid ⟨by omega, F4, F2, F5, F6,
    ⟨Dg.keep Y4.out hb5, RDg.keep R4.out hb5, fun k h1 h2 => by have := Y4'.out k h1; have := RDg.low R2.out k h2; omega, fun k h1 => by have := Y4'.out k h1; omega, fun k h1 => by have := Q5.out k h1; omega⟩,
    ⟨q1, q2, q3, fun k h1 => by have := q4 k h1; omega, fun k h1 => by have := q5 k h1; omega⟩,
    fun k h1 => by
      have h2 : k < w4.heap.size := h1.elim (fun h => Dg.low Y4.out k h) (fun h => RDg.low R4.out k h)
      exact ⟨fun h3 => by have := q4 k h3; omega, fun h3 => by have := q5 k h3; omega⟩⟩
  have HB5 := Lib.hid hb05
  clear q1 q2 q3 q4 q5 AE D2 R2 R3 R4 Y4 Y4' Q5 hb1 hb2 hb3 hb4 hb5 hb02 hb03 hb04 hb05 hz1 hz2 hz3 hz4 hz5
  go_wp2_with fail
  obtain ⟨M, hM⟩ : ∃ M, min os.length 30 = M := ⟨_, rfl⟩
  have hM1 : M ≤ os.length := by omega
  have hM2 : M ≤ 30 := by omega
  have hM3 : os.length ≤ M ∨ 30 ≤ M := by omega
  have HM := Lib.hid hM
  clear hM
  go_loopg [17] M (fun q i wr => ∃ j : Nat, q = M - j ∧ j ≤ M ∧ i = .int .i64 j ∧ (∃ s t, Hid (Duet w.heap.size wr g4 g5 g2 g6 D s t) ∧ Hid (Fit D s (13485 + j)) ∧ Hid (Fit D t (13485 + j))) ∧ Hid (Below w.heap.size w wr))
  case atStart => exact ⟨0, rfl, Nat.zero_le _, rfl, ⟨_, _, DU, FZ, FZ'⟩, HB5⟩
  case round =>
    obtain ⟨j, hk, hj, rfl, ⟨s, t, DV, FS, FT⟩, HB⟩ := hrel
    have HK := Lib.hid hk
    clear hk
    by_cases hlt : j < M
    · have hlt1 : j < os.length := by omega
      have hlt2 : j < 30 := by omega
      obtain ⟨gC, oC, rfl, hgC, hcs⟩ := FC.out (by omega)
      obtain ⟨e0, e1, e2, e3⟩ := hcs j hlt1
      have hof := Lib.hid (HF.out os[j] (List.getElem_mem hlt1))
      have k0 := (HB.out.cell (p := ⟨gC, oC + j * 4, none⟩) hgC).trans e0
      have k1 := (HB.out.cell (p := ⟨gC, oC + j * 4 + 1, none⟩) hgC).trans e1
      have k2 := (HB.out.cell (p := ⟨gC, oC + j * 4 + 2, none⟩) hgC).trans e2
      have k3 := (HB.out.cell (p := ⟨gC, oC + j * 4 + 3, none⟩) hgC).trans e3
      obtain ⟨o, hx⟩ : ∃ o, os[j] = o := ⟨_, rfl⟩
      rw [hx] at k0 k1 k2 k3 hof
      clear hcs e0 e1 e2 e3 hx
      have hc1 : decide (j < os.length) = true := decide_eq_true hlt1
      have hc2 : decide ((j : Int) < 30) = true := decide_eq_true (by omega)
      have hgr : gC < wr.heap.size := Nat.lt_of_lt_of_le hgC HB.out.size
      go_wp2_with fail
      have BX := boxes wr (.pointer (some ⟨g4, 0, none⟩)) (.pointer (some ⟨g5, 0, none⟩)) (.pointer (some ⟨g2, 0, none⟩)) (.pointer (some ⟨g6, 0, none⟩)) 27 28
      clear k0 k1 k2 k3
      generalize (wr.alloc _).alloc _ = u at BX ⊢
      obtain ⟨bu, su, c0, c1, c2, c3'⟩ := BX
      have CT := Lib.hid (duet_do wr u o hof.out DV.out bu c0 c1 c2 c3' ⟨by omega, by omega⟩ ⟨by omega, by omega⟩ FS.out FT.out (by omega))
      have hBw := DV.out.1
      have hbu : Hid (Below w.heap.size w u) := Lib.hid (HB.out.trans (bu.mono hBw))
      clear bu c0 c1 c2 c3'
      refine (CT.out).mono ?_
      rintro e v1 ⟨rfl, dv1, bb1⟩
      have HFit := Lib.hid (duoS_fit o hof.out FS.out FT.out (by omega) (by omega))
      clear CT
      generalize duoS D o s t = p at dv1 HFit
      obtain ⟨s', t'⟩ := p
      simp only at dv1 HFit
      have DV1 := Lib.hid dv1
      have hb1 : Hid (Below w.heap.size w v1) := Lib.hid (hbu.out.trans bb1)
      obtain ⟨hs1, F0, G0, F1, G1, pp, qq, _⟩ := dv1
      have PA := Lib.hid pp
      clear pp qq bb1
      go_wp2_with fail
      refine (same_any v1 PA.out.a PA.out.b HFit.out.1).mono ?_
      rintro e v2 ⟨rfl, bb2⟩
      have DV2 := Lib.hid (DV1.out.keep bb2)
      have hb2 : Hid (Below w.heap.size w v2) := Lib.hid (hb1.out.trans (bb2.mono hs1))
      go_wp2_with fail
      go_roundg (M - (j + 1))
      case measure => have := HK.out; omega
      case rel => exact ⟨j + 1, rfl, by omega, by go_num, ⟨_, _, DV2, Lib.hid HFit.out.1, Lib.hid HFit.out.2⟩, hb2⟩
    · have hE : j = M := by omega
      subst hE
      have hce : (∃ h : j < os.length, ¬ j < 30) ∨ ¬ j < os.length := by
        by_cases h : j < os.length
        · exact .inl ⟨h, by omega⟩
        · exact .inr h
      rcases hce with ⟨h1, h2⟩ | h1
      · have h3 : ¬ ((j : Int) < 30) := by omega
        go_wp2_with fail
        go_ret
        exact ⟨rfl, HB.out⟩
      · go_wp2_with fail
        go_ret
        exact ⟨rfl, HB.out⟩
end Go.Proofs.Ytedhpkfbobgkgaa
