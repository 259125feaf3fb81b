/- DigestPlays' walk. -/
import Derived.Test.YtedhpkfbobgkgaaOps
import Derived.Test.YtedhpkfbobgkgaaMakes
namespace Go.Proofs.Ytedhpkfbobgkgaa
open Go.RowKit Go.Lib

/-- The two boxes, made. -/
theorem duo_new {B : Nat} (w4 : World) {g0 g1 g2 : Nat} {D : Int} (T1 T2 : TypeId) (h0 : DgS w4 g0 (fun k => k = g0) D St.zero) (h1 : DgS w4 g1 (fun k => k = g1) D St.zero) (hne : g0 ≠ g1) (b0 : B ≤ g0) (b1 : B ≤ g1) (hB : B ≤ w4.heap.size) (h2 : DgS w4 g2 (fun k => k = g2) (D + 1) St.zero) (n0 : g0 ≠ g2) (n1 : g1 ≠ g2) {w5 w6 : World}
    (e5 : w4.alloc (.cells #[.pointer (some ⟨g0, 0, none⟩), .pointer (some ⟨g1, 0, none⟩)] T1) = w5) (e6 : w5.alloc (.cells #[.int .i64 D, .slice none 0 0, .slice none 0 0, .int .i64 0, .int .i64 0] 37) = w6) :
    Duo B ((w6.alloc (.cells #[.int .i64 D, .slice none 0 0, .slice none 0 0, .int .i64 0, .int .i64 0] 37)).alloc (.cells #[.pointer (some ⟨w5.heap.size, 0, none⟩), .pointer (some ⟨w6.heap.size, 0, none⟩)] T2))
      w4.heap.size (w6.heap.size + 1) g2 g0 g1 w5.heap.size w6.heap.size D St.zero St.zero := by
  have l0 := Dg.low h0 g0 rfl
  have l1 := Dg.low h1 g1 rfl
  have l2 := Dg.low h2 g2 rfl
  have s5 : w5.heap.size = w4.heap.size + 1 := by rw [← e5]; simp
  have s6 : w6.heap.size = w5.heap.size + 1 := by rw [← e6]; simp
  have k45 : Below w4.heap.size w4 w5 := e5 ▸ (Below.refl _ _).alloc (Nat.le_refl _) _
  have k56 : Below w5.heap.size w5 w6 := e6 ▸ (Below.refl _ _).alloc (Nat.le_refl _) _
  have r0 := rdg_new w5 D
  rw [e6] at r0
  have r1 := rdg_new w6 D
  have k67 : Below w6.heap.size w6 (w6.alloc (.cells #[.int .i64 D, .slice none 0 0, .slice none 0 0, .int .i64 0, .int .i64 0] 37)) := (Below.refl _ _).alloc (Nat.le_refl _) _
  have s7 : (w6.alloc (.cells #[.int .i64 D, .slice none 0 0, .slice none 0 0, .int .i64 0, .int .i64 0] 37)).heap.size = w6.heap.size + 1 := by simp
  generalize w6.alloc _ = w7 at r1 k67 s7 ⊢
  have k78 : Below w7.heap.size w7 (w7.alloc (.cells #[.pointer (some ⟨w5.heap.size, 0, none⟩), .pointer (some ⟨w6.heap.size, 0, none⟩)] T2)) := (Below.refl _ _).alloc (Nat.le_refl _) _
  have s8 : (w7.alloc (.cells #[.pointer (some ⟨w5.heap.size, 0, none⟩), .pointer (some ⟨w6.heap.size, 0, none⟩)] T2)).heap.size = w7.heap.size + 1 := by simp
  have y0 : (w7.alloc (.cells #[.pointer (some ⟨w5.heap.size, 0, none⟩), .pointer (some ⟨w6.heap.size, 0, none⟩)] T2)).cell? ⟨w7.heap.size, 0, none⟩ = some (.pointer (some ⟨w5.heap.size, 0, none⟩)) := (World.cell?_alloc_new ..).trans rfl
  have y1 : (w7.alloc (.cells #[.pointer (some ⟨w5.heap.size, 0, none⟩), .pointer (some ⟨w6.heap.size, 0, none⟩)] T2)).cell? ⟨w7.heap.size, 1, none⟩ = some (.pointer (some ⟨w6.heap.size, 0, none⟩)) := (World.cell?_alloc_new ..).trans rfl
  have x0 : w5.cell? ⟨w4.heap.size, 0, none⟩ = some (.pointer (some ⟨g0, 0, none⟩)) := e5 ▸ (World.cell?_alloc_new ..).trans rfl
  have x1 : w5.cell? ⟨w4.heap.size, 1, none⟩ = some (.pointer (some ⟨g1, 0, none⟩)) := e5 ▸ (World.cell?_alloc_new ..).trans rfl
  generalize w7.alloc _ = w8 at *
  have k58 : Below w5.heap.size w5 w8 := k56.trans ((k67.mono (by omega)).trans (k78.mono (by omega)))
  have k48 : Below w4.heap.size w4 w8 := k45.trans (k58.mono (by omega))
  have k68 : Below w6.heap.size w6 w8 := k67.trans (k78.mono (by omega))
  rw [s7] at y0 y1
  exact ⟨(k58.cell (p := ⟨w4.heap.size, 0, none⟩) (by show w4.heap.size < _; omega)).trans x0, (k58.cell (p := ⟨w4.heap.size, 1, none⟩) (by show w4.heap.size < _; omega)).trans x1, y0, y1, by omega, by omega, by omega, Dg.keep h2 k48,
    (fun k => k = g0), (fun k => k = w5.heap.size), (fun k => k = g1), (fun k => k = w6.heap.size),
    ⟨Dg.keep h0 k48, RDg.keep r0 k68, fun k a b => by omega, fun k a => by omega, fun k a => by omega⟩,
    ⟨Dg.keep h1 k48, RDg.keep r1 k78, fun k a b => by omega, fun k a => by omega, fun k a => by omega⟩,
    fun k a => ⟨fun b => by omega, fun b => by omega⟩, fun k a => ⟨by omega, by omega, by omega⟩⟩

set_option maxRecDepth 100000 in
set_option maxHeartbeats 4000000 in
theorem plays_any (d : Int) (vo : Value) (l : List Act4) (w : World) (d0 : 0 ≤ d) (d1 : d ≤ 65535) (hl : RdO w vo l) (hf : ∀ o ∈ l, o.fits) :
    Calls Try.prog 10 #[.int .u16 d, vo] w fun e w' => e = .returned (.bool true) ∧ Below w.heap.size w w' := by
  obtain ⟨A, ca, rfl, na, ma, fa⟩ := hl
  have FA := Lib.hid fa
  have HF := Lib.hid hf
  have FI := fun w => Lib.hid (fine_any d w d0 d1)
  have hD0 : 10 ≤ 10 + d % 60 := by omega
  have hD1 : 10 + d % 60 ≤ 69 := by omega
  clear fa hf
  generalize 10 + d % 60 = D at *
  have hw1 : IntKind.i64.wrap (D + 1) = D + 1 := IntWalk.i64_in _ (by omega)
  have HW1 := Lib.hid hw1
  clear hw1
  go_enter Try.func10, Try.ntmps10
  go_wp2_with fail
  refine (alive_any w).mono ?_
  rintro e w1 ⟨rfl, hb1⟩
  have hz1 := hb1.size
  go_wp2_with fail
  refine (FI w1).out.mono ?_
  rintro e w1' ⟨rfl, rfl⟩
  go_wp2_with fail
  refine (new_yes D w1 hD0 (by omega)).mono ?_
  rintro e w2 ⟨g0, rfl, hg0, hd0, hb2⟩
  have hz2 := hb2.size
  have A0 : Hid (DgS w2 g0 (fun k => k = g0) D St.zero) := Lib.hid hd0
  clear hd0
  go_wp2_with fail
  refine (FI w2).out.mono ?_
  rintro e w2' ⟨rfl, rfl⟩
  go_wp2_with fail
  refine (new_yes D w2 hD0 (by omega)).mono ?_
  rintro e w3 ⟨g1, rfl, hg1, hd1, hb3⟩
  have hz3 := hb3.size
  have A1 : Hid (DgS w3 g1 (fun k => k = g1) D St.zero) := Lib.hid hd1
  clear hd1
  go_wp2_with fail
  refine (FI w3).out.mono ?_
  rintro e w3' ⟨rfl, rfl⟩
  have hw1 := HW1.out
  go_wp2_with fail
  refine (new_yes (D + 1) w3 (by omega) (by omega)).mono ?_
  rintro e w4 ⟨g2, rfl, hg2, hd2, hb4⟩
  have hz4 := hb4.size
  have A2 : Hid (DgS w4 g2 (fun k => k = g2) (D + 1) St.zero) := Lib.hid hd2
  clear hd2 hw1
  go_wp2_with fail
  refine (FI _).out.mono ?_
  rintro e w5 ⟨rfl, hw5⟩
  have HW5 := Lib.hid hw5
  clear hw5
  go_wp2_with fail
  refine (FI _).out.mono ?_
  rintro e w6 ⟨rfl, hw6⟩
  have HW6 := Lib.hid hw6
  clear hw6
  go_wp2_with fail
  have l0 := Dg.low A0.out g0 rfl
  have l1 := Dg.low A1.out g1 rfl
  have DU := Lib.hid (duo_new (B := w.heap.size) w4 (g0 := g0) (g1 := g1) (g2 := g2) _ 28 (Dg.keep A0.out (hb3.trans (hb4.mono (by omega)))) (Dg.keep A1.out hb4) (by omega) (by omega) (by omega) (by omega) A2.out (by omega) (by omega) HW5.out HW6.out)
  have hbu : Hid (Below w.heap.size w ((w6.alloc (.cells #[.int .i64 D, .slice none 0 0, .slice none 0 0, .int .i64 0, .int .i64 0] 37)).alloc (.cells #[.pointer (some ⟨w5.heap.size, 0, none⟩), .pointer (some ⟨w6.heap.size, 0, none⟩)] 28))) := by
    have q5 : Below w4.heap.size w4 w5 := HW5.out ▸ (Below.refl _ _).alloc (Nat.le_refl _) _
    have q6 : Below w5.heap.size w5 w6 := HW6.out ▸ (Below.refl _ _).alloc (Nat.le_refl _) _
    have z5 := q5.size
    have z6 := q6.size
    have h6 : Below w.heap.size w w6 := hb1.trans ((hb2.trans ((hb3.trans ((hb4.trans ((q5.trans (q6.mono (by omega))).mono (by omega))).mono (by omega))).mono (by omega))).mono (by omega))
    exact (h6.alloc (by omega) _).alloc (by simp; omega) _
  generalize (w6.alloc _).alloc _ = u at DU hbu ⊢
  clear hb1 hb2 hb3 hb4 HW5 HW6 A0 A1 A2
  have FZ : Hid (Fit D St.zero (13485 + 0)) := Lib.hid (by have h := zero_fit hD0 (by omega : D ≤ 1000); exact ⟨h.ok.more (by omega), by omega, h.t, h.d0, h.d1⟩)
  obtain ⟨M, hM⟩ : ∃ M, min l.length 60 = M := ⟨_, rfl⟩
  have hM1 : M ≤ l.length := by omega
  have hM2 : M ≤ 60 := by omega
  have hM3 : l.length ≤ M ∨ 60 ≤ M := by omega
  have HM := Lib.hid hM
  clear hM
  generalize w4.heap.size = bx at *
  generalize w6.heap.size + 1 = br at *
  generalize w5.heap.size = r0 at *
  generalize w6.heap.size = r1 at *
  go_loopg [13] M (fun q i wr => ∃ j : Nat, q = M - j ∧ j ≤ M ∧ i = .int .i64 j ∧ (∃ s t, Hid (Duo w.heap.size wr bx br g2 g0 g1 r0 r1 D s t) ∧ Hid (Fit D s (13485 + j)) ∧ Hid (Fit D t (13485 + j))) ∧ Hid (Below w.heap.size w wr))
  case atStart => exact ⟨0, rfl, Nat.zero_le _, rfl, ⟨_, _, DU, FZ, FZ⟩, hbu⟩
  case round =>
    obtain ⟨j, hk, hj, rfl, ⟨s, t, DV, FS, FT⟩, HB⟩ := hrel
    have HK := Lib.hid hk
    clear hk
    by_cases hlt : j < M
    · have hlt1 : j < l.length := by omega
      have hlt2 : j < 60 := by omega
      obtain ⟨gC, oC, rfl, hgC, hcs⟩ := FA.out (by omega)
      obtain ⟨e0, e1, e2, e3⟩ := hcs j hlt1
      have hof := Lib.hid (HF.out l[j] (List.getElem_mem hlt1))
      have k0 := (HB.out.cell (p := ⟨gC, oC + j * 4, none⟩) hgC).trans e0
      have k1 := (HB.out.cell (p := ⟨gC, oC + j * 4 + 1, none⟩) hgC).trans e1
      have k2 := (HB.out.cell (p := ⟨gC, oC + j * 4 + 2, none⟩) hgC).trans e2
      have k3 := (HB.out.cell (p := ⟨gC, oC + j * 4 + 3, none⟩) hgC).trans e3
      obtain ⟨o, hx⟩ : ∃ o, l[j] = o := ⟨_, rfl⟩
      rw [hx] at k0 k1 k2 k3 hof
      clear hcs e0 e1 e2 e3 hx
      have hc1 : decide (j < l.length) = true := decide_eq_true hlt1
      have hc2 : decide ((j : Int) < 60) = true := decide_eq_true (by omega)
      go_wp2_with fail
      refine (do_any wr o hof.out DV.out FS.out FT.out (by omega)).mono ?_
      rintro e v1 ⟨rfl, dv1, bb1⟩
      have HFit := Lib.hid (duoS_fit o hof.out FS.out FT.out (by omega) (by omega))
      clear k0 k1 k2 k3
      generalize duoS D o s t = p at dv1 HFit
      obtain ⟨s', t'⟩ := p
      simp only at dv1 HFit
      have DV1 := Lib.hid dv1
      have y0 := dv1.y0
      obtain ⟨F0, G0, F1, G1, pp, qq, _, _⟩ := dv1.pq
      have PA := Lib.hid pp
      clear dv1 pp qq
      go_wp2_with fail
      refine (same_any v1 PA.out.a PA.out.b HFit.out.1).mono ?_
      rintro e v2 ⟨rfl, bb2⟩
      have DV2 := Lib.hid (DV1.out.keep bb2)
      have y1 := DV2.out.y1
      obtain ⟨F2, G2, F3, G3, pp, qq, _, _⟩ := DV2.out.pq
      have PB := Lib.hid qq
      clear pp qq y0
      go_wp2_with fail
      refine (same_any v2 PB.out.a PB.out.b HFit.out.2).mono ?_
      rintro e v3 ⟨rfl, bb3⟩
      have DV3 := Lib.hid (DV2.out.keep bb3)
      have hb3 : Below w.heap.size w v3 := HB.out.trans (bb1.trans ((bb2.mono DV1.out.size).trans (bb3.mono DV2.out.size)))
      clear y1
      go_wp2_with fail
      go_roundg (M - (j + 1))
      case measure => have := HK.out; omega
      case rel => exact ⟨j + 1, rfl, by omega, by go_num, ⟨_, _, DV3, Lib.hid HFit.out.1, Lib.hid HFit.out.2⟩, Lib.hid hb3⟩
    · have hE : j = M := by omega
      obtain ⟨F0, G0, F1, G1, pp, qq, _, _⟩ := DV.out.pq
      have PA := Lib.hid pp
      have hs0 := DV.out.size
      clear pp qq
      have hdn : D + 1 ≠ D := by omega
      subst hE
      have hce : (∃ h : j < l.length, ¬ j < 60) ∨ ¬ j < l.length := by
        by_cases h : j < l.length
        · exact .inl ⟨h, by omega⟩
        · exact .inr h
      rcases hce with ⟨h1, h2⟩ | h1
      · have h3 : ¬ ((j : Int) < 60) := by omega
        go_wp2_with fail
        refine (take_nil g0 wr).mono ?_
        rintro e v1 ⟨rfl, bb1⟩
        go_wp2_with fail
        refine (take_kind v1 (Dg.keep PA.out.a bb1) (Dg.keep DV.out.z bb1) hdn).mono ?_
        rintro e v2 ⟨rfl, bb2⟩
        go_wp2_with fail
        go_ret
        exact ⟨rfl, HB.out.trans ((bb1.mono hs0).trans (bb2.mono (Nat.le_trans hs0 bb1.size)))⟩
      · go_wp2_with fail
        refine (take_nil g0 wr).mono ?_
        rintro e v1 ⟨rfl, bb1⟩
        go_wp2_with fail
        refine (take_kind v1 (Dg.keep PA.out.a bb1) (Dg.keep DV.out.z bb1) hdn).mono ?_
        rintro e v2 ⟨rfl, bb2⟩
        go_wp2_with fail
        go_ret
        exact ⟨rfl, HB.out.trans ((bb1.mono hs0).trans (bb2.mono (Nat.le_trans hs0 bb1.size)))⟩
end Go.Proofs.Ytedhpkfbobgkgaa
