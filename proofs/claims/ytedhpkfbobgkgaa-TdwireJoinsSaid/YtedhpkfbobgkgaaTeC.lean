/- tdwire's Read. Condition: fewer than 2^30 bytes. · law23's alive; bytes as a string. -/
import Derived.Test.YtedhpkfbobgkgaaTR
import Derived.Test.YtedhpkfbobgkgaaTP
import Derived.Test.YtedhpkfbobgkgaaTW
import Derived.Test.YtedhpkfbobgkgaaDigQ
import Derived.Test.YtedhpkfbobgkgaaLoad
import Derived.Laws.BytesArg
namespace Go.Proofs.Ytedhpkfbobgkgaa
section
open Go.RowKit Go.Lib
/-- What Read hands back. -/
def ReadP (bs : List Int) (w : World) (e : Ending) (w' : World) : Prop :=
  match readT bs with
  | some x => ∃ (g : Nat) (F : Nat → Prop), e = .returned (.tuple #[.pointer (some ⟨g, 0, none⟩), .int .i64 0]) ∧ DgS w' g F x.d ⟨x.L, x.W, x.lo, x.hi⟩ ∧ (∀ k, F k → w.heap.size ≤ k) ∧ Below w.heap.size w w'
  | none => e = .returned (.tuple #[.pointer none, .int .i64 9]) ∧ Below w.heap.size w w'

/-- The door where the reading was given up. -/
theorem door_gave (h2 h3 : Nat) (n : Int) (w0 w : World) (R : Ending → World → Prop) (tmps : Array Value) (t2 : tmps[2]? = some (.pointer (some ⟨h2, 0, none⟩))) (t3 : tmps[3]? = some (.pointer (some ⟨h3, 0, none⟩)))
    (x2 x3 : Value) (c2 : w.cell? ⟨h2, 0, none⟩ = some x2) (c3 : w.cell? ⟨h3, 0, none⟩ = some x3) (f2 : w.frozen? ⟨h2, 0, none⟩ = false) (f3 : w.frozen? ⟨h3, 0, none⟩ = false) (hne : h2 ≠ h3) (b2 : w0.heap.size ≤ h2) (b3 : w0.heap.size ≤ h3) (hb : Below w0.heap.size w0 w)
    (hR : ∀ w', Below w0.heap.size w0 w' → R (.returned (.tuple #[.pointer none, .int .i64 9])) w') :
    Leaves Try.prog Try.f45 tmps R [{ target := .fn (.func 81) #[.pointer (some ⟨h2, 0, none⟩), .pointer (some ⟨h3, 0, none⟩)], args := #[] }] (.panicking [{ v := .iface 129 (.agg #[.int .i64 n]), recovered := false }]) w := by
  refine leaves_cons (f := 81) (args := #[.pointer (some ⟨h2, 0, none⟩), .pointer (some ⟨h3, 0, none⟩)]) (by simp) (by simp [go_sem]) ?_
  refine (catch_panicking h2 h3 x2 x3 n w c2 c3 f2 f3 hne).mono ?_
  rintro e u' w'' ⟨rfl, rfl, k2, k3, kt⟩
  have hb' : Below w0.heap.size w0 w'' := hb.trans (kt.below (fun i hi => by rcases hi with rfl | rfl <;> assumption) hb.size)
  have g2 : tmps.getD 2 undef = .pointer (some ⟨h2, 0, none⟩) := by simp [Array.getD_eq_getD_getElem?, t2]
  have g3 : tmps.getD 3 undef = .pointer (some ⟨h3, 0, none⟩) := by simp [Array.getD_eq_getD_getElem?, t3]
  refine ⟨.tuple #[.pointer none, .int .i64 9], ?_, hR w'' hb'⟩
  simp [results, Try.results45, go_sem, t2, t3, k2, k3]
/-- The door behind a return. -/
theorem door_back (h2 h3 : Nat) (w : World) (R : Ending → World → Prop) (tmps : Array Value) (t2 : tmps[2]? = some (.pointer (some ⟨h2, 0, none⟩))) (t3 : tmps[3]? = some (.pointer (some ⟨h3, 0, none⟩)))
    (x2 x3 : Value) (c2 : w.cell? ⟨h2, 0, none⟩ = some x2) (c3 : w.cell? ⟨h3, 0, none⟩ = some x3) (hR : R (.returned (.tuple #[x2, x3])) w) :
    Leaves Try.prog Try.f45 tmps R [{ target := .fn (.func 81) #[.pointer (some ⟨h2, 0, none⟩), .pointer (some ⟨h3, 0, none⟩)], args := #[] }] .returning w := by
  refine leaves_cons (f := 81) (args := #[.pointer (some ⟨h2, 0, none⟩), .pointer (some ⟨h3, 0, none⟩)]) (by simp) (by simp [go_sem]) ?_
  refine (catch_idle h2 h3 w).mono ?_
  rintro e u' w'' ⟨rfl, rfl, rfl⟩
  refine ⟨.tuple #[x2, x3], ?_, hR⟩
  simp [results, Try.results45, go_sem, t2, t3, c2, c3]

theorem two_put {h2 : Nat} (X : World) (a b : Value) {x y : Value} (c2 : X.cell? ⟨h2, 0, none⟩ = some x) (c3 : X.cell? ⟨h2 + 1, 0, none⟩ = some y) :
    ((X.setCell ⟨h2, 0, none⟩ a).setCell ⟨h2 + 1, 0, none⟩ b).cell? ⟨h2, 0, none⟩ = some a ∧ ((X.setCell ⟨h2, 0, none⟩ a).setCell ⟨h2 + 1, 0, none⟩ b).cell? ⟨h2 + 1, 0, none⟩ = some b := by
  have n23 : (⟨h2, 0, none⟩ : Addr) ≠ ⟨h2 + 1, 0, none⟩ := fun h => by injection h with h; omega
  exact ⟨(World.cell?_setCell_other _ _ _ _ n23.symm).trans (World.cell?_setCell_same _ _ _ c2), World.cell?_setCell_same _ _ _ ((World.cell?_setCell_other _ _ _ _ n23).trans c3)⟩
theorem below_two {w X : World} {h2 : Nat} (hb : Below w.heap.size w X) (h : w.heap.size ≤ h2) (a b : Value) : Below w.heap.size w ((X.setCell ⟨h2, 0, none⟩ a).setCell ⟨h2 + 1, 0, none⟩ b) :=
  (hb.setCell (p := ⟨h2, 0, none⟩) h a).setCell (p := ⟨h2 + 1, 0, none⟩) (by show _ ≤ h2 + 1; omega) b
/-- The reading was given up, the reader alone turned. -/
def GaveX (gr : Nat) (w0 : World) (c : List PanicEntry) (w' : World) : Prop := ∃ n : Int, c = [{ v := .iface 129 (.agg #[.int .i64 n]), recovered := false }] ∧ Touch (fun k => k = gr) w0 w'
theorem rdD_a {bs : List Int} (h : unleb bs = none) : readT bs = none := by unfold readT rdD; rw [h]
theorem rdD_b {bs r1 : List Int} {d : Int} (h : unleb bs = some (d, r1)) (h1 : unleb r1 = none) : readT bs = none := by unfold readT rdD; rw [h]; simp only; rw [h1]
theorem rdD_c {bs r1 r2 : List Int} {d l : Int} (h : unleb bs = some (d, r1)) (h1 : unleb r1 = some (l, r2)) (h2 : unleb r2 = none) : readT bs = none := by unfold readT rdD; rw [h]; simp only; rw [h1]; simp only; rw [h2]

set_option maxRecDepth 100000 in
set_option maxHeartbeats 8000000 in
theorem read_any (v : Value) (bs : List Int) (w : World) (h : RdI .u8 w v bs) (hb : byL bs) (hlen : bs.length ≤ 1000000000) :
    Calls Try.prog 45 #[v] w (ReadP bs w) := by
  have hmf : ∀ (fn : Fn) (first cap : Array Value) (w : World), (Instr.makeFunc fn first cap).run Try.prog w = .ok (.func fn first cap) w := fun _ _ _ _ => rfl
  have HR := Lib.hid h
  have HB := Lib.hid hb
  clear h hb
  have hl12 : bs.length ≤ 1000000000000 := by omega
  go_enter_defers Try.func45, Try.ntmps45
  go_wp2_with fail
  obtain ⟨w1, hw1⟩ : ∃ w1, w1 = (w.alloc (.cells #[.pointer none] 27)).alloc (.cells #[.int .i64 0] 31) := ⟨_, rfl⟩
  have hb1 : Below w.heap.size w w1 := by rw [hw1]; exact ((Below.refl _ _).alloc (Nat.le_refl _) _).alloc (by simp) _
  have B2 : Hid (Blk w1 w.heap.size 27 #[.pointer none]) := by show Blk _ _ _ _; rw [hw1]; exact (Blk.new _ _ _).alloc _
  have B3 : Hid (Blk w1 (w.heap.size + 1) 31 #[.int .i64 0]) := by
    show Blk _ _ _ _; rw [hw1]
    have h := Blk.new (w.alloc (.cells #[.pointer none] 27)) 31 #[.int .i64 0]
    rwa [World.size_alloc] at h
  obtain ⟨h2, hh2⟩ : ∃ h2, w.heap.size = h2 := ⟨_, rfl⟩
  have HH2 := Lib.hid hh2
  rw [← hw1]
  rw [hh2] at B2 B3 ⊢
  have l2 := B2.out.lt
  have l3' := B3.out.lt
  have e2 : w.heap.size ≤ h2 := by omega
  clear hw1 hh2
  refine (rnew_any v bs w1 (Rd.keep HR.out hb1) hl12).mono ?_
  rintro e w2 ⟨gr, rfl, hgr, r2, hb2⟩
  have R2 := Lib.hid r2
  have hz2 := hb2.size
  have lgr := r2.lt
  clear r2
  go_wp2_with fail
  obtain ⟨w3, hw3⟩ : ∃ w3, w3 = w2.alloc (.cells #[.pointer (some ⟨gr, 0, none⟩)] 133) := ⟨_, rfl⟩
  have hb3 : Below w2.heap.size w2 w3 := by rw [hw3]; exact (Below.refl _ _).alloc (Nat.le_refl _) _
  have B4 : Hid (Blk w3 w2.heap.size 133 #[.pointer (some ⟨gr, 0, none⟩)]) := by show Blk _ _ _ _; rw [hw3]; exact Blk.new _ _ _
  rw [← hw3]
  obtain ⟨h4, hh4⟩ : ∃ h4, w2.heap.size = h4 := ⟨_, rfl⟩
  have R3 := Lib.hid (R2.out.keep hb3)
  have hz3 := hb3.size
  rw [hh4] at B4 lgr ⊢
  have n4 : ¬ (h4 = gr) := by omega
  have l3 := B4.out.lt
  have D2 := Lib.hid ((B2.out.keep hb2).keep hb3)
  have D3 := Lib.hid ((B3.out.keep hb2).keep hb3)
  have n2 : ¬ (h2 = gr) := by omega
  have n3 : ¬ (h2 + 1 = gr) := by omega
  have m2 := D2.out.lt
  have m3 := D3.out.lt
  have c4 := B4.out.cell 0
  simp only [List.getElem?_toArray, List.getElem?_cons_zero] at c4
  have C4 := Lib.hid c4
  have hb13 : Below w.heap.size w w3 := (hb1.trans (hb2.mono hb1.size)).trans (hb3.mono (by omega))
  have hgrw : w.heap.size ≤ gr := by omega
  have hgr0 : ∀ i, (fun k => k = gr) i → w.heap.size ≤ i := fun i hi => by simp only at hi; omega
  have HG0 := Lib.hid hgr0
  clear hw3 hh4 c4 hgr0
  have DG : Hid (∀ (n : Int) (tmps : Array Value) (w' : World), tmps[2]? = some (.pointer (some ⟨h2, 0, none⟩)) → tmps[3]? = some (.pointer (some ⟨h2 + 1, 0, none⟩)) → Touch (fun k => k = gr) w3 w' → readT bs = none →
      Leaves Try.prog Try.f45 tmps (ReadP bs w) [{ target := .fn (.func 81) #[.pointer (some ⟨h2, 0, none⟩), .pointer (some ⟨h2 + 1, 0, none⟩)], args := #[] }] (.panicking [{ v := .iface 129 (.agg #[.int .i64 n]), recovered := false }]) w') := Lib.hid (fun n tmps w' t2 t3 ht hN => by
    have E2 : Blk w' h2 27 #[.pointer none] := (ht.block h2 m2 n2).trans D2.out
    have E3 : Blk w' (h2 + 1) 31 #[.int .i64 0] := (ht.block (h2 + 1) m3 n3).trans D3.out
    refine door_gave h2 (h2 + 1) n w w' _ tmps t2 t3 _ _ (E2.cell 0) (E3.cell 0) (E2.frozen 0) (E3.frozen 0) (by omega) e2 (by omega) (hb13.trans (ht.below HG0.out hb13.size)) (fun w'' hb'' => ?_)
    unfold ReadP
    rw [hN]
    exact ⟨rfl, hb''⟩)
  cases hA : unleb (bs.drop 0) with
  | none =>
    have HA := Lib.hid hA
    have HN := Lib.hid (rdD_a (by simpa using hA))
    clear hA
    refine wp_region_planP [2, 3] (GaveX gr w3) (Touch (fun k => k = gr) w3) [(0, true), (2, true), (5, true), (1, false), (3, false), (4, true), (6, false), (7, true), (8, true), (9, true), (10, true)] (by kernel_rfl) (by kernel_rfl) (fun c a' w' q1 q2 q3 => (by obtain ⟨n, rfl, qt⟩ := q3; refine (show Leaves Try.prog Try.f45 a'.tmps (ReadP bs w) a'.defers _ w' from ?_); rw [q2]; exact DG.out n a'.tmps w' (q1 2 (by simp)) (q1 3 (by simp)) qt HN.out)) ((Touch.refl _ _).drew) ?_
    iterate 3
      refine wpPlan_read (by rfl) (by rfl) (fun R hR => ?_)
      apply Exists.intro
      refine ⟨fun w' hS' => ?_, ?_⟩
      · have k0 := (hS'.cell (o := 0) l3 n4).trans C4.out
        go_simp
        exact ⟨rfl, rfl⟩
      go_simp
      refine hR _ ?_
      clear hR R
    refine wpPlan_do (by rfl) (by rfl) (fun K hK => ?_)
    go_simp
    refine (numv_any gr bs 0 _ (RdrAt.keep R3.out ((Below.refl _ _).drew)) HB.out hl12).mono ?_
    intro e wA hg
    unfold GotX at hg
    simp only [HA.out] at hg
    obtain ⟨⟨n, rfl⟩, q4⟩ := hg
    exact ⟨fun t ht => (by simp only [List.mem_cons, List.not_mem_nil, or_false] at ht; rcases ht with rfl|rfl <;> rfl), rfl, n, rfl, ((Touch.refl (fun k => k = gr) w3).drew).trans q4 (fun i hi => .inl hi)⟩
  | some pA =>
    obtain ⟨zd, r1⟩ := pA
    have HA := Lib.hid hA
    have E1 := Lib.hid (suf_unleb hA)
    have zb1 := unleb_bd (HB.out.drop 0) hA
    simp only at zb1
    obtain ⟨a1, ha1⟩ : ∃ a1, bs.length - r1.length = a1 := ⟨_, rfl⟩
    rw [ha1] at E1
    have HA1 := Lib.hid ha1
    clear hA ha1
    cases hBB : unleb (bs.drop a1) with
    | none =>
      have HBB := Lib.hid hBB
      have HN := Lib.hid (rdD_b (by simpa using HA.out) (by rw [← E1.out]; exact hBB))
      clear hBB
      refine wp_region_planP [2, 3] (GaveX gr w3) (Touch (fun k => k = gr) w3) [(0, true), (2, true), (5, true), (1, false), (3, false), (4, true), (6, false), (7, true), (8, true), (9, true), (10, true)] (by kernel_rfl) (by kernel_rfl) (fun c a' w' q1 q2 q3 => (by obtain ⟨n, rfl, qt⟩ := q3; refine (show Leaves Try.prog Try.f45 a'.tmps (ReadP bs w) a'.defers _ w' from ?_); rw [q2]; exact DG.out n a'.tmps w' (q1 2 (by simp)) (q1 3 (by simp)) qt HN.out)) ((Touch.refl _ _).drew) ?_
      iterate 3
        refine wpPlan_read (by rfl) (by rfl) (fun R hR => ?_)
        apply Exists.intro
        refine ⟨fun w' hS' => ?_, ?_⟩
        · have k0 := (hS'.cell (o := 0) l3 n4).trans C4.out
          go_simp
          exact ⟨rfl, rfl⟩
        go_simp
        refine hR _ ?_
        clear hR R
      refine wpPlan_do (by rfl) (by rfl) (fun K hK => ?_)
      go_simp
      refine (numv_any gr bs 0 _ (RdrAt.keep R3.out ((Below.refl _ _).drew)) HB.out hl12).mono ?_
      intro e wA hg
      unfold GotX at hg
      simp only [HA.out] at hg
      obtain ⟨v, rfl, rfl, q3, q4⟩ := hg
      have TA : Hid (Touch (fun k => k = gr) w3 wA) := Lib.hid (((Touch.refl (fun k => k = gr) w3).drew).trans q4 (fun i hi => .inl hi))
      rw [HA1.out] at q3
      have RA := Lib.hid q3
      clear q3 q4
      refine hK _ _ (TA.out) ?_
      clear hK K
      refine wpPlan_do (by rfl) (by rfl) (fun K hK => ?_)
      go_simp
      refine (numz_any gr bs a1 _ RA.out HB.out hl12).mono ?_
      intro e wB hg
      unfold GotX at hg
      simp only [HBB.out] at hg
      obtain ⟨⟨n, rfl⟩, q4⟩ := hg
      exact ⟨fun t ht => (by simp only [List.mem_cons, List.not_mem_nil, or_false] at ht; rcases ht with rfl|rfl <;> rfl), rfl, n, rfl, tt TA.out q4⟩
    | some pB =>
      obtain ⟨zl, r2⟩ := pB
      have HBB := Lib.hid hBB
      have E2 := Lib.hid (suf_unleb hBB)
      have zb2 := unleb_bd (HB.out.drop a1) hBB
      simp only at zb2
      have ul := uns_bd zb2.1 zb2.2
      have WL := Lib.hid (wrap_ub ul.1 ul.2)
      obtain ⟨a2, ha2⟩ : ∃ a2, bs.length - r2.length = a2 := ⟨_, rfl⟩
      rw [ha2] at E2
      have HA2 := Lib.hid ha2
      clear hBB ha2
      cases hC : unleb (bs.drop a2) with
      | none =>
        have HC := Lib.hid hC
        have HN := Lib.hid (rdD_c (by simpa using HA.out) (by rw [← E1.out]; exact HBB.out) (by rw [← E2.out]; exact hC))
        clear hC
        refine wp_region_planP [2, 3] (GaveX gr w3) (Touch (fun k => k = gr) w3) [(0, true), (2, true), (5, true), (1, false), (3, false), (4, true), (6, false), (7, true), (8, true), (9, true), (10, true)] (by kernel_rfl) (by kernel_rfl) (fun c a' w' q1 q2 q3 => (by obtain ⟨n, rfl, qt⟩ := q3; refine (show Leaves Try.prog Try.f45 a'.tmps (ReadP bs w) a'.defers _ w' from ?_); rw [q2]; exact DG.out n a'.tmps w' (q1 2 (by simp)) (q1 3 (by simp)) qt HN.out)) ((Touch.refl _ _).drew) ?_
        iterate 3
          refine wpPlan_read (by rfl) (by rfl) (fun R hR => ?_)
          apply Exists.intro
          refine ⟨fun w' hS' => ?_, ?_⟩
          · have k0 := (hS'.cell (o := 0) l3 n4).trans C4.out
            go_simp
            exact ⟨rfl, rfl⟩
          go_simp
          refine hR _ ?_
          clear hR R
        refine wpPlan_do (by rfl) (by rfl) (fun K hK => ?_)
        go_simp
        refine (numv_any gr bs 0 _ (RdrAt.keep R3.out ((Below.refl _ _).drew)) HB.out hl12).mono ?_
        intro e wA hg
        unfold GotX at hg
        simp only [HA.out] at hg
        obtain ⟨v, rfl, rfl, q3, q4⟩ := hg
        have TA : Hid (Touch (fun k => k = gr) w3 wA) := Lib.hid (((Touch.refl (fun k => k = gr) w3).drew).trans q4 (fun i hi => .inl hi))
        rw [HA1.out] at q3
        have RA := Lib.hid q3
        clear q3 q4
        refine hK _ _ (TA.out) ?_
        clear hK K
        refine wpPlan_do (by rfl) (by rfl) (fun K hK => ?_)
        go_simp
        refine (numz_any gr bs a1 _ RA.out HB.out hl12).mono ?_
        intro e wB hg
        unfold GotX at hg
        simp only [HBB.out] at hg
        obtain ⟨v, rfl, rfl, q3, q4⟩ := hg
        have TB : Hid (Touch (fun k => k = gr) w3 wB) := Lib.hid (tt TA.out q4)
        rw [HA2.out] at q3
        have RBB := Lib.hid q3
        clear q3 q4
        refine hK _ _ (TB.out) ?_
        clear hK K
        iterate 1
          refine wpPlan_read (by rfl) (by rfl) (fun R hR => ?_)
          apply Exists.intro
          refine ⟨fun w' hS' => ?_, ?_⟩
          · have k0 := (hS'.cell (o := 0) l3 n4).trans C4.out
            go_simp
            exact ⟨rfl, rfl⟩
          go_simp
          refine hR _ ?_
          clear hR R
        refine wpPlan_do (by rfl) (by rfl) (fun K hK => ?_)
        go_simp
        refine (numz_any gr bs a2 _ RBB.out HB.out hl12).mono ?_
        intro e wC hg
        unfold GotX at hg
        simp only [HC.out] at hg
        obtain ⟨⟨n, rfl⟩, q4⟩ := hg
        exact ⟨fun t ht => (by simp only [List.mem_cons, List.not_mem_nil, or_false] at ht; rcases ht with rfl|rfl <;> rfl), rfl, n, rfl, tt TB.out q4⟩
      | some pC =>
        obtain ⟨zh, r3⟩ := pC
        have HC := Lib.hid hC
        have E3 := Lib.hid (suf_unleb hC)
        have zb3 := unleb_bd (HB.out.drop a2) hC
        simp only at zb3
        have uh := uns_bd zb3.1 zb3.2
        have WH := Lib.hid (wrap_ub uh.1 uh.2)
        obtain ⟨a3, ha3⟩ : ∃ a3, bs.length - r3.length = a3 := ⟨_, rfl⟩
        rw [ha3] at E3
        have HA3 := Lib.hid ha3
        clear hC ha3
        have X1 : Hid (unleb bs = some (zd, r1)) := Lib.hid (by simpa using HA.out)
        have X2 : Hid (unleb r1 = some (zl, r2)) := Lib.hid (by rw [← E1.out]; exact HBB.out)
        have X3 : Hid (unleb r2 = some (zh, r3)) := Lib.hid (by rw [← E2.out]; exact HC.out)
        have eg1 : ∀ args w, (callFunc 84 args).run Try.prog w = .ok (.enter 84 args) w := fun _ _ => rfl
        have eg2 : ∀ args w, (callFunc 85 args).run Try.prog w = .ok (.enter 85 args) w := fun _ _ => rfl
        refine wp_region_plan (Touch (fun k => k = gr) w3) [(0, true), (2, true), (5, true), (1, false), (3, false), (4, true), (6, false), (7, true), (8, true), (9, true), (10, true)] (by kernel_rfl) (by kernel_rfl) ((Touch.refl _ _).drew) ?_
        iterate 3
          refine wpPlan_read (by rfl) (by rfl) (fun R hR => ?_)
          apply Exists.intro
          refine ⟨fun w' hS' => ?_, ?_⟩
          · have k0 := (hS'.cell (o := 0) l3 n4).trans C4.out
            have wl := WL.out
            have wh := WH.out
            go_simp
            exact ⟨rfl, rfl⟩
          go_simp
          refine hR _ ?_
          clear hR R
        refine wpPlan_do (by rfl) (by rfl) (fun K hK => ?_)
        go_simp
        refine (numv_any gr bs 0 _ (RdrAt.keep R3.out ((Below.refl _ _).drew)) HB.out hl12).mono ?_
        intro e wA hg
        unfold GotX at hg
        simp only [HA.out] at hg
        obtain ⟨v, rfl, rfl, q3, q4⟩ := hg
        have TA : Hid (Touch (fun k => k = gr) w3 wA) := Lib.hid (((Touch.refl (fun k => k = gr) w3).drew).trans q4 (fun i hi => .inl hi))
        rw [HA1.out] at q3
        have RA := Lib.hid q3
        clear q3 q4
        refine hK _ _ (TA.out) ?_
        clear hK K
        refine wpPlan_do (by rfl) (by rfl) (fun K hK => ?_)
        go_simp
        refine (numz_any gr bs a1 _ RA.out HB.out hl12).mono ?_
        intro e wB hg
        unfold GotX at hg
        simp only [HBB.out] at hg
        obtain ⟨v, rfl, rfl, q3, q4⟩ := hg
        have TB : Hid (Touch (fun k => k = gr) w3 wB) := Lib.hid (tt TA.out q4)
        rw [HA2.out] at q3
        have RBB := Lib.hid q3
        clear q3 q4
        refine hK _ _ (TB.out) ?_
        clear hK K
        iterate 1
          refine wpPlan_read (by rfl) (by rfl) (fun R hR => ?_)
          apply Exists.intro
          refine ⟨fun w' hS' => ?_, ?_⟩
          · have k0 := (hS'.cell (o := 0) l3 n4).trans C4.out
            have wl := WL.out
            have wh := WH.out
            go_simp
            exact ⟨rfl, rfl⟩
          go_simp
          refine hR _ ?_
          clear hR R
        refine wpPlan_do (by rfl) (by rfl) (fun K hK => ?_)
        go_simp
        refine (numz_any gr bs a2 _ RBB.out HB.out hl12).mono ?_
        intro e wC hg
        unfold GotX at hg
        simp only [HC.out] at hg
        obtain ⟨v, rfl, rfl, q3, q4⟩ := hg
        have TC : Hid (Touch (fun k => k = gr) w3 wC) := Lib.hid (tt TB.out q4)
        rw [HA3.out] at q3
        have RC := Lib.hid q3
        clear q3 q4
        refine hK _ _ (TC.out) ?_
        clear hK K
        iterate 4
          refine wpPlan_read (by rfl) (by rfl) (fun R hR => ?_)
          apply Exists.intro
          refine ⟨fun w' hS' => ?_, ?_⟩
          · have k0 := (hS'.cell (o := 0) l3 n4).trans C4.out
            have wl := WL.out
            have wh := WH.out
            go_simp
            exact ⟨rfl, rfl⟩
          go_simp
          refine hR _ ?_
          clear hR R
        refine wpPlan_nil ?_
        have c4 := (TC.out.cell (o := 0) l3 n4).trans C4.out
        go_wp2_with fail
        go_quiet (fail)
        clear c4
        go_wp2_with fail
        refine (listed_any gr bs a3 _ (RdrAt.drewN RC.out nq) HB.out hl12).mono ?_
        intro e wD hg
        unfold GotX at hg
        cases hD : rdList (bs.drop a3) with
        | none =>
          simp only [hD] at hg
          have HN : Hid (readT bs = none) := Lib.hid (readT_d X1.out X2.out X3.out (by rw [← E3.out]; exact hD))
          obtain ⟨⟨n, rfl⟩, q4⟩ := hg
          have TD : Hid (Touch (fun k => k = gr) w3 wD) := Lib.hid (tt (TC.out.drewN nq) q4)
          clear hD q4
          go_wp2_with fail
          exact DG.out n _ wD rfl rfl TD.out HN.out
        | some pD =>
          obtain ⟨Ls, r4⟩ := pD
          simp only [hD] at hg
          obtain ⟨vL, rfl, oL, q3, q4⟩ := hg
          have TD : Hid (Touch (fun k => k = gr) w3 wD) := Lib.hid (tt (TC.out.drewN nq) q4)
          obtain ⟨j4, hj4⟩ := rdList_suf hD
          have E4 : Hid (bs.drop (bs.length - r4.length) = r4) := Lib.hid (suf (bs := bs) (m := a3 + j4) (by rw [← List.drop_drop]; exact hj4))
          obtain ⟨rawLs, lenL, _⟩ := rdList_raw (HB.out.drop a3) hD
          simp only at rawLs lenL E4
          have RL := Lib.hid rawLs
          have OL := Lib.hid oL.rd
          have X4 : Hid (rdList r3 = some (Ls, r4)) := Lib.hid (by rw [← E3.out]; exact hD)
          obtain ⟨a4, ha4⟩ : ∃ a4, bs.length - r4.length = a4 := ⟨_, rfl⟩
          rw [ha4] at E4 q3
          have RD := Lib.hid q3
          have oLlt := Lib.hid (fun k (e : vL.ownBlock = some k) => (oL.lt k e).1)
          have OLo := Lib.hid oL
          have hzC := TC.out.size
          clear hD hj4 rawLs oL q3 q4 ha4
          go_wp2_with fail
          refine (waiting_any gr bs a4 wD RD.out HB.out hl12).mono ?_
          intro e wE hg
          unfold GotX at hg
          cases hW : rdWait (bs.drop a4) with
          | none =>
            simp only [hW] at hg
            have HN : Hid (readT bs = none) := Lib.hid (readT_e X1.out X2.out X3.out X4.out (by rw [← E4.out]; exact hW))
            obtain ⟨⟨n, rfl⟩, q4⟩ := hg
            have TE : Hid (Touch (fun k => k = gr) w3 wE) := Lib.hid (tt TD.out q4)
            clear hW q4
            go_wp2_with fail
            exact DG.out n _ wE rfl rfl TE.out HN.out
          | some pE =>
            obtain ⟨Ws, r5⟩ := pE
            simp only [hW] at hg
            obtain ⟨vW, rfl, oW, q3, q4⟩ := hg
            have TE : Hid (Touch (fun k => k = gr) w3 wE) := Lib.hid (tt TD.out q4)
            obtain ⟨j5, hj5⟩ := rdWait_suf hW
            have hr5 : r5.length ≤ bs.length := by simp only at hj5; rw [hj5]; simp only [List.length_drop]; omega
            obtain ⟨rawWs, lenW, _⟩ := rdWait_raw (HB.out.drop a4) hW
            simp only at rawWs lenW
            have RW := Lib.hid rawWs
            have HRT : Hid (readT bs = readFin bs ⟨zd, uns zl, uns zh, Ls, Ws⟩ r5) := Lib.hid (readT_of X1.out X2.out X3.out X4.out (by rw [← E4.out]; exact hW))
            have OLE := Lib.hid ((OLo.out.away q4 (by have := TC.out.size; simp only [size_drewN] at *; omega)).rd)
            have OWE := Lib.hid oW.rd
            have RE := Lib.hid q3
            have c4 := (TE.out.cell (o := 0) l3 n4).trans C4.out
            have CL := Lib.hid (rleft_any gr bs (bs.length - r5.length) wE q3 hl12)
            have EL := Lib.hid (show ((bs.length : Int) - ((bs.length - r5.length : Nat) : Int)) = (r5.length : Int) by omega)
            rw [EL.out] at CL
            clear hW hj5 rawWs oW q3 q4 hr5
            have HBE : Hid (Below w.heap.size w wE) := Lib.hid (hb13.trans (TE.out.below HG0.out hb13.size))
            have D2E : Hid (Blk wE h2 27 #[.pointer none]) := Lib.hid ((TE.out.block h2 m2 n2).trans D2.out)
            have D3E : Hid (Blk wE (h2 + 1) 31 #[.int .i64 0]) := Lib.hid ((TE.out.block (h2 + 1) m3 n3).trans D3.out)
            have hzE := HBE.out.size
            have c2 := D2E.out.cell 0
            have c3 := D3E.out.cell 0
            have f2 := D2E.out.frozen 0
            have f3 := D3E.out.frozen 0
            simp only [List.getElem?_toArray, List.getElem?_cons_zero] at c2 c3
            have NO : Hid (∀ (w' : World) (tmps : Array Value), tmps[2]? = some (.pointer (some ⟨h2, 0, none⟩)) → tmps[3]? = some (.pointer (some ⟨h2 + 1, 0, none⟩)) → w'.cell? ⟨h2, 0, none⟩ = some (.pointer none) → w'.cell? ⟨h2 + 1, 0, none⟩ = some (.int .i64 9) → Below w.heap.size w w' → readT bs = none →
                Leaves Try.prog Try.f45 tmps (ReadP bs w) [{ target := .fn (.func 81) #[.pointer (some ⟨h2, 0, none⟩), .pointer (some ⟨h2 + 1, 0, none⟩)], args := #[] }] .returning w') := Lib.hid (fun w' tmps t2 t3 k2 k3 hb' hN => by
              refine door_back h2 (h2 + 1) w' _ tmps t2 t3 _ _ k2 k3 ?_
              unfold ReadP
              rw [hN]
              exact ⟨rfl, hb'⟩)
            cases r5 with
            | cons b0 r6 =>
              have HN : Hid (readT bs = none) := Lib.hid HRT.out
              obtain ⟨nl, hnl⟩ : ∃ nl, (b0 :: r6).length = nl := ⟨_, rfl⟩
              have dl : decide (0 < nl) = true := decide_eq_true (by rw [← hnl]; simp)
              rw [hnl] at CL
              clear hnl
              go_wp2_with (go_at_call 86; refine (CL.out).mono ?_; rintro e w' ⟨rfl, q, rfl⟩)
              have tp := two_put (wE.drewN q) (.pointer none) (.int .i64 9) c2 c3
              exact NO.out _ _ rfl rfl tp.1 tp.2 (below_two (below_drewN HBE.out q) e2 _ _) HN.out
            | nil =>
              simp only [List.length_nil] at CL
              have z0 : ((0 : Nat) : Int) = 0 := rfl
              rw [z0] at CL
              clear z0
              by_cases hd : zd ≤ 1000
              · have dd : decide ((1000 : Int) < zd) = false := decide_eq_false (by omega)
                have hraw : rawL (Ls ++ Ws) := fun m hm => (List.mem_append.1 hm).elim (RL.out m) (RW.out m)
                have HRAW := Lib.hid hraw
                have OLQ := fun q => Lib.hid (Rd.drewN OLE.out q)
                have OWQ := fun q => Lib.hid (Rd.drewN OWE.out q)
                have zdb := zb1.1
                clear hraw
                go_wp2_with (go_at_call 86; refine (CL.out).mono ?_; rintro e w' ⟨rfl, q, rfl⟩)
                rw [WL.out, WH.out]
                have hbq : Below w.heap.size w (wE.drewN q) := below_drewN HBE.out q
                refine (load_any zd (uns zl) (uns zh) vL vW Ls Ws _ (OLQ q).out (OWQ q).out HRAW.out (by omega)).mono ?_
                intro e w5 hP
                have ne2 : h2 < (wE.drewN q).heap.size := by rw [size_drewN]; have := D2E.out.lt; exact this
                have ne3 : h2 + 1 < (wE.drewN q).heap.size := by rw [size_drewN]; have := D3E.out.lt; exact this
                rcases hP with ⟨hri, g, F, rfl, hDg, hFg, hb5⟩ | ⟨hri, rfl, hb5⟩
                · have x2 := (hb5.cell (p := ⟨h2, 0, none⟩) ne2).trans c2
                  have x3 := (hb5.cell (p := ⟨h2 + 1, 0, none⟩) ne3).trans c3
                  have y2 := (hb5.frozen (p := ⟨h2, 0, none⟩) ne2).trans f2
                  have y3 := (hb5.frozen (p := ⟨h2 + 1, 0, none⟩) ne3).trans f3
                  have hbw5 : Below w.heap.size w w5 := hbq.trans (hb5.mono hbq.size)
                  obtain ⟨ro1, ro2, ro3, ro4⟩ := right_ok hri HRAW.out ul.1 ul.2 uh.1 uh.2
                  have FT : Hid (Fit zd ⟨Ls, Ws, uns zl, uns zh⟩ (Ls.length + Ws.length)) := Lib.hid ⟨ro1, by omega, ro2, ro3, ro4⟩
                  have hFsz := Lib.hid hFg
                  have hne2 : ∀ i, i = h2 ∨ i = h2 + 1 → ¬ F i := fun i hi hf => by have := hFg i hf; omega
                  have tp := two_put w5 (.pointer (some ⟨g, 0, none⟩)) (.int .i64 0) x2 x3
                  have hbw6 := below_two hbw5 e2 (.pointer (some ⟨g, 0, none⟩)) (.int .i64 0)
                  have T6 : Touch (fun k => k = h2 ∨ k = h2 + 1) w5 ((w5.setCell ⟨h2, 0, none⟩ (.pointer (some ⟨g, 0, none⟩))).setCell ⟨h2 + 1, 0, none⟩ (.int .i64 0)) := ((Touch.refl _ w5).setCell (p := ⟨h2, 0, none⟩) (.inl (.inl rfl)) _).setCell (p := ⟨h2 + 1, 0, none⟩) (.inl (.inr rfl)) _
                  have DG6 : Hid (DgS ((w5.setCell ⟨h2, 0, none⟩ (.pointer (some ⟨g, 0, none⟩))).setCell ⟨h2 + 1, 0, none⟩ (.int .i64 0)) g F zd ⟨Ls, Ws, uns zl, uns zh⟩) := Lib.hid (DgS.far hDg T6 (fun k hk hf => hne2 k hf hk))
                  have fz2 : ((w5.setCell ⟨h2, 0, none⟩ (.pointer (some ⟨g, 0, none⟩))).setCell ⟨h2 + 1, 0, none⟩ (.int .i64 0)).frozen? ⟨h2, 0, none⟩ = false := by simp only [World.frozen?_setCell]; exact y2
                  have fz3 : ((w5.setCell ⟨h2, 0, none⟩ (.pointer (some ⟨g, 0, none⟩))).setCell ⟨h2 + 1, 0, none⟩ (.int .i64 0)).frozen? ⟨h2 + 1, 0, none⟩ = false := by simp only [World.frozen?_setCell]; exact y3
                  have HRI := Lib.hid hri
                  obtain ⟨t2, t3⟩ := tp
                  clear ro1 ro2 ro3 ro4 hFg hne2 T6 hDg hri c2 c3 f2 f3
                  go_wp2_with fail
                  generalize (w5.setCell ⟨h2, 0, none⟩ (.pointer (some ⟨g, 0, none⟩))).setCell ⟨h2 + 1, 0, none⟩ (.int .i64 0) = w6 at *
                  have l26 := World.block_lt_of_cell? _ _ t2
                  have l36 := World.block_lt_of_cell? _ _ t3
                  refine (twrite_any g F zd ⟨Ls, Ws, uns zl, uns zh⟩ (Ls.length + Ws.length) w6 DG6.out FT.out).mono ?_
                  rintro e w7 ⟨v7, rfl, o7, hb7⟩
                  have O7 := Lib.hid o7
                  have DG7 : Hid (DgS w7 g F zd ⟨Ls, Ws, uns zl, uns zh⟩) := Lib.hid (Dg.keep DG6.out hb7)
                  have hbw7 := hbw6.trans (hb7.mono hbw6.size)
                  have r2 := (hb7.cell (p := ⟨h2, 0, none⟩) l26).trans t2
                  have r3' := (hb7.cell (p := ⟨h2 + 1, 0, none⟩) l36).trans t3
                  have s2 := (hb7.frozen (p := ⟨h2, 0, none⟩) l26).trans fz2
                  have s3 := (hb7.frozen (p := ⟨h2 + 1, 0, none⟩) l36).trans fz3
                  have hz7 := hb7.size
                  have hwl : (wrD zd Ls Ws (uns zl) (uns zh)).length ≤ 1000000000000 := by
                    unfold wrD zg
                    have k1 := leb_len zd
                    have k2 := leb_len (sgn (uns zl))
                    have k3 := leb_len (sgn (uns zh))
                    have k4 := leb_len (Ls.length : Int)
                    have k5 := leb_len (Ws.length : Int)
                    have k6 := wrl_len none Ls
                    have k7 := wrw_len Ws
                    simp only [List.length_append]
                    omega
                  have EQ := Lib.hid (equal_any v7 v (wrD zd Ls Ws (uns zl) (uns zh)) bs w7 (OwnI.rd O7.out) (Rd.keep HR.out hbw7) hwl hl12)
                  clear o7 t2 t3 fz2 fz3 x2 x3 y2 y3
                  by_cases hE : wrD zd Ls Ws (uns zl) (uns zh) = bs
                  · rw [decide_eq_true hE] at EQ
                    have HRS : Hid (readT bs = some ⟨zd, uns zl, uns zh, Ls, Ws⟩) := Lib.hid (by rw [HRT.out]; unfold readFin; rw [if_pos ⟨hd, HRI.out, hE⟩])
                    clear hE
                    go_wp2_with (go_at_call 87; refine (EQ.out).mono ?_; rintro e w8 ⟨rfl, hb8⟩; have l28 := World.block_lt_of_cell? _ _ r2; have l38 := World.block_lt_of_cell? _ _ r3'; have q2 := (hb8.cell (p := ⟨h2, 0, none⟩) l28).trans r2; have q3 := (hb8.cell (p := ⟨h2 + 1, 0, none⟩) l38).trans r3'; have p2 := (hb8.frozen (p := ⟨h2, 0, none⟩) l28).trans s2; have p3 := (hb8.frozen (p := ⟨h2 + 1, 0, none⟩) l38).trans s3; have DG8 : Hid (DgS w8 g F zd ⟨Ls, Ws, uns zl, uns zh⟩) := Lib.hid (Dg.keep DG7.out hb8); have hbw8 := hbw7.trans (hb8.mono hbw7.size))
                    have tp := two_put w8 (.pointer (some ⟨g, 0, none⟩)) (.int .i64 0) q2 q3
                    refine (show Leaves Try.prog Try.f45 _ (ReadP bs w) _ .returning _ from ?_)
                    refine door_back h2 (h2 + 1) _ _ _ rfl rfl _ _ tp.1 tp.2 ?_
                    unfold ReadP
                    rw [HRS.out]
                    have T8 : Touch (fun k => k = h2 ∨ k = h2 + 1) w8 ((w8.setCell ⟨h2, 0, none⟩ (.pointer (some ⟨g, 0, none⟩))).setCell ⟨h2 + 1, 0, none⟩ (.int .i64 0)) := ((Touch.refl _ w8).setCell (p := ⟨h2, 0, none⟩) (.inl (.inl rfl)) _).setCell (p := ⟨h2 + 1, 0, none⟩) (.inl (.inr rfl)) _
                    have hF8 : ∀ k, F k → w.heap.size ≤ k := fun k hk => by have := hFsz.out k hk; rw [size_drewN] at this; omega
                    exact ⟨g, F, rfl, DgS.far DG8.out T8 (fun k hk hf => by have := hFsz.out k hk; rw [size_drewN] at this; have a1 := D2E.out.lt; have a2 := D3E.out.lt; rcases hf with hf | hf <;> omega), hF8, below_two hbw8 e2 _ _⟩
                  · rw [decide_eq_false hE] at EQ
                    have HN : Hid (readT bs = none) := Lib.hid (by rw [HRT.out]; unfold readFin; rw [if_neg (fun h => hE h.2.2)])
                    clear hE
                    go_wp2_with (go_at_call 87; refine (EQ.out).mono ?_; rintro e w8 ⟨rfl, hb8⟩; have l28 := World.block_lt_of_cell? _ _ r2; have l38 := World.block_lt_of_cell? _ _ r3'; have q2 := (hb8.cell (p := ⟨h2, 0, none⟩) l28).trans r2; have q3 := (hb8.cell (p := ⟨h2 + 1, 0, none⟩) l38).trans r3'; have p2 := (hb8.frozen (p := ⟨h2, 0, none⟩) l28).trans s2; have p3 := (hb8.frozen (p := ⟨h2 + 1, 0, none⟩) l38).trans s3; have hbw8 := hbw7.trans (hb8.mono hbw7.size))
                    have tp := two_put w8 (.pointer none) (.int .i64 9) q2 q3
                    exact NO.out _ _ rfl rfl tp.1 tp.2 (below_two hbw8 e2 _ _) HN.out
                · have x2 := (hb5.cell (p := ⟨h2, 0, none⟩) ne2).trans c2
                  have x3 := (hb5.cell (p := ⟨h2 + 1, 0, none⟩) ne3).trans c3
                  have y2 := (hb5.frozen (p := ⟨h2, 0, none⟩) ne2).trans f2
                  have y3 := (hb5.frozen (p := ⟨h2 + 1, 0, none⟩) ne3).trans f3
                  have hbw5 : Below w.heap.size w w5 := hbq.trans (hb5.mono hbq.size)
                  have HN : Hid (readT bs = none) := Lib.hid (by rw [HRT.out]; unfold readFin; rw [if_neg (fun h => by rw [hri] at h; cases h.2.1)])
                  have tp := two_put w5 (.pointer none) (.int .i64 1) x2 x3
                  have tq := two_put ((w5.setCell ⟨h2, 0, none⟩ (.pointer none)).setCell ⟨h2 + 1, 0, none⟩ (.int .i64 1)) (.pointer none) (.int .i64 9) tp.1 tp.2
                  have hb6 := below_two (below_two hbw5 e2 (.pointer none) (.int .i64 1)) e2 (.pointer none) (.int .i64 9)
                  have TQ := Lib.hid tq
                  have HB6 := Lib.hid hb6
                  clear tp tq hb6 hri c2 c3 f2 f3
                  go_wp2_with fail
                  exact NO.out _ _ rfl rfl TQ.out.1 TQ.out.2 HB6.out HN.out
              · have HN : Hid (readT bs = none) := Lib.hid (by rw [HRT.out]; unfold readFin; rw [if_neg (fun h => hd h.1)])
                have dd : decide ((1000 : Int) < zd) = true := decide_eq_true (by omega)
                go_wp2_with (go_at_call 86; refine (CL.out).mono ?_; rintro e w' ⟨rfl, q, rfl⟩)
                have tp := two_put (wE.drewN q) (.pointer none) (.int .i64 9) c2 c3
                exact NO.out _ _ rfl rfl tp.1 tp.2 (below_two (below_drewN HBE.out q) e2 _ _) HN.out
end
section
open Go.RowKit Go.Lib
theorem conv_B {w : World} {v : Value} {l : List Int} (h : RdI .u8 w v l) : (convert 78 9 v).run Try.prog w = .ok (.string (strOfNums l)) w := by
  obtain ⟨A, c, rfl, _, _, f⟩ := h.form
  cases A with
  | none =>
    have h0 : l = [] := by
      rcases Nat.eq_zero_or_pos l.length with h0 | h0
      · exact List.eq_nil_of_length_eq_zero h0
      · obtain ⟨g, off, e, _⟩ := f h0; cases e
    subst h0
    exact run_convert_bytes_nil w 78 5 Try.underlying78 Try.underlying5 _ _ _ Try.underlying9
  | some a =>
    rcases Nat.eq_zero_or_pos l.length with h0 | h0
    · have h1 : l = [] := List.eq_nil_of_length_eq_zero h0
      subst h1
      obtain ⟨b, off, spot⟩ := a
      cases spot with
      | none => exact run_convert_bytes_arg w 78 5 Try.underlying78 Try.underlying5 b off 0 c [] rfl (fun i hi => absurd hi (by omega)) _ Try.underlying9
      | some s => rw [run_convert_bytes_string w 78 9 5 _ _ _ Try.underlying78 Try.underlying5 Try.underlying9, run_bytesToString w _ _ c [] (by simp [loadCells, loadCellsFrom])]; rfl
    · obtain ⟨g, off, hA, _, hc⟩ := f h0
      cases hA
      exact run_convert_bytes_arg w 78 5 Try.underlying78 Try.underlying5 g off l.length c l rfl (fun i hi => by
        rw [hc i hi]; simp [List.getD, List.getElem?_eq_getElem hi]) _ Try.underlying9

theorem okL.raw {l : List Mn} (h : okL l) (ht : tot l ≤ 18446744073709551615) : rawL l := fun m hm => by
  obtain ⟨j, hj, rfl⟩ := List.getElem_of_mem hm
  have h1 := h _ (List.getElem_mem hj)
  have h2 := h.tot_get hj
  have h3 := (h.tot_take j).1
  have h4 := h1.2.2
  exact ⟨h1.1, h1.2.1, by omega, by omega⟩
theorem leb_byS {d : Int} {s : St} {k : Nat} (ft : Fit d s k) : byL (wrD d s.L s.W s.lo s.hi) := by
  have hr := okL.raw ft.ok.ok (by have := ft.t; omega)
  have sl := sgn_bd ft.ok.lo0 ft.ok.lo1
  have sh := sgn_bd ft.ok.hi0 ft.ok.hi1
  have hl := ft.ok.len
  have hk := ft.k1
  have d0 := ft.d0
  have d1 := ft.d1
  have hL : ∀ (p : Option Int) (l : List Mn), rawL l → (∀ q, p = some q → -9223372036854775808 ≤ q ∧ ∀ m ∈ l, q ≤ m.1) → Rises l → byL (wrl p l) := by
    intro p l
    induction l generalizing p with
    | nil => intro _ _ _ b hb; simp [wrl] at hb
    | cons m l ih =>
      intro hr hp hs
      have hm := hr m (List.mem_cons_self ..)
      have hs' := List.pairwise_cons.1 hs
      simp only [wrl]
      refine byL.append ?_ (byL.append (leb_by hm.2.2.1 (by omega)) (ih (some m.1) (fun x hx => hr x (List.mem_cons_of_mem _ hx)) (fun q hq => by cases hq; exact ⟨hm.1, fun x hx => hs'.1 x hx⟩) hs'.2))
      unfold encP
      cases p with
      | none => exact leb_by (sgn_bd hm.1 hm.2.1).1 (sgn_bd hm.1 hm.2.1).2
      | some q => have := hp q rfl; have h2 := this.2 m (List.mem_cons_self ..); exact leb_by (by omega) (by omega)
  have hW : ∀ (l : List Mn), rawL l → byL (wrw l) := by
    intro l
    induction l with
    | nil => intro _ b hb; simp [wrw] at hb
    | cons m l ih =>
      intro hr
      have hm := hr m (List.mem_cons_self ..)
      simp only [wrw]
      exact byL.append (leb_by (sgn_bd hm.1 hm.2.1).1 (sgn_bd hm.1 hm.2.1).2) (byL.append (leb_by hm.2.2.1 (by omega)) (ih (fun x hx => hr x (List.mem_cons_of_mem _ hx))))
  unfold wrD
  refine byL.append (leb_by (by omega) (by omega)) (byL.append (leb_by sl.1 sl.2) (byL.append (leb_by sh.1 sh.2) (byL.append (leb_by (by omega) (by omega)) (byL.append ?_ (byL.append (leb_by (by omega) (by omega)) ?_)))))
  · exact hL none _ (fun m hm => hr m (List.mem_append_left _ hm)) (fun q hq => by cases hq) ft.ok.rise
  · exact hW _ (fun m hm => hr m (List.mem_append_right _ hm))
theorem readT_S {d : Int} {s : St} {k : Nat} (ft : Fit d s k) (hk : k ≤ 65536) : readT (wrD d s.L s.W s.lo s.hi) = some ⟨d, s.lo, s.hi, s.L, s.W⟩ := by
  have hr := okL.raw ft.ok.ok (by have := ft.t; omega)
  have d0 := ft.d0
  have d1 := ft.d1
  have hl := ft.ok.len
  rw [readT_wrD (by omega) (by omega) ft.ok.lo0 ft.ok.lo1 ft.ok.hi0 ft.ok.hi1 (fun m hm => hr m (List.mem_append_left _ hm)) ft.ok.rise (fun m hm => hr m (List.mem_append_right _ hm)) (by omega) (by omega), if_pos (ok_right ft.ok ft.t ft.d0 ft.d1)]
theorem wrD_len {d : Int} {L W : List Mn} {lo hi : Int} (h : L.length + W.length ≤ 1000000) : (wrD d L W lo hi).length ≤ 1000000000 := by
  unfold wrD zg
  have k1 := leb_len d
  have k2 := leb_len (sgn lo)
  have k3 := leb_len (sgn hi)
  have k4 := leb_len (L.length : Int)
  have k5 := leb_len (W.length : Int)
  have k6 := wrl_len none L
  have k7 := wrw_len W
  simp only [List.length_append]
  omega
/-- Read of a digest's own bytes. -/
theorem read_S {d : Int} {s : St} {k : Nat} (v : Value) (w : World) (h : RdI .u8 w v (wrD d s.L s.W s.lo s.hi)) (ft : Fit d s k) (hk : k ≤ 65536) :
    Calls Try.prog 45 #[v] w fun e w' => ∃ (g : Nat) (F : Nat → Prop), e = .returned (.tuple #[.pointer (some ⟨g, 0, none⟩), .int .i64 0]) ∧ DgS w' g F d s ∧ (∀ k, F k → w.heap.size ≤ k) ∧ Below w.heap.size w w' := by
  have hl := ft.ok.len
  refine (read_any v _ w h (leb_byS ft) (wrD_len (by omega))).mono ?_
  intro e w' hP
  unfold ReadP at hP
  rw [readT_S ft hk] at hP
  exact hP
def sB1 : St := St.add 10 St.zero 3 1
def sB2 : St := St.add 10 sB1 (-1) 2
theorem sB_ok : Fit 10 St.zero 0 ∧ Fit 10 sB1 1 ∧ Fit 10 sB2 2 := by
  have h0 := St.zero_ok 10 (by omega)
  have h1 := h0.add (by omega) (a := 3) (n := 1) (by omega) (by omega) (by omega)
  have h2 := h1.add (by omega) (a := -1) (n := 2) (by omega) (by omega) (by omega)
  exact ⟨⟨h0, by omega, by decide, by omega, by omega⟩, ⟨h1, by omega, by decide, by omega, by omega⟩, ⟨h2, by omega, by decide, by omega, by omega⟩⟩

set_option maxRecDepth 100000 in
set_option maxHeartbeats 2000000 in
theorem alive23_any (w : World) : Calls Try.prog 44 #[] w fun e w' => e = .returned (.bool true) ∧ Below w.heap.size w w' := by
  obtain ⟨k0, k1, k2⟩ := sB_ok
  have K0 := Lib.hid k0
  have K1 := Lib.hid k1
  have K2 := Lib.hid k2
  have EA : Hid (strOfNums (wrD 10 St.zero.L St.zero.W St.zero.lo St.zero.hi) = ⟨#[10, 0, 0, 0, 0]⟩) := Lib.hid (by rw [show wrD 10 St.zero.L St.zero.W St.zero.lo St.zero.hi = [10, 0, 0, 0, 0] by decide +kernel]; rfl)
  have EB : Hid (strOfNums (wrD 10 sB2.L sB2.W sB2.lo sB2.hi) = ⟨#[10, 1, 6, 0, 2, 6, 1, 1, 2]⟩) := Lib.hid (by rw [show wrD 10 sB2.L sB2.W sB2.lo sB2.hi = [10, 1, 6, 0, 2, 6, 1, 1, 2] by decide +kernel]; rfl)
  have ET : Hid (tot (sB2.L ++ sB2.W) = 3) := Lib.hid (by decide +kernel)
  clear k0 k1 k2
  go_enter Try.func44, Try.ntmps44
  go_wp2_with fail
  refine (new_yes 10 w (by omega) (by omega)).mono ?_
  rintro e w1 ⟨g, rfl, hg, hd, hb1⟩
  have hz1 := hb1.size
  have D0 : Hid (DgS w1 g (fun k => k = g) 10 St.zero) := Lib.hid hd
  have F0 : Hid (∀ i, (fun k => k = g) i → w.heap.size ≤ i) := fun i hi => by simp only at hi; omega
  have B1 := Lib.hid hb1
  clear hd hb1
  go_wp2_with fail
  refine (twrite_any g _ 10 St.zero 0 w1 D0.out K0.out).mono ?_
  rintro e w2 ⟨va, rfl, oa, hb2⟩
  have hz2 := hb2.size
  have OA := Lib.hid (OwnI.rd oa)
  have OAo := Lib.hid oa
  have D2 : Hid (DgS w2 g (fun k => k = g) 10 St.zero) := Lib.hid (Dg.keep D0.out hb2)
  have B2 := Lib.hid (B1.out.trans (hb2.mono hz1))
  clear oa
  go_wp2_with fail
  refine (addS_any 3 1 _ D2.out K0.out (by omega) (by omega) (by omega) (by omega) (by decide)).mono ?_
  rintro e w3 ⟨rfl, F3, f3, d3, t3⟩
  have hz3 := t3.size
  have D3 : Hid (DgS w3 g F3 10 sB1) := Lib.hid d3
  have hgl := Lib.hid (Dg.lt D0.out)
  have OA3 : Hid (OwnB w1.heap.size w3 va (wrD 10 St.zero.L St.zero.W St.zero.lo St.zero.hi)) := Lib.hid (OwnI.stay OAo.out (fun k hk => t3.block k (OwnI.lt OAo.out k hk).2 (fun e => by have := (OwnI.lt OAo.out k hk).1; have := hgl.out; omega)))
  have B3 := Lib.hid (B2.out.trans (t3.base F0.out (by omega)))
  have FF3 := Lib.hid (sub_base F0.out f3 (by omega))
  have NF3 : Hid (∀ k, va.ownBlock = some k → ¬ F3 k) := Lib.hid (fun k hk hf => by
    have h1 := (OwnI.lt OAo.out k hk)
    have := hgl.out
    rcases f3 k hf with h | h
    · omega
    · omega)
  clear d3 t3 f3
  go_wp2_with fail
  refine (addS_any (-1) 2 _ D3.out K1.out (by omega) (by omega) (by omega) (by omega) (by decide)).mono ?_
  rintro e w4 ⟨rfl, F4, f4, d4, t4⟩
  have hz4 := t4.size
  have D4 : Hid (DgS w4 g F4 10 sB2) := Lib.hid d4
  have OA4 : Hid (OwnB w1.heap.size w4 va (wrD 10 St.zero.L St.zero.W St.zero.lo St.zero.hi)) := Lib.hid (OwnI.stay OA3.out (fun k hk => t4.block k (OwnI.lt OA3.out k hk).2 (NF3.out k hk)))
  have B4 := Lib.hid (B3.out.trans (t4.base FF3.out (by omega)))
  clear d4 t4 f4
  go_wp2_with fail
  refine (twrite_any g F4 10 sB2 2 w4 D4.out K2.out).mono ?_
  rintro e w5 ⟨vb, rfl, ob, hb5⟩
  have hz5 := hb5.size
  have OB := Lib.hid (OwnI.rd ob)
  have OA5 := Lib.hid (OwnI.rd (OwnI.keep OA4.out hb5))
  have B5 := Lib.hid (B4.out.trans (hb5.mono (by omega)))
  clear ob
  go_wp2_with fail
  refine (read_S vb w5 OB.out K2.out (by omega)).mono ?_
  rintro e w6 ⟨g6, F6, rfl, d6, f6, hb6⟩
  have hz6 := hb6.size
  have D6 := Lib.hid d6
  have B6 := Lib.hid (B5.out.trans (hb6.mono (by omega)))
  have ca := conv_B (Rd.keep OA5.out hb6)
  have cb := conv_B (Rd.keep OB.out hb6)
  rw [EA.out] at ca
  rw [EB.out] at cb
  have C1 := total_any w6 D6.out
  rw [ET.out] at C1
  have C2 := Lib.hid C1
  clear d6 f6 C1
  go_wp2_with (go_at_call 22; refine (C2.out).mono ?_; rintro e w' ⟨rfl, rfl⟩)
  go_ret
  exact ⟨rfl, B6.out⟩
end
end Go.Proofs.Ytedhpkfbobgkgaa
