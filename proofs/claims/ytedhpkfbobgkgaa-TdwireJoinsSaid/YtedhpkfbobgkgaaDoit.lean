/- Do: an act on one of two digests and on its reference; it answers true and goes on as the states do. -/
import Derived.Test.YtedhpkfbobgkgaaDo
namespace Go.Proofs.Ytedhpkfbobgkgaa
open Go.RowKit Go.Lib

/-- The four pointers of the two boxes, and the act's box. -/
structure Four (bx br o : Nat) (g0 g1 r0 r1 : Nat) (kd : Int) (who : Bool) (v n : Int) (w : World) : Prop where
  x0 : w.cell? ⟨bx, 0, none⟩ = some (.pointer (some ⟨g0, 0, none⟩))
  x1 : w.cell? ⟨bx, 1, none⟩ = some (.pointer (some ⟨g1, 0, none⟩))
  y0 : w.cell? ⟨br, 0, none⟩ = some (.pointer (some ⟨r0, 0, none⟩))
  y1 : w.cell? ⟨br, 1, none⟩ = some (.pointer (some ⟨r1, 0, none⟩))
  o0 : w.cell? ⟨o, 0, none⟩ = some (.int .u8 kd)
  o1 : w.cell? ⟨o, 1, none⟩ = some (.bool who)
  o2 : w.cell? ⟨o, 2, none⟩ = some (.int .i64 v)
  o3 : w.cell? ⟨o, 3, none⟩ = some (.int .u64 n)
theorem Four.touch {bx br o g0 g1 r0 r1 : Nat} {kd : Int} {who : Bool} {v n : Int} {w w' : World} {F : Nat → Prop} (h : Four bx br o g0 g1 r0 r1 kd who v n w) (ht : Touch F w w')
    (hx : bx < w.heap.size ∧ ¬ F bx) (hr : br < w.heap.size ∧ ¬ F br) (ho : o < w.heap.size ∧ ¬ F o) : Four bx br o g0 g1 r0 r1 kd who v n w' := by
  have e : ∀ b i, b < w.heap.size ∧ ¬ F b → w'.cell? ⟨b, i, none⟩ = w.cell? ⟨b, i, none⟩ := fun b i hb => by
    have := ht.block b hb.1 hb.2
    unfold World.cell?
    simp only [this]
  exact ⟨(e _ _ hx).trans h.x0, (e _ _ hx).trans h.x1, (e _ _ hr).trans h.y0, (e _ _ hr).trans h.y1, (e _ _ ho).trans h.o0, (e _ _ ho).trans h.o1, (e _ _ ho).trans h.o2, (e _ _ ho).trans h.o3⟩

theorem Four.drew {bx br o g0 g1 r0 r1 : Nat} {kd : Int} {who : Bool} {v n : Int} {w : World} (h : Four bx br o g0 g1 r0 r1 kd who v n w) : Four bx br o g0 g1 r0 r1 kd who v n w.drew := ⟨h.x0, h.x1, h.y0, h.y1, h.o0, h.o1, h.o2, h.o3⟩
theorem Gone.drewN {B : Nat} {w w' : World} {g r : Nat} {F G : Nat → Prop} {d : Int} {s' : St} (h : Gone B w g r F G d s' w') (m : Nat) : Gone B w g r F G d s' (w'.drewN m) := by
  obtain ⟨F', G', h1, h2, h3⟩ := h
  exact ⟨F', G', h1.keep (below_drewN (Below.refl _ _) m), h2.drewN m, h3⟩
theorem four_alloc {bx br g0 g1 r0 r1 : Nat} {kd : Int} {who : Bool} {v n : Int} {w : World} (T : TypeId) (hx0 : w.cell? ⟨bx, 0, none⟩ = some (.pointer (some ⟨g0, 0, none⟩))) (hx1 : w.cell? ⟨bx, 1, none⟩ = some (.pointer (some ⟨g1, 0, none⟩)))
    (hy0 : w.cell? ⟨br, 0, none⟩ = some (.pointer (some ⟨r0, 0, none⟩))) (hy1 : w.cell? ⟨br, 1, none⟩ = some (.pointer (some ⟨r1, 0, none⟩))) (lx : bx < w.heap.size) (ly : br < w.heap.size) :
    Four bx br w.heap.size g0 g1 r0 r1 kd who v n (w.alloc (Obj.cells #[.int .u8 kd, .bool who, .int .i64 v, .int .u64 n] T)) := by
  have hb : Below w.heap.size w (w.alloc (Obj.cells #[.int .u8 kd, .bool who, .int .i64 v, .int .u64 n] T)) := (Below.refl _ _).alloc (Nat.le_refl _) _
  refine ⟨(hb.cell (p := ⟨bx, 0, none⟩) lx).trans hx0, (hb.cell (p := ⟨bx, 1, none⟩) lx).trans hx1, (hb.cell (p := ⟨br, 0, none⟩) ly).trans hy0, (hb.cell (p := ⟨br, 1, none⟩) ly).trans hy1, ?_, ?_, ?_, ?_⟩ <;> exact (World.cell?_alloc_new ..).trans rfl

set_option maxRecDepth 100000 in
set_option maxHeartbeats 4000000 in
theorem do_zero {B : Nat} (w : World) {bx br g0 g1 r0 r1 : Nat} {F0 G0 F1 G1 : Nat → Prop} {d : Int} {s t : St} {k kt : Nat} (kd v n : Int)
    (hx0 : w.cell? ⟨bx, 0, none⟩ = some (.pointer (some ⟨g0, 0, none⟩))) (hx1 : w.cell? ⟨bx, 1, none⟩ = some (.pointer (some ⟨g1, 0, none⟩)))
    (hy0 : w.cell? ⟨br, 0, none⟩ = some (.pointer (some ⟨r0, 0, none⟩))) (hy1 : w.cell? ⟨br, 1, none⟩ = some (.pointer (some ⟨r1, 0, none⟩)))
    (hbx : bx < w.heap.size ∧ ¬ F0 bx ∧ ¬ G0 bx) (hbr : br < w.heap.size ∧ ¬ F0 br ∧ ¬ G0 br)
    (h0 : PairM B w g0 r0 F0 G0 d s) (h1 : PairM B w g1 r1 F1 G1 d t) (hap : (∀ k, F0 k → ¬ F1 k ∧ ¬ G1 k) ∧ (∀ k, G0 k → ¬ F1 k ∧ ¬ G1 k))
    (ft : Fit d s k) (ft' : Fit d t kt) (hk : k + kt ≤ 100000000) (hkk : k + k ≤ 100000000) (hB : B ≤ w.heap.size)
    (k0 : 0 ≤ kd) (k1 : kd ≤ 255) (v0 : -9223372036854775808 ≤ v) (v1 : v ≤ 9223372036854775807) (n0 : 0 ≤ n) (n1 : n ≤ 18446744073709551615) :
    Calls Try.prog 40 #[.slice (some ⟨bx, 0, none⟩) 2 2, .slice (some ⟨br, 0, none⟩) 2 2, .agg #[.int .u8 kd, .bool false, .int .i64 v, .int .u64 n]] w fun e w' =>
      e = .returned (.bool true) ∧ Gone B w g0 r0 F0 G0 d (stepS d kd v n s t) w' := by
  have FR : Hid (∀ u o, Below w.heap.size w u → u.cell? ⟨o, 0, none⟩ = some (.int .u8 kd) → True) := Lib.hid (fun _ _ _ _ => trivial)
  have X0 := Lib.hid hx0
  have X1 := Lib.hid hx1
  have Y0 := Lib.hid hy0
  have Y1 := Lib.hid hy1
  have H0 := Lib.hid h0
  have H1 := Lib.hid h1
  have AP := Lib.hid hap
  have FT := Lib.hid ft
  have FT' := Lib.hid ft'
  have lx := hbx.1
  have ly := hbr.1
  have NX := Lib.hid hbx.2
  have NY := Lib.hid hbr.2
  clear hx0 hx1 hy0 hy1 h0 h1 hap ft ft' hbx hbr FR
  by_cases e5 : kd % 8 = 5
  · have HS : Hid (stepS d kd v n s t = takeS d s t) := Lib.hid (by unfold stepS; rw [if_pos e5])
    have d5 : (kd % 8 == 5) = true := beq_iff_eq.2 e5
    clear e5
    go_enter Try.func40, Try.ntmps40
    go_wp2_with fail
    have q := four_alloc (kd := kd) (who := false) (v := v) (n := n) 70 X0.out X1.out Y0.out Y1.out lx ly
    have hb : Below w.heap.size w (w.alloc (Obj.cells #[.int .u8 kd, .bool false, .int .i64 v, .int .u64 n] 70)) := (Below.refl _ _).alloc (Nat.le_refl _) _
    have hz : w.heap.size < (w.alloc (Obj.cells #[.int .u8 kd, .bool false, .int .i64 v, .int .u64 n] 70)).heap.size := by simp
    generalize w.alloc _ = u at q hb hz ⊢
    have hnf : ¬ F0 w.heap.size ∧ ¬ G0 w.heap.size := ⟨fun hf => by have := Dg.low H0.out.a _ hf; omega, fun hf => by have := RDg.low H0.out.b _ hf; omega⟩
    have NF := Lib.hid hnf
    have hbu : Below w.heap.size w u.drew := hb.drew
    have hBu : B ≤ u.drew.heap.size := by show B ≤ u.heap.size; omega
    have hlt : u.heap.size = u.drew.heap.size := rfl
    have Q := Lib.hid q.drew
    have hwr : (IntKind.i64.wrap 1).toNat = 1 := by decide
    clear q hnf
    clear d5
    refine wp_region_plan (fun w' => Four bx br w.heap.size g0 g1 r0 r1 kd false v n w') [(0, true), (1, true), (2, true), (3, true), (4, true), (5, true), (6, true), (7, true), (8, true), (10, true), (11, true), (12, true), (13, true), (14, true), (15, true), (16, true), (17, true), (18, true), (9, false), (19, false), (20, true), (21, true)] (by kernel_rfl) (by kernel_rfl) (Q.out) ?_
    iterate 18
      refine wpPlan_read (by rfl) (by rfl) (fun R hR => ?_)
      apply Exists.intro
      refine ⟨fun w' hS' => ?_, ?_⟩
      · have k0 := hS'.x0
        have k1 := hS'.x1
        have k2 := hS'.y0
        have k3 := hS'.y1
        have k4 := hS'.o2
        have k5 := hS'.o3
        go_simp
        exact ⟨rfl, rfl⟩
      go_simp
      refine hR _ ?_
      clear hR R
    refine wpPlan_do (by rfl) (by rfl) (fun K hK => ?_)
    go_simp
    obtain ⟨rr, CT⟩ := acts_take (H0.out.keep hbu) (H1.out.keep hbu) (.inr AP.out) FT.out FT'.out hk hBu
    refine CT.mono ?_
    rintro e w1 ⟨rfl, z1, t1, CR⟩
    have q1 : Hid (Four bx br w.heap.size g0 g1 r0 r1 kd false v n w1) := Lib.hid (Q.out.touch t1 ⟨by omega, NX.out.1⟩ ⟨by omega, NY.out.1⟩ ⟨by omega, NF.out.1⟩)
    have hrr : (rr == rr) = true := by simp
    refine hK _ _ (q1.out) ?_
    clear hK K
    refine wpPlan_do (by rfl) (by rfl) (fun K hK => ?_)
    go_simp
    refine CR.mono ?_
    rintro e w2 ⟨rfl, z2, t2, GN⟩
    have q2 : Hid (Four bx br w.heap.size g0 g1 r0 r1 kd false v n w2) := Lib.hid (q1.out.touch t2 ⟨by omega, NX.out.2⟩ ⟨by omega, NY.out.2⟩ ⟨by omega, NF.out.2⟩)
    refine hK _ _ (q2.out) ?_
    clear hK K
    iterate 2
      refine wpPlan_read (by rfl) (by rfl) (fun R hR => ?_)
      apply Exists.intro
      refine ⟨fun w' hS' => ?_, ?_⟩
      · have k0 := hS'.x0
        have k1 := hS'.x1
        have k2 := hS'.y0
        have k3 := hS'.y1
        have k4 := hS'.o2
        have k5 := hS'.o3
        go_simp
        exact ⟨rfl, rfl⟩
      go_simp
      refine hR _ ?_
      clear hR R
    refine wpPlan_nil ?_
    go_wp2_with fail
    go_ret
    exact ⟨rfl, HS.out ▸ (GN.from hbu)⟩
  by_cases e6 : kd % 8 = 6
  · have HS : Hid (stepS d kd v n s t = takeS d s s) := Lib.hid (by unfold stepS; rw [if_neg e5, if_pos e6])
    have d5 : (kd % 8 == 5) = false := beq_eq_false_iff_ne.2 e5
    have d6 : (kd % 8 == 6) = true := beq_iff_eq.2 e6
    clear e5 e6
    go_enter Try.func40, Try.ntmps40
    go_wp2_with fail
    have q := four_alloc (kd := kd) (who := false) (v := v) (n := n) 70 X0.out X1.out Y0.out Y1.out lx ly
    have hb : Below w.heap.size w (w.alloc (Obj.cells #[.int .u8 kd, .bool false, .int .i64 v, .int .u64 n] 70)) := (Below.refl _ _).alloc (Nat.le_refl _) _
    have hz : w.heap.size < (w.alloc (Obj.cells #[.int .u8 kd, .bool false, .int .i64 v, .int .u64 n] 70)).heap.size := by simp
    generalize w.alloc _ = u at q hb hz ⊢
    have hnf : ¬ F0 w.heap.size ∧ ¬ G0 w.heap.size := ⟨fun hf => by have := Dg.low H0.out.a _ hf; omega, fun hf => by have := RDg.low H0.out.b _ hf; omega⟩
    have NF := Lib.hid hnf
    have hbu : Below w.heap.size w u.drew := hb.drew
    have hBu : B ≤ u.drew.heap.size := by show B ≤ u.heap.size; omega
    have hlt : u.heap.size = u.drew.heap.size := rfl
    have Q := Lib.hid q.drew
    have hwr : (IntKind.i64.wrap 1).toNat = 1 := by decide
    clear q hnf
    clear d5 d6
    refine wp_region_plan (fun w' => Four bx br w.heap.size g0 g1 r0 r1 kd false v n w') [(0, true), (1, true), (2, true), (3, true), (4, true), (5, true), (6, true), (7, true), (9, true), (10, true), (11, true), (12, true), (13, true), (14, true), (15, true), (16, true), (8, false), (17, false), (18, true), (19, true)] (by kernel_rfl) (by kernel_rfl) (Q.out) ?_
    iterate 16
      refine wpPlan_read (by rfl) (by rfl) (fun R hR => ?_)
      apply Exists.intro
      refine ⟨fun w' hS' => ?_, ?_⟩
      · have k0 := hS'.x0
        have k1 := hS'.x1
        have k2 := hS'.y0
        have k3 := hS'.y1
        have k4 := hS'.o2
        have k5 := hS'.o3
        go_simp
        exact ⟨rfl, rfl⟩
      go_simp
      refine hR _ ?_
      clear hR R
    refine wpPlan_do (by rfl) (by rfl) (fun K hK => ?_)
    go_simp
    obtain ⟨rr, CT⟩ := acts_take (H0.out.keep hbu) (H0.out.keep hbu) (.inl ⟨rfl, rfl, rfl, rfl, rfl⟩) FT.out FT.out hkk hBu
    refine CT.mono ?_
    rintro e w1 ⟨rfl, z1, t1, CR⟩
    have q1 : Hid (Four bx br w.heap.size g0 g1 r0 r1 kd false v n w1) := Lib.hid (Q.out.touch t1 ⟨by omega, NX.out.1⟩ ⟨by omega, NY.out.1⟩ ⟨by omega, NF.out.1⟩)
    have hrr : (rr == rr) = true := by simp
    refine hK _ _ (q1.out) ?_
    clear hK K
    refine wpPlan_do (by rfl) (by rfl) (fun K hK => ?_)
    go_simp
    refine CR.mono ?_
    rintro e w2 ⟨rfl, z2, t2, GN⟩
    have q2 : Hid (Four bx br w.heap.size g0 g1 r0 r1 kd false v n w2) := Lib.hid (q1.out.touch t2 ⟨by omega, NX.out.2⟩ ⟨by omega, NY.out.2⟩ ⟨by omega, NF.out.2⟩)
    refine hK _ _ (q2.out) ?_
    clear hK K
    iterate 2
      refine wpPlan_read (by rfl) (by rfl) (fun R hR => ?_)
      apply Exists.intro
      refine ⟨fun w' hS' => ?_, ?_⟩
      · have k0 := hS'.x0
        have k1 := hS'.x1
        have k2 := hS'.y0
        have k3 := hS'.y1
        have k4 := hS'.o2
        have k5 := hS'.o3
        go_simp
        exact ⟨rfl, rfl⟩
      go_simp
      refine hR _ ?_
      clear hR R
    refine wpPlan_nil ?_
    go_wp2_with fail
    go_ret
    exact ⟨rfl, HS.out ▸ (GN.from hbu)⟩
  by_cases e7 : kd % 8 = 7
  · have HS : Hid (stepS d kd v n s t = s.press d) := Lib.hid (by unfold stepS; rw [if_neg e5, if_neg e6, if_pos e7])
    have d5 : (kd % 8 == 5) = false := beq_eq_false_iff_ne.2 e5
    have d6 : (kd % 8 == 6) = false := beq_eq_false_iff_ne.2 e6
    have d7 : (kd % 8 == 7) = true := beq_iff_eq.2 e7
    clear e5 e6
    clear e7
    have hb0 : Below w.heap.size w (w.alloc (Obj.cells #[.int .u8 kd, .bool false, .int .i64 v, .int .u64 n] 70)) := (Below.refl _ _).alloc (Nat.le_refl _) _
    have Q0 := Lib.hid (four_alloc (kd := kd) (who := false) (v := v) (n := n) 70 X0.out X1.out Y0.out Y1.out lx ly)
    have k0 := Q0.out.x0
    have k1 := Q0.out.x1
    go_enter Try.func40, Try.ntmps40
    go_wp2_with fail
    have q := four_alloc (kd := kd) (who := false) (v := v) (n := n) 70 X0.out X1.out Y0.out Y1.out lx ly
    have hb : Below w.heap.size w (w.alloc (Obj.cells #[.int .u8 kd, .bool false, .int .i64 v, .int .u64 n] 70)) := (Below.refl _ _).alloc (Nat.le_refl _) _
    have hz : w.heap.size < (w.alloc (Obj.cells #[.int .u8 kd, .bool false, .int .i64 v, .int .u64 n] 70)).heap.size := by simp
    clear k0 k1 hb0
    clear Q0
    generalize w.alloc _ = u at q hb hz ⊢
    have hnf : ¬ F0 w.heap.size ∧ ¬ G0 w.heap.size := ⟨fun hf => by have := Dg.low H0.out.a _ hf; omega, fun hf => by have := RDg.low H0.out.b _ hf; omega⟩
    have NF := Lib.hid hnf
    have hbu : Below w.heap.size w u := hb
    have hBu : B ≤ u.heap.size := by show B ≤ u.heap.size; omega
    have Q := Lib.hid q
    have hwr : (IntKind.i64.wrap 1).toNat = 1 := by decide
    clear q hnf
    refine (acts_press (H0.out.keep hbu) FT.out hBu).mono ?_
    rintro e w1 ⟨rfl, z1, t1, CR⟩
    have q1 : Hid (Four bx br w.heap.size g0 g1 r0 r1 kd false v n w1) := Lib.hid (Q.out.touch t1 ⟨by omega, NX.out.1⟩ ⟨by omega, NY.out.1⟩ ⟨by omega, NF.out.1⟩)
    have m0 := q1.out.y0
    have m1 := q1.out.y1
    go_wp2_with fail
    refine CR.mono ?_
    rintro e w2 ⟨rfl, z2, t2, GN⟩
    clear m0 m1
    go_wp2_with fail
    go_ret
    exact ⟨rfl, HS.out ▸ (GN.from hbu)⟩
  have HS : Hid (stepS d kd v n s t = addS d s v n) := Lib.hid (by unfold stepS; rw [if_neg e5, if_neg e6, if_neg e7])
  have d5 : (kd % 8 == 5) = false := beq_eq_false_iff_ne.2 e5
  have d6 : (kd % 8 == 6) = false := beq_eq_false_iff_ne.2 e6
  have d7 : (kd % 8 == 7) = false := beq_eq_false_iff_ne.2 e7
  clear e5 e6 e7
  go_enter Try.func40, Try.ntmps40
  go_wp2_with fail
  have q := four_alloc (kd := kd) (who := false) (v := v) (n := n) 70 X0.out X1.out Y0.out Y1.out lx ly
  have hb : Below w.heap.size w (w.alloc (Obj.cells #[.int .u8 kd, .bool false, .int .i64 v, .int .u64 n] 70)) := (Below.refl _ _).alloc (Nat.le_refl _) _
  have hz : w.heap.size < (w.alloc (Obj.cells #[.int .u8 kd, .bool false, .int .i64 v, .int .u64 n] 70)).heap.size := by simp
  generalize w.alloc _ = u at q hb hz ⊢
  have hnf : ¬ F0 w.heap.size ∧ ¬ G0 w.heap.size := ⟨fun hf => by have := Dg.low H0.out.a _ hf; omega, fun hf => by have := RDg.low H0.out.b _ hf; omega⟩
  have NF := Lib.hid hnf
  have hbu : Below w.heap.size w u.drew := hb.drew
  have hBu : B ≤ u.drew.heap.size := by show B ≤ u.heap.size; omega
  have hlt : u.heap.size = u.drew.heap.size := rfl
  have Q := Lib.hid q.drew
  have hwr : (IntKind.i64.wrap 1).toNat = 1 := by decide
  clear q hnf
  clear d5 d6 d7
  refine wp_region_plan (fun w' => Four bx br w.heap.size g0 g1 r0 r1 kd false v n w') [(0, true), (1, true), (2, true), (3, true), (4, true), (5, true), (6, true), (7, true), (9, true), (10, true), (11, true), (12, true), (13, true), (14, true), (15, true), (16, true), (8, false), (17, false), (18, true), (19, true)] (by kernel_rfl) (by kernel_rfl) (Q.out) ?_
  iterate 16
    refine wpPlan_read (by rfl) (by rfl) (fun R hR => ?_)
    apply Exists.intro
    refine ⟨fun w' hS' => ?_, ?_⟩
    · have k0 := hS'.x0
      have k1 := hS'.x1
      have k2 := hS'.y0
      have k3 := hS'.y1
      have k4 := hS'.o2
      have k5 := hS'.o3
      go_simp
      exact ⟨rfl, rfl⟩
    go_simp
    refine hR _ ?_
    clear hR R
  refine wpPlan_do (by rfl) (by rfl) (fun K hK => ?_)
  go_simp
  obtain ⟨rr, CT⟩ := acts_add v n (H0.out.keep hbu) FT.out (by omega) hBu v0 v1 n0 n1
  refine CT.mono ?_
  rintro e w1 ⟨rfl, z1, t1, CR⟩
  have q1 : Hid (Four bx br w.heap.size g0 g1 r0 r1 kd false v n w1) := Lib.hid (Q.out.touch t1 ⟨by omega, NX.out.1⟩ ⟨by omega, NY.out.1⟩ ⟨by omega, NF.out.1⟩)
  have hrr : (rr == rr) = true := by simp
  refine hK _ _ (q1.out) ?_
  clear hK K
  refine wpPlan_do (by rfl) (by rfl) (fun K hK => ?_)
  go_simp
  refine CR.mono ?_
  rintro e w2 ⟨rfl, z2, t2, GN⟩
  have q2 : Hid (Four bx br w.heap.size g0 g1 r0 r1 kd false v n w2) := Lib.hid (q1.out.touch t2 ⟨by omega, NX.out.2⟩ ⟨by omega, NY.out.2⟩ ⟨by omega, NF.out.2⟩)
  refine hK _ _ (q2.out) ?_
  clear hK K
  iterate 2
    refine wpPlan_read (by rfl) (by rfl) (fun R hR => ?_)
    apply Exists.intro
    refine ⟨fun w' hS' => ?_, ?_⟩
    · have k0 := hS'.x0
      have k1 := hS'.x1
      have k2 := hS'.y0
      have k3 := hS'.y1
      have k4 := hS'.o2
      have k5 := hS'.o3
      go_simp
      exact ⟨rfl, rfl⟩
    go_simp
    refine hR _ ?_
    clear hR R
  refine wpPlan_nil ?_
  go_wp2_with fail
  go_ret
  exact ⟨rfl, HS.out ▸ (GN.from hbu)⟩

set_option maxRecDepth 100000 in
set_option maxHeartbeats 4000000 in
theorem do_one {B : Nat} (w : World) {bx br g0 g1 r0 r1 : Nat} {F0 G0 F1 G1 : Nat → Prop} {d : Int} {s t : St} {k kt : Nat} (kd v n : Int)
    (hx0 : w.cell? ⟨bx, 1, none⟩ = some (.pointer (some ⟨g0, 0, none⟩))) (hx1 : w.cell? ⟨bx, 0, none⟩ = some (.pointer (some ⟨g1, 0, none⟩)))
    (hy0 : w.cell? ⟨br, 1, none⟩ = some (.pointer (some ⟨r0, 0, none⟩))) (hy1 : w.cell? ⟨br, 0, none⟩ = some (.pointer (some ⟨r1, 0, none⟩)))
    (hbx : bx < w.heap.size ∧ ¬ F0 bx ∧ ¬ G0 bx) (hbr : br < w.heap.size ∧ ¬ F0 br ∧ ¬ G0 br)
    (h0 : PairM B w g0 r0 F0 G0 d s) (h1 : PairM B w g1 r1 F1 G1 d t) (hap : (∀ k, F0 k → ¬ F1 k ∧ ¬ G1 k) ∧ (∀ k, G0 k → ¬ F1 k ∧ ¬ G1 k))
    (ft : Fit d s k) (ft' : Fit d t kt) (hk : k + kt ≤ 100000000) (hkk : k + k ≤ 100000000) (hB : B ≤ w.heap.size)
    (k0 : 0 ≤ kd) (k1 : kd ≤ 255) (v0 : -9223372036854775808 ≤ v) (v1 : v ≤ 9223372036854775807) (n0 : 0 ≤ n) (n1 : n ≤ 18446744073709551615) :
    Calls Try.prog 40 #[.slice (some ⟨bx, 0, none⟩) 2 2, .slice (some ⟨br, 0, none⟩) 2 2, .agg #[.int .u8 kd, .bool true, .int .i64 v, .int .u64 n]] w fun e w' =>
      e = .returned (.bool true) ∧ Gone B w g0 r0 F0 G0 d (stepS d kd v n s t) w' := by
  have FR : Hid (∀ u o, Below w.heap.size w u → u.cell? ⟨o, 0, none⟩ = some (.int .u8 kd) → True) := Lib.hid (fun _ _ _ _ => trivial)
  have X0 := Lib.hid hx0
  have X1 := Lib.hid hx1
  have Y0 := Lib.hid hy0
  have Y1 := Lib.hid hy1
  have H0 := Lib.hid h0
  have H1 := Lib.hid h1
  have AP := Lib.hid hap
  have FT := Lib.hid ft
  have FT' := Lib.hid ft'
  have lx := hbx.1
  have ly := hbr.1
  have NX := Lib.hid hbx.2
  have NY := Lib.hid hbr.2
  clear hx0 hx1 hy0 hy1 h0 h1 hap ft ft' hbx hbr FR
  by_cases e5 : kd % 8 = 5
  · have HS : Hid (stepS d kd v n s t = takeS d s t) := Lib.hid (by unfold stepS; rw [if_pos e5])
    have d5 : (kd % 8 == 5) = true := beq_iff_eq.2 e5
    clear e5
    go_enter Try.func40, Try.ntmps40
    go_wp2_with fail
    have q := four_alloc (kd := kd) (who := true) (v := v) (n := n) 70 X1.out X0.out Y1.out Y0.out lx ly
    have hb : Below w.heap.size w (w.alloc (Obj.cells #[.int .u8 kd, .bool true, .int .i64 v, .int .u64 n] 70)) := (Below.refl _ _).alloc (Nat.le_refl _) _
    have hz : w.heap.size < (w.alloc (Obj.cells #[.int .u8 kd, .bool true, .int .i64 v, .int .u64 n] 70)).heap.size := by simp
    generalize w.alloc _ = u at q hb hz ⊢
    have hnf : ¬ F0 w.heap.size ∧ ¬ G0 w.heap.size := ⟨fun hf => by have := Dg.low H0.out.a _ hf; omega, fun hf => by have := RDg.low H0.out.b _ hf; omega⟩
    have NF := Lib.hid hnf
    have hbu : Below w.heap.size w u.drew := hb.drew
    have hBu : B ≤ u.drew.heap.size := by show B ≤ u.heap.size; omega
    have hlt : u.heap.size = u.drew.heap.size := rfl
    have Q := Lib.hid q.drew
    have hwr : (IntKind.i64.wrap 0).toNat = 0 := by decide
    clear q hnf
    clear d5
    refine wp_region_plan (fun w' => Four bx br w.heap.size g1 g0 r1 r0 kd true v n w') [(0, true), (1, true), (2, true), (3, true), (4, true), (5, true), (6, true), (7, true), (8, true), (10, true), (11, true), (12, true), (13, true), (14, true), (15, true), (16, true), (17, true), (18, true), (9, false), (19, false), (20, true), (21, true)] (by kernel_rfl) (by kernel_rfl) (Q.out) ?_
    iterate 18
      refine wpPlan_read (by rfl) (by rfl) (fun R hR => ?_)
      apply Exists.intro
      refine ⟨fun w' hS' => ?_, ?_⟩
      · have k0 := hS'.x0
        have k1 := hS'.x1
        have k2 := hS'.y0
        have k3 := hS'.y1
        have k4 := hS'.o2
        have k5 := hS'.o3
        go_simp
        exact ⟨rfl, rfl⟩
      go_simp
      refine hR _ ?_
      clear hR R
    refine wpPlan_do (by rfl) (by rfl) (fun K hK => ?_)
    go_simp
    obtain ⟨rr, CT⟩ := acts_take (H0.out.keep hbu) (H1.out.keep hbu) (.inr AP.out) FT.out FT'.out hk hBu
    refine CT.mono ?_
    rintro e w1 ⟨rfl, z1, t1, CR⟩
    have q1 : Hid (Four bx br w.heap.size g1 g0 r1 r0 kd true v n w1) := Lib.hid (Q.out.touch t1 ⟨by omega, NX.out.1⟩ ⟨by omega, NY.out.1⟩ ⟨by omega, NF.out.1⟩)
    have hrr : (rr == rr) = true := by simp
    refine hK _ _ (q1.out) ?_
    clear hK K
    refine wpPlan_do (by rfl) (by rfl) (fun K hK => ?_)
    go_simp
    refine CR.mono ?_
    rintro e w2 ⟨rfl, z2, t2, GN⟩
    have q2 : Hid (Four bx br w.heap.size g1 g0 r1 r0 kd true v n w2) := Lib.hid (q1.out.touch t2 ⟨by omega, NX.out.2⟩ ⟨by omega, NY.out.2⟩ ⟨by omega, NF.out.2⟩)
    refine hK _ _ (q2.out) ?_
    clear hK K
    iterate 2
      refine wpPlan_read (by rfl) (by rfl) (fun R hR => ?_)
      apply Exists.intro
      refine ⟨fun w' hS' => ?_, ?_⟩
      · have k0 := hS'.x0
        have k1 := hS'.x1
        have k2 := hS'.y0
        have k3 := hS'.y1
        have k4 := hS'.o2
        have k5 := hS'.o3
        go_simp
        exact ⟨rfl, rfl⟩
      go_simp
      refine hR _ ?_
      clear hR R
    refine wpPlan_nil ?_
    go_wp2_with fail
    go_ret
    exact ⟨rfl, HS.out ▸ (GN.from hbu)⟩
  by_cases e6 : kd % 8 = 6
  · have HS : Hid (stepS d kd v n s t = takeS d s s) := Lib.hid (by unfold stepS; rw [if_neg e5, if_pos e6])
    have d5 : (kd % 8 == 5) = false := beq_eq_false_iff_ne.2 e5
    have d6 : (kd % 8 == 6) = true := beq_iff_eq.2 e6
    clear e5 e6
    go_enter Try.func40, Try.ntmps40
    go_wp2_with fail
    have q := four_alloc (kd := kd) (who := true) (v := v) (n := n) 70 X1.out X0.out Y1.out Y0.out lx ly
    have hb : Below w.heap.size w (w.alloc (Obj.cells #[.int .u8 kd, .bool true, .int .i64 v, .int .u64 n] 70)) := (Below.refl _ _).alloc (Nat.le_refl _) _
    have hz : w.heap.size < (w.alloc (Obj.cells #[.int .u8 kd, .bool true, .int .i64 v, .int .u64 n] 70)).heap.size := by simp
    generalize w.alloc _ = u at q hb hz ⊢
    have hnf : ¬ F0 w.heap.size ∧ ¬ G0 w.heap.size := ⟨fun hf => by have := Dg.low H0.out.a _ hf; omega, fun hf => by have := RDg.low H0.out.b _ hf; omega⟩
    have NF := Lib.hid hnf
    have hbu : Below w.heap.size w u.drew := hb.drew
    have hBu : B ≤ u.drew.heap.size := by show B ≤ u.heap.size; omega
    have hlt : u.heap.size = u.drew.heap.size := rfl
    have Q := Lib.hid q.drew
    have hwr : (IntKind.i64.wrap 0).toNat = 0 := by decide
    clear q hnf
    clear d5 d6
    refine wp_region_plan (fun w' => Four bx br w.heap.size g1 g0 r1 r0 kd true v n w') [(0, true), (1, true), (2, true), (3, true), (4, true), (5, true), (6, true), (7, true), (9, true), (10, true), (11, true), (12, true), (13, true), (14, true), (15, true), (16, true), (8, false), (17, false), (18, true), (19, true)] (by kernel_rfl) (by kernel_rfl) (Q.out) ?_
    iterate 16
      refine wpPlan_read (by rfl) (by rfl) (fun R hR => ?_)
      apply Exists.intro
      refine ⟨fun w' hS' => ?_, ?_⟩
      · have k0 := hS'.x0
        have k1 := hS'.x1
        have k2 := hS'.y0
        have k3 := hS'.y1
        have k4 := hS'.o2
        have k5 := hS'.o3
        go_simp
        exact ⟨rfl, rfl⟩
      go_simp
      refine hR _ ?_
      clear hR R
    refine wpPlan_do (by rfl) (by rfl) (fun K hK => ?_)
    go_simp
    obtain ⟨rr, CT⟩ := acts_take (H0.out.keep hbu) (H0.out.keep hbu) (.inl ⟨rfl, rfl, rfl, rfl, rfl⟩) FT.out FT.out hkk hBu
    refine CT.mono ?_
    rintro e w1 ⟨rfl, z1, t1, CR⟩
    have q1 : Hid (Four bx br w.heap.size g1 g0 r1 r0 kd true v n w1) := Lib.hid (Q.out.touch t1 ⟨by omega, NX.out.1⟩ ⟨by omega, NY.out.1⟩ ⟨by omega, NF.out.1⟩)
    have hrr : (rr == rr) = true := by simp
    refine hK _ _ (q1.out) ?_
    clear hK K
    refine wpPlan_do (by rfl) (by rfl) (fun K hK => ?_)
    go_simp
    refine CR.mono ?_
    rintro e w2 ⟨rfl, z2, t2, GN⟩
    have q2 : Hid (Four bx br w.heap.size g1 g0 r1 r0 kd true v n w2) := Lib.hid (q1.out.touch t2 ⟨by omega, NX.out.2⟩ ⟨by omega, NY.out.2⟩ ⟨by omega, NF.out.2⟩)
    refine hK _ _ (q2.out) ?_
    clear hK K
    iterate 2
      refine wpPlan_read (by rfl) (by rfl) (fun R hR => ?_)
      apply Exists.intro
      refine ⟨fun w' hS' => ?_, ?_⟩
      · have k0 := hS'.x0
        have k1 := hS'.x1
        have k2 := hS'.y0
        have k3 := hS'.y1
        have k4 := hS'.o2
        have k5 := hS'.o3
        go_simp
        exact ⟨rfl, rfl⟩
      go_simp
      refine hR _ ?_
      clear hR R
    refine wpPlan_nil ?_
    go_wp2_with fail
    go_ret
    exact ⟨rfl, HS.out ▸ (GN.from hbu)⟩
  by_cases e7 : kd % 8 = 7
  · have HS : Hid (stepS d kd v n s t = s.press d) := Lib.hid (by unfold stepS; rw [if_neg e5, if_neg e6, if_pos e7])
    have d5 : (kd % 8 == 5) = false := beq_eq_false_iff_ne.2 e5
    have d6 : (kd % 8 == 6) = false := beq_eq_false_iff_ne.2 e6
    have d7 : (kd % 8 == 7) = true := beq_iff_eq.2 e7
    clear e5 e6
    clear e7
    have hb0 : Below w.heap.size w (w.alloc (Obj.cells #[.int .u8 kd, .bool true, .int .i64 v, .int .u64 n] 70)) := (Below.refl _ _).alloc (Nat.le_refl _) _
    have Q0 := Lib.hid (four_alloc (kd := kd) (who := true) (v := v) (n := n) 70 X1.out X0.out Y1.out Y0.out lx ly)
    have k0 := Q0.out.x0
    have k1 := Q0.out.x1
    go_enter Try.func40, Try.ntmps40
    go_wp2_with fail
    have q := four_alloc (kd := kd) (who := true) (v := v) (n := n) 70 X1.out X0.out Y1.out Y0.out lx ly
    have hb : Below w.heap.size w (w.alloc (Obj.cells #[.int .u8 kd, .bool true, .int .i64 v, .int .u64 n] 70)) := (Below.refl _ _).alloc (Nat.le_refl _) _
    have hz : w.heap.size < (w.alloc (Obj.cells #[.int .u8 kd, .bool true, .int .i64 v, .int .u64 n] 70)).heap.size := by simp
    clear k0 k1 hb0
    clear Q0
    generalize w.alloc _ = u at q hb hz ⊢
    have hnf : ¬ F0 w.heap.size ∧ ¬ G0 w.heap.size := ⟨fun hf => by have := Dg.low H0.out.a _ hf; omega, fun hf => by have := RDg.low H0.out.b _ hf; omega⟩
    have NF := Lib.hid hnf
    have hbu : Below w.heap.size w u := hb
    have hBu : B ≤ u.heap.size := by show B ≤ u.heap.size; omega
    have Q := Lib.hid q
    have hwr : (IntKind.i64.wrap 0).toNat = 0 := by decide
    clear q hnf
    refine (acts_press (H0.out.keep hbu) FT.out hBu).mono ?_
    rintro e w1 ⟨rfl, z1, t1, CR⟩
    have q1 : Hid (Four bx br w.heap.size g1 g0 r1 r0 kd true v n w1) := Lib.hid (Q.out.touch t1 ⟨by omega, NX.out.1⟩ ⟨by omega, NY.out.1⟩ ⟨by omega, NF.out.1⟩)
    have m0 := q1.out.y0
    have m1 := q1.out.y1
    go_wp2_with fail
    refine CR.mono ?_
    rintro e w2 ⟨rfl, z2, t2, GN⟩
    clear m0 m1
    go_wp2_with fail
    go_ret
    exact ⟨rfl, HS.out ▸ (GN.from hbu)⟩
  have HS : Hid (stepS d kd v n s t = addS d s v n) := Lib.hid (by unfold stepS; rw [if_neg e5, if_neg e6, if_neg e7])
  have d5 : (kd % 8 == 5) = false := beq_eq_false_iff_ne.2 e5
  have d6 : (kd % 8 == 6) = false := beq_eq_false_iff_ne.2 e6
  have d7 : (kd % 8 == 7) = false := beq_eq_false_iff_ne.2 e7
  clear e5 e6 e7
  go_enter Try.func40, Try.ntmps40
  go_wp2_with fail
  have q := four_alloc (kd := kd) (who := true) (v := v) (n := n) 70 X1.out X0.out Y1.out Y0.out lx ly
  have hb : Below w.heap.size w (w.alloc (Obj.cells #[.int .u8 kd, .bool true, .int .i64 v, .int .u64 n] 70)) := (Below.refl _ _).alloc (Nat.le_refl _) _
  have hz : w.heap.size < (w.alloc (Obj.cells #[.int .u8 kd, .bool true, .int .i64 v, .int .u64 n] 70)).heap.size := by simp
  generalize w.alloc _ = u at q hb hz ⊢
  have hnf : ¬ F0 w.heap.size ∧ ¬ G0 w.heap.size := ⟨fun hf => by have := Dg.low H0.out.a _ hf; omega, fun hf => by have := RDg.low H0.out.b _ hf; omega⟩
  have NF := Lib.hid hnf
  have hbu : Below w.heap.size w u.drew := hb.drew
  have hBu : B ≤ u.drew.heap.size := by show B ≤ u.heap.size; omega
  have hlt : u.heap.size = u.drew.heap.size := rfl
  have Q := Lib.hid q.drew
  have hwr : (IntKind.i64.wrap 0).toNat = 0 := by decide
  clear q hnf
  clear d5 d6 d7
  refine wp_region_plan (fun w' => Four bx br w.heap.size g1 g0 r1 r0 kd true v n w') [(0, true), (1, true), (2, true), (3, true), (4, true), (5, true), (6, true), (7, true), (9, true), (10, true), (11, true), (12, true), (13, true), (14, true), (15, true), (16, true), (8, false), (17, false), (18, true), (19, true)] (by kernel_rfl) (by kernel_rfl) (Q.out) ?_
  iterate 16
    refine wpPlan_read (by rfl) (by rfl) (fun R hR => ?_)
    apply Exists.intro
    refine ⟨fun w' hS' => ?_, ?_⟩
    · have k0 := hS'.x0
      have k1 := hS'.x1
      have k2 := hS'.y0
      have k3 := hS'.y1
      have k4 := hS'.o2
      have k5 := hS'.o3
      go_simp
      exact ⟨rfl, rfl⟩
    go_simp
    refine hR _ ?_
    clear hR R
  refine wpPlan_do (by rfl) (by rfl) (fun K hK => ?_)
  go_simp
  obtain ⟨rr, CT⟩ := acts_add v n (H0.out.keep hbu) FT.out (by omega) hBu v0 v1 n0 n1
  refine CT.mono ?_
  rintro e w1 ⟨rfl, z1, t1, CR⟩
  have q1 : Hid (Four bx br w.heap.size g1 g0 r1 r0 kd true v n w1) := Lib.hid (Q.out.touch t1 ⟨by omega, NX.out.1⟩ ⟨by omega, NY.out.1⟩ ⟨by omega, NF.out.1⟩)
  have hrr : (rr == rr) = true := by simp
  refine hK _ _ (q1.out) ?_
  clear hK K
  refine wpPlan_do (by rfl) (by rfl) (fun K hK => ?_)
  go_simp
  refine CR.mono ?_
  rintro e w2 ⟨rfl, z2, t2, GN⟩
  have q2 : Hid (Four bx br w.heap.size g1 g0 r1 r0 kd true v n w2) := Lib.hid (q1.out.touch t2 ⟨by omega, NX.out.2⟩ ⟨by omega, NY.out.2⟩ ⟨by omega, NF.out.2⟩)
  refine hK _ _ (q2.out) ?_
  clear hK K
  iterate 2
    refine wpPlan_read (by rfl) (by rfl) (fun R hR => ?_)
    apply Exists.intro
    refine ⟨fun w' hS' => ?_, ?_⟩
    · have k0 := hS'.x0
      have k1 := hS'.x1
      have k2 := hS'.y0
      have k3 := hS'.y1
      have k4 := hS'.o2
      have k5 := hS'.o3
      go_simp
      exact ⟨rfl, rfl⟩
    go_simp
    refine hR _ ?_
    clear hR R
  refine wpPlan_nil ?_
  go_wp2_with fail
  go_ret
  exact ⟨rfl, HS.out ▸ (GN.from hbu)⟩
end Go.Proofs.Ytedhpkfbobgkgaa
