/- Do of law 24. Conditions: sizes from 8 to 4096; what a stack keeps. -/
import Derived.Test.YtigmncogjbbmhaaKmD
namespace Go.Proofs.Ytigmncogjbbmhaa
open Go.RowKit

def stepD (k : Nat) (B : List Int) (kd : Nat) (v : Int) (n : Nat) (t : LL × Nat) (s : KS) : KS := if kd % 7 = 5 then takeS k B t s else if kd % 7 = 6 then takeS k B (s.1, s.2.1) s else addS k B v n s
theorem stepD_fit {k kd n : Nat} {B : List Int} {v : Int} {t : LL × Nat} {s : KS} (h : Fit k s.1 s.2.1) (ht : Fit k t.1 t.2) (h2 : 2 ≤ k) (hk : k ≤ 4096) : Fit k (stepD k B kd v n t s).1 (stepD k B kd v n t s).2.1 := by
  unfold stepD
  split
  · exact takeS_fit h ht h2 hk
  · split
    · exact takeS_fit h (t := (s.1, s.2.1)) h h2 hk
    · exact addS_fit h h2 hk
/-- Two pairs of stacks, and coins. -/
structure DuoAt (W w : World) (Ow : Nat → Nat → Prop) (k : Nat) (B : List Int) (p q p' q' g h g' h' : Nat) (s : LL × Nat) (t : LL × Nat) (a : Nat) (cg r dg : Nat) (cv dv : Value) : Prop where
  env : Env W w Ow
  co : Co w Ow cg r cv dg dv B a a
  k0 : KAt (Ow p) w g k s.1 s.2
  r0 : RAt (Ow q) w h k s.1 s.2
  k1 : KAt (Ow p') w g' k t.1 t.2
  r1 : RAt (Ow q') w h' k t.1 t.2
  f0 : Fit k s.1 s.2
  f1 : Fit k t.1 t.2
/-- What belongs to 4 stays. -/
def Four (Ow Ow' : Nat → Nat → Prop) (w w' : World) : Prop := (∀ x, Ow 4 x → Ow' 4 x ∧ w'.heap[x]? = w.heap[x]?) ∧ w.heap.size ≤ w'.heap.size
theorem KAt.drw {F : Nat → Prop} {w : World} {g k led : Nat} {L : LL} (h : KAt F w g k L led) : KAt F w.drew g k L led := h.keep (Below.refl _ _).drew
theorem RAt.drw {F : Nat → Prop} {w : World} {g k led : Nat} {L : LL} (h : RAt F w g k L led) : RAt F w.drew g k L led := h.keep (Below.refl _ _).drew
theorem kd_mod (kd : Nat) (_h : kd ≤ 255) : ((kd : Int) % 7) = ((kd % 7 : Nat) : Int) := by omega
set_option maxRecDepth 100000 in
set_option maxHeartbeats 16000000 in
theorem do_any {W w : World} {Ow : Nat → Nat → Prop} {k : Nat} {B : List Int} {p q p' q' g h g' h' a cg r dg sb wb i j : Nat} {s t : LL × Nat} {cv dv : Value} (kd : Nat) (who : Bool) (v : Int) (n : Nat) (hd : DuoAt W w Ow k B p q p' q' g h g' h' s t a cg r dg cv dv)
    (hij : (who = false ∧ i = 0 ∧ j = 1) ∨ (who = true ∧ i = 1 ∧ j = 0)) (hp : p ≤ 3) (hq : q ≤ 3) (hp' : p' ≤ 3) (hq' : q' ≤ 3) (hne : p ≠ q ∧ p ≠ p' ∧ p ≠ q' ∧ q ≠ p' ∧ q ≠ q' ∧ p' ≠ q') (h8 : 8 ≤ k) (hk : k ≤ 4096)
    (hsb : Ow 4 sb) (hwb : Ow 4 wb) (x0 : w.cell? ⟨sb, i, none⟩ = some (.pointer (some ⟨g, 0, none⟩))) (x1 : w.cell? ⟨sb, j, none⟩ = some (.pointer (some ⟨g', 0, none⟩))) (y0 : w.cell? ⟨wb, i, none⟩ = some (.pointer (some ⟨h, 0, none⟩))) (y1 : w.cell? ⟨wb, j, none⟩ = some (.pointer (some ⟨h', 0, none⟩)))
    (hkd : kd ≤ 255) (hn : n < 18446744073709551616) :
    Calls Try.prog 40 #[.slice (some ⟨sb, 0, none⟩) 2 2, .slice (some ⟨wb, 0, none⟩) 2 2, .agg #[.int .u8 kd, .bool who, .int .i64 v, .int .u64 n], .pointer (some ⟨cg, 0, none⟩), .pointer (some ⟨dg, 0, none⟩)] w fun e w' => e = .returned (.bool true) ∧
      ∃ Ow', DuoAt W w' Ow' k B p q p' q' g h g' h' ((stepD k B kd v n t (s.1, s.2, a)).1, (stepD k B kd v n t (s.1, s.2, a)).2.1) t (stepD k B kd v n t (s.1, s.2, a)).2.2 cg r dg cv dv ∧ Four Ow Ow' w w' := by
  obtain ⟨L, led⟩ := s
  obtain ⟨M, led2⟩ := t
  -- the act's box
  have hbx : Below w.heap.size w (w.alloc (.cells #[.int .u8 kd, .bool who, .int .i64 v, .int .u64 n] 68)) := (Below.refl _ _).alloc (Nat.le_refl _) _
  have hzx : (w.alloc (.cells #[.int .u8 kd, .bool who, .int .i64 v, .int .u64 n] 68)).heap.size = w.heap.size + 1 := by simp
  have hbl := Blk.new w 68 #[.int .u8 kd, .bool who, .int .i64 v, .int .u64 n]
  have hex : Env W (w.alloc (.cells #[.int .u8 kd, .bool who, .int .i64 v, .int .u64 n] 68)) (upd Ow 4 fun x => Ow 4 x ∨ x = w.heap.size) := by
    have h1 := (hd.env.keep hbx)
    have hz := hd.env.below.size
    refine ⟨h1.below, fun a b x ha hb => ?_, fun a x ha => ?_, fun a x h9 ha => ?_⟩
    · rcases ha with ⟨rfl, ha⟩ | ⟨ha1, ha⟩
      · rcases hb with ⟨rfl, hb⟩ | ⟨hb1, hb⟩
        · rfl
        · rcases ha with ha | ha
          · exact h1.uniq _ _ x ha hb
          · have := hd.env.lt _ _ hb; omega
      · rcases hb with ⟨rfl, hb⟩ | ⟨hb1, hb⟩
        · rcases hb with hb | hb
          · exact h1.uniq _ _ x ha hb
          · have := hd.env.lt _ _ ha; omega
        · exact h1.uniq a b x ha hb
    · rcases ha with ⟨rfl, ha⟩ | ⟨ha1, ha⟩
      · rcases ha with ha | ha
        · exact h1.lt _ x ha
        · omega
      · exact h1.lt a x ha
    · rcases ha with ⟨rfl, ha⟩ | ⟨ha1, ha⟩
      · rcases ha with ha | ha
        · exact h1.new _ x h9 ha
        · omega
      · exact h1.new a x h9 ha
  have hcx := (hd.co.keep hd.env hbx).upd (c := 4) (F := fun x => Ow 4 x ∨ x = w.heap.size) (by decide)
  have u0 : ∀ o, o ≤ 3 → upd Ow 4 (fun x => Ow 4 x ∨ x = w.heap.size) o = Ow o := fun o ho => upd_ne (by omega)
  have hk0 := hd.k0.keep hbx
  have hr0 := hd.r0.keep hbx
  have hk1 := hd.k1.keep hbx
  have hr1 := hd.r1.keep hbx
  have F0 := Lib.hid hd.f0
  have F1 := Lib.hid hd.f1
  rw [← u0 p hp] at hk0
  rw [← u0 q hq] at hr0
  rw [← u0 p' hp'] at hk1
  rw [← u0 q' hq'] at hr1
  have hsbl := hd.env.lt _ _ hsb
  have hwbl := hd.env.lt _ _ hwb
  have o4 : ∀ x, Ow 4 x ∨ x = w.heap.size → upd Ow 4 (fun x => Ow 4 x ∨ x = w.heap.size) 4 x := fun x hx => by rw [upd_at]; exact hx
  have hfr : ∀ x, Ow 4 x → (w.alloc (.cells #[.int .u8 kd, .bool who, .int .i64 v, .int .u64 n] 68)).heap[x]? = w.heap[x]? := fun x hx => hbx.block x (hd.env.lt _ _ hx)
  have X0 := Lib.hid ((hbx.cell (p := ⟨sb, i, none⟩) hsbl).trans x0)
  have X1 := Lib.hid ((hbx.cell (p := ⟨sb, j, none⟩) hsbl).trans x1)
  have Y0 := Lib.hid ((hbx.cell (p := ⟨wb, i, none⟩) hwbl).trans y0)
  have Y1 := Lib.hid ((hbx.cell (p := ⟨wb, j, none⟩) hwbl).trans y1)
  have H4 : Hid (∀ x, Ow 4 x → upd Ow 4 (fun x => Ow 4 x ∨ x = w.heap.size) 4 x) := Lib.hid fun x hx => o4 x (.inl hx)
  have HSB := Lib.hid (o4 sb (.inl hsb))
  have HWB := Lib.hid (o4 wb (.inl hwb))
  have HBX := Lib.hid (o4 w.heap.size (.inr rfl))
  have HFR := Lib.hid hfr
  have HE := Lib.hid hex
  have HC := Lib.hid hcx
  have K0 := Lib.hid hk0
  have R0 := Lib.hid hr0
  have K1 := Lib.hid hk1
  have R1 := Lib.hid hr1
  obtain ⟨O, hO⟩ : ∃ O, upd Ow 4 (fun x => Ow 4 x ∨ x = w.heap.size) = O := ⟨_, rfl⟩
  rw [hO] at HE HC K0 R0 K1 R1 H4 HSB HWB HBX
  have hmod := kd_mod kd hkd
  have hji : (1 : Int) - (i : Int) = (j : Int) := by omega
  have hi2 : i < 2 := by omega
  have hj2 : j < 2 := by omega
  have hi2i : (i : Int) < 2 := by omega
  have hj2i : (j : Int) < 2 := by omega
  have hzz : w.heap.size ≤ (w.alloc (.cells #[.int .u8 kd, .bool who, .int .i64 v, .int .u64 n] 68)).heap.size := by omega
  have HZZ := Lib.hid hzz
  have HBL := Lib.hid hbl
  clear hex hcx u0 hk0 hr0 hk1 hr1 hsb hwb o4 hfr x0 x1 y0 y1 hO hd hbx hzx hbl hsbl hwbl hzz
  go_enter Try.func40, Try.ntmps40
  go_upto_region 1 with fail
  obtain ⟨u, hu⟩ : ∃ u, w.alloc (.cells #[.int .u8 kd, .bool who, .int .i64 v, .int .u64 n] 68) = u := ⟨_, rfl⟩
  rw [hu] at HE HC K0 R0 K1 R1 X0 X1 Y0 Y1 HFR HZZ HBL ⊢
  obtain ⟨bx, hbx⟩ : ∃ bx, w.heap.size = bx := ⟨_, rfl⟩
  rw [hbx] at HBX HBL ⊢
  have b0 := HBL.out.cell 0
  have b1 := HBL.out.cell 1
  have B2 := Lib.hid (HBL.out.cell 2)
  have B3 := Lib.hid (HBL.out.cell 3)
  have B0 := Lib.hid b0
  have hsl := HE.out.lt _ _ HSB.out
  have hwl := HE.out.lt _ _ HWB.out
  have hbl := HBL.out.lt
  simp only [List.getElem?_toArray, List.getElem?_cons_succ, List.getElem?_cons_zero] at b0 b1 B2 B3
  clear hu hbx
  go_upto_if 13 with (fail)
  go_cut [11] (fun x wx => x = .int .i64 (i : Int) ∧ u = wx)
  case first =>
    rcases hij with ⟨rfl, rfl, rfl⟩ | ⟨rfl, rfl, rfl⟩
    · go_wp2_with fail
      go_meet
      exact ⟨rfl, rfl⟩
    · go_wp2_with fail
      go_meet
      exact ⟨rfl, rfl⟩
  case rest =>
  obtain ⟨rfl, rfl⟩ := hcut
  have HWR : Hid (IntKind.i64.wrap (j : Int) = (j : Int)) := Lib.hid (IntWalk.i64_in _ (by omega))
  obtain ⟨m, hm⟩ : ∃ m, kd % 7 = m := ⟨_, rfl⟩
  have hm7 : m < 7 := by omega
  rw [hm] at hmod
  have HMD := Lib.hid hm
  clear hm hij b1
  by_cases e5 : m = 5
  · have HS : Hid (stepD k B kd v n (M, led2) (L, led, a) = takeS k B (M, led2) (L, led, a)) := Lib.hid (by unfold stepD; rw [HMD.out, if_pos e5])
    have FF : Hid (Fit k (stepD k B kd v n (M, led2) (L, led, a)).1 (stepD k B kd v n (M, led2) (L, led, a)).2.1) := Lib.hid (stepD_fit F0.out F1.out (by omega) hk)
    subst e5
    go_upto_region 6 with fail
    clear b0
    refine wp_region_plan (fun w' => ∀ x, O 4 x → w'.heap[x]? = u.heap[x]?) [(0, true), (1, true), (2, true), (3, true), (4, true), (5, true), (6, true), (7, true), (8, true), (9, true), (11, true), (12, true), (13, true), (14, true), (15, true), (16, true), (17, true), (18, true), (19, true), (20, true), (10, false), (21, false), (22, true), (23, true)] (by kernel_rfl) (by kernel_rfl) (fun _ _ => rfl) ?_
    iterate 20
      refine wpPlan_read (by rfl) (by rfl) (fun R hR => ?_)
      apply Exists.intro
      refine ⟨fun w' hS' => ?_, ?_⟩
      · have z0 := (World.cell?_of_block (a := ⟨sb, i, none⟩) (hS' sb HSB.out)).trans X0.out
        have z1 := (World.cell?_of_block (a := ⟨sb, j, none⟩) (hS' sb HSB.out)).trans X1.out
        have z2 := (World.cell?_of_block (a := ⟨wb, i, none⟩) (hS' wb HWB.out)).trans Y0.out
        have z3 := (World.cell?_of_block (a := ⟨wb, j, none⟩) (hS' wb HWB.out)).trans Y1.out
        have z4 := (World.cell?_of_block (a := ⟨bx, 2, none⟩) (hS' bx HBX.out)).trans B2.out
        have z5 := (World.cell?_of_block (a := ⟨bx, 3, none⟩) (hS' bx HBX.out)).trans B3.out
        have hw := HWR.out
        go_simp
        exact ⟨rfl, rfl⟩
      go_simp
      refine hR _ ?_
      clear hR R
    refine wpPlan_do (by rfl) (by rfl) (fun K hK => ?_)
    go_simp
    refine (ktake_env (c := p) (d := p') (HE.out.keep (Below.refl _ _).drew) (HC.out.keep HE.out (Below.refl _ _).drew) (by omega) (K0.out.keep (Below.refl _ _).drew) F0.out (K1.out.keep (Below.refl _ _).drew) F1.out h8 hk).mono ?_
    rintro e w6 ⟨rfl, Ow6, he6, hco6, hk6, ht6⟩
    have HE6 := Lib.hid he6
    have HC6 := Lib.hid hco6
    have HK6 := Lib.hid hk6
    have HT6 := Lib.hid ht6
    have hS6 : ∀ x, O 4 x → w6.heap[x]? = u.heap[x]? := fun x hx => ht6.kept 4 x (by omega) (by decide) hx
    clear he6 hco6 hk6 ht6
    refine hK _ _ (hS6) ?_
    clear hK K
    refine wpPlan_do (by rfl) (by rfl) (fun K hK => ?_)
    go_simp
    refine (rtake_env (c := q) (d := q') HE6.out HC6.out (by omega) ((R0.out.keep (Below.refl _ _).drew).turned HT6.out (by omega) (by omega)) F0.out ((R1.out.keep (Below.refl _ _).drew).turned HT6.out (by omega) (by omega)) F1.out h8 hk).mono ?_
    rintro e w8 ⟨rfl, Ow8, he8, hco8, hr8, ht8⟩
    have HE8 := Lib.hid he8
    have HC8 := Lib.hid hco8
    have HR8 := Lib.hid hr8
    have HT8 := Lib.hid ht8
    have hS8 : ∀ x, O 4 x → w8.heap[x]? = u.heap[x]? := fun x hx => (ht8.kept 4 x (by omega) (by decide) (by rw [HT6.out.same 4 (by omega)]; exact hx)).trans (hS6 x hx)
    clear he8 hco8 hr8 ht8
    refine hK _ _ (hS8) ?_
    clear hK K
    iterate 2
      refine wpPlan_read (by rfl) (by rfl) (fun R hR => ?_)
      apply Exists.intro
      refine ⟨fun w' hS' => ?_, ?_⟩
      · have z0 := (World.cell?_of_block (a := ⟨sb, i, none⟩) (hS' sb HSB.out)).trans X0.out
        have z1 := (World.cell?_of_block (a := ⟨sb, j, none⟩) (hS' sb HSB.out)).trans X1.out
        have z2 := (World.cell?_of_block (a := ⟨wb, i, none⟩) (hS' wb HWB.out)).trans Y0.out
        have z3 := (World.cell?_of_block (a := ⟨wb, j, none⟩) (hS' wb HWB.out)).trans Y1.out
        have z4 := (World.cell?_of_block (a := ⟨bx, 2, none⟩) (hS' bx HBX.out)).trans B2.out
        have z5 := (World.cell?_of_block (a := ⟨bx, 3, none⟩) (hS' bx HBX.out)).trans B3.out
        have hw := HWR.out
        go_simp
        exact ⟨rfl, rfl⟩
      go_simp
      refine hR _ ?_
      clear hR R
    refine wpPlan_nil ?_
    have hee : (takeE L M == takeE L M) = true := by simp
    go_wp2_with fail
    refine bodyPost_ret (by simp [results, Try.results40, go_sem, *]; try rfl) rfl ?_
    refine ⟨by simp, Ow8, ⟨HE8.out, by rw [HS.out]; exact HC8.out, by rw [HS.out]; exact HK6.out.turned HT8.out (by omega) (by omega), by rw [HS.out]; exact HR8.out, (K1.out.drw.turned HT6.out (by omega) (by omega)).turned HT8.out (by omega) (by omega), (R1.out.drw.turned HT6.out (by omega) (by omega)).turned HT8.out (by omega) (by omega), FF.out, F1.out⟩, fun x hx => ⟨?_, (hS8 x (H4.out x hx)).trans (HFR.out x hx)⟩, ?_⟩
    · rw [HT8.out.same 4 (by omega), HT6.out.same 4 (by omega)]; exact H4.out x hx
    · have := HT6.out.size; have := HT8.out.size; have := HZZ.out
      have e1 : u.drew.heap.size = u.heap.size := rfl
      omega
  by_cases e6 : m = 6
  · have HS : Hid (stepD k B kd v n (M, led2) (L, led, a) = takeS k B (L, led) (L, led, a)) := Lib.hid (by unfold stepD; rw [HMD.out, if_neg e5, if_pos e6])
    have FF : Hid (Fit k (stepD k B kd v n (M, led2) (L, led, a)).1 (stepD k B kd v n (M, led2) (L, led, a)).2.1) := Lib.hid (stepD_fit F0.out F1.out (by omega) hk)
    subst e6
    clear e5
    go_upto_region 8 with fail
    clear b0
    refine wp_region_plan (fun w' => ∀ x, O 4 x → w'.heap[x]? = u.heap[x]?) [(0, true), (1, true), (2, true), (3, true), (4, true), (5, true), (6, true), (7, true), (8, true), (10, true), (11, true), (12, true), (13, true), (14, true), (15, true), (16, true), (17, true), (18, true), (9, false), (19, false), (20, true), (21, true)] (by kernel_rfl) (by kernel_rfl) (fun _ _ => rfl) ?_
    iterate 18
      refine wpPlan_read (by rfl) (by rfl) (fun R hR => ?_)
      apply Exists.intro
      refine ⟨fun w' hS' => ?_, ?_⟩
      · have z0 := (World.cell?_of_block (a := ⟨sb, i, none⟩) (hS' sb HSB.out)).trans X0.out
        have z1 := (World.cell?_of_block (a := ⟨sb, j, none⟩) (hS' sb HSB.out)).trans X1.out
        have z2 := (World.cell?_of_block (a := ⟨wb, i, none⟩) (hS' wb HWB.out)).trans Y0.out
        have z3 := (World.cell?_of_block (a := ⟨wb, j, none⟩) (hS' wb HWB.out)).trans Y1.out
        have z4 := (World.cell?_of_block (a := ⟨bx, 2, none⟩) (hS' bx HBX.out)).trans B2.out
        have z5 := (World.cell?_of_block (a := ⟨bx, 3, none⟩) (hS' bx HBX.out)).trans B3.out
        have hw := HWR.out
        go_simp
        exact ⟨rfl, rfl⟩
      go_simp
      refine hR _ ?_
      clear hR R
    refine wpPlan_do (by rfl) (by rfl) (fun K hK => ?_)
    go_simp
    refine (ktake_env (c := p) (d := p) (HE.out.keep (Below.refl _ _).drew) (HC.out.keep HE.out (Below.refl _ _).drew) (by omega) (K0.out.keep (Below.refl _ _).drew) F0.out (K0.out.keep (Below.refl _ _).drew) F0.out h8 hk).mono ?_
    rintro e w6 ⟨rfl, Ow6, he6, hco6, hk6, ht6⟩
    have HE6 := Lib.hid he6
    have HC6 := Lib.hid hco6
    have HK6 := Lib.hid hk6
    have HT6 := Lib.hid ht6
    have hS6 : ∀ x, O 4 x → w6.heap[x]? = u.heap[x]? := fun x hx => ht6.kept 4 x (by omega) (by decide) hx
    clear he6 hco6 hk6 ht6
    refine hK _ _ (hS6) ?_
    clear hK K
    refine wpPlan_do (by rfl) (by rfl) (fun K hK => ?_)
    go_simp
    refine (rtake_env (c := q) (d := q) HE6.out HC6.out (by omega) ((R0.out.keep (Below.refl _ _).drew).turned HT6.out (by omega) (by omega)) F0.out ((R0.out.keep (Below.refl _ _).drew).turned HT6.out (by omega) (by omega)) F0.out h8 hk).mono ?_
    rintro e w8 ⟨rfl, Ow8, he8, hco8, hr8, ht8⟩
    have HE8 := Lib.hid he8
    have HC8 := Lib.hid hco8
    have HR8 := Lib.hid hr8
    have HT8 := Lib.hid ht8
    have hS8 : ∀ x, O 4 x → w8.heap[x]? = u.heap[x]? := fun x hx => (ht8.kept 4 x (by omega) (by decide) (by rw [HT6.out.same 4 (by omega)]; exact hx)).trans (hS6 x hx)
    clear he8 hco8 hr8 ht8
    refine hK _ _ (hS8) ?_
    clear hK K
    iterate 2
      refine wpPlan_read (by rfl) (by rfl) (fun R hR => ?_)
      apply Exists.intro
      refine ⟨fun w' hS' => ?_, ?_⟩
      · have z0 := (World.cell?_of_block (a := ⟨sb, i, none⟩) (hS' sb HSB.out)).trans X0.out
        have z1 := (World.cell?_of_block (a := ⟨sb, j, none⟩) (hS' sb HSB.out)).trans X1.out
        have z2 := (World.cell?_of_block (a := ⟨wb, i, none⟩) (hS' wb HWB.out)).trans Y0.out
        have z3 := (World.cell?_of_block (a := ⟨wb, j, none⟩) (hS' wb HWB.out)).trans Y1.out
        have z4 := (World.cell?_of_block (a := ⟨bx, 2, none⟩) (hS' bx HBX.out)).trans B2.out
        have z5 := (World.cell?_of_block (a := ⟨bx, 3, none⟩) (hS' bx HBX.out)).trans B3.out
        have hw := HWR.out
        go_simp
        exact ⟨rfl, rfl⟩
      go_simp
      refine hR _ ?_
      clear hR R
    refine wpPlan_nil ?_
    have hee : (takeE L L == takeE L L) = true := by simp
    go_wp2_with fail
    refine bodyPost_ret (by simp [results, Try.results40, go_sem, *]; try rfl) rfl ?_
    refine ⟨by simp, Ow8, ⟨HE8.out, by rw [HS.out]; exact HC8.out, by rw [HS.out]; exact HK6.out.turned HT8.out (by omega) (by omega), by rw [HS.out]; exact HR8.out, (K1.out.drw.turned HT6.out (by omega) (by omega)).turned HT8.out (by omega) (by omega), (R1.out.drw.turned HT6.out (by omega) (by omega)).turned HT8.out (by omega) (by omega), FF.out, F1.out⟩, fun x hx => ⟨?_, (hS8 x (H4.out x hx)).trans (HFR.out x hx)⟩, ?_⟩
    · rw [HT8.out.same 4 (by omega), HT6.out.same 4 (by omega)]; exact H4.out x hx
    · have := HT6.out.size; have := HT8.out.size; have := HZZ.out
      have e1 : u.drew.heap.size = u.heap.size := rfl
      omega
  · have HS : Hid (stepD k B kd v n (M, led2) (L, led, a) = addS k B v n (L, led, a)) := Lib.hid (by unfold stepD; rw [HMD.out, if_neg e5, if_neg e6])
    have FF : Hid (Fit k (stepD k B kd v n (M, led2) (L, led, a)).1 (stepD k B kd v n (M, led2) (L, led, a)).2.1) := Lib.hid (stepD_fit F0.out F1.out (by omega) hk)
    have e5' : ¬ (m : Int) = 5 := by omega
    have e6' : ¬ (m : Int) = 6 := by omega
    go_upto_region 9 with fail
    clear b0
    refine wp_region_plan (fun w' => ∀ x, O 4 x → w'.heap[x]? = u.heap[x]?) [(0, true), (1, true), (2, true), (3, true), (4, true), (5, true), (6, true), (7, true), (8, true), (10, true), (11, true), (12, true), (13, true), (14, true), (15, true), (16, true), (17, true), (18, true), (9, false), (19, false), (20, true), (21, true)] (by kernel_rfl) (by kernel_rfl) (fun _ _ => rfl) ?_
    iterate 18
      refine wpPlan_read (by rfl) (by rfl) (fun R hR => ?_)
      apply Exists.intro
      refine ⟨fun w' hS' => ?_, ?_⟩
      · have z0 := (World.cell?_of_block (a := ⟨sb, i, none⟩) (hS' sb HSB.out)).trans X0.out
        have z1 := (World.cell?_of_block (a := ⟨sb, j, none⟩) (hS' sb HSB.out)).trans X1.out
        have z2 := (World.cell?_of_block (a := ⟨wb, i, none⟩) (hS' wb HWB.out)).trans Y0.out
        have z3 := (World.cell?_of_block (a := ⟨wb, j, none⟩) (hS' wb HWB.out)).trans Y1.out
        have z4 := (World.cell?_of_block (a := ⟨bx, 2, none⟩) (hS' bx HBX.out)).trans B2.out
        have z5 := (World.cell?_of_block (a := ⟨bx, 3, none⟩) (hS' bx HBX.out)).trans B3.out
        have hw := HWR.out
        go_simp
        exact ⟨rfl, rfl⟩
      go_simp
      refine hR _ ?_
      clear hR R
    refine wpPlan_do (by rfl) (by rfl) (fun K hK => ?_)
    go_simp
    refine (kadd_env (c := p) v n (HE.out.keep (Below.refl _ _).drew) (HC.out.keep HE.out (Below.refl _ _).drew) (by omega) (K0.out.keep (Below.refl _ _).drew) F0.out h8 hk hn).mono ?_
    rintro e w6 ⟨rfl, Ow6, he6, hco6, hk6, ht6⟩
    have HE6 := Lib.hid he6
    have HC6 := Lib.hid hco6
    have HK6 := Lib.hid hk6
    have HT6 := Lib.hid ht6
    have hS6 : ∀ x, O 4 x → w6.heap[x]? = u.heap[x]? := fun x hx => ht6.kept 4 x (by omega) (by decide) hx
    clear he6 hco6 hk6 ht6
    refine hK _ _ (hS6) ?_
    clear hK K
    refine wpPlan_do (by rfl) (by rfl) (fun K hK => ?_)
    go_simp
    refine (radd_env (c := q) v n HE6.out HC6.out (by omega) ((R0.out.keep (Below.refl _ _).drew).turned HT6.out (by omega) (by omega)) F0.out h8 hk hn).mono ?_
    rintro e w8 ⟨rfl, Ow8, he8, hco8, hr8, ht8⟩
    have HE8 := Lib.hid he8
    have HC8 := Lib.hid hco8
    have HR8 := Lib.hid hr8
    have HT8 := Lib.hid ht8
    have hS8 : ∀ x, O 4 x → w8.heap[x]? = u.heap[x]? := fun x hx => (ht8.kept 4 x (by omega) (by decide) (by rw [HT6.out.same 4 (by omega)]; exact hx)).trans (hS6 x hx)
    clear he8 hco8 hr8 ht8
    refine hK _ _ (hS8) ?_
    clear hK K
    iterate 2
      refine wpPlan_read (by rfl) (by rfl) (fun R hR => ?_)
      apply Exists.intro
      refine ⟨fun w' hS' => ?_, ?_⟩
      · have z0 := (World.cell?_of_block (a := ⟨sb, i, none⟩) (hS' sb HSB.out)).trans X0.out
        have z1 := (World.cell?_of_block (a := ⟨sb, j, none⟩) (hS' sb HSB.out)).trans X1.out
        have z2 := (World.cell?_of_block (a := ⟨wb, i, none⟩) (hS' wb HWB.out)).trans Y0.out
        have z3 := (World.cell?_of_block (a := ⟨wb, j, none⟩) (hS' wb HWB.out)).trans Y1.out
        have z4 := (World.cell?_of_block (a := ⟨bx, 2, none⟩) (hS' bx HBX.out)).trans B2.out
        have z5 := (World.cell?_of_block (a := ⟨bx, 3, none⟩) (hS' bx HBX.out)).trans B3.out
        have hw := HWR.out
        go_simp
        exact ⟨rfl, rfl⟩
      go_simp
      refine hR _ ?_
      clear hR R
    refine wpPlan_nil ?_
    have hee : (addE L n == addE L n) = true := by simp
    go_wp2_with fail
    refine bodyPost_ret (by simp [results, Try.results40, go_sem, *]; try rfl) rfl ?_
    refine ⟨by simp, Ow8, ⟨HE8.out, by rw [HS.out]; exact HC8.out, by rw [HS.out]; exact HK6.out.turned HT8.out (by omega) (by omega), by rw [HS.out]; exact HR8.out, (K1.out.drw.turned HT6.out (by omega) (by omega)).turned HT8.out (by omega) (by omega), (R1.out.drw.turned HT6.out (by omega) (by omega)).turned HT8.out (by omega) (by omega), FF.out, F1.out⟩, fun x hx => ⟨?_, (hS8 x (H4.out x hx)).trans (HFR.out x hx)⟩, ?_⟩
    · rw [HT8.out.same 4 (by omega), HT6.out.same 4 (by omega)]; exact H4.out x hx
    · have := HT6.out.size; have := HT8.out.size; have := HZZ.out
      have e1 : u.drew.heap.size = u.heap.size := rfl
      omega
end Go.Proofs.Ytigmncogjbbmhaa
