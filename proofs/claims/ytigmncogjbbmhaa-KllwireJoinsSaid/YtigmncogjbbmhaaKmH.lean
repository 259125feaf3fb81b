/- IsSorted; Right of the reference. Conditions: lengths; numbers of 64 bits. -/
import Derived.Test.YtigmncogjbbmhaaKlZ
namespace Go.Proofs.Ytigmncogjbbmhaa
open Go.RowKit

theorem srt_of_next {l : List Int} (h : ∀ j (hj : j + 1 < l.length), l[j] ≤ l[j + 1]) : Srt l := by
  refine List.pairwise_iff_getElem.2 fun i j hi hj hij => ?_
  obtain ⟨d, rfl⟩ : ∃ d, j = i + 1 + d := ⟨j - i - 1, by omega⟩
  clear hij
  induction d with
  | zero => exact h i hj
  | succ d ih => exact Int.le_trans (ih (by omega)) (h (i + 1 + d) hj)
theorem srt_next {l : List Int} (h : Srt l) {j : Nat} (hj : j + 1 < l.length) : l[j] ≤ l[j + 1] := List.pairwise_iff_getElem.1 h j (j + 1) (by omega) hj (by omega)
set_option maxHeartbeats 400000 in
theorem isNaN_any (x : Int) (w : World) : Calls Try.prog 117 #[.int .i64 x] w fun e w' => e = .returned (.bool false) ∧ w = w' := by
  have hx : (x == x) = true := by simp
  go_enter Try.func117, Try.ntmps117
  go_wp2_with fail
  go_ret
  exact ⟨by simp, rfl⟩
set_option maxHeartbeats 400000 in
theorem less_any (x y : Int) (w : World) : Calls Try.prog 90 #[.int .i64 x, .int .i64 y] w fun e w' => e = .returned (.bool (decide (x < y))) ∧ w = w' := by
  go_enter Try.func90, Try.ntmps90
  go_wp2_with fail
  refine (isNaN_any x w).mono ?_
  rintro e w1 ⟨rfl, hw1⟩
  subst hw1
  go_wp2_with fail
  refine bodyPost_ret (by simp [results, Try.results90, go_sem, *]; try rfl) rfl ?_
  exact ⟨by simp, rfl⟩
set_option maxRecDepth 100000 in
set_option maxHeartbeats 4000000 in
theorem issorted_any (v : Value) (l : List Int) (w : World) (h : RdE i64E w v l) (hl : l.length ≤ 1000000000) :
    Calls Try.prog 70 #[v] w fun e w' => e = .returned (.bool (decide (Srt l))) ∧ ∃ q, w' = w.drewN q := by
  obtain ⟨A, c, rfl, h1, h2, hf⟩ := h.form
  have HF := Lib.hid hf
  clear h hf
  go_enter Try.func70, Try.ntmps70
  go_wp2_with fail
  go_loopg [3] l.length (fun q i wr => ∃ (z : Int) (d : Nat), q = (z + 1).toNat ∧ -1 ≤ z ∧ z < l.length ∧ i = .int .i64 z ∧ wr = w.drewN d ∧ Hid (∀ j (hj : j + 1 < l.length), z ≤ j → l[j] ≤ l[j + 1]))
  case atStart => exact ⟨(l.length : Int) - 1, 0, by omega, by omega, by omega, by go_num, rfl, Lib.hid fun j hj hz => absurd hz (by omega)⟩
  case round =>
    obtain ⟨z, d, hq, hz1, hz2, rfl, rfl, HI⟩ := hrel
    have HQ := Lib.hid hq
    clear hq
    by_cases hz : z > 0
    · obtain ⟨n, rfl⟩ : ∃ n : Nat, z = n := ⟨z.toNat, by omega⟩
      obtain ⟨m, hm⟩ : ∃ m : Nat, n = m + 1 := ⟨n - 1, by omega⟩
      have hnl : n < l.length := by omega
      have hml : m < l.length := by omega
      obtain ⟨ga, oa, eA, hga, ka⟩ := HF.out.i64 hnl
      subst eA
      obtain ⟨ga', oa', eA, _, kb⟩ := HF.out.i64 hml
      injection eA with eA
      injection eA with eA1 eA2
      subst eA1; subst eA2
      have HNE : Hid (l[m] ≤ l[n] → ∀ j (hj : j + 1 < l.length), (n : Int) - 1 ≤ j → l[j] ≤ l[j + 1]) := Lib.hid fun hle j hj hz => by
        rcases Nat.lt_or_ge j n with h3 | h3
        · have e : j = m := by omega
          subst e
          have e2 : n = j + 1 := hm
          subst e2; exact hle
        · exact HI.out j hj (by omega)
      have HNO : Hid (l[n] < l[m] → ¬ Srt l) := Lib.hid fun hlt hs => by
        have h3 := srt_next hs (j := m) (by omega)
        have e : l[m + 1]'(by omega) = l[n] := by congr 1; omega
        rw [e] at h3; omega
      obtain ⟨x, hx⟩ : ∃ x, l[n] = x := ⟨_, rfl⟩
      obtain ⟨y, hy⟩ : ∃ y, l[m] = y := ⟨_, rfl⟩
      rw [hx] at ka
      rw [hy] at kb
      simp only [hx, hy] at HNE HNO
      have KA := Lib.hid ka
      have KB := Lib.hid kb
      have hnm : (n : Int) - 1 = (m : Int) := by omega
      have HW : Hid (IntKind.i64.wrap (m : Int) = (m : Int)) := Lib.hid (IntWalk.i64_in _ (by omega))
      have hni : (n : Int) < (l.length : Int) := by omega
      have hmi : (m : Int) < (l.length : Int) := by omega
      clear hx hy ka kb hm HI
      go_upto_region 4 with fail
      refine wp_region_plan (fun w' => Below w.heap.size w w') [(0, true), (1, true), (2, true), (3, true), (4, true), (5, true), (6, true), (7, true), (8, true), (9, false)] (by kernel_rfl) (by kernel_rfl) ((below_drewN (Below.refl _ _) _).drew) ?_
      iterate 9
        refine wpPlan_read (by rfl) (by rfl) (fun R hR => ?_)
        apply Exists.intro
        refine ⟨fun w' hS' => ?_, ?_⟩
        · have z0 := (hS'.cell (p := ⟨ga, oa + n, none⟩) hga).trans KA.out
          have z1 := (hS'.cell (p := ⟨ga, oa + m, none⟩) hga).trans KB.out
          have hw := HW.out
          go_simp
          exact ⟨rfl, rfl⟩
        go_simp
        refine hR _ ?_
        clear hR R
      refine wpPlan_do (by rfl) (by rfl) (fun K hK => ?_)
      go_simp
      refine (less_any x y _).mono ?_
      rintro e w5 ⟨rfl, hw5⟩
      subst hw5
      refine hK _ _ ((below_drewN (Below.refl _ _) _).drew) ?_
      clear hK K
      refine wpPlan_nil ?_
      by_cases hxy : x < y
      · have HN := Lib.hid (HNO.out hxy)
        go_wp2_with fail
        refine bodyPost_ret (by simp [results, Try.results70, go_sem, *]; try rfl) rfl ?_
        exact ⟨by rw [decide_eq_false HN.out], by first | exact ⟨_, rfl⟩ | exact ⟨_, drewN_add _ _ _⟩⟩
      · have HN := Lib.hid (HNE.out (by omega))
        go_wp2_with fail
        go_roundg n
        case measure => have := HQ.out; omega
        case rel => exact ⟨(n : Int) - 1, d + 1, by omega, by omega, by omega, by go_num, by first | rfl | exact drewN_add _ _ _, HN⟩
    · have HS : Hid (Srt l) := Lib.hid (srt_of_next fun j hj => HI.out j hj (by omega))
      go_wp2_with fail
      refine bodyPost_ret (by simp [results, Try.results70, go_sem, *]; try rfl) rfl ?_
      exact ⟨by rw [decide_eq_true HS.out], _, rfl⟩

/-! ### Right -/
/-- May there be a stack of these? -/
structure RightP (k : Int) (L : LL) (led : Nat) : Prop where
  k8 : 8 ≤ k
  k4 : k ≤ 4096
  hlen : L.length ≤ 49
  hled : led ≤ 4611686018427387904
  emp : L.length = 0 → led = 0
  top : 0 < L.length → lvl L (L.length - 1) ≠ []
  lev : ∀ h, h < L.length → (lvl L h).length ≤ room k.toNat L.length h ∧ Srt (lvl L h)
  hwt : wt L ≤ 281474976710656
theorem RightP.fit {k : Nat} {L : LL} {led : Nat} (h : RightP k L led) : Fit k L led := by
  have hk := h.k4
  have h8 := h.k8
  have hlev := h.lev
  rw [Int.toNat_natCast] at hlev
  have hr : ∀ j, j < L.length → (lvl L j).length ≤ k := fun j hj => Nat.le_trans (hlev j hj).1 (room_le (by omega))
  refine ⟨⟨fun j => ?_, h.top, h.hwt, ?_, h.hled⟩, fullN_is_none fun j hj => (hlev j hj).1⟩
  · rcases Nat.lt_or_ge j L.length with h1 | h1
    · exact (hlev j h1).2
    · show Srt (lvl L j)
      rw [lvl_of_ge h1]; exact List.Pairwise.nil
  · have h1 := cnt_rooms L k hr
    have h2 : L.length * k ≤ 49 * 4096 := Nat.mul_le_mul h.hlen (by omega)
    show cnt L ≤ _
    omega
noncomputable def rightB (k : Int) (L : LL) (led : Nat) : Bool := @decide (RightP k L led) (Classical.propDecidable _)
theorem rightB_no {k : Int} {L : LL} {led : Nat} (h : ¬ RightP k L led) : rightB k L led = false := by unfold rightB; exact @decide_eq_false _ (Classical.propDecidable _) h
theorem rightB_yes {k : Int} {L : LL} {led : Nat} (h : RightP k L led) : rightB k L led = true := by unfold rightB; exact @decide_eq_true _ (Classical.propDecidable _) h
/-- Sorted so far. -/
def SrtTo (l : List Int) (i : Nat) : Prop := ∀ j (hj : j + 1 < l.length), j + 1 < i → l[j] ≤ l[j + 1]
theorem SrtTo.all {l : List Int} (h : SrtTo l l.length) : Srt l := srt_of_next fun j hj => h j hj hj
set_option maxRecDepth 100000 in
set_option maxHeartbeats 8000000 in
theorem right_any (k : Int) (v : Value) (L : LL) (led : Nat) (w : World) (h : LLR w v L) (k0 : -9223372036854775808 ≤ k) (k1 : k ≤ 9223372036854775807) (hled : led < 18446744073709551616) :
    Calls Try.prog 42 #[.int .i64 k, v, .int .u64 led] w fun e w' => e = .returned (.bool (rightB k L led)) ∧ Below w.heap.size w w' := by
  obtain ⟨A, c, rfl, hc1, hc2⟩ := h.form
  have HL := Lib.hid h
  clear h
  by_cases hk8 : k < 8
  · have HN : Hid (¬ RightP k L led) := Lib.hid fun h => by have := h.k8; omega
    go_enter Try.func42, Try.ntmps42
    go_wp2_with fail
    refine bodyPost_ret (by simp [results, Try.results42, go_sem, *]; try rfl) rfl ?_
    exact ⟨by rw [rightB_no HN.out], by (repeat' (first | (with_reducible exact Below.refl _ _) | (with_reducible refine Below.alloc ?_ ?_ _) | (with_reducible refine Below.drew ?_) | (with_reducible refine below_drewN ?_ _) | (with_reducible refine Below.setCell ?_ ?_ _) | (with_reducible refine below_of (by assumption) ?_ ?_) | go_size))⟩
  by_cases hk4 : k > 4096
  · have HN : Hid (¬ RightP k L led) := Lib.hid fun h => by have := h.k4; omega
    go_enter Try.func42, Try.ntmps42
    go_wp2_with fail
    refine bodyPost_ret (by simp [results, Try.results42, go_sem, *]; try rfl) rfl ?_
    exact ⟨by rw [rightB_no HN.out], by (repeat' (first | (with_reducible exact Below.refl _ _) | (with_reducible refine Below.alloc ?_ ?_ _) | (with_reducible refine Below.drew ?_) | (with_reducible refine below_drewN ?_ _) | (with_reducible refine Below.setCell ?_ ?_ _) | (with_reducible refine below_of (by assumption) ?_ ?_) | go_size))⟩
  by_cases h49 : L.length > 49
  · have HN : Hid (¬ RightP k L led) := Lib.hid fun h => by have := h.hlen; omega
    have h49' : (L.length : Int) > 49 := by omega
    go_enter Try.func42, Try.ntmps42
    go_wp2_with fail
    refine bodyPost_ret (by simp [results, Try.results42, go_sem, *]; try rfl) rfl ?_
    exact ⟨by rw [rightB_no HN.out], by (repeat' (first | (with_reducible exact Below.refl _ _) | (with_reducible refine Below.alloc ?_ ?_ _) | (with_reducible refine Below.drew ?_) | (with_reducible refine below_drewN ?_ _) | (with_reducible refine Below.setCell ?_ ?_ _) | (with_reducible refine below_of (by assumption) ?_ ?_) | go_size))⟩
  have h49' : ¬ (L.length : Int) > 49 := by omega
  by_cases hle : led > 4611686018427387904
  · have HN : Hid (¬ RightP k L led) := Lib.hid fun h => by have := h.hled; omega
    have hle' : (led : Int) > 4611686018427387904 := by omega
    go_enter Try.func42, Try.ntmps42
    go_wp2_with fail
    refine bodyPost_ret (by simp [results, Try.results42, go_sem, *]; try rfl) rfl ?_
    exact ⟨by rw [rightB_no HN.out], by (repeat' (first | (with_reducible exact Below.refl _ _) | (with_reducible refine Below.alloc ?_ ?_ _) | (with_reducible refine Below.drew ?_) | (with_reducible refine below_drewN ?_ _) | (with_reducible refine Below.setCell ?_ ?_ _) | (with_reducible refine below_of (by assumption) ?_ ?_) | go_size))⟩
  have hle' : ¬ (led : Int) > 4611686018427387904 := by omega
  by_cases hL0 : L.length = 0
  · have hLn : L = [] := List.eq_nil_of_length_eq_zero hL0
    subst hLn
    by_cases hd0 : led = 0
    · subst hd0
      have HY : Hid (RightP k [] 0) := Lib.hid ⟨by omega, by omega, by decide, by decide, fun _ => rfl, fun h => absurd h (by decide), fun h hh => absurd hh (by simp), by decide⟩
      go_enter Try.func42, Try.ntmps42
      go_wp2_with fail
      refine bodyPost_ret (by simp [results, Try.results42, go_sem, *]; try rfl) rfl ?_
      exact ⟨by rw [rightB_yes HY.out], by (repeat' (first | (with_reducible exact Below.refl _ _) | (with_reducible refine Below.alloc ?_ ?_ _) | (with_reducible refine Below.drew ?_) | (with_reducible refine below_drewN ?_ _) | (with_reducible refine Below.setCell ?_ ?_ _) | (with_reducible refine below_of (by assumption) ?_ ?_) | go_size))⟩
    · have HN : Hid (¬ RightP k [] led) := Lib.hid fun h => hd0 (h.emp rfl)
      have hd0' : ((led : Int) == 0) = false := by simp; omega
      go_enter Try.func42, Try.ntmps42
      go_wp2_with fail
      refine bodyPost_ret (by simp [results, Try.results42, go_sem, *]; try rfl) rfl ?_
      exact ⟨by rw [rightB_no HN.out], by (repeat' (first | (with_reducible exact Below.refl _ _) | (with_reducible refine Below.alloc ?_ ?_ _) | (with_reducible refine Below.drew ?_) | (with_reducible refine below_drewN ?_ _) | (with_reducible refine Below.setCell ?_ ?_ _) | (with_reducible refine below_of (by assumption) ?_ ?_) | go_size))⟩
  have hL0' : ¬ (L.length : Int) = 0 := by omega
  obtain ⟨gl, off, sT, tc, eA, hgl, kT, _⟩ := HL.out.at_ (j := L.length - 1) (by omega)
  subst eA
  obtain ⟨n1, hn1⟩ : ∃ n1, L.length - 1 = n1 := ⟨_, rfl⟩
  have hn1i : (L.length : Int) - 1 = (n1 : Int) := by omega
  have hn1l : (n1 : Int) < (L.length : Int) := by omega
  obtain ⟨x1, hx1⟩ : ∃ x1, (lvl L (L.length - 1)).length = x1 := ⟨_, rfl⟩
  rw [hx1] at kT
  rw [hn1] at kT
  by_cases hx0 : x1 = 0
  · have HN : Hid (¬ RightP k L led) := Lib.hid fun h => h.top (by omega) (List.eq_nil_of_length_eq_zero (by omega))
    subst hx0
    clear hx1 hn1
    go_enter Try.func42, Try.ntmps42
    go_wp2_with fail
    refine bodyPost_ret (by simp [results, Try.results42, go_sem, *]; try rfl) rfl ?_
    exact ⟨by rw [rightB_no HN.out], by (repeat' (first | (with_reducible exact Below.refl _ _) | (with_reducible refine Below.alloc ?_ ?_ _) | (with_reducible refine Below.drew ?_) | (with_reducible refine below_drewN ?_ _) | (with_reducible refine Below.setCell ?_ ?_ _) | (with_reducible refine below_of (by assumption) ?_ ?_) | go_size))⟩
  have hx0' : ¬ (x1 : Int) = 0 := by omega
  obtain ⟨K, rfl⟩ : ∃ K : Nat, k = K := ⟨k.toNat, by omega⟩
  have HTOP : Hid (lvl L (L.length - 1) ≠ []) := Lib.hid fun e => hx0 (by rw [← hx1, e]; rfl)
  have XRR := Lib.hid (fun W j (hj : j ≤ 49) => rroom_any K L.length j W (by omega) (by omega) (by omega) (by omega))
  have HRB := Lib.hid (fun j => room_le (k := K) (len := L.length) (h := j) (by omega))
  clear hx1 hn1
  go_enter Try.func42, Try.ntmps42
  go_wp2_with fail
  go_loopg [7, 8, 9, 10] L.length (fun q t p i _ wr => ∃ (j d : Nat), q = L.length - j ∧ j ≤ L.length ∧ t = .int .u64 ((wtF 1 (L.take j) : Nat) : Int) ∧ p = .int .u64 ((2 ^ j : Nat) : Int) ∧ i = .int .i64 (j : Int) ∧ wtF 1 (L.take j) ≤ 281474976710656 ∧ Hid (∀ h, h < j → (lvl L h).length ≤ room K L.length h ∧ Srt (lvl L h)) ∧ wr = w.drewN d)
  case atStart => exact ⟨0, 0, by omega, by omega, rfl, rfl, rfl, Nat.zero_le _, Lib.hid fun h hh => absurd hh (by omega), rfl⟩
  case round =>
    obtain ⟨j, d, hq, hj, rfl, rfl, rfl, hbw, HI, rfl⟩ := hrel
    have HQ := Lib.hid hq
    have hpb := pow49 (j := j) (by omega)
    have HPE : Hid (2 ^ (j + 1) = 2 * 2 ^ j) := Lib.hid (by rw [Nat.pow_succ]; omega)
    clear hq
    by_cases hjl : j < L.length
    · obtain ⟨gl', off', sA, sc, eA, _, c2, rA⟩ := HL.out.at_ hjl
      injection eA with eA
      injection eA with eA1 eA2
      subst eA1; subst eA2
      obtain ⟨_, _, ea, ha3, ha4, fa⟩ := rA.form
      injection ea with ea1 ea2 ea3
      subst ea1; subst ea3
      have FA := Lib.hid fa
      have XR1 := Lib.hid (fun W => XRR.out W j (by omega))
      have hrb := HRB.out j
      have HTS := Lib.hid (wtF_take_succ hjl)
      have HTW := Lib.hid (fun i => wtF_take_le L i)
      have HLEV : Hid (∀ P : Prop, (RightP K L led → P) → (¬ P → ¬ RightP K L led)) := Lib.hid fun P h1 h2 h3 => h2 (h1 h3)
      have hjli : (j : Int) < (L.length : Int) := by omega
      obtain ⟨rm, hrm⟩ : ∃ rm, room K L.length j = rm := ⟨_, rfl⟩
      rw [hrm] at XR1 hrb
      have HRM := Lib.hid hrm
      have C2 := Lib.hid c2
      obtain ⟨y, hy⟩ : ∃ y, (lvl L j).length = y := ⟨_, rfl⟩
      rw [hy] at C2 HTS ha3
      have HYE := Lib.hid hy
      obtain ⟨p, hp⟩ : ∃ p, 2 ^ j = p := ⟨_, rfl⟩
      obtain ⟨t0, ht0⟩ : ∃ t0, wtF 1 (L.take j) = t0 := ⟨_, rfl⟩
      rw [hp] at hpb HPE HTS ⊢
      rw [ht0] at hbw HTS ⊢
      clear hp ht0
      clear fa ea2 rA hrm c2 hy
      go_upto_region 11 with fail
      refine wp_region_plan (fun w' => Below w.heap.size w w') [(0, true), (1, true), (2, true), (3, true), (4, true), (5, true), (6, true), (7, true), (8, true), (9, false), (10, true)] (by kernel_rfl) (by kernel_rfl) ((below_drewN (Below.refl _ _) _).drew) ?_
      iterate 9
        refine wpPlan_read (by rfl) (by rfl) (fun R hR => ?_)
        apply Exists.intro
        refine ⟨fun w' hS' => ?_, ?_⟩
        · have z0 := (hS'.cell (p := ⟨gl, off + j, none⟩) hgl).trans C2.out
          go_simp
          exact ⟨rfl, rfl⟩
        go_simp
        refine hR _ ?_
        clear hR R
      refine wpPlan_do (by rfl) (by rfl) (fun K hK => ?_)
      go_simp
      refine (XR1.out _).mono ?_
      rintro e w5 ⟨rfl, hw5⟩
      subst hw5
      refine hK _ _ ((below_drewN (Below.refl _ _) _).drew) ?_
      clear hK K
      iterate 1
        refine wpPlan_read (by rfl) (by rfl) (fun R hR => ?_)
        apply Exists.intro
        refine ⟨fun w' hS' => ?_, ?_⟩
        · have z0 := (hS'.cell (p := ⟨gl, off + j, none⟩) hgl).trans C2.out
          go_simp
          exact ⟨rfl, rfl⟩
        go_simp
        refine hR _ ?_
        clear hR R
      refine wpPlan_nil ?_
      by_cases hgt : y > rm
      · have HN : Hid (¬ RightP K L led) := Lib.hid fun h => by
          have := (h.lev j hjl).1
          rw [Int.toNat_natCast, HRM.out, HYE.out] at this; omega
        have hgt' : (y : Int) > (rm : Int) := by omega
        go_wp2_with fail
        refine bodyPost_ret (by simp [results, Try.results42, go_sem, *]; try rfl) rfl ?_
        exact ⟨by rw [rightB_no HN.out], by (repeat' (first | (with_reducible exact Below.refl _ _) | (with_reducible refine Below.alloc ?_ ?_ _) | (with_reducible refine Below.drew ?_) | (with_reducible refine below_drewN ?_ _) | (with_reducible refine Below.setCell ?_ ?_ _) | (with_reducible refine below_of (by assumption) ?_ ?_) | go_size))⟩
      · have hgt' : ¬ (y : Int) > (rm : Int) := by omega
        have HWX : Hid (∀ s, s < y → t0 + (s + 1) * p ≤ 281474976710656 ∨ ¬ RightP K L led) := Lib.hid fun s hs => by
          by_cases h0 : t0 + (s + 1) * p ≤ 281474976710656
          · exact .inl h0
          · refine .inr fun h => h0 ?_
            have h1 := h.hwt
            have h2 := HTW.out (j + 1)
            rw [HTS.out] at h2
            have h3 : (s + 1) * p ≤ y * p := Nat.mul_le_mul_right _ hs
            omega
        go_wp2_with fail
        go_loopg [7, 10] y (fun q t i wr => ∃ (s e : Nat), q = y - s ∧ s ≤ y ∧ t = .int .u64 ((t0 + s * p : Nat) : Int) ∧ i = .int .i64 (s : Int) ∧ t0 + s * p ≤ 281474976710656 ∧ Hid (SrtTo (lvl L j) s) ∧ wr = w.drewN e)
        case atStart => exact ⟨0, _, by omega, by omega, by simp, rfl, by omega, Lib.hid fun j hj h => absurd h (by omega), by first | rfl | exact drewN_add _ _ _⟩
        case round =>
          obtain ⟨s, e, hq, hs, rfl, rfl, hbs, HS, rfl⟩ := hrel
          have HQ2 := Lib.hid hq
          clear hq
          have HTN : Hid (t0 + (s + 1) * p = t0 + s * p + p) := Lib.hid (by rw [Nat.add_mul, Nat.one_mul, Nat.add_assoc])
          have c2 := C2.out
          by_cases hsy : s < y
          · have hsl : s < (lvl L j).length := by rw [HYE.out]; exact hsy
            obtain ⟨ga, oa, eA, hga, ka⟩ := FA.out.i64 hsl
            subst eA
            have hwx := HWX.out s hsy
            rw [HTN.out] at hwx
            obtain ⟨T, hT⟩ : ∃ T, t0 + s * p = T := ⟨_, rfl⟩
            rw [hT] at hbs HTN hwx ⊢
            have hsub : IntKind.u64.wrap (281474976710656 - (T : Int)) = 281474976710656 - (T : Int) := by rw [IntKind.wrap_u64]; omega
            have hsyi : (s : Int) < (y : Int) := by omega
            obtain ⟨x, hx⟩ : ∃ x, (lvl L j)[s] = x := ⟨_, rfl⟩
            rw [hx] at ka
            have HX := Lib.hid hx
            clear hT hx
            by_cases hs0 : s = 0
            · have HSN : Hid (SrtTo (lvl L j) (s + 1)) := Lib.hid fun q hq h => absurd h (by omega)
              have hs1 : ¬ (s : Int) > 0 := by omega
              have hsd : decide ((0 : Int) < (s : Int)) = false := decide_eq_false (by omega)
              by_cases hov : T + p ≤ 281474976710656
              · have hgw : ¬ (p : Int) > 281474976710656 - (T : Int) := by omega
                have hgd : decide (281474976710656 - (T : Int) < (p : Int)) = false := decide_eq_false (by omega)
                go_wp2_with fail
                go_quiet (fail)
                go_wp2_with fail
                go_roundg (y - (s + 1))
                case measure => have := HQ2.out; omega
                case rel => exact ⟨s + 1, _, rfl, by omega, by rw [HTN.out]; go_num, by go_num, by rw [HTN.out]; omega, HSN, by first | rfl | exact drewN_add _ _ _⟩
              · have HN : Hid (¬ RightP K L led) := Lib.hid (hwx.resolve_left (by omega))
                have hgw : (p : Int) > 281474976710656 - (T : Int) := by omega
                have hgd : decide (281474976710656 - (T : Int) < (p : Int)) = true := decide_eq_true (by omega)
                go_wp2_with fail
                go_quiet (fail)
                go_wp2_with fail
                refine bodyPost_ret (by simp [results, Try.results42, go_sem, *]; try rfl) rfl ?_
                exact ⟨by rw [rightB_no HN.out], by (repeat' (first | (with_reducible exact Below.refl _ _) | (with_reducible refine Below.alloc ?_ ?_ _) | (with_reducible refine Below.drew ?_) | (with_reducible refine below_drewN ?_ _) | (with_reducible refine Below.setCell ?_ ?_ _) | (with_reducible refine below_of (by assumption) ?_ ?_) | go_size))⟩
            · obtain ⟨s', hs'⟩ : ∃ s', s = s' + 1 := ⟨s - 1, by omega⟩
              obtain ⟨ga', oa', eA, _, kb⟩ := FA.out.i64 (j := s') (by omega)
              injection eA with eA
              injection eA with eA1 eA2
              subst eA1; subst eA2
              obtain ⟨x', hx'⟩ : ∃ x', (lvl L j)[s']'(by omega) = x' := ⟨_, rfl⟩
              rw [hx'] at kb
              have HNS : Hid (x < x' → ¬ RightP K L led) := Lib.hid fun hlt h => by
                have h1 := srt_next (h.lev j hjl).2 (j := s') (by omega)
                have e1 : (lvl L j)[s' + 1]'(by omega) = x := by rw [← HX.out]; congr 1; omega
                rw [e1, hx'] at h1; omega
              have HSX : Hid (x' ≤ x → SrtTo (lvl L j) (s + 1)) := Lib.hid fun hle q hq h => by
                rcases Nat.lt_or_ge (q + 1) s with h1 | h1
                · exact HS.out q hq h1
                · have e1 : q = s' := by omega
                  subst e1
                  have e2 : (lvl L j)[q + 1] = x := by rw [← HX.out]; congr 1; omega
                  rw [e2, hx']; exact hle
              have hsi : (s : Int) - 1 = (s' : Int) := by omega
              have hsw : IntKind.i64.wrap (s' : Int) = (s' : Int) := IntWalk.i64_in _ (by omega)
              have hs1 : (s : Int) > 0 := by omega
              have hsd : decide ((0 : Int) < (s : Int)) = true := decide_eq_true (by omega)
              have hsn : decide (0 < s) = true := decide_eq_true (by omega)
              have hsp : 0 < s := by omega
              have hsq : (0 : Int) < (s : Int) := by omega
              have hsl' : (s' : Int) < (y : Int) := by omega
              clear hx' hs'
              by_cases hlt : x < x'
              · have HN := Lib.hid (HNS.out hlt)
                have hxd : decide (x < x') = true := decide_eq_true hlt
                go_wp2_with fail
                go_quiet (fail)
                go_wp2_with fail
                refine bodyPost_ret (by simp [results, Try.results42, go_sem, *]; try rfl) rfl ?_
                exact ⟨by rw [rightB_no HN.out], by (repeat' (first | (with_reducible exact Below.refl _ _) | (with_reducible refine Below.alloc ?_ ?_ _) | (with_reducible refine Below.drew ?_) | (with_reducible refine below_drewN ?_ _) | (with_reducible refine Below.setCell ?_ ?_ _) | (with_reducible refine below_of (by assumption) ?_ ?_) | go_size))⟩
              · have HSN := Lib.hid (HSX.out (by omega))
                have hxd : decide (x < x') = false := decide_eq_false hlt
                by_cases hov : T + p ≤ 281474976710656
                · have hgw : ¬ (p : Int) > 281474976710656 - (T : Int) := by omega
                  have hgd : decide (281474976710656 - (T : Int) < (p : Int)) = false := decide_eq_false (by omega)
                  go_wp2_with fail
                  go_quiet (fail)
                  go_wp2_with fail
                  go_roundg (y - (s + 1))
                  case measure => have := HQ2.out; omega
                  case rel => exact ⟨s + 1, _, rfl, by omega, by rw [HTN.out]; go_num, by go_num, by rw [HTN.out]; omega, HSN, by first | rfl | exact drewN_add _ _ _⟩
                · have HN : Hid (¬ RightP K L led) := Lib.hid (hwx.resolve_left (by omega))
                  have hgw : (p : Int) > 281474976710656 - (T : Int) := by omega
                  have hgd : decide (281474976710656 - (T : Int) < (p : Int)) = true := decide_eq_true (by omega)
                  go_wp2_with fail
                  go_quiet (fail)
                  go_wp2_with fail
                  refine bodyPost_ret (by simp [results, Try.results42, go_sem, *]; try rfl) rfl ?_
                  exact ⟨by rw [rightB_no HN.out], by (repeat' (first | (with_reducible exact Below.refl _ _) | (with_reducible refine Below.alloc ?_ ?_ _) | (with_reducible refine Below.drew ?_) | (with_reducible refine below_drewN ?_ _) | (with_reducible refine Below.setCell ?_ ?_ _) | (with_reducible refine below_of (by assumption) ?_ ?_) | go_size))⟩
          · obtain rfl : s = y := by omega
            have HIN : Hid (∀ h, h < j + 1 → (lvl L h).length ≤ room K L.length h ∧ Srt (lvl L h)) := Lib.hid fun h hh => by
              rcases Nat.lt_or_ge h j with h1 | h1
              · exact HI.out h h1
              · obtain rfl : h = j := by omega
                have hs2 := HS.out
                rw [← HYE.out] at hs2
                exact ⟨by rw [HYE.out, HRM.out]; omega, hs2.all⟩
            have HTF : Hid (t0 + s * p = wtF 1 (L.take (j + 1))) := Lib.hid HTS.out.symm
            rw [HTF.out] at hbs ⊢
            go_wp2_with fail
            go_roundg (L.length - (j + 1))
            case measure => have := HQ.out; omega
            case rel => exact ⟨j + 1, _, rfl, by omega, rfl, by rw [HPE.out]; go_num, by go_num, hbs, HIN, by first | rfl | exact drewN_add _ _ _⟩
    · obtain rfl : j = L.length := by omega
      have HY : Hid (RightP K L led) := Lib.hid ⟨by omega, by omega, by omega, by omega, fun h => absurd h hL0, fun _ => HTOP.out, fun h hh => by rw [Int.toNat_natCast]; exact HI.out h hh, by rw [List.take_length] at hbw; exact hbw⟩
      go_wp2_with fail
      refine bodyPost_ret (by simp [results, Try.results42, go_sem, *]; try rfl) rfl ?_
      exact ⟨by rw [rightB_yes HY.out], by (repeat' (first | (with_reducible exact Below.refl _ _) | (with_reducible refine Below.alloc ?_ ?_ _) | (with_reducible refine Below.drew ?_) | (with_reducible refine below_drewN ?_ _) | (with_reducible refine Below.setCell ?_ ?_ _) | (with_reducible refine below_of (by assumption) ?_ ?_) | go_size))⟩
end Go.Proofs.Ytigmncogjbbmhaa
