/- KllwireLevels, walked. Conditions: numbers of 64 bits. -/
import Derived.Test.YtigmncogjbbmhaaWl
import Derived.Test.YtigmncogjbbmhaaKmO
namespace Go.Proofs.Ytigmncogjbbmhaa
open Go.RowKit Go.Lib

/-- The bytes of any levels are those of a stack only if they are that stack's. -/
theorem isK_own {k : Int} {L : LL} {led : Nat} (k0 : 0 ≤ k) (k1 : k < 18446744073709551616) (hl : led < 18446744073709551616) (hL : L.length < 18446744073709551616) (h : ∀ l ∈ L, I64L l ∧ Srt l ∧ l.length ≤ 4096)
    {k' led' : Nat} {L' : LL} (hk : IsK (wrK k L led) k' L' led') : k = k' ∧ L = L' ∧ led = led' := by
  have h1 := hk.rd
  by_cases hk1 : k ≤ 4096
  · by_cases hl1 : L.length ≤ 49
    · have h2 := rdK_wrK (L := L) (led := led) [] k0 hk1 hl hl1 h
      rw [List.append_nil, h1] at h2
      injection h2 with h2
      injection h2 with h2 _
      injection h2 with h2 h3 h4
      exact ⟨h2.symm, h4.symm, by omega⟩
    · exfalso
      unfold rdK wrK at h1
      rw [rdN_leb k0 k1, if_pos hk1] at h1
      simp only at h1
      rw [unleb_leb (by omega) (by omega)] at h1
      simp only at h1
      rw [rdN_leb (by omega) (by omega), if_neg (by omega)] at h1
      cases h1
  · exfalso
    unfold rdK wrK at h1
    rw [rdN_leb k0 k1, if_neg hk1] at h1
    cases h1

set_option maxRecDepth 100000 in
set_option maxHeartbeats 8000000 in
theorem wlevels_any (k : Int) (v1 : Value) (L : LL) (led : Nat) (w : World) (hL : LLR w v1 L) (hbd : ∀ j, I64L (lvl L j)) (k0 : -9223372036854775808 ≤ k) (k1 : k ≤ 9223372036854775807) (hled : led < 18446744073709551616) :
    Calls Try.prog 12 #[.int .i64 k, v1, .int .u64 led] w fun e w' => e = .returned (.bool true) ∧ Below w.heap.size w w' := by
  have HAL := Lib.hid (alive25_any w)
  obtain ⟨A1, c1, rfl, hc1, hc2⟩ := hL.form
  by_cases h60 : L.length > 60
  · have hgt : (L.length : Int) > 60 := by omega
    clear hL hbd
    go_enter Try.func12, Try.ntmps12
    go_wp2_with fail
    refine (HAL.out).mono ?_
    rintro e w1 ⟨rfl, hb1⟩
    go_wp2_with fail
    refine bodyPost_ret (by simp [results, Try.results12, go_sem, *]; try rfl) rfl ?_
    exact ⟨rfl, hb1⟩
  have hgt : ¬ (L.length : Int) > 60 := by omega
  by_cases hk0 : k < 0
  · clear hL hbd
    go_enter Try.func12, Try.ntmps12
    go_wp2_with fail
    refine (HAL.out).mono ?_
    rintro e w1 ⟨rfl, hb1⟩
    go_wp2_with fail
    refine bodyPost_ret (by simp [results, Try.results12, go_sem, *]; try rfl) rfl ?_
    exact ⟨rfl, hb1⟩
  have HLK := Lib.hid (fun W (hb : Below w.heap.size w W) => hL.keep hb)
  have HBD := Lib.hid hbd
  clear hL hbd
  go_enter Try.func12, Try.ntmps12
  go_wp2_with fail
  refine (HAL.out).mono ?_
  rintro e w1 ⟨rfl, hb1⟩
  have HB1 := Lib.hid hb1
  have HL := Lib.hid (HLK.out w1 hb1)
  clear hb1 HAL
  go_wp2_with fail
  go_loopg [7, 8] L.length (fun q i _ wr => ∃ (j d : Nat), q = L.length - j ∧ j ≤ L.length ∧ i = .int .i64 (j : Int) ∧ Hid (∀ h, h < j → (lvl L h).length ≤ 100 ∧ Srt (lvl L h)) ∧ wr = w1.drewN d)
  case atStart => exact ⟨0, 0, by omega, by omega, rfl, Lib.hid fun h hh => absurd hh (by omega), rfl⟩
  case round =>
    obtain ⟨j, d, hq, hj, rfl, HI, rfl⟩ := hrel
    have HQ := Lib.hid hq
    clear hq
    by_cases hjl : j < L.length
    · obtain ⟨gl, off, sA, sc, eA, hgl, c2, rA⟩ := HL.out.at_ hjl
      subst eA
      obtain ⟨_, _, ea, ha3, ha4, fa⟩ := rA.form
      injection ea with ea1 ea2 ea3
      subst ea1; subst ea3
      have FA := Lib.hid fa
      have C2 := Lib.hid c2
      have c3 : (w1.drewN d).cell? ⟨gl, off + j, none⟩ = _ := c2
      have hji : (j : Int) < (L.length : Int) := by omega
      clear fa rA ea2 c2
      by_cases h100 : (lvl L j).length > 100
      · have h100' : ((lvl L j).length : Int) > 100 := by omega
        go_wp2_with fail
        refine bodyPost_ret (by simp [results, Try.results12, go_sem, *]; try rfl) rfl ?_
        exact ⟨rfl, below_drewN HB1.out _⟩
      have h100' : ¬ ((lvl L j).length : Int) > 100 := by omega
      go_wp2_with fail
      clear c3
      go_loopg [8] (lvl L j).length (fun q i wr => ∃ (t d : Nat), q = (lvl L j).length + 1 - t ∧ 1 ≤ t ∧ t ≤ (lvl L j).length + 1 ∧ i = .int .i64 (t : Int) ∧ Hid (SrtTo (lvl L j) t) ∧ wr = w1.drewN d)
      case atStart => exact ⟨1, d, by omega, by omega, by omega, rfl, Lib.hid fun i hi hh => absurd hh (by omega), rfl⟩
      case round =>
        obtain ⟨t, d, hq, ht1, ht, rfl, HT, rfl⟩ := hrel
        have HQ2 := Lib.hid hq
        clear hq
        have c3 : (w1.drewN d).cell? ⟨gl, off + j, none⟩ = _ := C2.out
        by_cases htl : t < (lvl L j).length
        · obtain ⟨s, rfl⟩ : ∃ s, t = s + 1 := ⟨t - 1, by omega⟩
          have hsl : s < (lvl L j).length := by omega
          obtain ⟨ga, oa, eA, hga, ka⟩ := FA.out.i64 htl
          subst eA
          obtain ⟨ga', oa', eA, _, kb⟩ := FA.out.i64 hsl
          injection eA with eA
          injection eA with eA1 eA2
          subst eA1; subst eA2
          have HNX : Hid ((lvl L j)[s] ≤ (lvl L j)[s + 1] → SrtTo (lvl L j) (s + 1 + 1)) := Lib.hid fun hle i hi hh => by
            rcases Nat.lt_or_ge i s with h1 | h1
            · exact HT.out i hi (by omega)
            · obtain rfl : i = s := by omega
              exact hle
          obtain ⟨x, hx⟩ : ∃ x, (lvl L j)[s + 1] = x := ⟨_, rfl⟩
          obtain ⟨y, hy⟩ : ∃ y, (lvl L j)[s] = y := ⟨_, rfl⟩
          simp only [hx, hy] at ka kb HNX
          have hs1 : ((s + 1 : Nat) : Int) - 1 = (s : Int) := by omega
          have hst : (s : Int) < ((lvl L j).length : Int) := by omega
          have hti : ((s + 1 : Nat) : Int) < ((lvl L j).length : Int) := by omega
          have c4 := C2.out
          have KA := Lib.hid ka
          have KB := Lib.hid kb
          have hws : IntKind.i64.wrap (s : Int) = (s : Int) := IntWalk.i64_in _ (by omega)
          clear hx hy ka kb
          go_wp2_with fail
          have ka := KA.out
          have kb := KB.out
          go_quiet (fail)
          clear ka kb
          by_cases hxy : x < y
          · go_wp2_with fail
            refine bodyPost_ret (by simp [results, Try.results12, go_sem, *]; try rfl) rfl ?_
            exact ⟨rfl, by first | exact below_drewN HB1.out _ | exact below_drewN (below_drewN HB1.out _) _⟩
          · have HN := Lib.hid (HNX.out (by omega))
            go_wp2_with fail
            go_roundg ((lvl L j).length + 1 - (s + 1 + 1))
            case measure => have := HQ2.out; omega
            case rel => exact ⟨s + 1 + 1, _, rfl, by omega, by omega, by go_num, HN, rfl⟩
        · have HSR : Hid (Srt (lvl L j)) := Lib.hid (srt_of_next fun i hi => HT.out i hi (by omega))
          have HI1 : Hid (∀ h, h < j + 1 → (lvl L h).length ≤ 100 ∧ Srt (lvl L h)) := Lib.hid fun h hh => by
            rcases Nat.lt_or_ge h j with h1 | h1
            · exact HI.out h h1
            · obtain rfl : h = j := by omega
              exact ⟨by omega, HSR.out⟩
          have htn : ¬ (t : Int) < ((lvl L j).length : Int) := by omega
          go_wp2_with fail
          go_roundg (L.length - (j + 1))
          case measure => have := HQ.out; omega
          case rel => exact ⟨j + 1, d, rfl, by omega, by go_num, HI1, rfl⟩
    · obtain rfl : j = L.length := by omega
      obtain ⟨w2, hw2⟩ : ∃ w2, w1.drewN d = w2 := ⟨_, rfl⟩
      have hb2 : Below w1.heap.size w1 w2 := by rw [← hw2]; exact below_drewN (Below.refl _ _) _
      have HB2 := Lib.hid (HB1.out.trans (hb2.mono HB1.out.size))
      have HL2 := Lib.hid (HL.out.keep hb2)
      have hall : ∀ h, (lvl L h).length ≤ 100 ∧ Srt (lvl L h) := fun h => by
        rcases Nat.lt_or_ge h L.length with h1 | h1
        · exact HI.out h h1
        · rw [lvl_of_ge h1]; exact ⟨by simp, List.Pairwise.nil⟩
      have hcn : cnt L ≤ 6000 := by
        have h1 := cnt_rooms L 100 fun j _ => (hall j).1
        omega
      have hmem : ∀ l ∈ L, I64L l ∧ Srt l ∧ l.length ≤ 4096 := fun l hl => by
        obtain ⟨i, hi, rfl⟩ := List.getElem_of_mem hl
        have h1 := hall i
        have h2 := HBD.out i
        rw [lvl_at hi] at h1 h2
        exact ⟨h2, h1.2, by omega⟩
      have HMEM := Lib.hid hmem
      have HALL := Lib.hid hall
      have XW := Lib.hid (rwk_any k _ L led w2 HL2.out (by omega) (by omega) (by omega) (by omega) (by omega) (fun j => ⟨(hall j).2, HBD.out j⟩))
      have hby : byL (wrK k L led) := wrK_by (by omega) (by omega) hled (by omega) fun l hl => ⟨(hmem l hl).1, (hmem l hl).2.1, by have := (hmem l hl).2.2; omega⟩
      have hwl : (wrK k L led).length ≤ 1000000000 := by have := wrK_len k L led; omega
      have HBY := Lib.hid hby
      have HOWN : Hid (∀ k' L' led', IsK (wrK k L led) k' L' led' → k = k' ∧ L = L' ∧ led = led') := Lib.hid fun k' L' led' hk => isK_own (by omega) (by omega) hled (by omega) HMEM.out hk
      have XRT := Lib.hid (fun W (hW : Below w2.heap.size w2 W) => right_any k _ L led W (HL2.out.keep hW) (by omega) (by omega) hled)
      rw [hw2]
      clear hw2 hb2 hall hmem hby HI
      go_wp2_with fail
      refine (XW.out).mono ?_
      rintro e w3 ⟨vk, rfl, ok, hb3⟩
      have HB23 := Lib.hid hb3
      have XR := Lib.hid (kread_any vk _ w3 (OwnI.rd ok) HBY.out hwl)
      clear ok hb3 XW
      go_wp2_with fail
      refine (XR.out).mono ?_
      rintro e w4 ⟨hor, hb4⟩
      have HB24 := Lib.hid (HB23.out.trans (hb4.mono HB23.out.size))
      have XT := Lib.hid (XRT.out w4 HB24.out)
      clear hb4 XR XRT
      rcases hor with ⟨g, k', L', led', F, rfl, hk, hka, _⟩ | ⟨rfl, hno⟩
      · obtain ⟨e1, e2, e3⟩ := HOWN.out k' L' led' hk
        subst e1; subst e2; subst e3
        rw [rightB_yes hk.right] at XT
        have hlv := hk.right.hlen
        have HKA := Lib.hid hka
        clear hk hka
        go_wp2_with fail
        refine (XT.out).mono ?_
        rintro e w5 ⟨rfl, hb5⟩
        have HB25 := Lib.hid (HB24.out.trans (hb5.mono HB24.out.size))
        obtain ⟨lv, vs, hks⟩ := HKA.out.keep hb5
        have HKS := Lib.hid hks
        have XSZ := Lib.hid (size_any w5 hks)
        have XLE := Lib.hid (ledger_any w5 hks)
        have XLV := Lib.hid (levels_any w5 hks (by omega) (by omega))
        clear hb5 hks XT
        go_wp2_with fail
        refine (XSZ.out).mono ?_
        rintro e w6 ⟨rfl, hw⟩
        subst hw
        go_wp2_with fail
        refine (XLE.out).mono ?_
        rintro e w6 ⟨rfl, hw⟩
        subst hw
        go_wp2_with fail
        refine (XLV.out).mono ?_
        rintro e w6 ⟨v6, vs6, rfl, hlo, hb6⟩
        have HB26 := Lib.hid (HB25.out.trans (hb6.mono HB25.out.size))
        have XSM := Lib.hid (rsame_any v6 _ L L w6 hlo.llr (HL2.out.keep HB26.out))
        rw [decide_eq_true rfl] at XSM
        clear hlo hb6 XLV
        go_wp2_with fail
        refine (XSM.out).mono ?_
        rintro e w7 ⟨rfl, q, rfl⟩
        go_wp2_with fail
        refine bodyPost_ret (by simp [results, Try.results12, go_sem, *]; try rfl) rfl ?_
        exact ⟨rfl, below_drewN (HB2.out.trans (HB26.out.mono HB2.out.size)) _⟩
      · have hnr : ¬ RightP k L led := fun h => by
          obtain ⟨kn, rfl⟩ : ∃ kn : Nat, k = kn := ⟨k.toNat, by omega⟩
          exact hno kn L led ⟨h, HBD.out, rfl⟩
        rw [rightB_no hnr] at XT
        clear hnr hno
        go_wp2_with fail
        refine (XT.out).mono ?_
        rintro e w5 ⟨rfl, hb5⟩
        have HB25 := Lib.hid (HB24.out.trans (hb5.mono HB24.out.size))
        clear hb5 XT
        go_wp2_with fail
        refine bodyPost_ret (by simp [results, Try.results12, go_sem, *]; try rfl) rfl ?_
        exact ⟨rfl, HB2.out.trans (HB25.out.mono HB2.out.size)⟩
end Go.Proofs.Ytigmncogjbbmhaa
