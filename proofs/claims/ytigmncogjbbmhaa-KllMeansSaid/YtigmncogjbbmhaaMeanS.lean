/- The reference's mean. Conditions: there are means, their weights are positive and together at most 2^48. -/
import Derived.Test.YtigmncogjbbmhaaMeanR
import Derived.Test.YtigmncogjbbmhaaPlan
namespace Go.Proofs.Ytigmncogjbbmhaa
open Go.RowKit Go.Lib

/-- What the mean is reckoned of, above the least number. -/
structure MnFit (l : List Mn) (lw : Int) : Prop where
  lo : -9223372036854775808 ≤ lw
  le : ∀ m ∈ l, lw ≤ m.1 ∧ m.1 ≤ lw + 18446744073709551615
  mean : meanI l = lw + asum lw l / tot l
  q0 : 0 ≤ asum lw l / tot l
  q1 : lw + asum lw l / tot l ≤ 9223372036854775807
theorem MnFit.of {l : List Mn} (ho : okL l) (h0 : 0 < l.length) : MnFit l (lowL l[0].1 l) := by
  have hb := lowL_bd (-9223372036854775808) l[0].1 l (ho.get h0).1 (fun m hm => (ho m hm).1)
  have ht : 0 < tot l := by
    match l, h0 with
    | m :: l, _ =>
      have h1 := (ho m (List.mem_cons_self ..)).2.2
      have h2 := ho.tail.tot_nonneg
      simp only [tot]; omega
  obtain ⟨b1, b2, b3⟩ := hb
  have hle : ∀ m ∈ l, lowL l[0].1 l ≤ m.1 ∧ m.1 ≤ lowL l[0].1 l + 18446744073709551615 := fun m hm => by
    have := b3 m hm; have := (ho m hm).2.1; omega
  have ha := asum_bd ho hle
  have hm := meanI_above (lowL l[0].1 l) ht
  have hbd := meanI_bd (lo := lowL l[0].1 l) (hi := 9223372036854775807) ho ht (fun m hm => ⟨b3 m hm, (ho m hm).2.1⟩)
  refine ⟨b1, hle, hm, Int.ediv_nonneg ha.1 (by omega), ?_⟩
  unfold asum at *
  omega
theorem MnFit.take {l : List Mn} {lw : Int} (h : MnFit l lw) (ho : okL l) (ht : tot l ≤ 281474976710656) (j : Nat) : 0 ≤ asum lw (l.take j) ∧ asum lw (l.take j) ≤ 5192296858534827628530496329220096 := by
  have h1 := asum_bd (ho.take j) (fun m hm => h.le m (List.mem_of_mem_take hm))
  have h2 := (ho.tot_take j)
  omega
theorem MnFit.all {l : List Mn} {lw : Int} (h : MnFit l lw) (ho : okL l) (ht : tot l ≤ 281474976710656) : 0 ≤ asum lw l ∧ asum lw l ≤ 5192296858534827628530496329220096 := by
  have := h.take ho ht l.length
  rwa [List.take_length] at this
theorem MnFit.ret {l : List Mn} {lw : Int} (h : MnFit l lw) : wrap64 (IntKind.u64.wrap (IntKind.u64.wrap lw + asum lw l / tot l)) = meanI l := by
  have h1 := h.lo
  have h2 := h.q0
  have h3 := h.q1
  rw [h.mean]
  simp only [u64w, wrap64]
  omega

set_option maxRecDepth 100000 in
set_option maxHeartbeats 2000000 in
theorem rmean_any (vv vn : Value) (l : List Mn) (w : World) (hv : RdI .i64 w vv (l.map (·.1))) (hn : RdI .u64 w vn (l.map (·.2))) (ho : okL l) (h0 : 0 < l.length) (hl : l.length ≤ 1000000000) (ht : tot l ≤ 281474976710656) :
    Calls Try.prog 46 #[vv, vn] w fun e w' => e = .returned (.tuple #[.int .i64 (meanI l), .bool true]) ∧ Below w.heap.size w w' := by
  have hmk : ∀ W : World, (Instr.makeSlice 78 (.int .i64 8) (.int .i64 8)).run Try.prog W = .ok (.slice (some ⟨W.heap.size, 0, none⟩) 8 8) (W.alloc (.cells ((digs 8 0).map (Value.int .u64)).toArray 26)) := fun _ => by kernel_rfl
  obtain ⟨L0, hL0⟩ : ∃ L, digs 8 0 = L := ⟨_, rfl⟩
  rw [hL0] at hmk
  have HL := Lib.hid hL0
  clear hL0
  obtain ⟨A, cv, rfl, nv, mv, fv⟩ := hv.form
  obtain ⟨B, cn, rfl, nn, mn, fn⟩ := hn.form
  simp only [List.length_map] at nv nn ⊢
  obtain ⟨gv, ov, rfl, lv, _⟩ := fv.at_ (j := 0) (by simpa using h0)
  obtain ⟨gn, on, rfl, ln, _⟩ := fn.at_ (j := 0) (by simpa using h0)
  have FV : Hid (∀ j (h : j < l.length), w.cell? ⟨gv, ov + j, none⟩ = some (.int .i64 l[j].1)) := fun j h => by
    obtain ⟨g, off, e, _, hc⟩ := fv.at_ (j := j) (by simpa using h)
    simp only [Option.some.injEq, Addr.mk.injEq, and_true] at e
    obtain ⟨rfl, rfl⟩ := e
    simpa using hc
  have FN : Hid (∀ j (h : j < l.length), w.cell? ⟨gn, on + j, none⟩ = some (.int .u64 l[j].2)) := fun j h => by
    obtain ⟨g, off, e, _, hc⟩ := fn.at_ (j := j) (by simpa using h)
    simp only [Option.some.injEq, Addr.mk.injEq, and_true] at e
    obtain ⟨rfl, rfl⟩ := e
    simpa using hc
  clear hv hn fv fn
  have MF := Lib.hid (MnFit.of ho h0)
  have HO := Lib.hid ho
  have c0 := FV.out 0 h0
  have x00 := (ho.get h0).1
  have x01 := (ho.get h0).2.1
  have tp : 0 < tot l := by
    have h1 := ho.tot_get h0
    have h2 := (ho.get h0).2.2
    have h3 := (ho.tot_take 0).1
    omega
  have tp2 : (tot l == 0) = false := by simp; omega
  have h0i : (0 : Int) < (l.length : Int) := by omega
  obtain ⟨x0, hx0⟩ : ∃ x, l[0].1 = x := ⟨_, rfl⟩
  rw [hx0] at c0 x00 x01 MF
  simp only [Nat.add_zero] at c0
  have C0 := Lib.hid c0
  clear hx0 ho c0
  go_enter Try.func46, Try.ntmps46
  go_wp2_with fail
  go_loopg [6, 7] l.length (fun k n i wr => ∃ j : Nat, k = l.length - j ∧ j ≤ l.length ∧ i = .int .i64 j ∧ n = .int .u64 (tot (l.take j)) ∧ w = wr)
  case atStart => exact ⟨0, rfl, by omega, rfl, rfl, rfl⟩
  case round =>
    obtain ⟨j, hk, hj, rfl, rfl, rfl⟩ := hrel
    have HK := Lib.hid hk
    clear hk
    by_cases hlt : j < l.length
    · have q1 := FN.out j hlt
      have t0 := (HO.out.tot_take j).1
      have t1 := HO.out.tot_get hlt
      have o1 := (HO.out.get hlt).2.2
      have HT := Lib.hid (tot_take_succ l j hlt)
      generalize tot (l.take j) = a at *
      generalize l[j].2 = x at *
      have hd : decide (a + x < a) = false := decide_eq_false (by omega)
      go_wp2_with fail
      go_roundg (l.length - (j + 1))
      case measure => have := HK.out; omega
      case rel => exact ⟨j + 1, rfl, by omega, by go_num, by rw [HT.out], rfl⟩
    · have hE : Hid (tot (l.take j) = tot l) := by show _ = _; rw [List.take_of_length_le (by omega)]
      rw [hE.out]
      have c0 := C0.out
      go_wp2_with fail
      clear c0
      go_loopg [8, 9] l.length (fun k v i wr => ∃ j : Nat, k = l.length - j ∧ j ≤ l.length ∧ i = .int .i64 j ∧ v = .int .i64 (lowL x0 (l.take j)) ∧ w = wr)
      case atStart => exact ⟨0, rfl, by omega, rfl, rfl, rfl⟩
      case round =>
        obtain ⟨m, hk, hm, rfl, rfl, rfl⟩ := hrel
        have HK := Lib.hid hk
        clear hk
        by_cases hlt2 : m < l.length
        · have q1 := FV.out m hlt2
          have HT := Lib.hid (lowL_take_succ x0 l m hlt2)
          generalize lowL x0 (l.take m) = a at *
          generalize l[m].1 = x at *
          by_cases hlt3 : x < a
          · go_wp2_with fail
            go_roundg (l.length - (m + 1))
            case measure => have := HK.out; omega
            case rel => exact ⟨m + 1, rfl, by omega, by go_num, by rw [HT.out, Int.min_eq_right (by omega)], rfl⟩
          · go_wp2_with fail
            go_roundg (l.length - (m + 1))
            case measure => have := HK.out; omega
            case rel => exact ⟨m + 1, rfl, by omega, by go_num, by rw [HT.out, Int.min_eq_left (by omega)], rfl⟩
        · have hE2 : Hid (lowL x0 (l.take m) = lowL x0 l) := by show _ = _; rw [List.take_of_length_le (by omega)]
          rw [hE2.out]
          obtain ⟨lw, hlw⟩ : ∃ lw, lowL x0 l = lw := ⟨_, rfl⟩
          rw [hlw] at MF ⊢
          clear hlw hE2
          have lw0 := MF.out.lo
          go_wp2_with fail
          have I0 : Hid (IsR (w.alloc (.cells (L0.map (Value.int .u64)).toArray 26)) (.slice (some ⟨w.heap.size, 0, none⟩) 8 8) 0) := by
            refine IsR.of_D ⟨w.heap.size, rfl, ?_⟩
            rw [HL.out]; exact Blk.new _ _ _
          go_loopg [10, 11] l.length (fun k s i wr => ∃ j : Nat, k = l.length - j ∧ j ≤ l.length ∧ i = .int .i64 j ∧ IsR wr s (asum lw (l.take j)) ∧ Below w.heap.size w wr)
          case atStart => exact ⟨0, rfl, by omega, rfl, by rw [List.take_zero, asum_nil]; exact I0.out, by (repeat' (first | (with_reducible exact Below.refl _ _) | (with_reducible refine Below.alloc ?_ ?_ _) | (with_reducible refine Below.drew ?_) | (with_reducible refine below_drewN ?_ _) | (with_reducible refine Below.setCell ?_ ?_ _) | (with_reducible refine below_of (by assumption) ?_ ?_) | go_size))⟩
          case round =>
            obtain ⟨n, hk, hn, rfl, hs, hb⟩ := hrel
            have HK := Lib.hid hk
            have HS := Lib.hid hs
            have hz := hb.size
            clear hk
            by_cases hlt4 : n < l.length
            · have Q1 := Lib.hid ((hb.cell (p := ⟨gv, ov + n, none⟩) lv).trans (FV.out n hlt4))
              have Q2 := Lib.hid ((hb.cell (p := ⟨gn, on + n, none⟩) ln).trans (FN.out n hlt4))
              obtain ⟨a0, a1⟩ := MF.out.take HO.out ht n
              obtain ⟨b0, b1⟩ := MF.out.le l[n] (List.getElem_mem hlt4)
              have o1 := (HO.out.get hlt4).2.2
              have t1 := HO.out.tot_get hlt4
              have t0 := (HO.out.tot_take n).1
              have o2 : l[n].2 < 18446744073709551616 := by omega
              have x1 := (HO.out.get hlt4).2.1
              have HT := Lib.hid (asum_take_succ lw l n hlt4)
              obtain ⟨_, c1⟩ := MF.out.take HO.out ht (n + 1)
              rw [HT.out] at c1
              clear t1 t0
              generalize asum lw (l.take n) = a at *
              generalize l[n].1 = x at *
              generalize l[n].2 = y at *
              have EW := Lib.hid (show IntKind.u64.wrap (IntKind.u64.wrap x - IntKind.u64.wrap lw) = x - lw by simp only [u64w]; omega)
              have hi : (n : Int) < (l.length : Int) := by omega
              have lv2 : gv < wr.heap.size := by omega
              have ln2 : gn < wr.heap.size := by omega
              have p0 := Int.mul_nonneg (show 0 ≤ x - lw by omega) (show 0 ≤ y by omega)
              obtain ⟨wo, rfl⟩ : ∃ wo : World, wo = wr := ⟨_, rfl⟩
              go_wp2_with fail
              refine wp_region_plan (fun w' => Below wo.heap.size wo w') [(0, true), (1, true), (2, true), (3, true), (4, true), (5, true), (6, true), (7, true), (8, true), (9, true), (10, true), (11, true), (12, true), (13, false), (14, false), (15, true), (16, true), (17, true), (18, true)] (by kernel_rfl) (by kernel_rfl) ((Below.refl _ _).drew) ?_
              iterate 13
                refine wpPlan_read (by rfl) (by rfl) (fun R hR => ?_)
                apply Exists.intro
                refine ⟨fun w' hS' => ?_, ?_⟩
                · have k0 := (hS'.cell (p := ⟨gv, ov + n, none⟩) lv2).trans Q1.out
                  have k1 := (hS'.cell (p := ⟨gn, on + n, none⟩) ln2).trans Q2.out
                  have ew := EW.out
                  go_simp
                  exact ⟨rfl, rfl⟩
                go_simp
                refine hR _ ?_
                clear hR R
              refine wpPlan_do (by rfl) (by rfl) (fun K hK => ?_)
              go_simp
              refine (rmul_any (x - lw) y _ (by omega) (by omega) (by omega) o2).mono ?_
              rintro e w1 ⟨v1, rfl, d1, hb1⟩
              have hbw1 : Below wo.heap.size wo w1 := ((Below.refl _ _).drew).trans (hb1.mono (by go_size))
              have hz1 := hbw1.size
              have D1 := Lib.hid (IsR.of_D d1)
              clear d1
              refine hK _ _ (hbw1) ?_
              clear hK K
              refine wpPlan_do (by rfl) (by rfl) (fun K hK => ?_)
              go_simp
              refine (radd_any u10 v1 a ((x - lw) * y) w1 (HS.out.keep hbw1) D1.out a0 p0 (by omega)).mono ?_
              rintro e w2 ⟨v2, rfl, d2, hb2⟩
              have hbw2 : Below wo.heap.size wo w2 := hbw1.trans (hb2.mono hz1)
              have hz2 := hbw2.size
              have D2 := Lib.hid d2
              clear d2
              refine hK _ _ (hbw2) ?_
              clear hK K
              iterate 4
                refine wpPlan_read (by rfl) (by rfl) (fun R hR => ?_)
                apply Exists.intro
                refine ⟨fun w' hS' => ?_, ?_⟩
                · have k0 := (hS'.cell (p := ⟨gv, ov + n, none⟩) lv2).trans Q1.out
                  have k1 := (hS'.cell (p := ⟨gn, on + n, none⟩) ln2).trans Q2.out
                  have ew := EW.out
                  go_simp
                  exact ⟨rfl, rfl⟩
                go_simp
                refine hR _ ?_
                clear hR R
              refine wpPlan_nil ?_
              go_wp2_with fail
              go_roundg (l.length - (n + 1))
              case measure => have := HK.out; omega
              case rel => exact ⟨n + 1, rfl, by omega, by go_num, by rw [HT.out]; exact D2.out, hb.trans (hbw2.mono hz)⟩
            · have hE3 : Hid (asum lw (l.take n) = asum lw l) := by show _ = _; rw [List.take_of_length_le (by omega)]
              rw [hE3.out] at HS
              obtain ⟨a0, a1⟩ := MF.out.all HO.out ht
              have HM := Lib.hid MF.out.mean
              have HR := Lib.hid MF.out.ret
              have q0 := MF.out.q0
              have q1 := MF.out.q1
              go_wp2_with fail
              refine (rdivR_any u10 (asum lw l) (tot l) _ HS.out a0 (by omega) tp (by omega)).mono ?_
              rintro e w1 ⟨v1, rfl, d1, hb1⟩
              have D1 := Lib.hid d1
              have hz1 := hb1.size
              clear d1
              generalize asum lw l / tot l = Q at *
              go_wp2_with fail
              refine (number_any v1 Q 0 0 _ D1.out rfl (by omega)).mono ?_
              rw [show Q / 65536 ^ 0 % 18446744073709551616 = Q by rw [Int.pow_zero, Int.ediv_one]; omega]
              rintro e w2 ⟨rfl, hb2⟩
              have hz2 := hb2.size
              go_wp2_with fail
              go_ret2
              exact ⟨by rw [← HR.out]; rfl, by (repeat' (first | (with_reducible exact Below.refl _ _) | (with_reducible refine Below.alloc ?_ ?_ _) | (with_reducible refine Below.drew ?_) | (with_reducible refine below_drewN ?_ _) | (with_reducible refine Below.setCell ?_ ?_ _) | (with_reducible refine below_of (by assumption) ?_ ?_) | go_size))⟩
end Go.Proofs.Ytigmncogjbbmhaa
