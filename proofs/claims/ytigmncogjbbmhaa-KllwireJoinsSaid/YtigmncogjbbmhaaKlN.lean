/- Take, of the reference. Conditions: what a stack keeps. -/
import Derived.Test.YtigmncogjbbmhaaKlM
namespace Go.Proofs.Ytigmncogjbbmhaa
open Go.RowKit

theorem PkOk.lenL {L : LL} {led a : Nat} (h : PkOk (L, led, a)) : L.length ≤ 49 := h.len
theorem PkOk.cntL {L : LL} {led a : Nat} (h : PkOk (L, led, a)) : Go.Proofs.Ytigmncogjbbmhaa.cnt L ≤ 1000000 := h.cnt
theorem PkOk.wtL {L : LL} {led a : Nat} (h : PkOk (L, led, a)) : Go.Proofs.Ytigmncogjbbmhaa.wt L ≤ 281474976710656 := h.wt
structure RTkAt (F : Nat → Prop) (w : World) (g k led : Nat) (L1 M : LL) (lw : Value) (ws : List Sv) (F1 : Nat → Prop) (wr : World) (lv : Value) (vs : List Sv) : Prop where
  st : Rst F1 wr g k led lv vs L1
  al : AsideL F1 wr lw ws M
  sub : ∀ k, F1 k → F k ∨ w.heap.size ≤ k
  touch : Touch F w wr
set_option maxRecDepth 100000 in
set_option maxHeartbeats 16000000 in
theorem rtake_yes {F G : Nat → Prop} {g h k led led2 cg a b : Nat} {cv lv lv2 : Value} {vs vs2 : List Sv} {B : List Int} {L M : LL} (w : World) (hs : Rst F w g k led lv vs L) (ht : Rst G w h k led2 lv2 vs2 M) (hco : RC w cg cv B a) (hf : RoFar F w cg cv)
    (hok : PkOk (L, led, a)) (hom : PkOk (M, led2, b)) (hnm : wt L + wt M ≤ 281474976710656) (hcn : cnt L + cnt M ≤ 900000) (h2 : 2 ≤ k) (hk : k ≤ 1000000) :
    Calls Try.prog 56 #[.pointer (some ⟨g, 0, none⟩), .pointer (some ⟨h, 0, none⟩), .pointer (some ⟨cg, 0, none⟩)] w fun e w' => e = .returned (.int .i64 0) ∧ ∃ F' lv' vs', RkAt F w g k cg cv B (takeL L M, min (led + led2) 4611686018427387904, a) F' w' lv' vs' (packA k B (takeL L M, min (led + led2) 4611686018427387904, a)) := by
  obtain ⟨i0, hi0, hiz, his, hib⟩ := info_parts i64I
  have HI := Lib.hid hi0
  have HZ := Lib.hid hiz
  have HSZ := Lib.hid his
  have HBY := Lib.hid hib
  clear hi0 hiz his hib
  obtain ⟨i1, hi0, hiz, his, hib⟩ := info_parts slI
  have JI := Lib.hid hi0
  have JZ := Lib.hid hiz
  have JSZ := Lib.hid his
  have JBY := Lib.hid hib
  clear hi0 hiz his hib
  have HOKA := Lib.hid (pkOk_take hok hom hnm hcn)
  have HTA := Lib.hid (takeR_all (L := L) hom.top)
  have HTO1 := Lib.hid (fun d => rtotal_any (w.drewN d) (hs.keep (below_drewN (Below.refl _ _) d)) hok.wtL hok.lenL)
  have HTO2 := Lib.hid (fun d => rtotal_any (w.drewN d) (ht.keep (below_drewN (Below.refl _ _) d)) hom.wtL hom.lenL)
  have HT := Lib.hid ht
  have HS := Lib.hid hs
  have HCO := Lib.hid hco
  have HF := Lib.hid hf
  have hledb : led ≤ 4611686018427387904 := hok.led
  have hled2 : led2 ≤ 4611686018427387904 := hom.led
  have hlenL := hok.lenL
  have hlenM := hom.lenL
  have c0 := hs.cell0
  have C2 := Lib.hid hs.cell2
  have d0 := ht.cell0
  have D2 := Lib.hid ht.cell2
  have D1 := Lib.hid ht.cell1
  have hgw := hs.blk.lt
  have hhw := ht.blk.lt
  obtain ⟨n, hn⟩ : ∃ n, wt L = n := ⟨_, rfl⟩
  obtain ⟨m, hm⟩ : ∃ m, wt M = m := ⟨_, rfl⟩
  rw [hn, hm] at hnm
  rw [hn] at HTO1
  rw [hm] at HTO2
  have hov : ¬ (m : Int) > 281474976710656 - (n : Int) := by omega
  clear hs ht hco hf hok hom hn hm
  go_enter Try.func56, Try.ntmps56
  go_wp2_with fail
  go_quiet (fail)
  clear c0 d0
  go_wp2_with fail
  refine ((HTO2.out _)).mono ?_
  rintro e w1 ⟨rfl, rfl⟩
  go_wp2_with fail
  refine ((HTO1.out _)).mono ?_
  rintro e w1 ⟨rfl, rfl⟩
  go_wp2_with fail
  have hbq : Below w.heap.size w (w.drewN nq) := below_drewN (Below.refl _ _) _
  have hszq : (w.drewN nq).heap.size = w.heap.size := rfl
  have HS1 := Lib.hid (HS.out.keep hbq)
  have HBQ := Lib.hid hbq
  have HSQ := Lib.hid hszq
  obtain ⟨wq, hwq⟩ : ∃ x, w.drewN nq = x := ⟨_, rfl⟩
  rw [hwq] at HS1 HBQ HSQ ⊢
  clear hwq hbq hszq
  have hsz := HSQ.out
  obtain ⟨A2, cM, elv, hcM1, hcM2, _⟩ := HT.out.form
  subst elv
  go_loopg [7, 8] M.length (fun q o i wr => ∃ (j : Nat) (vs1 : List Sv), q = M.length - j ∧ j ≤ M.length ∧ i = .int .i64 (j : Int) ∧ Hid (LLO w.heap.size wr o vs1 (M.take j)) ∧ Hid (∀ s ∈ vs1, ∀ k, (svV s).ownBlock = some k → o.ownBlock ≠ some k) ∧ Hid (Below w.heap.size w wr))
  case atStart => exact ⟨0, [], by omega, by omega, rfl, Lib.hid (LLO.nil_ _ _), Lib.hid (fun i hi => absurd hi (by simp)), HBQ⟩
  case round =>
    obtain ⟨j, vs1, hq, hj, rfl, HO, HD, HB⟩ := hrel
    have HQ := Lib.hid hq
    clear hq
    have hz := HB.out.size
    have d1 := (HB.out.cell (p := ⟨h, 1, none⟩) hhw).trans D1.out
    by_cases hjl : j < M.length
    · obtain ⟨gl, cc, sA, sc, elv, hgl, _, _, _, c2, _, ol, _⟩ := HT.out.at_ hjl
      injection elv with elv e2 e3
      subst elv; subst e3
      have HOL := Lib.hid (ol.rd.keep HB.out)
      have HTS := Lib.hid (take_snoc hjl)
      have hlj : (lvl M j).length ≤ 900000 := by have := lvl_le_cnt M j; omega
      have c3 := (HB.out.cell (p := ⟨gl, j, none⟩) hgl).trans c2
      obtain ⟨x, hx⟩ : ∃ x, lvl M j = x := ⟨_, rfl⟩
      rw [hx] at HTS HOL c3 hlj
      have hvl : vs1.length = j := by rw [HO.out.len, List.length_take]; omega
      obtain ⟨A1, c1', rfl, _, _, _⟩ := HO.out.row.form
      rw [hvl] at HO HD ⊢
      clear hx ol c2
      have hxl : vs1.length ≤ 1000 := by omega
      have hhr : h < wr.heap.size := by omega
      have hglr : gl < wr.heap.size := by omega
      go_wp2_with (first
        | (at_builtin; refine wpList_append_E i64E (ts := 24) i0 _ 8 Try.underlying24 HI.out HZ.out HSZ.out HBY.out rfl (by decide) (by decide) rfl (.tmp 36) (.tmp 43) rfl wr.heap.size _ [] rfl (OwnE.lit (E := i64E) wr [] _ rfl _ rfl (by decide)) _ x rfl (HOL.out.keep (by (repeat' (first | (with_reducible exact Below.refl _ _) | (with_reducible refine Below.alloc ?_ ?_ _) | (with_reducible refine Below.drew ?_) | (with_reducible refine below_drewN ?_ _) | (with_reducible refine Below.setCell ?_ ?_ _) | (with_reducible refine below_of (by assumption) ?_ ?_) | go_size)))) (by simp; omega) (by simp) ?_; intro v5 w5 o5 g5 a5; simp only [List.nil_append] at o5; have B5 : Below wr.heap.size wr w5 := (Below.alloc (Below.refl _ _) (Nat.le_refl _) _).grown g5 (by simp) (fun k hk => by have := Option.some.inj (show some wr.heap.size = some k from hk); omega); have hz5 := B5.size; obtain ⟨A5, c5, rfl, _, _, _⟩ := o5.form; have O5 := Lib.hid o5; clear o5 g5 a5; go_simp)
        | (at_builtin; refine wpList_append_E slE (ts := 48) i1 _ 24 Try.underlying48 JI.out JZ.out JSZ.out JBY.out rfl (by decide) (by decide) rfl (.tmp 35) (.tmp 45) rfl w.heap.size (.slice A1 j c1') vs1 rfl ((HO.out.row.keep B5).alloc _) _ [(A5, x.length, c5)] rfl (RdE.one_at (E := slE) w5 (A5, x.length, c5) _ rfl _ rfl _ rfl) (by simp; omega) (by simp; omega) ?_; intro v7 w7 o7 g7 a7; have O7 := Lib.hid o7; have G7 := Lib.hid g7; have A7 := Lib.hid a7; clear o7 g7 a7))
      have hd : ∀ s ∈ vs1, ∀ k, (svV s).ownBlock = some k → k < wr.heap.size := fun s hs k e => by
        obtain ⟨i, hi, rfl⟩ := List.getElem_of_mem hs
        exact ((HO.out.each i hi).lt k e).2
      have hbw : Below wr.heap.size wr (w5.alloc (.cells #[.slice A5 x.length c5] 24)) := B5.alloc hz5 _
      have hnew : ∀ k, (Value.slice A1 j c1').ownBlock = some k → w.heap.size ≤ k ∧ k < wr.heap.size := fun k e => HO.out.row.lt k e
      have hfr : ∀ k, (svV (A5, x.length, c5)).ownBlock = some k → wr.heap.size ≤ k ∧ k < w5.heap.size := fun k e => O5.out.lt k e
      have hlo := LLO.snoc HO.out hbw (O5.out.alloc _ |>.more hz) O7.out G7.out (fun i hi k e => HD.out _ (List.getElem_mem hi) k e) (fun k e e2 => by have := hfr k e; have := hnew k e2; omega)
      rw [← HTS.out] at hlo
      have HLO := Lib.hid hlo
      have HDD : Hid (∀ s ∈ vs1 ++ [(A5, x.length, c5)], ∀ k, (svV s).ownBlock = some k → v7.ownBlock ≠ some k) := Lib.hid fun s hs k e => by
        have hasz : (w5.alloc (.cells #[.slice A5 x.length c5] 24)).heap.size = w5.heap.size + 1 := by simp
        rcases List.mem_append.1 hs with h1 | h1
        · rcases A7.out with e2 | e2
          · rw [e2]; exact HD.out s h1 k e
          · rw [e2]; intro e3
            have e3 := Option.some.inj e3
            have := hd s h1 k e; omega
        · obtain rfl := List.mem_singleton.1 h1
          have h2 := hfr k e
          rcases A7.out with e2 | e2
          · rw [e2]; intro e3
            have := hnew k e3; omega
          · rw [e2]; intro e3
            have e3 := Option.some.inj e3
            omega
      have HBB : Hid (Below w.heap.size w w7) := Lib.hid ((HB.out.trans (hbw.mono hz)).grown G7.out (by simp; omega) (fun k hk => (hnew k hk).1))
      clear hlo hd hbw hnew hfr
      go_roundg (M.length - (j + 1))
      case measure => have := HQ.out; omega
      case rel => exact ⟨j + 1, _, rfl, by omega, by go_num, HLO, HDD, HBB⟩
    · obtain rfl : j = M.length := by omega
      have ho := HO.out
      rw [List.take_length] at ho
      have HA1 : Hid (AsideL F wr u7 vs1 M) := Lib.hid (AsideL.of_own ho fun kk e => HS.out.low kk e)
      have HS1' := Lib.hid (HS.out.keep HB.out)
      have HTW := Lib.hid (Touch.of_below (F := F) HB.out (Nat.le_refl _))
      have hgr : g < wr.heap.size := by omega
      have hhr : h < wr.heap.size := by omega
      have K2 := Lib.hid HS1'.out.cell2
      have F2 := Lib.hid (HS1'.out.blk.frozen 2)
      have E2 := Lib.hid ((HB.out.cell (p := ⟨h, 2, none⟩) hhw).trans D2.out)
      clear ho HO HD HB
      go_upto_region 10 with fail
      clear d1
      refine wp_region_planS (fun w' => Below wr.heap.size wr w') 13 [(0, 1), (1, 1), (2, 1), (3, 1), (4, 1), (5, 1), (6, 1), (7, 1), (8, 1), (9, 1), (10, 1), (11, 2), (12, 1), (13, 0)] (by kernel_rfl) (by kernel_rfl) ((Below.refl _ _).drew) ?_
      iterate 11
        refine wpPlanS_read (by rfl) (by rfl) (fun R hR => ?_)
        apply Exists.intro
        refine ⟨fun w' hS' => ?_, ?_⟩
        · have k2 := (hS'.cell (p := ⟨g, 2, none⟩) hgr).trans K2.out
          have e2' := (hS'.cell (p := ⟨h, 2, none⟩) hhr).trans E2.out
          go_simp
          exact ⟨rfl, rfl⟩
        go_simp
        refine hR _ ?_
        clear hR R
      iterate 1
        refine wpPlanS_pure (by rfl) (by rfl) (fun R hR => ?_)
        apply Exists.intro
        refine ⟨fun w' => ?_, ?_⟩
        · go_simp
          exact ⟨rfl, rfl⟩
        go_simp
        refine hR _ ?_
        clear hR R
      iterate 1
        refine wpPlanS_read (by rfl) (by rfl) (fun R hR => ?_)
        apply Exists.intro
        refine ⟨fun w' hS' => ?_, ?_⟩
        · have k2 := (hS'.cell (p := ⟨g, 2, none⟩) hgr).trans K2.out
          have e2' := (hS'.cell (p := ⟨h, 2, none⟩) hhr).trans E2.out
          go_simp
          exact ⟨rfl, rfl⟩
        go_simp
        refine hR _ ?_
        clear hR R
      refine wpPlanS_end (by rfl) (by rfl) (by rfl) (fun K hK => ?_)
      have k9 : (wr.drew).cell? ⟨g, 2, none⟩ = _ := K2.out
      have f9 : (wr.drew).frozen? ⟨g, 2, none⟩ = false := F2.out
      go_simp
      refine hK _ _ ?_
      clear hK K
      refine wpPlanS_nil ?_
      have HMI : Hid (min (IntKind.u64.wrap ((led : Int) + (led2 : Int))) 4611686018427387904 = ((min (led + led2) 4611686018427387904 : Nat) : Int)) := Lib.hid (by rw [IntKind.wrap_u64]; omega)
      rw [HMI.out]
      obtain ⟨ld, hld⟩ : ∃ ld, min (led + led2) 4611686018427387904 = ld := ⟨_, rfl⟩
      rw [hld] at HOKA ⊢
      have HLDE := Lib.hid hld
      have hst3 : Rst F ((wr.setCell ⟨g, 2, none⟩ (.int .u64 (ld : Nat))).drew) g k ld lv vs L := (HS1'.out.put2 (.int .u64 (ld : Nat))).keep (Below.refl _ _).drew
      have HT3 : Hid (Touch F w ((wr.setCell ⟨g, 2, none⟩ (.int .u64 (ld : Nat))).drew)) := Lib.hid (Touch.drew (HTW.out.setCell (.inl HS1'.out.fg) _))
      have HA3 : Hid (AsideL F ((wr.setCell ⟨g, 2, none⟩ (.int .u64 (ld : Nat))).drew) u7 vs1 M) := Lib.hid (HA1.out.next (fun kk _ h1 => Below.heap_setCell wr ⟨g, 2, none⟩ _ kk (fun e => h1 (by rw [e]; exact HS1'.out.fg))) (by simp [World.drew]) (fun kk e => .inl e))
      have HS3 := Lib.hid hst3
      obtain ⟨w3, hw3⟩ : ∃ x, (wr.setCell ⟨g, 2, none⟩ (.int .u64 (ld : Nat))).drew = x := ⟨_, rfl⟩
      rw [hw3] at HS3 HT3 HA3
      show Exit.then _ _ Exit.normal _ ((wr.setCell ⟨g, 2, none⟩ (.int .u64 (ld : Nat))).drew)
      rw [hw3]
      clear hw3 hst3 k9 f9 hld HMI K2 F2 E2 HS1' HTW HA1 hov
      have hz3 := HT3.out.size
      obtain ⟨A0, c0, elw, hc01, hc02, _⟩ := HA3.out.now.row.form
      rw [HA3.out.now.len] at elw hc01
      subst elw
      have HA0 : Hid (RTkAt F w g k ld (takeR M 0 L) M (.slice A0 M.length c0) vs1 F w3 lv vs) := Lib.hid ⟨HS3.out, HA3.out, fun _ h => .inl h, HT3.out⟩
      clear HS3 HA3 HT3
      go_wp2_with fail
      go_loopg [9, 10] M.length (fun q i _ wr => ∃ (j : Nat) (F1 : Nat → Prop) (lv1 : Value) (vs2 : List Sv), q = M.length - j ∧ j ≤ M.length ∧ i = .int .i64 (j : Int) ∧ Hid (RTkAt F w g k ld (takeR M j L) M (.slice A0 M.length c0) vs1 F1 wr lv1 vs2))
      case atStart => exact ⟨0, F, lv, vs, by omega, by omega, rfl, HA0⟩
      case round =>
        obtain ⟨j, F1, lv1, vs2, hq, hj, rfl, HA⟩ := hrel
        have HQ2 := Lib.hid hq
        clear hq
        by_cases hjl : j < M.length
        · have hlj : (lvl M j).length ≤ 900000 := by have := lvl_le_cnt M j; omega
          have HAL := Lib.hid (takeI_all M L j)
          have HI0 : Hid (RTkAt F w g k ld (takeI M L j 0) M (.slice A0 M.length c0) vs1 F1 wr lv1 vs2) := HA
          have HIL : Hid (∀ i, (takeI M L j i).length ≤ 49) := Lib.hid fun i => by have := takeI_len M L j i; omega
          have HIC : Hid (∀ i, cnt (takeI M L j i) ≤ 900000 + i) := Lib.hid fun i => by have := takeI_cnt (L := L) (i := i) (show j ≤ M.length by omega); omega
          clear HA
          go_wp2_with fail
          go_loopg [10] (lvl M j).length (fun q i wr => ∃ (t : Nat) (F1 : Nat → Prop) (lv1 : Value) (vs2 : List Sv), q = (lvl M j).length - t ∧ t ≤ (lvl M j).length ∧ i = .int .i64 (t : Int) ∧ Hid (RTkAt F w g k ld (takeI M L j t) M (.slice A0 M.length c0) vs1 F1 wr lv1 vs2))
          case atStart => exact ⟨0, F1, lv1, vs2, by omega, by omega, rfl, HI0⟩
          case round =>
            obtain ⟨t, F2, lv2', vs3, hq, ht, rfl, HB⟩ := hrel
            have HQ3 := Lib.hid hq
            clear hq
            obtain ⟨gl, off, sA, sc, eA, hgl, _, c2, rA⟩ := HB.out.al.now.at_ hjl
            subst eA
            obtain ⟨_, _, ea, ha3, ha4, fa⟩ := rA.form
            injection ea with ea1 ea2 ea3
            subst ea1; subst ea3
            have FA := Lib.hid fa
            have hszr := HB.out.touch.size
            clear rA fa ea2
            by_cases htl : t < (lvl M j).length
            · obtain ⟨ga, oa, eA, hga, ka⟩ := FA.out.i64 htl
              subst eA
              have HSU := Lib.hid (takeI_succ (L := L) htl)
              obtain ⟨x, hx⟩ : ∃ x, (lvl M j)[t] = x := ⟨_, rfl⟩
              rw [hx] at ka HSU
              have HPU := Lib.hid (rput_any j x wr HB.out.st (by omega) (by have := HIL.out t; omega) (by have := lvl_le_cnt (takeI M L j t) j; have := HIC.out t; omega))
              obtain ⟨y, hy⟩ : ∃ y, (lvl M j).length = y := ⟨_, rfl⟩
              rw [hy] at c2 ha3 htl ht HQ3
              have HYE := Lib.hid hy
              clear hx hy
              go_wp2_with fail
              refine (HPU.out).mono ?_
              rintro e w5 ⟨rfl, F5, lv5, vs5, q1, q2, q3, q4⟩
              rw [HSU.out] at q3
              have hnx : RTkAt F w g k ld (takeI M L j (t + 1)) M (.slice (some ⟨gl, off, none⟩) M.length c0) vs1 F5 w5 lv5 vs5 := by
                refine ⟨q3, HB.out.al.next (fun kk h1 h2 => q4.block kk h1 h2) q4.size q1, fun kk hk1 => ?_, HB.out.touch.trans q4 fun i hi => HB.out.sub i hi⟩
                rcases q1 kk hk1 with h1 | h1
                · exact HB.out.sub kk h1
                · exact .inr (by omega)
              have HNX := Lib.hid hnx
              clear q1 q2 q3 q4 hnx HPU c2
              go_wp2_with fail
              go_roundg ((lvl M j).length - (t + 1))
              case measure => have := HQ3.out; have := HYE.out; omega
              case rel => exact ⟨t + 1, F5, lv5, vs5, rfl, by have := HYE.out; omega, by go_num, HNX⟩
            · obtain rfl : t = (lvl M j).length := by omega
              have hb1 := HB.out
              rw [HAL.out] at hb1
              have HB1 := Lib.hid hb1
              clear hb1 HB
              obtain ⟨y, hy⟩ : ∃ y, (lvl M j).length = y := ⟨_, rfl⟩
              rw [hy] at c2 ha3 hlj ⊢
              clear hy
              go_wp2_with fail
              go_roundg (M.length - (j + 1))
              case measure => have := HQ2.out; omega
              case rel => exact ⟨j + 1, F2, lv2', vs3, rfl, by omega, by go_num, HB1⟩
        · obtain rfl : j = M.length := by omega
          have ha2 := HA.out
          rw [HTA.out] at ha2
          have HP := Lib.hid (rpack_any (s0 := (takeL L M, ld, a)) wr ha2.st (HCO.out.touch HF.out ha2.touch) (HF.out.next ha2.sub ha2.touch.size) HOKA.out h2 hk)
          have HA2 := Lib.hid ha2
          clear ha2 HA
          go_wp2_with fail
          refine (HP.out).mono ?_
          rintro e w2 ⟨rfl, F2, lv2, vs2, q1⟩
          have Q1 := Lib.hid q1
          clear q1 HP
          go_wp2_with fail
          refine bodyPost_ret (by simp [results, Try.results56, go_sem, *]; try rfl) rfl ?_
          rw [HLDE.out]
          exact ⟨rfl, F2, lv2, vs2, Q1.out.back HA2.out.sub HA2.out.touch⟩
set_option maxHeartbeats 1000000 in
theorem rtake_kind {F G : Nat → Prop} {g h k k2 led led2 : Nat} {lv lv2 : Value} {vs vs2 : List Sv} {L M : LL} (q : Value) (w : World) (hs : Rst F w g k led lv vs L) (ht : Rst G w h k2 led2 lv2 vs2 M) (hk : k2 ≠ k) :
    Calls Try.prog 56 #[.pointer (some ⟨g, 0, none⟩), .pointer (some ⟨h, 0, none⟩), q] w fun e w' => e = .returned (.int .i64 3) ∧ ∃ n, w' = w.drewN n := by
  have c0 := hs.cell0
  have d0 := ht.cell0
  have hk' : ¬ (k2 : Int) = (k : Int) := by omega
  clear hs ht hk
  go_enter Try.func56, Try.ntmps56
  go_wp2_with fail
  go_quiet (fail)
  go_wp2_with fail
  refine bodyPost_ret (by simp [results, Try.results56, go_sem, *]; try rfl) rfl ?_
  exact ⟨rfl, by first | exact ⟨_, rfl⟩ | exact ⟨_, drewN_add _ _ _⟩⟩
set_option maxHeartbeats 1000000 in
theorem rtake_over {F G : Nat → Prop} {g h k led led2 a b : Nat} {lv lv2 : Value} {vs vs2 : List Sv} {L M : LL} (q : Value) (w : World) (hs : Rst F w g k led lv vs L) (ht : Rst G w h k led2 lv2 vs2 M) (hok : PkOk (L, led, a)) (hom : PkOk (M, led2, b)) (hnm : 281474976710656 < wt L + wt M) :
    Calls Try.prog 56 #[.pointer (some ⟨g, 0, none⟩), .pointer (some ⟨h, 0, none⟩), q] w fun e w' => e = .returned (.int .i64 6) ∧ ∃ n, w' = w.drewN n := by
  have HTO1 := Lib.hid (fun d => rtotal_any (w.drewN d) (hs.keep (below_drewN (Below.refl _ _) d)) hok.wtL hok.lenL)
  have HTO2 := Lib.hid (fun d => rtotal_any (w.drewN d) (ht.keep (below_drewN (Below.refl _ _) d)) hom.wtL hom.lenL)
  have c0 := hs.cell0
  have d0 := ht.cell0
  have h1 := hok.wtL
  have h2 := hom.wtL
  obtain ⟨n, hn⟩ : ∃ n, wt L = n := ⟨_, rfl⟩
  obtain ⟨m, hm⟩ : ∃ m, wt M = m := ⟨_, rfl⟩
  rw [hn, hm] at hnm
  rw [hn] at HTO1 h1
  rw [hm] at HTO2 h2
  have hov : (m : Int) > 281474976710656 - (n : Int) := by omega
  clear hs ht hok hom hn hm
  go_enter Try.func56, Try.ntmps56
  go_wp2_with fail
  go_quiet (fail)
  go_wp2_with fail
  refine ((HTO2.out _)).mono ?_
  rintro e w1 ⟨rfl, rfl⟩
  go_wp2_with fail
  refine ((HTO1.out _)).mono ?_
  rintro e w1 ⟨rfl, rfl⟩
  go_wp2_with fail
  refine bodyPost_ret (by simp [results, Try.results56, go_sem, *]; try rfl) rfl ?_
  exact ⟨rfl, by first | exact ⟨_, rfl⟩ | exact ⟨_, drewN_add _ _ _⟩⟩
end Go.Proofs.Ytigmncogjbbmhaa
