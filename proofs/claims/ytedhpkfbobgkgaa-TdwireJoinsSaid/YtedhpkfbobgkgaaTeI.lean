/- TdwireJoins' walk. -/
import Derived.Test.YtedhpkfbobgkgaaTeL
namespace Go.Proofs.Ytedhpkfbobgkgaa
open Go.RowKit Go.Lib

set_option maxRecDepth 100000 in
set_option maxHeartbeats 8000000 in
theorem joins_like (d : Int) (vl vk vn : Value) (cut : Int) (l kk n : List Int) (w : World) (d0 : 0 ≤ d) (d1 : d ≤ 65535) (hl : RdI .i64 w vl l) (hk : RdI .i64 w vk kk) (hn : RdI .u16 w vn n)
    (bl : ∀ x ∈ l, -9223372036854775808 ≤ x ∧ x ≤ 9223372036854775807) (bk : ∀ x ∈ kk, -9223372036854775808 ≤ x ∧ x ≤ 9223372036854775807) (bn : ∀ x ∈ n, 0 ≤ x ∧ x ≤ 65535) (ct0 : -9223372036854775808 ≤ cut) (ct1 : cut ≤ 9223372036854775807) :
    Calls Try.prog 16 #[.int .u16 d, vl, vk, vn, .bool false, .int .i64 cut] w fun e w' => e = .returned (.bool true) ∧ Below w.heap.size w w' := by
  obtain ⟨A, ca, rfl, na, ma, fa⟩ := hl.form
  obtain ⟨B, cb, rfl, nb, mb, fb⟩ := hn.form
  obtain ⟨C, cc, rfl, nc, mc, fc⟩ := hk.form
  have AD := fun w1 (hb : Below w.heap.size w w1) => Lib.hid (added23_any d _ _ false l n w1 d0 d1 (hl.keep hb) (hn.keep hb) bl bn)
  have AE := fun (e : Int) (e0 : 0 ≤ e) (e1 : e ≤ 65535) w1 (hb : Below w.heap.size w w1) => Lib.hid (added23_any e _ _ true kk [] w1 e0 e1 (hk.keep hb) (Rd.nil_ w1 1) bk (fun x hx => by cases hx))
  have FT := prO_fit false (uOf_fit (d := 10 + d % 60) (l := l) (n := n) (k := min l.length 80) bl (by omega) (by omega) (by omega))
  have FE := fun (e : Int) (e0 : 0 ≤ e) (e1 : e ≤ 65535) => prO_fit true (uOf_fit (d := 10 + e % 60) (l := kk) (n := []) (k := min kk.length 80) bk (by omega) (by omega) (by omega))
  have nS : tot ((prO false (10 + d % 60) (uOf (10 + d % 60) l n (min l.length 80))).L ++ (prO false (10 + d % 60) (uOf (10 + d % 60) l n (min l.length 80))).W) ≤ 42949672960000 := by
    rw [prO_tot, uOf_n]; have := (gave_tot l n (min l.length 80)).2; omega
  have nT : ∀ D : Int, tot ((prO true D (uOf D kk [] (min kk.length 80))).L ++ (prO true D (uOf D kk [] (min kk.length 80))).W) ≤ 42949672960000 := fun D => by
    rw [prO_tot, uOf_n]; have := (gave_tot kk [] (min kk.length 80)).2; omega
  clear hl hn hk fa fb fc bl bk bn
  have AF := AE d d0 d1
  have FU := FE d d0 d1
  have nU := nT (10 + d % 60)
  clear AE FE nT
  generalize prO true (10 + d % 60) (uOf (10 + d % 60) kk [] (min kk.length 80)) = t at *
  generalize prO false (10 + d % 60) (uOf (10 + d % 60) l n (min l.length 80)) = s at *
  generalize 10 + d % 60 = D at *
  have hkl : min l.length 80 ≤ 65536 := by omega
  have hkk : min kk.length 80 ≤ 65536 := by omega
  generalize min l.length 80 = k at *
  generalize min kk.length 80 = kt at *
  have FS := Lib.hid FT
  have FU' := Lib.hid FU
  have hls : s.L.length + s.W.length ≤ 1000000 := by have := FT.ok.len; omega
  have hlt : t.L.length + t.W.length ≤ 1000000 := by have := FU.ok.len; omega
  have FK : Hid (∃ k' : Nat, Fit D (s.take D t) k' ∧ k' ≤ k + 200000) := Lib.hid (take_fit FT FU (by omega))
  obtain ⟨k', fk, hk'⟩ := FK.out
  have FK' := Lib.hid fk
  have hlu : (s.take D t).L.length + (s.take D t).W.length ≤ 1000000 := by have := fk.ok.len; omega
  have HRAW := Lib.hid (okL.raw fk.ok.ok (by have := fk.t; omega))
  have HCAP := Lib.hid (show tot (t.L ++ t.W) ≤ 281474976710656 - tot (s.L ++ s.W) by omega)
  clear FK fk nS nU
  obtain ⟨us, hus⟩ : ∃ us, wrD D (s.take D t).L (s.take D t).W (s.take D t).lo (s.take D t).hi = us := ⟨_, rfl⟩
  have HUS := Lib.hid hus
  have hlu' : us.length ≤ 1000000000 := by rw [← hus]; exact wrD_len hlu
  clear hus
  obtain ⟨az, has⟩ : ∃ az, wrD D s.L s.W s.lo s.hi = az := ⟨_, rfl⟩
  obtain ⟨bs, hbs⟩ : ∃ bs, wrD D t.L t.W t.lo t.hi = bs := ⟨_, rfl⟩
  have HAS := Lib.hid has
  have HBS := Lib.hid hbs
  have RA : Hid (readT az = some ⟨D, s.lo, s.hi, s.L, s.W⟩) := Lib.hid (by rw [← has]; exact readT_S FT hkl)
  have RB : Hid (readT bs = some ⟨D, t.lo, t.hi, t.L, t.W⟩) := Lib.hid (by rw [← hbs]; exact readT_S FU hkk)
  have BA : Hid (byL az) := Lib.hid (by rw [← has]; exact leb_byS FT)
  have BB : Hid (byL bs) := Lib.hid (by rw [← hbs]; exact leb_byS FU)
  have hla : az.length ≤ 1000000000 := by rw [← has]; exact wrD_len hls
  have hlb : bs.length ≤ 1000000000 := by rw [← hbs]; exact wrD_len hlt
  have hlb0 : 0 < bs.length := by rw [← hbs]; exact wrD_pos
  clear FT FU has hbs
  go_enter Try.func16, Try.ntmps16
  go_wp2_with fail
  refine (alive23_any w).mono ?_
  rintro e w1 ⟨rfl, hb1⟩
  have hz1 := hb1.size
  go_wp2_with fail
  refine ((AD w1 hb1).out).mono ?_
  rintro e w2 ⟨g1, g2, rfl, F1, F2, q1, q2, q3, q4, q5, hb2⟩
  have hb02 := hb1.trans (hb2.mono hz1)
  have hz2 := hb2.size
  have D2 := Lib.hid q1
  have R2 := Lib.hid q2
  have Q5 := Lib.hid q5
  clear q1 q2 q3 q4 q5 AD
  go_wp2_with fail
  refine ((AF w2 hb02).out).mono ?_
  rintro e w3 ⟨g3, g4, rfl, F3, F4, q1, q2, q3, q4, q5, hb3⟩
  have hb03 := hb02.trans (hb3.mono (by omega))
  have hz3 := hb3.size
  have D3 : Hid (DgS w3 g1 F1 D s) := Lib.hid (Dg.keep D2.out hb3)
  have R3 : Hid (RDgS w3 g2 F2 D s) := Lib.hid (RDg.keep R2.out hb3)
  have Y3 : Hid (DgS w3 g3 F3 D t) := Lib.hid q1
  have V3 : Hid (RDgS w3 g4 F4 D t) := Lib.hid q2
  have HX24 : Hid (∀ k, F2 k → ¬ F4 k) := Lib.hid (fun k h1 h2 => by have := RDg.low R2.out k h1; have := q5 k h2; omega)
  clear q1 q2 q3 q4 q5 AF
  go_wp2_with fail
  refine (twrite_any g1 F1 D s k w3 D3.out FS.out).mono ?_
  rintro e w4 ⟨va, rfl, oa, hb4⟩
  rw [HAS.out] at oa
  obtain ⟨A3, c3, rfl, n3, m3, f3⟩ := (OwnI.rd oa).form
  have O4 := Lib.hid oa
  clear oa f3
  have hb04 := hb03.trans (hb4.mono (by omega))
  have hz4 := hb4.size
  have Y4 : Hid (DgS w4 g3 F3 D t) := Lib.hid (Dg.keep Y3.out hb4)
  go_wp2_with fail
  refine (twrite_any g3 F3 D t kt w4 Y4.out FU'.out).mono ?_
  rintro e w5 ⟨vb, rfl, ob, hb5⟩
  rw [HBS.out] at ob
  obtain ⟨gB, cB, rfl, lB, mB⟩ := OwnB.pos ob hlb0
  have P5 := Lib.hid ob
  clear ob
  have hb05 := hb04.trans (hb5.mono (by omega))
  have hz5 := hb5.size
  have R5 : Hid (RDgS w5 g2 F2 D s) := Lib.hid (RDg.keep R3.out (hb4.trans (hb5.mono hz4)))
  have V5 : Hid (RDgS w5 g4 F4 D t) := Lib.hid (RDg.keep V3.out (hb4.trans (hb5.mono hz4)))
  have O5 : Hid (OwnB w3.heap.size w5 (.slice A3 az.length c3) az) := Lib.hid (OwnI.keep O4.out hb5)
  go_wp2_with fail
  refine (join_yes _ _ az bs ⟨D, s.lo, s.hi, s.L, s.W⟩ ⟨D, t.lo, t.hi, t.L, t.W⟩ w5 (OwnI.rd O5.out) BA.out hla RA.out (OwnI.rd P5.out) BB.out hlb RB.out rfl HCAP.out k' FK'.out).mono ?_
  rintro e w6 ⟨v6, rfl, o6, hb6⟩
  have o6' : OwnB w5.heap.size w6 v6 us := by rw [← HUS.out]; exact o6
  clear o6
  obtain ⟨A6, c6, rfl, n6, m6, f6⟩ := (OwnI.rd o6').form
  have O6 := Lib.hid o6'
  clear o6' f6
  have hb06 := hb05.trans (hb6.mono (by omega))
  have hz6 := hb6.size
  have TK := Lib.hid (rtake_room w6 (RDg.keep R5.out hb6) (RDg.keep V5.out hb6) HX24.out FS.out FU'.out (by omega) HCAP.out)
  go_wp2_with fail
  refine (TK.out).mono ?_
  rintro e w7 ⟨rfl, F2', c1, c2, c3'⟩
  have hz7 := c3'.size
  have hb07 := hb06.trans (c3'.base (B := w.heap.size) (fun i hi => by have := Q5.out i hi; omega) (by omega))
  have R7 := Lib.hid c2
  have C7 : Hid (OwnB w5.heap.size w7 (.slice A6 us.length c6) us) := Lib.hid (OwnI.stay O6.out fun g hg => by have h1 := OwnI.lt O6.out g hg; exact c3'.block g h1.2 (fun hf => by have := RDg.low R2.out g hf; omega))
  have A7 : Hid (OwnB w3.heap.size w7 (.slice A3 az.length c3) az) := Lib.hid (OwnI.stay (OwnI.keep O5.out hb6) fun g hg => by have h1 := OwnI.lt O5.out g hg; exact c3'.block g (by omega) (fun hf => by have := RDg.low R2.out g hf; omega))
  have B7 : Hid (OwnB w4.heap.size w7 (.slice (some ⟨gB, 0, none⟩) bs.length cB) bs) := Lib.hid (OwnI.stay (OwnI.keep P5.out hb6) fun g hg => by have h1 := OwnI.lt P5.out g hg; exact c3'.block g (by omega) (fun hf => by have := RDg.low R2.out g hf; omega))
  clear TK c1 c2 c3' D2 D3 R2 R3 R5 V3 V5 Y3 Y4 O4 O5 O6 P5 HX24 Q5
  go_wp2_with fail
  have hw7 := hb07.size
  refine wp_region_plan (fun w' => Below w7.heap.size w7 w') [(0, true), (1, true), (2, true), (3, true), (4, true), (5, true), (6, true), (7, true), (8, true), (9, true), (10, true), (11, true), (12, true), (13, true), (14, true), (15, true), (16, true), (17, true), (18, true), (19, true), (20, true), (21, true), (22, false), (23, false), (24, true), (25, true), (26, true), (27, true)] (by kernel_rfl) (by kernel_rfl) ((Below.refl _ _).drew) ?_
  iterate 3
    refine wpPlan_read (by rfl) (by rfl) (fun R hR => ?_)
    apply Exists.intro
    refine ⟨fun w' hS' => ?_, ?_⟩
    · have k0 := conv_B (RdI.keep (OwnI.rd C7.out) hS')
      go_simp
      exact ⟨rfl, rfl⟩
    go_simp
    refine hR _ ?_
    clear hR R
  refine wpPlan_skip (by rfl) (by rfl) ?_
  refine wpPlan_skip (by rfl) (by rfl) ?_
  refine wpPlan_skip (by rfl) (by rfl) ?_
  refine wpPlan_skip (by rfl) (by rfl) ?_
  refine wpPlan_skip (by rfl) (by rfl) ?_
  refine wpPlan_skip (by rfl) (by rfl) ?_
  refine wpPlan_skip (by rfl) (by rfl) ?_
  refine wpPlan_skip (by rfl) (by rfl) ?_
  iterate 11
    refine wpPlan_read (by rfl) (by rfl) (fun R hR => ?_)
    apply Exists.intro
    refine ⟨fun w' hS' => ?_, ?_⟩
    · have k0 := conv_B (RdI.keep (OwnI.rd C7.out) hS')
      go_simp
      exact ⟨rfl, rfl⟩
    go_simp
    refine hR _ ?_
    clear hR R
  refine wpPlan_do (by rfl) (by rfl) (fun K hK => ?_)
  go_simp
  refine (rwrite_any g2 F2' D (s.take D t).lo (s.take D t).hi (s.take D t).L (s.take D t).W _ (RDg.keep R7.out (Below.refl _ _).drew) FK'.out.ok.rise (fun m hm => HRAW.out m (List.mem_append_left _ hm)) (fun m hm => HRAW.out m (List.mem_append_right _ hm)) (by omega) (by have := FK'.out.d0; omega) (by have := FK'.out.d1; omega) FK'.out.ok.lo0 FK'.out.ok.lo1 FK'.out.ok.hi0 FK'.out.ok.hi1).mono ?_
  rintro e w8 ⟨v8, rfl, o8, hb8⟩
  have hbw8 : Below w7.heap.size w7 w8 := (Below.refl _ _).drew.trans hb8
  have hz8 := hbw8.size
  rw [HUS.out] at o8
  have cb := conv_B (OwnI.rd o8)
  refine hK _ _ (hbw8) ?_
  clear hK K
  refine wpPlan_do (by rfl) (by rfl) (fun K hK => ?_)
  go_simp
  refine hK _ _ (hbw8) ?_
  clear hK K
  iterate 4
    refine wpPlan_read (by rfl) (by rfl) (fun R hR => ?_)
    apply Exists.intro
    refine ⟨fun w' hS' => ?_, ?_⟩
    · have k0 := conv_B (RdI.keep (OwnI.rd C7.out) hS')
      go_simp
      exact ⟨rfl, rfl⟩
    go_simp
    refine hR _ ?_
    clear hR R
  refine wpPlan_nil ?_
  have hb08 : Below w.heap.size w w8 := hb07.trans (hbw8.mono (by omega))
  have A8 : Hid (OwnB w3.heap.size w8 (.slice A3 az.length c3) az) := Lib.hid (OwnI.keep A7.out hbw8)
  have B8 : Hid (OwnB w4.heap.size w8 (.slice (some ⟨gB, 0, none⟩) bs.length cB) bs) := Lib.hid (OwnI.keep B7.out hbw8)
  clear cb o8 R7 C7 A7 B7 hbw8 hb8
  by_cases hcut : 0 ≤ cut ∧ cut < bs.length
  · obtain ⟨m, rfl⟩ := Int.eq_ofNat_of_zero_le hcut.1
    have hm : m < bs.length := by omega
    have hc0 : decide ((m : Int) < 0) = false := decide_eq_false (by omega)
    have hc1 : decide (bs.length ≤ m) = false := decide_eq_false (by omega)
    have CUT : Hid (RdI .u8 w8 (.slice (some ⟨gB, 0, none⟩) m cB) (bs.take m)) := Lib.hid (RdI.cut (OwnI.rd B8.out) (by omega))
    have RC : Hid (readT (bs.take m) = none) := Lib.hid (readT_cut BB.out RB.out hm)
    have BC : Hid (byL (bs.take m)) := Lib.hid (fun b hb => BB.out b (List.mem_of_mem_take hb))
    have hlc : (bs.take m).length ≤ 1000000000 := by rw [List.length_take]; omega
    clear hcut
    go_wp2_with fail
    refine (join_no2 _ _ az (bs.take m) ⟨D, s.lo, s.hi, s.L, s.W⟩ w8 (OwnI.rd A8.out) BA.out hla RA.out CUT.out BC.out hlc RC.out).mono ?_
    rintro e v1 ⟨rfl, bb1⟩
    have zz1 := bb1.size
    go_wp2_with fail
    refine (join_no1 _ _ (bs.take m) v1 (RdI.keep CUT.out bb1) BC.out hlc RC.out).mono ?_
    rintro e v2 ⟨rfl, bb2⟩
    go_wp2_with fail
    go_ret
    exact ⟨rfl, hb08.trans ((bb1.mono (by have := hb08.size; omega)).trans (bb2.mono (by have := hb08.size; omega)))⟩
  · by_cases hcn : cut < 0
    · go_wp2_with fail
      go_ret
      exact ⟨rfl, hb08⟩
    · have hc0 : decide (cut < 0) = false := decide_eq_false hcn
      have hcc : (bs.length : Int) ≤ cut := by omega
      go_wp2_with fail
      go_ret
      exact ⟨rfl, hb08⟩
end Go.Proofs.Ytedhpkfbobgkgaa
