/- TdwireWrites' walk. -/
import Derived.Test.YtedhpkfbobgkgaaTeE
import Derived.Test.YtedhpkfbobgkgaaTeF
import Derived.Test.YtedhpkfbobgkgaaSame
namespace Go.Proofs.Ytedhpkfbobgkgaa
open Go.RowKit Go.Lib

theorem prO_fit {d : Int} {s : St} {k : Nat} (pr : Bool) (h : Fit d s k) : Fit d (prO pr d s) k := by
  unfold prO
  split
  · exact Ok.pressS h
  · exact h

set_option maxRecDepth 100000 in
set_option maxHeartbeats 8000000 in
theorem twrites_any (d : Int) (vl vn : Value) (pr : Bool) (l n : List Int) (w : World) (d0 : 0 ≤ d) (d1 : d ≤ 65535) (hl : RdI .i64 w vl l) (hn : RdI .u16 w vn n)
    (bl : ∀ x ∈ l, -9223372036854775808 ≤ x ∧ x ≤ 9223372036854775807) (bn : ∀ x ∈ n, 0 ≤ x ∧ x ≤ 65535) :
    Calls Try.prog 14 #[.int .u16 d, vl, vn, .bool pr] w fun e w' => e = .returned (.bool true) ∧ Below w.heap.size w w' := by
  obtain ⟨A, ca, rfl, na, ma, fa⟩ := hl.form
  obtain ⟨B, cb, rfl, nb, mb, fb⟩ := hn.form
  have FT := prO_fit pr (uOf_fit (d := 10 + d % 60) (l := l) (n := n) (k := min l.length 80) bl (by omega) (by omega) (by omega))
  have AD := fun w1 (hb : Below w.heap.size w w1) => Lib.hid (added23_any d _ _ pr l n w1 d0 d1 (hl.keep hb) (hn.keep hb) bl bn)
  clear hl hn fa fb bl bn
  have hk : min l.length 80 ≤ 65536 := by omega
  generalize prO pr (10 + d % 60) (uOf (10 + d % 60) l n (min l.length 80)) = s at *
  generalize min l.length 80 = k at *
  generalize 10 + d % 60 = D at *
  have FT' := Lib.hid FT
  have hlw : s.L.length + s.W.length ≤ 1000000 := by have := FT.ok.len; omega
  have HRAW := Lib.hid (okL.raw FT.ok.ok (by have := FT.t; omega))
  obtain ⟨bs, hbs⟩ : ∃ bs, wrD D s.L s.W s.lo s.hi = bs := ⟨_, rfl⟩
  have HBS := Lib.hid hbs
  have HRT : Hid (readT bs = some ⟨D, s.lo, s.hi, s.L, s.W⟩) := Lib.hid (by rw [← hbs]; exact readT_S FT hk)
  have HBY : Hid (byL bs) := Lib.hid (by rw [← hbs]; exact leb_byS FT)
  have hlen : bs.length ≤ 1000000000 := by rw [← hbs]; exact wrD_len hlw
  clear FT hbs
  go_enter Try.func14, Try.ntmps14
  go_wp2_with fail
  refine (alive23_any w).mono ?_
  rintro e w1 ⟨rfl, hb1⟩
  have hz1 := hb1.size
  go_wp2_with fail
  refine ((AD w1 hb1).out).mono ?_
  rintro e w2 ⟨g1, g2, rfl, F1, F2, q1, q2, q3, q4, q5, hb2⟩
  have hb02 := hb1.trans (hb2.mono hz1)
  have hz2 := hb2.size
  have D2 := Lib.hid q1
  have R2 := Lib.hid q2
  clear q1 q2 q3 q4 q5 AD
  go_wp2_with fail
  refine (twrite_any g1 F1 D s k w2 D2.out FT'.out).mono ?_
  rintro e w3 ⟨va, rfl, oa, hb3⟩
  rw [HBS.out] at oa
  obtain ⟨A3, c3, rfl, n3, m3, f3⟩ := (OwnI.rd oa).form
  have O3 : Hid (RdI .u8 w3 (.slice A3 bs.length c3) bs) := Lib.hid (OwnI.rd oa)
  clear oa f3
  have hb03 := hb02.trans (hb3.mono (by omega))
  have hz3 := hb3.size
  have D3 : Hid (DgS w3 g1 F1 D s) := Lib.hid (Dg.keep D2.out hb3)
  have R3 : Hid (RDgS w3 g2 F2 D s) := Lib.hid (RDg.keep R2.out hb3)
  go_wp2_with fail
  refine (read_S (d := D) (s := s) _ w3 (by rw [HBS.out]; exact O3.out) FT'.out hk).mono ?_
  rintro e w4 ⟨g4, F4, rfl, q4, _, hb4⟩
  have hb04 := hb03.trans (hb4.mono (by omega))
  have hz4 := hb4.size
  have Y4 : Hid (DgS w4 g4 F4 D s) := Lib.hid q4
  have D4 : Hid (DgS w4 g1 F1 D s) := Lib.hid (Dg.keep D3.out hb4)
  have R4 : Hid (RDgS w4 g2 F2 D s) := Lib.hid (RDg.keep R3.out hb4)
  have O4 : Hid (RdI .u8 w4 (.slice A3 bs.length c3) bs) := Lib.hid (O3.out.keep hb4)
  clear q4
  go_wp2_with fail
  refine (weight_any _ bs w4 O4.out HBY.out hlen).mono ?_
  intro e w5 hP
  unfold WeightP at hP
  rw [HRT.out] at hP
  obtain ⟨rfl, hb5⟩ := hP
  have hb05 := hb04.trans (hb5.mono (by omega))
  have hz5 := hb5.size
  go_wp2_with fail
  refine (twrite_nil w5).mono ?_
  rintro e w6 ⟨rfl, hb6⟩
  have hb46 := hb5.trans (hb6.mono hz5)
  have hb06 := hb05.trans (hb6.mono (by omega))
  have Y6 : Hid (DgS w6 g4 F4 D s) := Lib.hid (Dg.keep Y4.out hb46)
  have D6 : Hid (DgS w6 g1 F1 D s) := Lib.hid (Dg.keep D4.out hb46)
  have R6 : Hid (RDgS w6 g2 F2 D s) := Lib.hid (RDg.keep R4.out hb46)
  have O6 : Hid (RdI .u8 w6 (.slice A3 bs.length c3) bs) := Lib.hid (O4.out.keep hb46)
  have HZ06 := Lib.hid hb06
  have hz06 := hb06.size
  clear D2 D3 D4 R2 R3 R4 Y4 O3 O4 hb1 hb2 hb3 hb4 hb5 hb6 hb46 hb02 hb03 hb04 hb05 hb06 hz1 hz2 hz3 hz4 hz5 n3 m3
  go_wp2_with fail
  refine wp_region_plan (fun w' => Below w6.heap.size w6 w') [(0, true), (1, true), (2, true), (3, true), (4, true), (5, true), (6, true), (7, true), (8, true), (9, true), (10, true), (11, true), (12, true), (13, true), (14, false), (15, false), (16, true), (17, true), (18, true), (19, true), (20, true), (21, true), (22, true), (23, true), (24, true), (25, false), (26, true), (27, true), (28, true), (29, true), (30, false), (31, false), (32, true), (33, true), (34, true), (35, true), (37, true), (38, true), (36, false), (39, true), (40, true), (41, true), (42, false), (43, true), (44, true), (45, true), (46, true), (47, true), (48, true), (49, true)] (by kernel_rfl) (by kernel_rfl) ((Below.refl _ _).drew) ?_
  iterate 14
    refine wpPlan_read (by rfl) (by rfl) (fun R hR => ?_)
    apply Exists.intro
    refine ⟨fun w' hS' => ?_, ?_⟩
    · have k0 := conv_B (O6.out.keep hS')
      go_simp
      exact ⟨rfl, rfl⟩
    go_simp
    refine hR _ ?_
    clear hR R
  refine wpPlan_do (by rfl) (by rfl) (fun K hK => ?_)
  go_simp
  refine (rwrite_any g2 F2 D s.lo s.hi s.L s.W _ (RDg.keep R6.out (Below.refl _ _).drew) FT'.out.ok.rise (fun m hm => HRAW.out m (List.mem_append_left _ hm)) (fun m hm => HRAW.out m (List.mem_append_right _ hm)) (by omega) (by have := FT'.out.d0; omega) (by have := FT'.out.d1; omega) FT'.out.ok.lo0 FT'.out.ok.lo1 FT'.out.ok.hi0 FT'.out.ok.hi1).mono ?_
  rintro e w7 ⟨v7, rfl, o7, hb7⟩
  have hbw7 : Below w6.heap.size w6 w7 := (Below.refl _ _).drew.trans hb7
  have hz7 := hbw7.size
  rw [HBS.out] at o7
  have cb := conv_B (OwnI.rd o7)
  clear o7
  refine hK _ _ (hbw7) ?_
  clear hK K
  refine wpPlan_do (by rfl) (by rfl) (fun K hK => ?_)
  go_simp
  refine hK _ _ (hbw7) ?_
  clear hK K
  iterate 9
    refine wpPlan_read (by rfl) (by rfl) (fun R hR => ?_)
    apply Exists.intro
    refine ⟨fun w' hS' => ?_, ?_⟩
    · have k0 := conv_B (O6.out.keep hS')
      go_simp
      exact ⟨rfl, rfl⟩
    go_simp
    refine hR _ ?_
    clear hR R
  refine wpPlan_do (by rfl) (by rfl) (fun K hK => ?_)
  go_simp
  refine (same_any w7 (Dg.keep Y6.out hbw7) (RDg.keep R6.out hbw7) FT'.out).mono ?_
  rintro e w8 ⟨rfl, hb8⟩
  clear cb
  have hbw8 : Below w6.heap.size w6 w8 := hbw7.trans (hb8.mono hz7)
  have hz8 := hbw8.size
  refine hK _ _ (hbw8) ?_
  clear hK K
  iterate 4
    refine wpPlan_read (by rfl) (by rfl) (fun R hR => ?_)
    apply Exists.intro
    refine ⟨fun w' hS' => ?_, ?_⟩
    · have k0 := conv_B (O6.out.keep hS')
      go_simp
      exact ⟨rfl, rfl⟩
    go_simp
    refine hR _ ?_
    clear hR R
  refine wpPlan_do (by rfl) (by rfl) (fun K hK => ?_)
  go_simp
  refine (rall_any g2 F2 D s.lo s.hi s.L s.W w8 (RDg.keep R6.out hbw8) (by omega)).mono ?_
  rintro e w9 ⟨v9, rfl, o9, hb9⟩
  have hbw9 : Below w6.heap.size w6 w9 := hbw8.trans (hb9.mono hz8)
  have hz9 := hbw9.size
  have O9 := Lib.hid o9
  clear o9
  refine hK _ _ (hbw9) ?_
  clear hK K
  refine wpPlan_do (by rfl) (by rfl) (fun K hK => ?_)
  go_simp
  refine (rtotal_any v9 _ w9 O9.out.rd FT'.out.ok.ok (by have := FT'.out.t; omega)).mono ?_
  rintro e w10 ⟨rfl, hb10⟩
  have hbw10 : Below w6.heap.size w6 w10 := hbw9.trans (hb10.mono hz9)
  have hz10 := hbw10.size
  refine hK _ _ (hbw10) ?_
  clear hK K
  iterate 6
    refine wpPlan_read (by rfl) (by rfl) (fun R hR => ?_)
    apply Exists.intro
    refine ⟨fun w' hS' => ?_, ?_⟩
    · have k0 := conv_B (O6.out.keep hS')
      go_simp
      exact ⟨rfl, rfl⟩
    go_simp
    refine hR _ ?_
    clear hR R
  refine wpPlan_do (by rfl) (by rfl) (fun K hK => ?_)
  go_simp
  refine (tsize_any g1 F1 D s k w10 (Dg.keep D6.out hbw10) FT'.out).mono ?_
  rw [HBS.out]
  rintro e w11 ⟨rfl, hb11⟩
  have hbw11 : Below w6.heap.size w6 w11 := hbw10.trans (hb11.mono hz10)
  have hz11 := hbw11.size
  refine hK _ _ (hbw11) ?_
  clear hK K
  iterate 3
    refine wpPlan_read (by rfl) (by rfl) (fun R hR => ?_)
    apply Exists.intro
    refine ⟨fun w' hS' => ?_, ?_⟩
    · have k0 := conv_B (O6.out.keep hS')
      go_simp
      exact ⟨rfl, rfl⟩
    go_simp
    refine hR _ ?_
    clear hR R
  refine wpPlan_do (by rfl) (by rfl) (fun K hK => ?_)
  go_simp
  refine (tsize_nil w11).mono ?_
  rintro e w12 ⟨rfl, hb12⟩
  have hbw12 : Below w6.heap.size w6 w12 := hbw11.trans (hb12.mono hz11)
  refine hK _ _ (hbw12) ?_
  clear hK K
  iterate 7
    refine wpPlan_read (by rfl) (by rfl) (fun R hR => ?_)
    apply Exists.intro
    refine ⟨fun w' hS' => ?_, ?_⟩
    · have k0 := conv_B (O6.out.keep hS')
      go_simp
      exact ⟨rfl, rfl⟩
    go_simp
    refine hR _ ?_
    clear hR R
  refine wpPlan_nil ?_
  go_wp2_with fail
  go_ret
  exact ⟨rfl, HZ06.out.trans (hbw12.mono hz06)⟩
end Go.Proofs.Ytedhpkfbobgkgaa
