/- Pressed of the reference. Conditions: means that may be, at most 2^48 in all, at most 10^9 of them; the fineness from 0 to 1000. -/
import Derived.Test.YtedhpkfbobgkgaaDigA
import Derived.Test.YtedhpkfbobgkgaaRegion
namespace Go.Proofs.Ytedhpkfbobgkgaa
open Go.RowKit Go.Lib

set_option maxRecDepth 100000 in
set_option maxHeartbeats 600000 in
theorem rpressed_any (d : Int) (v : Value) (l : List Mn) (w : World) (h : RdM w v l) (ho : okL l) (hlen : l.length ≤ 1000000000) (ht : tot l ≤ 281474976710656) (d0 : 0 ≤ d) (d1 : d ≤ 1000) :
    Calls Try.prog 25 #[.int .i64 d, v] w fun e w' => ∃ v, e = .returned v ∧ OwnM w.heap.size w' v (prs d l) ∧ Below w.heap.size w w' := by
  have H := Lib.hid h
  have h2 := h.form
  obtain ⟨A0, c0, rfl, _, _, _⟩ := h2
  clear h
  go_enter Try.func25, Try.ntmps25
  go_wp2_with fail
  refine (rsort_any _ l _ H.out hlen).mono ?_
  rintro e w1 ⟨v1, rfl, o1, hb1⟩
  have hz1 := hb1.size
  have hsl := srt_length l
  have hst := tot_srt l
  have hr := rises_srt l
  have hos := ho.srt
  have HPR : Hid (prs d l = press d (tot (srt l)) (srt l)) := by show _ = _; rw [prs, tot_srt]
  obtain ⟨S, hS⟩ : ∃ S, srt l = S := ⟨_, rfl⟩
  rw [hS] at o1 hsl hst hr hos HPR
  have hsl1 : S.length ≤ 1000000000 := by omega
  have hst1 : tot S ≤ 281474976710656 := by omega
  have O1 := Lib.hid o1
  obtain ⟨A, c, rfl, hn, hc, hp⟩ := o1.form
  have HP := Lib.hid hp
  have HR := Lib.hid hr
  clear o1 hp hS hsl hst hr
  go_wp2_with fail
  refine (rtotal_any _ S _ O1.out.rd hos (by omega)).mono ?_
  rintro e w2 ⟨rfl, hb2⟩
  have hz2 := hb2.size
  go_wp2_with fail
  go_loopg [7, 8, 9] S.length (fun q o dn i wr => ∃ j : Nat, q = S.length - j ∧ j ≤ S.length ∧ i = .int .i64 j ∧ Below w2.heap.size w2 wr ∧
    ((j = 0 ∧ o = .slice none 0 0 ∧ dn = .int .u64 0) ∨ (∃ acc now, 0 < j ∧ PrAt d (tot S) S j acc now ∧ dn = .int .u64 (tot acc) ∧ OwnM w2.heap.size wr o (acc ++ [now]))))
  case atStart => exact ⟨0, rfl, by omega, rfl, Below.refl _ _, .inl ⟨rfl, rfl, rfl⟩⟩
  case round =>
    obtain ⟨j, hk, hj, rfl, hb, hcase⟩ := hrel
    have HK := Lib.hid hk
    have hz := hb.size
    clear hk
    by_cases hlt : j < S.length
    · obtain ⟨g, off, rfl, hg, e0, e1⟩ := ((HP.out.keep hb2).keep hb).at_ hlt
      go_upto_block 1 with fail
      go_cut [7, 8] (fun o dn wx => Below w2.heap.size w2 wx ∧ ∃ acc now, PrAt d (tot S) S (j + 1) acc now ∧ dn = .int .u64 (tot acc) ∧ OwnM w2.heap.size wx o (acc ++ [now]))
      case first =>
        rcases hcase with ⟨rfl, rfl, rfl⟩ | ⟨acc, now, j0, hpr, rfl, hown⟩
        · have HS := Lib.hid (PrAt.start d hlt hos HR.out)
          have z0 : ((0 : Nat) : Int) = 0 := rfl
          simp only [Nat.zero_mul, Nat.add_zero] at e0 e1
          rw [z0]
          clear z0
          go_wp2_with (first
            | (at_builtin
               refine append_M rfl (.tmp 23) (.tmp 28) rfl w2.heap.size (.slice none 0 0) [] rfl (OwnM.nil_ _ _) _ [S[0]] rfl (RdM.one _ S[0]) (by simp) (by simp only [World.size_alloc]; omega) ?_
               intro v1 w3 o3 g3 a3
               have hb3 : Below w2.heap.size w2 w3 := (hb.alloc (by omega) _).grown g3 (by simp only [World.size_alloc]; omega) (by simp [Value.ownBlock])
               have O3 := Lib.hid o3
               clear o3 g3 a3))
          go_meet
          exact ⟨hb3, [], S[0], HS.out, rfl, O3.out⟩
        · obtain ⟨f1, f2, f3, f4, f5⟩ := hpr.facts hlt
          have hlen2 := hpr.len
          obtain ⟨g2, c2, rfl, b1, b2, b3, b4⟩ := hown.pos (by simp)
          have hj0 : ((j : Int) == 0) = false := by simp; omega
          have at2 := hown.at_ (j := acc.length) (by simp)
          rw [List.getElem_append_right (by omega)] at at2
          simp only [Nat.sub_self, List.getElem_cons_zero] at at2
          obtain ⟨q0, q1, q2, q3⟩ := at2
          have HO := Lib.hid hown
          have HPr := Lib.hid hpr
          clear hown hpr
          have MB : MayB d (tot S) (tot acc) (now.2 + S[j].2) := ⟨d0, d1, hst1, f1, by have := f2.2.2; have := f3.2.2; omega, f5⟩
          have p1 := f2.2.2
          have p2 := f3.2.2
          obtain ⟨N, hN⟩ : ∃ N, (acc ++ [now]).length = N := ⟨_, rfl⟩
          obtain ⟨m, hm⟩ : ∃ m, acc.length = m := ⟨_, rfl⟩
          have hNm : N = m + 1 := by rw [← hN, ← hm]; simp
          rw [hm] at q0 q1 q2 q3 hlen2
          rw [hN] at HO b3 ⊢
          have hNI : (N : Int) - 1 = (m : Int) := by omega
          have i0 : (0 : Int) ≤ (m : Int) := by omega
          have i1 : (m : Int) < (N : Int) := by omega
          have HM := Lib.hid hm
          have HN := Lib.hid hN
          clear hN hm hNm
          have i2 : (0 : Int) ≤ ((j : Nat) : Int) := by omega
          have i3 : ((j : Nat) : Int) < ((S.length : Nat) : Int) := by omega
          have s1 : IntKind.u64.wrap (now.2 + S[j].2) = now.2 + S[j].2 := u64id _ (by omega) (by omega)
          go_upto_region 11 with fail
          go_region_held3 (fun w' => w'.cell? ⟨g2, m * 2 + 1, none⟩ = some (.int .u64 now.2) ∧ w'.cell? ⟨g, off + j * 2 + 1, none⟩ = some (.int .u64 S[j].2)) (first | go_keep | exact ⟨(hc3 _ _ (by go_size)).trans q1, (hc3 _ _ (by go_size)).trans e1⟩)
            (first | (go_at_call 65; refine (rmay_any d (tot S) (tot acc) (now.2 + S[j].2) _ MB).mono ?_; rintro e w3 ⟨rfl, hb3⟩; have ⟨hc3, hf3⟩ := bcell hb3; have hz3 := hb3.size; try simp only [World.size_alloc, World.size_setCell, World.size_drew, World.size_drewN] at hz3))
          have hs3 := hb3.size
          have hg3 : g2 < w3.heap.size := Nat.lt_of_lt_of_le b2 hs3
          have hg4 : g < w3.heap.size := Nat.lt_of_lt_of_le hg hs3
          replace q0 := (hc3 _ _ b2).trans q0
          replace q1 := (hc3 _ _ b2).trans q1
          replace q2 := (hf3 _ _ b2).trans q2
          replace q3 := (hf3 _ _ b2).trans q3
          replace e0 := (hc3 _ _ hg).trans e0
          replace e1 := (hc3 _ _ hg).trans e1
          clear hc3 hf3
          have hb3' : Below wr.heap.size wr w3 := (Below.refl _ _).drew.trans hb3
          by_cases hmay : mayI d (tot S) (tot acc) (now.2 + S[j].2) = true
          · have HP2 := Lib.hid (HPr.out.merge hlt hmay)
            rw [hmay]
            go_upto_region 12 with fail
            refine wp_region_head (fun w' => Below w3.heap.size w3 w') 36 (by kernel_rfl) (by kernel_rfl) (Below.refl _ _).drew ?_
            simp only [List.take_succ_cons, List.take_zero, List.drop_succ_cons, List.drop_zero]
            iterate 36 (first
              | (refine wpHead_of rfl (fun R hR => ?_)
                 apply Exists.intro
                 refine ⟨fun w' hS' => ?_, ?_⟩
                 · have k0 := (hS'.cell (p := ⟨_, _, none⟩) hg3).trans q0
                   have k1 := (hS'.cell (p := ⟨_, _, none⟩) hg3).trans q1
                   have k2 := (hS'.cell (p := ⟨_, _, none⟩) hg4).trans e0
                   have k3 := (hS'.cell (p := ⟨_, _, none⟩) hg4).trans e1
                   go_simp
                   first
                     | exact ⟨rfl, hS'⟩
                     | (refine (ravg_any now.1 now.2 S[j].1 S[j].2 _ f2.1 f4 f3.2.1 (by omega) p2 (by omega)).mono ?_
                        rintro e w4 ⟨rfl, hb4⟩
                        exact ⟨rfl, hS'.trans (hb4.mono hS'.size)⟩)
                 go_simp
                 refine hR _ ?_
                 clear hR R))
            refine wpHead_nil ?_
            intro w5 hS5
            have hs5 := hS5.size
            have k2 := (hS5.frozen (p := ⟨_, _, none⟩) hg3).trans q2
            have k3 := (hS5.frozen (p := ⟨_, _, none⟩) hg3).trans q3
            have k0 := (hS5.cell (p := ⟨_, _, none⟩) hg3).trans q0
            have k1 := (hS5.cell (p := ⟨_, _, none⟩) hg3).trans q1
            go_wp2_with fail
            go_meet
            exact ⟨by (repeat' (first | (with_reducible exact Below.refl _ _) | (with_reducible refine Below.alloc ?_ ?_ _) | (with_reducible refine Below.drew ?_) | (with_reducible refine below_drewN ?_ _) | (with_reducible refine Below.setCell ?_ ?_ _) | (with_reducible refine below_of (by assumption) ?_ ?_) | go_size)), acc, _, HP2.out, rfl, ((HO.out.keep hb3').keep hS5).setLast _ HM.out HN.out⟩
          · have hmay' : mayI d (tot S) (tot acc) (now.2 + S[j].2) = false := by simpa using hmay
            have HP2 := Lib.hid (HPr.out.push hlt hmay')
            have HT : Hid (tot (acc ++ [now]) = tot acc + now.2) := by show _ = _; rw [tot_append]; simp [tot]
            have hal : acc.length + 1 ≤ 1000000000 := by have := HPr.out.len; omega
            rw [hmay']
            clear hmay hmay'
            go_wp2_with (first
              | (at_builtin
                 refine append_M rfl (.tmp 91) (.tmp 96) rfl w2.heap.size (.slice (some ⟨g2, 0, none⟩) N c2) (acc ++ [now]) rfl ((HO.out.keep hb3').alloc _) _ [S[j]] rfl (RdM.one _ S[j]) (by simp only [List.length_append, List.length_singleton]; omega) (by go_size) ?_
                 intro v1 w6 o6 g6 a6
                 have hb6 : Below w2.heap.size w2 w6 := ((hb.trans (hb3'.mono hz)).alloc (by go_size) _).grown g6 (by go_size) (fun k hk => ((HO.out.keep hb3').lt k hk).1)
                 have O6 := Lib.hid o6
                 clear o6 g6 a6))
            go_meet
            exact ⟨hb6, acc ++ [now], S[j], HP2.out, by rw [HT.out], O6.out⟩
      case rest =>
        obtain ⟨hb4, acc, now, hpr, rfl, hown⟩ := hcut
        have HPr := Lib.hid hpr
        have HO := Lib.hid hown
        clear hpr hown hcase
        go_wp2_with fail
        go_roundg (S.length - (j + 1))
        case measure => have := HK.out; omega
        case rel => exact ⟨j + 1, rfl, by omega, by go_num, hb4, .inr ⟨acc, now, by omega, HPr.out, rfl, HO.out⟩⟩
    · have hjS : j = S.length := by omega
      rcases hcase with ⟨h0, rfl, rfl⟩ | ⟨acc, now, j0, hpr, rfl, hown⟩
      · have h0' : S = [] := List.eq_nil_of_length_eq_zero (by omega)
        have HE : Hid (prs d l = []) := by show _ = _; rw [HPR.out, h0']; rfl
        go_wp2_with fail
        go_ret
        exact ⟨_, rfl, by rw [HE.out]; exact OwnM.nil_ _ _, by (repeat' (first | (with_reducible exact Below.refl _ _) | (with_reducible refine Below.alloc ?_ ?_ _) | (with_reducible refine Below.drew ?_) | (with_reducible refine below_drewN ?_ _) | (with_reducible refine Below.setCell ?_ ?_ _) | (with_reducible refine below_of (by assumption) ?_ ?_) | go_size))⟩
      · have HE : Hid (prs d l = acc ++ [now]) := by
          show _ = _
          rw [hjS] at hpr
          rw [HPR.out, hpr.fin]
        have HO := Lib.hid hown
        clear hpr hown hjS
        go_wp2_with fail
        go_ret
        exact ⟨_, rfl, by rw [HE.out]; exact HO.out.more (by omega), by (repeat' (first | (with_reducible exact Below.refl _ _) | (with_reducible refine Below.alloc ?_ ?_ _) | (with_reducible refine Below.drew ?_) | (with_reducible refine below_drewN ?_ _) | (with_reducible refine Below.setCell ?_ ?_ _) | (with_reducible refine below_of (by assumption) ?_ ?_) | go_size))⟩
end Go.Proofs.Ytedhpkfbobgkgaa
