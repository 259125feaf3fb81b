/- Fits, walked. No condition. -/
import Derived.Test.YtmfocgaojbebgaaDoorLbN
namespace Go.Proofs.YtmfocgaojbebgaaDoor
open Go.RowKit

set_option maxRecDepth 100000 in
set_option maxHeartbeats 16000000 in
theorem Fits_any (v vc : Value) (l : List Lb) (cs : List Cd) (w : World) (h : RdE lbE w v l) (h' : RdE cdE w vc cs) : Calls Tryd.prog 19 #[v, vc] w fun e w' => e = .returned (.bool (fitsT l cs)) ∧ Below w.heap.size w w' := by
  have HR := Lib.hid h
  obtain ⟨A, c, rfl, _, _, _⟩ := h.form
  obtain ⟨A', c', rfl, hn, hc, hp⟩ := h'.form
  have HP := Lib.hid hp
  clear h h' hp
  by_cases hr : rightL l = true
  · have HRT := Lib.hid hr
    go_enter Tryd.func19, Tryd.ntmps19
    go_wp2_with fail
    refine (Right_any _ l w HR.out).mono ?_
    rintro e w1 ⟨rfl, hb1⟩
    go_wp2_with fail
    clear hr
    go_loopg [15] cs.length (fun q i wr => ∃ j : Nat, q = cs.length - j ∧ j ≤ cs.length ∧ i = .int .i64 j ∧ Hid (∀ n (h : n < cs.length), n < j → holdsT l cs[n] = true) ∧ Below w.heap.size w wr)
    case atStart => exact ⟨0, rfl, Nat.zero_le _, rfl, Lib.hid (fun n _ h => absurd h (by omega)), hb1⟩
    case round =>
      obtain ⟨j, hk, hj, rfl, HS, hb⟩ := hrel
      have HK := Lib.hid hk
      have hz := hb.size
      clear hk
      by_cases hlt : j < cs.length
      · obtain ⟨g, off, rfl, hg, c0, c1, c2⟩ := (HP.out.keep hb).cd hlt
        have HNX : Hid (holdsT l cs[j] = true → ∀ n (h : n < cs.length), n < j + 1 → holdsT l cs[n] = true) := Lib.hid (fun h1 n hn hnj => by
          rcases Nat.lt_or_ge n j with h2 | h2
          · exact HS.out n hn h2
          · obtain rfl : n = j := by omega
            exact h1)
        have HBD : Hid (holdsT l cs[j] = false → fitsT l cs = false) := Lib.hid (fun h => fits_bad hlt h)
        obtain ⟨x, hx⟩ : ∃ x, cs[j] = x := ⟨_, rfl⟩
        rw [hx] at c0 c1 c2 HNX HBD
        clear hx
        have b0 : (wr.alloc (.cells #[.string (bsOf x.1), .string (bsOf x.2.1), .string (bsOf x.2.2)] 39)).cell? ⟨wr.heap.size, 0, none⟩ = some (.string (bsOf x.1)) := (World.cell?_alloc_new ..).trans rfl
        have b1 : (wr.alloc (.cells #[.string (bsOf x.1), .string (bsOf x.2.1), .string (bsOf x.2.2)] 39)).cell? ⟨wr.heap.size, 1, none⟩ = some (.string (bsOf x.2.1)) := (World.cell?_alloc_new ..).trans rfl
        have b2 : (wr.alloc (.cells #[.string (bsOf x.1), .string (bsOf x.2.1), .string (bsOf x.2.2)] 39)).cell? ⟨wr.heap.size, 2, none⟩ = some (.string (bsOf x.2.2)) := (World.cell?_alloc_new ..).trans rfl
        have bu : Below w.heap.size w (wr.alloc (.cells #[.string (bsOf x.1), .string (bsOf x.2.1), .string (bsOf x.2.2)] 39)) := hb.alloc hz _
        have hsu : wr.heap.size < (wr.alloc (.cells #[.string (bsOf x.1), .string (bsOf x.2.1), .string (bsOf x.2.2)] 39)).heap.size := by simp
        have B0 := Lib.hid b0
        have B1 := Lib.hid b1
        have B2 := Lib.hid b2
        clear b0 b1 b2
        go_wp2_with fail
        clear c0 c1 c2
        generalize wr.alloc (.cells #[.string (bsOf x.1), .string (bsOf x.2.1), .string (bsOf x.2.2)] 39) = u at *
        generalize wr.heap.size = X at *
        refine (operators_t u).mono ?_
        rintro e w3 ⟨h1, h2, rfl, e1, e2, l1, l2, hb3⟩
        have hz3 := hb3.size
        have HB3 : Hid (Below w.heap.size w w3) := Lib.hid (bu.trans (hb3.mono bu.size))
        have D0 := Lib.hid ((hb3.cell (p := ⟨X, 0, none⟩) hsu).trans B0.out)
        have D1 := Lib.hid ((hb3.cell (p := ⟨X, 1, none⟩) hsu).trans B1.out)
        have D2 := Lib.hid ((hb3.cell (p := ⟨X, 2, none⟩) hsu).trans B2.out)
        have F1 := Lib.hid e1
        have F2 := Lib.hid e2
        have hX3 : X < w3.heap.size := by omega
        have HR3 := Lib.hid (HR.out.keep HB3.out)
        clear e1 e2 B0 B1 B2 hb bu hb3 hb1
        go_wp2_with fail
        obtain ⟨wo, rfl⟩ : ∃ wo : World, wo = wr := ⟨_, rfl⟩
        go_loopg [7, 20] 4 (fun q ok i w4 => ∃ n : Nat, q = 4 - n ∧ n ≤ 4 ∧ i = .int .i64 n ∧ ok = .bool (okAt l x n) ∧ Hid (Below w3.heap.size w3 w4))
        case atStart => exact ⟨0, rfl, by omega, rfl, rfl, Lib.hid (Below.refl _ _)⟩
        case round =>
          obtain ⟨n, hnq, hn4, rfl, rfl, HW⟩ := hrel
          have HNQ := Lib.hid hnq
          have hzw := HW.out.size
          clear hnq
          have k0 := (HW.out.cell (p := ⟨X, 0, none⟩) hX3).trans D0.out
          have k1 := (HW.out.cell (p := ⟨X, 1, none⟩) hX3).trans D1.out
          have k2 := (HW.out.cell (p := ⟨X, 2, none⟩) hX3).trans D2.out
          have K0 := Lib.hid k0
          have K2 := Lib.hid k2
          have E1 := Lib.hid ((HW.out.cell (p := ⟨h1, 0, none⟩) l1).trans F1.out)
          have E2 := Lib.hid ((HW.out.cell (p := ⟨h2, 0, none⟩) l2).trans F2.out)
          have HRW := Lib.hid (HR3.out.keep HW.out)
          have hXw : X < wr.heap.size := by omega
          have hl1 : h1 < wr.heap.size := by omega
          have hl2 : h2 < wr.heap.size := by omega
          clear k0 k2
          by_cases hn5 : n < 4
          · have hcase : n = 0 ∨ n = 1 ∨ n = 2 ∨ n = 3 := by omega
            rcases hcase with rfl | rfl | rfl | rfl
            · have hi := opsF_0 h1 h2
              by_cases hs : x.2.1 = [33, 61]
              · have q1 : ((⟨#[33, 61]⟩ : ByteArray).toList == (bsOf x.2.1).toList) = true := by rw [hs]; exact beq_self_eq_true ((bsOf [33, 61]).toList)
                have q3 : (([33, 61] : List UInt8) == (bsOf x.2.1).toList) = true := by rw [bsOf_toList, hs]; rfl
                have HOK : Hid (okAt l x (0 + 1) = (!(getT l x.1 == x.2.2))) := Lib.hid (by rw [okAt_hit l x 0 (by decide) hs]; exact holds_0 l x hs)
                clear hs
                go_wp2_with fail
                have bw : Below wr.heap.size wr (wr.alloc (.cells #[.string ⟨#[33, 61]⟩, .func (.func 54) #[] #[.pointer (some ⟨h1, 0, none⟩)]] 69)) := (Below.refl _ _).alloc (Nat.le_refl _) _
                have f0 : (wr.alloc (.cells #[.string ⟨#[33, 61]⟩, .func (.func 54) #[] #[.pointer (some ⟨h1, 0, none⟩)]] 69)).cell? ⟨wr.heap.size, 1, none⟩ = some (.func (.func 54) #[] #[.pointer (some ⟨h1, 0, none⟩)]) := (World.cell?_alloc_new ..).trans rfl
                have hzf : wr.heap.size < (wr.alloc (.cells #[.string ⟨#[33, 61]⟩, .func (.func 54) #[] #[.pointer (some ⟨h1, 0, none⟩)]] 69)).heap.size := by simp
                clear hi q1 q3 k1
                have K0 := Lib.hid ((bw.cell (p := ⟨X, 0, none⟩) hXw).trans K0.out)
                have K2 := Lib.hid ((bw.cell (p := ⟨X, 2, none⟩) hXw).trans K2.out)
                have E1 := Lib.hid ((bw.cell (p := ⟨h1, 0, none⟩) hl1).trans E1.out)
                have E2 := Lib.hid ((bw.cell (p := ⟨h2, 0, none⟩) hl2).trans E2.out)
                have HRW := Lib.hid (HRW.out.keep bw)
                have HW5 : Hid (Below w3.heap.size w3 (wr.alloc (.cells #[.string ⟨#[33, 61]⟩, .func (.func 54) #[] #[.pointer (some ⟨h1, 0, none⟩)]] 69))) := Lib.hid (HW.out.trans (bw.mono hzw))
                have FF := Lib.hid f0
                clear f0
                generalize wr.alloc (.cells #[.string ⟨#[33, 61]⟩, .func (.func 54) #[] #[.pointer (some ⟨h1, 0, none⟩)]] 69) = w5 at *
                generalize wr.heap.size = Y at *
                have hXw : X < w5.heap.size := by omega
                have hl1 : h1 < w5.heap.size := by omega
                have hl2 : h2 < w5.heap.size := by omega
                clear bw HW
                refine wp_region_plan (fun w' => Below w5.heap.size w5 w') [(0, true), (1, true), (2, true), (3, true), (4, true), (6, true), (7, true), (5, false), (8, false), (9, true)] (by kernel_rfl) (by kernel_rfl) ((Below.refl _ _).drew) ?_
                iterate 7
                  refine wpPlan_read (by rfl) (by rfl) (fun R hR => ?_)
                  apply Exists.intro
                  refine ⟨fun w' hS' => ?_, ?_⟩
                  · have k0 := (hS'.cell (p := ⟨X, 0, none⟩) hXw).trans K0.out
                    have k2 := (hS'.cell (p := ⟨X, 2, none⟩) hXw).trans K2.out
                    have kf := (hS'.cell (p := ⟨Y, 1, none⟩) hzf).trans FF.out
                    go_simp
                    exact ⟨rfl, rfl⟩
                  go_simp
                  refine hR _ ?_
                  clear hR R
                refine wpPlan_do (by rfl) (by rfl) (fun K hK => ?_)
                go_simp
                refine (Get_any _ l x.1 _ (HRW.out.keep (Below.refl _ _).drew)).mono ?_
                rintro e w6 ⟨rfl, hb6⟩
                have hbw6 : Below w5.heap.size w5 w6 := (Below.refl _ _).drew.trans hb6
                refine hK _ _ (hbw6) ?_
                clear hK K
                refine wpPlan_do (by rfl) (by rfl) (fun K hK => ?_)
                go_simp
                refine (opNot_t h1 55 (getT l x.1) x.2.2 _ w6 ((hbw6.cell (p := ⟨h1, 0, none⟩) hl1).trans E1.out) (.inl ⟨rfl, rfl⟩)).mono ?_
                rintro e w7 ⟨rfl, hw7⟩
                subst hw7
                refine hK _ _ (hbw6) ?_
                clear hK K
                iterate 1
                  refine wpPlan_read (by rfl) (by rfl) (fun R hR => ?_)
                  apply Exists.intro
                  refine ⟨fun w' hS' => ?_, ?_⟩
                  · have k0 := (hS'.cell (p := ⟨X, 0, none⟩) hXw).trans K0.out
                    have k2 := (hS'.cell (p := ⟨X, 2, none⟩) hXw).trans K2.out
                    have kf := (hS'.cell (p := ⟨Y, 1, none⟩) hzf).trans FF.out
                    go_simp
                    exact ⟨rfl, rfl⟩
                  go_simp
                  refine hR _ ?_
                  clear hR R
                refine wpPlan_nil ?_
                go_wp2_with fail
                go_roundg (4 - (0 + 1))
                case measure => have := HNQ.out; omega
                case rel => exact ⟨0 + 1, rfl, by omega, by go_num, by rw [HOK.out], Lib.hid (HW5.out.trans (hbw6.mono (by omega)))⟩
              · have q1 : ((⟨#[33, 61]⟩ : ByteArray).toList == (bsOf x.2.1).toList) = false := by rw [bsOf_toList x.2.1, beq_eq_false_iff_ne]; exact fun e => hs (e.symm.trans (bsOf_toList [33, 61]))
                have q3 : (([33, 61] : List UInt8) == (bsOf x.2.1).toList) = false := by rw [bsOf_toList, beq_eq_false_iff_ne]; exact fun e => hs e.symm
                have HOK : Hid (okAt l x (0 + 1) = okAt l x 0) := Lib.hid (okAt_miss l x 0 (by decide) hs)
                clear hs
                go_wp2_with fail
                go_roundg (4 - (0 + 1))
                case measure => have := HNQ.out; omega
                case rel => exact ⟨0 + 1, rfl, by omega, by go_num, by rw [HOK.out], Lib.hid (HW.out.alloc hzw _)⟩
            · have hi := opsF_1 h1 h2
              by_cases hs : x.2.1 = [33, 126]
              · have q1 : ((⟨#[33, 126]⟩ : ByteArray).toList == (bsOf x.2.1).toList) = true := by rw [hs]; exact beq_self_eq_true ((bsOf [33, 126]).toList)
                have q3 : (([33, 126] : List UInt8) == (bsOf x.2.1).toList) = true := by rw [bsOf_toList, hs]; rfl
                have HOK : Hid (okAt l x (1 + 1) = (!(x.2.2.isPrefixOf (getT l x.1)))) := Lib.hid (by rw [okAt_hit l x 1 (by decide) hs]; exact holds_1 l x hs)
                clear hs
                go_wp2_with fail
                have bw : Below wr.heap.size wr (wr.alloc (.cells #[.string ⟨#[33, 126]⟩, .func (.func 54) #[] #[.pointer (some ⟨h2, 0, none⟩)]] 69)) := (Below.refl _ _).alloc (Nat.le_refl _) _
                have f0 : (wr.alloc (.cells #[.string ⟨#[33, 126]⟩, .func (.func 54) #[] #[.pointer (some ⟨h2, 0, none⟩)]] 69)).cell? ⟨wr.heap.size, 1, none⟩ = some (.func (.func 54) #[] #[.pointer (some ⟨h2, 0, none⟩)]) := (World.cell?_alloc_new ..).trans rfl
                have hzf : wr.heap.size < (wr.alloc (.cells #[.string ⟨#[33, 126]⟩, .func (.func 54) #[] #[.pointer (some ⟨h2, 0, none⟩)]] 69)).heap.size := by simp
                clear hi q1 q3 k1
                have K0 := Lib.hid ((bw.cell (p := ⟨X, 0, none⟩) hXw).trans K0.out)
                have K2 := Lib.hid ((bw.cell (p := ⟨X, 2, none⟩) hXw).trans K2.out)
                have E1 := Lib.hid ((bw.cell (p := ⟨h1, 0, none⟩) hl1).trans E1.out)
                have E2 := Lib.hid ((bw.cell (p := ⟨h2, 0, none⟩) hl2).trans E2.out)
                have HRW := Lib.hid (HRW.out.keep bw)
                have HW5 : Hid (Below w3.heap.size w3 (wr.alloc (.cells #[.string ⟨#[33, 126]⟩, .func (.func 54) #[] #[.pointer (some ⟨h2, 0, none⟩)]] 69))) := Lib.hid (HW.out.trans (bw.mono hzw))
                have FF := Lib.hid f0
                clear f0
                generalize wr.alloc (.cells #[.string ⟨#[33, 126]⟩, .func (.func 54) #[] #[.pointer (some ⟨h2, 0, none⟩)]] 69) = w5 at *
                generalize wr.heap.size = Y at *
                have hXw : X < w5.heap.size := by omega
                have hl1 : h1 < w5.heap.size := by omega
                have hl2 : h2 < w5.heap.size := by omega
                clear bw HW
                refine wp_region_plan (fun w' => Below w5.heap.size w5 w') [(0, true), (1, true), (2, true), (3, true), (4, true), (6, true), (7, true), (5, false), (8, false), (9, true)] (by kernel_rfl) (by kernel_rfl) ((Below.refl _ _).drew) ?_
                iterate 7
                  refine wpPlan_read (by rfl) (by rfl) (fun R hR => ?_)
                  apply Exists.intro
                  refine ⟨fun w' hS' => ?_, ?_⟩
                  · have k0 := (hS'.cell (p := ⟨X, 0, none⟩) hXw).trans K0.out
                    have k2 := (hS'.cell (p := ⟨X, 2, none⟩) hXw).trans K2.out
                    have kf := (hS'.cell (p := ⟨Y, 1, none⟩) hzf).trans FF.out
                    go_simp
                    exact ⟨rfl, rfl⟩
                  go_simp
                  refine hR _ ?_
                  clear hR R
                refine wpPlan_do (by rfl) (by rfl) (fun K hK => ?_)
                go_simp
                refine (Get_any _ l x.1 _ (HRW.out.keep (Below.refl _ _).drew)).mono ?_
                rintro e w6 ⟨rfl, hb6⟩
                have hbw6 : Below w5.heap.size w5 w6 := (Below.refl _ _).drew.trans hb6
                refine hK _ _ (hbw6) ?_
                clear hK K
                refine wpPlan_do (by rfl) (by rfl) (fun K hK => ?_)
                go_simp
                refine (opNot_t h2 56 (getT l x.1) x.2.2 _ w6 ((hbw6.cell (p := ⟨h2, 0, none⟩) hl2).trans E2.out) (.inr ⟨rfl, rfl⟩)).mono ?_
                rintro e w7 ⟨rfl, hw7⟩
                subst hw7
                refine hK _ _ (hbw6) ?_
                clear hK K
                iterate 1
                  refine wpPlan_read (by rfl) (by rfl) (fun R hR => ?_)
                  apply Exists.intro
                  refine ⟨fun w' hS' => ?_, ?_⟩
                  · have k0 := (hS'.cell (p := ⟨X, 0, none⟩) hXw).trans K0.out
                    have k2 := (hS'.cell (p := ⟨X, 2, none⟩) hXw).trans K2.out
                    have kf := (hS'.cell (p := ⟨Y, 1, none⟩) hzf).trans FF.out
                    go_simp
                    exact ⟨rfl, rfl⟩
                  go_simp
                  refine hR _ ?_
                  clear hR R
                refine wpPlan_nil ?_
                go_wp2_with fail
                go_roundg (4 - (1 + 1))
                case measure => have := HNQ.out; omega
                case rel => exact ⟨1 + 1, rfl, by omega, by go_num, by rw [HOK.out], Lib.hid (HW5.out.trans (hbw6.mono (by omega)))⟩
              · have q1 : ((⟨#[33, 126]⟩ : ByteArray).toList == (bsOf x.2.1).toList) = false := by rw [bsOf_toList x.2.1, beq_eq_false_iff_ne]; exact fun e => hs (e.symm.trans (bsOf_toList [33, 126]))
                have q3 : (([33, 126] : List UInt8) == (bsOf x.2.1).toList) = false := by rw [bsOf_toList, beq_eq_false_iff_ne]; exact fun e => hs e.symm
                have HOK : Hid (okAt l x (1 + 1) = okAt l x 1) := Lib.hid (okAt_miss l x 1 (by decide) hs)
                clear hs
                go_wp2_with fail
                go_roundg (4 - (1 + 1))
                case measure => have := HNQ.out; omega
                case rel => exact ⟨1 + 1, rfl, by omega, by go_num, by rw [HOK.out], Lib.hid (HW.out.alloc hzw _)⟩
            · have hi := opsF_2 h1 h2
              by_cases hs : x.2.1 = [61]
              · have q1 : ((⟨#[61]⟩ : ByteArray).toList == (bsOf x.2.1).toList) = true := by rw [hs]; exact beq_self_eq_true ((bsOf [61]).toList)
                have q3 : (([61] : List UInt8) == (bsOf x.2.1).toList) = true := by rw [bsOf_toList, hs]; rfl
                have HOK : Hid (okAt l x (2 + 1) = (getT l x.1 == x.2.2)) := Lib.hid (by rw [okAt_hit l x 2 (by decide) hs]; exact holds_2 l x hs)
                clear hs
                go_wp2_with fail
                have bw : Below wr.heap.size wr (wr.alloc (.cells #[.string ⟨#[61]⟩, .func (.func 55) #[] #[]] 69)) := (Below.refl _ _).alloc (Nat.le_refl _) _
                have f0 : (wr.alloc (.cells #[.string ⟨#[61]⟩, .func (.func 55) #[] #[]] 69)).cell? ⟨wr.heap.size, 1, none⟩ = some (.func (.func 55) #[] #[]) := (World.cell?_alloc_new ..).trans rfl
                have hzf : wr.heap.size < (wr.alloc (.cells #[.string ⟨#[61]⟩, .func (.func 55) #[] #[]] 69)).heap.size := by simp
                clear hi q1 q3 k1
                have K0 := Lib.hid ((bw.cell (p := ⟨X, 0, none⟩) hXw).trans K0.out)
                have K2 := Lib.hid ((bw.cell (p := ⟨X, 2, none⟩) hXw).trans K2.out)
                have E1 := Lib.hid ((bw.cell (p := ⟨h1, 0, none⟩) hl1).trans E1.out)
                have E2 := Lib.hid ((bw.cell (p := ⟨h2, 0, none⟩) hl2).trans E2.out)
                have HRW := Lib.hid (HRW.out.keep bw)
                have HW5 : Hid (Below w3.heap.size w3 (wr.alloc (.cells #[.string ⟨#[61]⟩, .func (.func 55) #[] #[]] 69))) := Lib.hid (HW.out.trans (bw.mono hzw))
                have FF := Lib.hid f0
                clear f0
                generalize wr.alloc (.cells #[.string ⟨#[61]⟩, .func (.func 55) #[] #[]] 69) = w5 at *
                generalize wr.heap.size = Y at *
                have hXw : X < w5.heap.size := by omega
                have hl1 : h1 < w5.heap.size := by omega
                have hl2 : h2 < w5.heap.size := by omega
                clear bw HW
                refine wp_region_plan (fun w' => Below w5.heap.size w5 w') [(0, true), (1, true), (2, true), (3, true), (4, true), (6, true), (7, true), (5, false), (8, false), (9, true)] (by kernel_rfl) (by kernel_rfl) ((Below.refl _ _).drew) ?_
                iterate 7
                  refine wpPlan_read (by rfl) (by rfl) (fun R hR => ?_)
                  apply Exists.intro
                  refine ⟨fun w' hS' => ?_, ?_⟩
                  · have k0 := (hS'.cell (p := ⟨X, 0, none⟩) hXw).trans K0.out
                    have k2 := (hS'.cell (p := ⟨X, 2, none⟩) hXw).trans K2.out
                    have kf := (hS'.cell (p := ⟨Y, 1, none⟩) hzf).trans FF.out
                    go_simp
                    exact ⟨rfl, rfl⟩
                  go_simp
                  refine hR _ ?_
                  clear hR R
                refine wpPlan_do (by rfl) (by rfl) (fun K hK => ?_)
                go_simp
                refine (Get_any _ l x.1 _ (HRW.out.keep (Below.refl _ _).drew)).mono ?_
                rintro e w6 ⟨rfl, hb6⟩
                have hbw6 : Below w5.heap.size w5 w6 := (Below.refl _ _).drew.trans hb6
                refine hK _ _ (hbw6) ?_
                clear hK K
                refine wpPlan_do (by rfl) (by rfl) (fun K hK => ?_)
                go_simp
                refine (opSame_t (getT l x.1) x.2.2 w6).mono ?_
                rintro e w7 ⟨rfl, hw7⟩
                subst hw7
                refine hK _ _ (hbw6) ?_
                clear hK K
                iterate 1
                  refine wpPlan_read (by rfl) (by rfl) (fun R hR => ?_)
                  apply Exists.intro
                  refine ⟨fun w' hS' => ?_, ?_⟩
                  · have k0 := (hS'.cell (p := ⟨X, 0, none⟩) hXw).trans K0.out
                    have k2 := (hS'.cell (p := ⟨X, 2, none⟩) hXw).trans K2.out
                    have kf := (hS'.cell (p := ⟨Y, 1, none⟩) hzf).trans FF.out
                    go_simp
                    exact ⟨rfl, rfl⟩
                  go_simp
                  refine hR _ ?_
                  clear hR R
                refine wpPlan_nil ?_
                go_wp2_with fail
                go_roundg (4 - (2 + 1))
                case measure => have := HNQ.out; omega
                case rel => exact ⟨2 + 1, rfl, by omega, by go_num, by rw [HOK.out], Lib.hid (HW5.out.trans (hbw6.mono (by omega)))⟩
              · have q1 : ((⟨#[61]⟩ : ByteArray).toList == (bsOf x.2.1).toList) = false := by rw [bsOf_toList x.2.1, beq_eq_false_iff_ne]; exact fun e => hs (e.symm.trans (bsOf_toList [61]))
                have q3 : (([61] : List UInt8) == (bsOf x.2.1).toList) = false := by rw [bsOf_toList, beq_eq_false_iff_ne]; exact fun e => hs e.symm
                have HOK : Hid (okAt l x (2 + 1) = okAt l x 2) := Lib.hid (okAt_miss l x 2 (by decide) hs)
                clear hs
                go_wp2_with fail
                go_roundg (4 - (2 + 1))
                case measure => have := HNQ.out; omega
                case rel => exact ⟨2 + 1, rfl, by omega, by go_num, by rw [HOK.out], Lib.hid (HW.out.alloc hzw _)⟩
            · have hi := opsF_3 h1 h2
              by_cases hs : x.2.1 = [126]
              · have q1 : ((⟨#[126]⟩ : ByteArray).toList == (bsOf x.2.1).toList) = true := by rw [hs]; exact beq_self_eq_true ((bsOf [126]).toList)
                have q3 : (([126] : List UInt8) == (bsOf x.2.1).toList) = true := by rw [bsOf_toList, hs]; rfl
                have HOK : Hid (okAt l x (3 + 1) = (x.2.2.isPrefixOf (getT l x.1))) := Lib.hid (by rw [okAt_hit l x 3 (by decide) hs]; exact holds_3 l x hs)
                clear hs
                go_wp2_with fail
                have bw : Below wr.heap.size wr (wr.alloc (.cells #[.string ⟨#[126]⟩, .func (.func 56) #[] #[]] 69)) := (Below.refl _ _).alloc (Nat.le_refl _) _
                have f0 : (wr.alloc (.cells #[.string ⟨#[126]⟩, .func (.func 56) #[] #[]] 69)).cell? ⟨wr.heap.size, 1, none⟩ = some (.func (.func 56) #[] #[]) := (World.cell?_alloc_new ..).trans rfl
                have hzf : wr.heap.size < (wr.alloc (.cells #[.string ⟨#[126]⟩, .func (.func 56) #[] #[]] 69)).heap.size := by simp
                clear hi q1 q3 k1
                have K0 := Lib.hid ((bw.cell (p := ⟨X, 0, none⟩) hXw).trans K0.out)
                have K2 := Lib.hid ((bw.cell (p := ⟨X, 2, none⟩) hXw).trans K2.out)
                have E1 := Lib.hid ((bw.cell (p := ⟨h1, 0, none⟩) hl1).trans E1.out)
                have E2 := Lib.hid ((bw.cell (p := ⟨h2, 0, none⟩) hl2).trans E2.out)
                have HRW := Lib.hid (HRW.out.keep bw)
                have HW5 : Hid (Below w3.heap.size w3 (wr.alloc (.cells #[.string ⟨#[126]⟩, .func (.func 56) #[] #[]] 69))) := Lib.hid (HW.out.trans (bw.mono hzw))
                have FF := Lib.hid f0
                clear f0
                generalize wr.alloc (.cells #[.string ⟨#[126]⟩, .func (.func 56) #[] #[]] 69) = w5 at *
                generalize wr.heap.size = Y at *
                have hXw : X < w5.heap.size := by omega
                have hl1 : h1 < w5.heap.size := by omega
                have hl2 : h2 < w5.heap.size := by omega
                clear bw HW
                refine wp_region_plan (fun w' => Below w5.heap.size w5 w') [(0, true), (1, true), (2, true), (3, true), (4, true), (6, true), (7, true), (5, false), (8, false), (9, true)] (by kernel_rfl) (by kernel_rfl) ((Below.refl _ _).drew) ?_
                iterate 7
                  refine wpPlan_read (by rfl) (by rfl) (fun R hR => ?_)
                  apply Exists.intro
                  refine ⟨fun w' hS' => ?_, ?_⟩
                  · have k0 := (hS'.cell (p := ⟨X, 0, none⟩) hXw).trans K0.out
                    have k2 := (hS'.cell (p := ⟨X, 2, none⟩) hXw).trans K2.out
                    have kf := (hS'.cell (p := ⟨Y, 1, none⟩) hzf).trans FF.out
                    go_simp
                    exact ⟨rfl, rfl⟩
                  go_simp
                  refine hR _ ?_
                  clear hR R
                refine wpPlan_do (by rfl) (by rfl) (fun K hK => ?_)
                go_simp
                refine (Get_any _ l x.1 _ (HRW.out.keep (Below.refl _ _).drew)).mono ?_
                rintro e w6 ⟨rfl, hb6⟩
                have hbw6 : Below w5.heap.size w5 w6 := (Below.refl _ _).drew.trans hb6
                refine hK _ _ (hbw6) ?_
                clear hK K
                refine wpPlan_do (by rfl) (by rfl) (fun K hK => ?_)
                go_simp
                refine (opPre_t (getT l x.1) x.2.2 w6).mono ?_
                rintro e w7 ⟨rfl, hw7⟩
                subst hw7
                refine hK _ _ (hbw6) ?_
                clear hK K
                iterate 1
                  refine wpPlan_read (by rfl) (by rfl) (fun R hR => ?_)
                  apply Exists.intro
                  refine ⟨fun w' hS' => ?_, ?_⟩
                  · have k0 := (hS'.cell (p := ⟨X, 0, none⟩) hXw).trans K0.out
                    have k2 := (hS'.cell (p := ⟨X, 2, none⟩) hXw).trans K2.out
                    have kf := (hS'.cell (p := ⟨Y, 1, none⟩) hzf).trans FF.out
                    go_simp
                    exact ⟨rfl, rfl⟩
                  go_simp
                  refine hR _ ?_
                  clear hR R
                refine wpPlan_nil ?_
                go_wp2_with fail
                go_roundg (4 - (3 + 1))
                case measure => have := HNQ.out; omega
                case rel => exact ⟨3 + 1, rfl, by omega, by go_num, by rw [HOK.out], Lib.hid (HW5.out.trans (hbw6.mono (by omega)))⟩
              · have q1 : ((⟨#[126]⟩ : ByteArray).toList == (bsOf x.2.1).toList) = false := by rw [bsOf_toList x.2.1, beq_eq_false_iff_ne]; exact fun e => hs (e.symm.trans (bsOf_toList [126]))
                have q3 : (([126] : List UInt8) == (bsOf x.2.1).toList) = false := by rw [bsOf_toList, beq_eq_false_iff_ne]; exact fun e => hs e.symm
                have HOK : Hid (okAt l x (3 + 1) = okAt l x 3) := Lib.hid (okAt_miss l x 3 (by decide) hs)
                clear hs
                go_wp2_with fail
                go_roundg (4 - (3 + 1))
                case measure => have := HNQ.out; omega
                case rel => exact ⟨3 + 1, rfl, by omega, by go_num, by rw [HOK.out], Lib.hid (HW.out.alloc hzw _)⟩
          · obtain rfl : n = 4 := by omega
            have HE := Lib.hid (okAt_end l x)
            cases ho : holdsT l x with
            | true =>
              have he : okAt l x 4 = true := by rw [HE.out, ho]
              have HN := Lib.hid (HNX.out ho)
              clear ho
              go_wp2_with fail
              go_roundg (cs.length - (j + 1))
              case measure => have := HK.out; omega
              case rel => exact ⟨j + 1, rfl, by omega, by go_num, HN, HB3.out.trans (HW.out.mono (by have := HB3.out.size; omega))⟩
            | false =>
              have he : okAt l x 4 = false := by rw [HE.out, ho]
              have HN := Lib.hid (HBD.out ho)
              clear ho
              go_wp2_with fail
              go_ret
              exact ⟨(ret_bool HN.out).symm, HB3.out.trans (HW.out.mono (by have := HB3.out.size; omega))⟩
      · have HG := Lib.hid (fits_good HRT.out fun n h => HS.out n h (by omega))
        go_wp2_with fail
        go_ret
        exact ⟨(ret_bool HG.out).symm, hb⟩
  · have HB : Hid (fitsT l cs = false) := Lib.hid (by unfold fitsT; rw [(by simpa using hr : rightL l = false)]; rfl)
    have hr' : rightL l = false := by simpa using hr
    clear hr
    go_enter Tryd.func19, Tryd.ntmps19
    go_wp2_with fail
    refine (Right_any _ l w HR.out).mono ?_
    rintro e w1 ⟨rfl, hb1⟩
    go_wp2_with fail
    go_ret
    exact ⟨(ret_bool HB.out).symm, hb1⟩
end Go.Proofs.YtmfocgaojbebgaaDoor
