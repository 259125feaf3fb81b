/- The law's own functions: alive, fine, added. -/
import Derived.Test.YtedhpkfbobgkgaaDigN
import Derived.Test.YtedhpkfbobgkgaaLaw
namespace Go.Proofs.Ytedhpkfbobgkgaa
open Go.RowKit Go.Lib

theorem Touch.base {F : Nat → Prop} {w w' : World} {B : Nat} (h : Touch F w w') (hF : ∀ i, F i → B ≤ i) (hB : B ≤ w.heap.size) : Below B w w' := h.below hF hB
theorem sub_base {F F' : Nat → Prop} {w : World} {B : Nat} (hF : ∀ i, F i → B ≤ i) (h : ∀ k, F' k → F k ∨ w.heap.size ≤ k) (hB : B ≤ w.heap.size) : ∀ i, F' i → B ≤ i := fun i hi => by
  rcases h i hi with h1 | h1
  · exact hF i h1
  · omega

def sA1 : St := St.add 10 St.zero 10 1
def sA2 : St := St.add 10 sA1 20 1
def sA3 : St := St.add 10 sA2 40 2
theorem sA_ok : Fit 10 St.zero 0 ∧ Fit 10 sA1 1 ∧ Fit 10 sA2 2 ∧ Fit 10 sA3 3 := by
  have h0 := St.zero_ok 10 (by omega)
  have h1 := h0.add (by omega) (a := 10) (n := 1) (by omega) (by omega) (by omega)
  have h2 := h1.add (by omega) (a := 20) (n := 1) (by omega) (by omega) (by omega)
  have h3 := h2.add (by omega) (a := 40) (n := 2) (by omega) (by omega) (by omega)
  exact ⟨⟨h0, by omega, by decide, by omega, by omega⟩, ⟨h1, by omega, by decide, by omega, by omega⟩, ⟨h2, by omega, by decide, by omega, by omega⟩, ⟨h3, by omega, by decide, by omega, by omega⟩⟩

set_option maxRecDepth 100000 in
set_option maxHeartbeats 1000000 in
theorem alive_any (w : World) : Calls Try.prog 17 #[] w fun e w' => e = .returned (.bool true) ∧ Below w.heap.size w w' := by
  obtain ⟨k0, k1, k2, k3⟩ := sA_ok
  have K0 := Lib.hid k0
  have K1 := Lib.hid k1
  have K2 := Lib.hid k2
  have K3 := Lib.hid k3
  have HA1 := Lib.hid (show askI 10 sA3 0 1 = (10, 0) by decide +kernel)
  have HA2 := Lib.hid (show askI 10 sA3 1 2 = (26, 0) by decide +kernel)
  have HA3 := Lib.hid (show askI 10 sA3 1 1 = (40, 0) by decide +kernel)
  have HU1 := Lib.hid (show uptoS 10 sA3 30 = 2 by decide +kernel)
  have HU2 := Lib.hid (show uptoS 10 sA3 40 = 4 by decide +kernel)
  have HT := Lib.hid (show tot (sA3.L ++ sA3.W) = 4 by decide +kernel)
  clear k0 k1 k2 k3
  go_enter Try.func17, Try.ntmps17
  go_wp2_with fail
  refine (new_yes 10 w (by omega) (by omega)).mono ?_
  rintro e w1 ⟨g, rfl, hg, hd, hb1⟩
  have hz1 := hb1.size
  have D0 : Hid (DgS w1 g (fun k => k = g) 10 St.zero) := Lib.hid hd
  have F0 : Hid (∀ i, (fun k => k = g) i → w.heap.size ≤ i) := fun i hi => by simp only at hi; omega
  have B1 := Lib.hid hb1
  clear hd hb1
  go_wp2_with fail
  refine (addS_any 10 1 _ D0.out K0.out (by omega) (by omega) (by omega) (by omega) (by decide)).mono ?_
  rintro e w2 ⟨rfl, F1, f1, d1, t1⟩
  have hz2 := t1.size
  have D1 : Hid (DgS w2 g F1 10 sA1) := Lib.hid d1
  have B2 := Lib.hid (B1.out.trans (t1.base F0.out hz1))
  have FF1 := Lib.hid (sub_base F0.out f1 hz1)
  clear d1 t1 f1
  go_wp2_with fail
  refine (addS_any 20 1 _ D1.out K1.out (by omega) (by omega) (by omega) (by omega) (by decide)).mono ?_
  rintro e w3 ⟨rfl, F2, f2, d2, t2⟩
  have hz3 := t2.size
  have D2 : Hid (DgS w3 g F2 10 sA2) := Lib.hid d2
  have B3 := Lib.hid (B2.out.trans (t2.base FF1.out (by omega)))
  have FF2 := Lib.hid (sub_base FF1.out f2 (by omega))
  clear d2 t2 f2
  go_wp2_with fail
  refine (addS_any 40 2 _ D2.out K2.out (by omega) (by omega) (by omega) (by omega) (by decide)).mono ?_
  rintro e w4 ⟨rfl, F3, f3, d3, t3⟩
  have hz4 := t3.size
  have D3 : Hid (DgS w4 g F3 10 sA3) := Lib.hid d3
  have B4 := Lib.hid (B3.out.trans (t3.base FF2.out (by omega)))
  clear d3 t3 f3
  go_wp2_with fail
  have C1 := at_any 0 1 w4 D3.out K3.out (by omega) (by omega) (by omega) (by omega)
  rw [HA1.out] at C1
  refine C1.mono ?_
  rintro e w5 ⟨rfl, hb5⟩
  have D5 := Lib.hid (Dg.keep D3.out hb5)
  have B5 := Lib.hid (B4.out.trans (hb5.mono (by omega)))
  have hz5 := hb5.size
  clear C1 hb5
  go_wp2_with fail
  have C1 := at_any 1 2 w5 D5.out K3.out (by omega) (by omega) (by omega) (by omega)
  rw [HA2.out] at C1
  refine C1.mono ?_
  rintro e w6 ⟨rfl, hb6⟩
  have D6 := Lib.hid (Dg.keep D5.out hb6)
  have B6 := Lib.hid (B5.out.trans (hb6.mono (by omega)))
  have hz6 := hb6.size
  clear C1 hb6
  go_wp2_with fail
  have C1 := at_any 1 1 w6 D6.out K3.out (by omega) (by omega) (by omega) (by omega)
  rw [HA3.out] at C1
  refine C1.mono ?_
  rintro e w7 ⟨rfl, hb7⟩
  have D7 := Lib.hid (Dg.keep D6.out hb7)
  have B7 := Lib.hid (B6.out.trans (hb7.mono (by omega)))
  have hz7 := hb7.size
  clear C1 hb7
  go_wp2_with fail
  have C1 := upto_any 30 w7 D7.out K3.out (by omega) (by omega)
  rw [HU1.out] at C1
  refine C1.mono ?_
  rintro e w8 ⟨rfl, hb8⟩
  have D8 := Lib.hid (Dg.keep D7.out hb8)
  have B8 := Lib.hid (B7.out.trans (hb8.mono (by omega)))
  have hz8 := hb8.size
  clear C1 hb8
  go_wp2_with fail
  have C1 := upto_any 40 w8 D8.out K3.out (by omega) (by omega)
  rw [HU2.out] at C1
  refine C1.mono ?_
  rintro e w9 ⟨rfl, hb9⟩
  have D9 := Lib.hid (Dg.keep D8.out hb9)
  have B9 := Lib.hid (B8.out.trans (hb9.mono (by omega)))
  have hz9 := hb9.size
  clear C1 hb9
  go_wp2_with fail
  have C1 := total_any w9 D9.out
  rw [HT.out] at C1
  refine C1.mono ?_
  rintro e w10 ⟨rfl, rfl⟩
  clear C1
  go_wp2_with fail
  go_ret
  exact ⟨rfl, B9.out⟩

theorem fine_any (d : Int) (w : World) (d0 : 0 ≤ d) (d1 : d ≤ 65535) :
    Calls Try.prog 39 #[.int .u16 d] w fun e w' => e = .returned (.int .i64 (10 + d % 60)) ∧ w = w' := by
  go_enter Try.func39, Try.ntmps39
  go_wp2_with fail
  go_ret
  exact ⟨rfl, rfl⟩
end Go.Proofs.Ytedhpkfbobgkgaa
