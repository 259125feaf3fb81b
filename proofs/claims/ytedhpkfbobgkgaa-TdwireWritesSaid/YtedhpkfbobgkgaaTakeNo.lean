/- Take, where nothing is taken. -/
import Derived.Test.YtedhpkfbobgkgaaDigN
namespace Go.Proofs.Ytedhpkfbobgkgaa
open Go.RowKit Go.Lib

set_option maxRecDepth 100000 in
theorem take_nil (g : Nat) (w : World) : Calls Try.prog 41 #[.pointer (some ⟨g, 0, none⟩), .pointer none] w fun e w' => e = .returned (.int .i64 1) ∧ Below w.heap.size w w' := by
  go_enter Try.func41, Try.ntmps41
  go_wp2_with fail
  go_ret
  exact ⟨rfl, by (repeat' (first | (with_reducible exact Below.refl _ _) | (with_reducible refine Below.alloc ?_ ?_ _) | (with_reducible refine Below.drew ?_) | (with_reducible refine below_drewN ?_ _) | (with_reducible refine Below.setCell ?_ ?_ _) | (with_reducible refine below_of (by assumption) ?_ ?_) | go_size))⟩
set_option maxRecDepth 100000 in
theorem take_kind {g gt : Nat} {F Ft : Nat → Prop} {d d' : Int} {s t : St} (w : World) (h : DgS w g F d s) (ht : DgS w gt Ft d' t) (hd : d' ≠ d) :
    Calls Try.prog 41 #[.pointer (some ⟨g, 0, none⟩), .pointer (some ⟨gt, 0, none⟩)] w fun e w' => e = .returned (.int .i64 3) ∧ Below w.heap.size w w' := by
  obtain ⟨slv, swv, sb, _⟩ := h
  obtain ⟨tlv, twv, tb, _⟩ := ht
  have x0 := sb.cell 0
  have y0 := tb.cell 0
  simp only [List.getElem?_toArray, List.getElem?_cons_zero] at x0 y0
  have hdd : (d' != d) = true := by simpa using hd
  clear sb tb hd
  go_enter Try.func41, Try.ntmps41
  go_wp2_with fail
  go_quiet (fail)
  go_wp2_with fail
  go_ret
  exact ⟨rfl, by (repeat' (first | (with_reducible exact Below.refl _ _) | (with_reducible refine Below.alloc ?_ ?_ _) | (with_reducible refine Below.drew ?_) | (with_reducible refine below_drewN ?_ _) | (with_reducible refine Below.setCell ?_ ?_ _) | (with_reducible refine below_of (by assumption) ?_ ?_) | go_size))⟩
/-- What Take says where nothing is taken. -/
def takeE (s t : St) : Int := if 281474976710656 - tot (s.L ++ s.W) < tot (t.L ++ t.W) then 6 else 0
set_option maxRecDepth 100000 in
set_option maxHeartbeats 1000000 in
theorem take_no {g gt : Nat} {F Ft : Nat → Prop} {d : Int} {s t : St} {k kt : Nat} (w : World) (h : DgS w g F d s) (ht : DgS w gt Ft d t) (ft : Fit d s k) (_ft' : Fit d t kt)
    (hc : 281474976710656 - tot (s.L ++ s.W) < tot (t.L ++ t.W) ∨ tot (t.L ++ t.W) = 0) :
    Calls Try.prog 41 #[.pointer (some ⟨g, 0, none⟩), .pointer (some ⟨gt, 0, none⟩)] w fun e w' => e = .returned (.int .i64 (takeE s t)) ∧ Below w.heap.size w w' := by
  obtain ⟨slv, swv, sb, _⟩ := h
  obtain ⟨tlv, twv, tb, _⟩ := ht
  have x0 := sb.cell 0
  have x5 := sb.cell 5
  have y0 := tb.cell 0
  have y5 := tb.cell 5
  simp only [List.getElem?_toArray, List.getElem?_cons_zero, List.getElem?_cons_succ] at x0 y0 x5 y5
  have hdd : (d != d) = false := by simp
  have s0 := ft.ok.n_nonneg
  have s1 := ft.t
  have EW := Lib.hid (IntWalk.u64_in (281474976710656 - tot (s.L ++ s.W)) (by omega))
  clear sb tb ft _ft'
  by_cases h6 : 281474976710656 - tot (s.L ++ s.W) < tot (t.L ++ t.W)
  · have hE : Hid (takeE s t = 6) := if_pos h6
    have hcb : decide (281474976710656 - tot (s.L ++ s.W) < tot (t.L ++ t.W)) = true := decide_eq_true h6
    clear hc
    go_enter Try.func41, Try.ntmps41
    go_wp2_with fail
    go_quiet (fail)
    go_wp2_with fail
    have ew := EW.out
    go_quiet (fail)
    clear ew
    go_wp2_with fail
    go_ret
    exact ⟨ret_int hE.out.symm, by (repeat' (first | (with_reducible exact Below.refl _ _) | (with_reducible refine Below.alloc ?_ ?_ _) | (with_reducible refine Below.drew ?_) | (with_reducible refine below_drewN ?_ _) | (with_reducible refine Below.setCell ?_ ?_ _) | (with_reducible refine below_of (by assumption) ?_ ?_) | go_size))⟩
  · have hE : Hid (takeE s t = 0) := if_neg h6
    have h0 : tot (t.L ++ t.W) = 0 := by omega
    have hcb : decide (281474976710656 - tot (s.L ++ s.W) < 0) = false := decide_eq_false (by omega)
    rw [h0] at y5
    clear hc h0 h6
    go_enter Try.func41, Try.ntmps41
    go_wp2_with fail
    go_quiet (fail)
    go_wp2_with fail
    have ew := EW.out
    go_quiet (fail)
    clear ew
    go_wp2_with fail
    go_ret
    exact ⟨ret_int hE.out.symm, by (repeat' (first | (with_reducible exact Below.refl _ _) | (with_reducible refine Below.alloc ?_ ?_ _) | (with_reducible refine Below.drew ?_) | (with_reducible refine below_drewN ?_ _) | (with_reducible refine Below.setCell ?_ ?_ _) | (with_reducible refine below_of (by assumption) ?_ ?_) | go_size))⟩

set_option maxRecDepth 100000 in
set_option maxHeartbeats 1000000 in
theorem rtake_no {g gt : Nat} {F Ft : Nat → Prop} {d : Int} {s t : St} {k kt : Nat} (w : World) (h : RDgS w g F d s) (ht : RDgS w gt Ft d t) (ft : Fit d s k) (ft' : Fit d t kt)
    (hc : 281474976710656 - tot (s.L ++ s.W) < tot (t.L ++ t.W) ∨ tot (t.L ++ t.W) = 0) :
    Calls Try.prog 53 #[.pointer (some ⟨g, 0, none⟩), .pointer (some ⟨gt, 0, none⟩)] w fun e w' => e = .returned (.int .i64 (takeE s t)) ∧ Below w.heap.size w w' := by
  have H := Lib.hid h
  have HT := Lib.hid ht
  have s0 := ft.ok.n_nonneg
  have s1 := ft.t
  have t0 := ft'.ok.n_nonneg
  have t1 := ft'.t
  have hls : s.L.length + s.W.length ≤ 100000000 := by have := ft.ok.len; have := ft.k1; omega
  have hlt : t.L.length + t.W.length ≤ 100000000 := by have := ft'.ok.len; have := ft'.k1; omega
  have HO1 := Lib.hid ft.ok.ok
  have HO2 := Lib.hid ft'.ok.ok
  have hz : tot (t.L ++ t.W) = 0 → t.L.length + t.W.length = 0 := fun e => by rw [← List.length_append, ft'.ok.n_zero.1 e]; rfl
  obtain ⟨slv, swv, sb, _⟩ := h
  obtain ⟨tlv, twv, tb, _⟩ := ht
  have x0 := sb.cell 0
  have y0 := tb.cell 0
  simp only [List.getElem?_toArray, List.getElem?_cons_zero] at x0 y0
  have hdd : (d != d) = false := by simp
  have CA := fun q => Lib.hid (rall_any gt Ft d t.lo t.hi t.L t.W (w.drewN q) (RDg.keep HT.out (below_drewN (Below.refl _ _) q)) (by omega))
  have hw : (281474976710656 - tot (s.L ++ s.W) < tot (t.L ++ t.W) ∧ takeE s t = 6) ∨ (tot (t.L ++ t.W) = 0 ∧ takeE s t = 0 ∧ ¬ 281474976710656 - tot (s.L ++ s.W) < tot (t.L ++ t.W)) := by
    by_cases h6 : 281474976710656 - tot (s.L ++ s.W) < tot (t.L ++ t.W)
    · exact .inl ⟨h6, if_pos h6⟩
    · exact .inr ⟨by omega, if_neg h6, h6⟩
  clear sb tb ft ft' hc
  rcases hw with ⟨h6, hE'⟩ | ⟨h0, hE', h6⟩
  · have hE := Lib.hid hE'
    clear hE' hz
    go_enter Try.func53, Try.ntmps53
    go_wp2_with fail
    go_quiet (fail)
    go_wp2_with fail
    refine ((CA _).out).mono ?_
    rintro e w1 ⟨v1, rfl, o1, hb1'⟩
    have hb1 : Below w.heap.size w w1 := (below_drewN (Below.refl _ _) _).trans hb1'
    have hz1 := hb1.size
    have O1 := Lib.hid o1
    clear o1 hb1' CA
    go_wp2_with fail
    refine (rtotal_any _ (t.L ++ t.W) w1 O1.out.rd HO2.out (by omega)).mono ?_
    rintro e w2 ⟨rfl, hb2⟩
    have hbw2 : Below w.heap.size w w2 := hb1.trans (hb2.mono hz1)
    have hz2 := hbw2.size
    go_wp2_with fail
    refine (rall_any g F d s.lo s.hi s.L s.W w2 (RDg.keep H.out hbw2) (by omega)).mono ?_
    rintro e w3 ⟨v3, rfl, o3, hb3⟩
    have hbw3 : Below w.heap.size w w3 := hbw2.trans (hb3.mono hz2)
    have hz3 := hbw3.size
    have O3 := Lib.hid o3
    clear o3
    go_wp2_with fail
    refine (rtotal_any v3 (s.L ++ s.W) w3 O3.out.rd HO1.out (by omega)).mono ?_
    rintro e w4 ⟨rfl, hb4⟩
    have hbw4 : Below w.heap.size w w4 := hbw3.trans (hb4.mono hz3)
    go_wp2_with fail
    go_ret
    exact ⟨ret_int hE.out.symm, hbw4⟩
  · have hE := Lib.hid hE'
    have hl0 := hz h0
    have HL0 : Hid ((t.L ++ t.W).length = 0) := by show _ = 0; rw [List.length_append]; exact hl0
    have H0 := Lib.hid h0
    have hlb : (((t.L.length : Int) + (t.W.length : Int)) == 0) = true := beq_iff_eq.2 (by omega)
    have hll : t.L.length + t.W.length ≤ 0 := by omega
    clear hE' hz h0 hl0
    go_enter Try.func53, Try.ntmps53
    go_wp2_with fail
    go_quiet (fail)
    go_wp2_with fail
    refine ((CA _).out).mono ?_
    rintro e w1 ⟨v1, rfl, o1, hb1'⟩
    have hb1 : Below w.heap.size w w1 := (below_drewN (Below.refl _ _) _).trans hb1'
    have hz1 := hb1.size
    obtain ⟨A1, c1, rfl, n1, m1, f1⟩ := o1.form
    have O1 := Lib.hid o1
    rw [HL0.out]
    rw [HL0.out] at O1
    clear o1 hb1' CA f1 n1
    go_wp2_with fail
    refine (rtotal_any _ (t.L ++ t.W) w1 O1.out.rd HO2.out (by omega)).mono ?_
    rintro e w2 ⟨rfl, hb2⟩
    have hbw2 : Below w.heap.size w w2 := hb1.trans (hb2.mono hz1)
    have hz2 := hbw2.size
    go_wp2_with fail
    refine (rall_any g F d s.lo s.hi s.L s.W w2 (RDg.keep H.out hbw2) (by omega)).mono ?_
    rintro e w3 ⟨v3, rfl, o3, hb3⟩
    have hbw3 : Below w.heap.size w w3 := hbw2.trans (hb3.mono hz2)
    have hz3 := hbw3.size
    have O3 := Lib.hid o3
    clear o3
    go_wp2_with fail
    refine (rtotal_any v3 (s.L ++ s.W) w3 O3.out.rd HO1.out (by omega)).mono ?_
    rintro e w4 ⟨rfl, hb4⟩
    have hbw4 : Below w.heap.size w w4 := hbw3.trans (hb4.mono hz3)
    go_wp2_with fail
    go_ret
    exact ⟨ret_int hE.out.symm, hbw4⟩
end Go.Proofs.Ytedhpkfbobgkgaa
