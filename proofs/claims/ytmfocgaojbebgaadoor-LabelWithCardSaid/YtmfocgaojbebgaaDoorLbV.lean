/- Holds of the reference. No condition. -/
import Derived.Test.YtmfocgaojbebgaaDoorLbD
namespace Go.Proofs.YtmfocgaojbebgaaDoor
open Go.RowKit

theorem holds_eq {l : List Lb} {c : Cd} (h : c.2.1 = [61]) : holdsT l c = (getT l c.1 == c.2.2) := by unfold holdsT; rw [h]; rfl
theorem holds_neq {l : List Lb} {c : Cd} (h : c.2.1 = [33, 61]) : holdsT l c = !(getT l c.1 == c.2.2) := by unfold holdsT; rw [h]; rfl
theorem holds_pre {l : List Lb} {c : Cd} (h : c.2.1 = [126]) : holdsT l c = c.2.2.isPrefixOf (getT l c.1) := by unfold holdsT; rw [h]; rfl
theorem holds_npre {l : List Lb} {c : Cd} (h : c.2.1 = [33, 126]) : holdsT l c = !(c.2.2.isPrefixOf (getT l c.1)) := by unfold holdsT; rw [h]; rfl
theorem holds_no {l : List Lb} {c : Cd} (h1 : c.2.1 ≠ [61]) (h2 : c.2.1 ≠ [33, 61]) (h3 : c.2.1 ≠ [126]) (h4 : c.2.1 ≠ [33, 126]) : holdsT l c = false := by
  unfold holdsT
  rw [if_neg (by simpa using h1), if_neg (by simpa using h2), if_neg (by simpa using h3), if_neg (by simpa using h4)]
theorem pre_take {p v : Tx} (_h : p.length ≤ v.length) : p.isPrefixOf v = (v.take p.length == p) := by
  rw [Bool.eq_iff_iff, List.isPrefixOf_iff_prefix, List.prefix_iff_eq_take, beq_iff_eq]
  exact ⟨fun e => e.symm, fun e => e.symm⟩
theorem pre_short {p v : Tx} (h : ¬ p.length ≤ v.length) : p.isPrefixOf v = false := by
  rw [← Bool.not_eq_true, List.isPrefixOf_iff_prefix]
  exact fun e => h e.length_le
theorem ret_b {a b : Bool} (h : b = a) : Ending.returned (.bool a) = .returned (.bool b) := by rw [h]
set_option maxRecDepth 100000 in
set_option maxHeartbeats 4000000 in
theorem rHolds_any (v : Value) (l : List Lb) (c : Cd) (w : World) (h : RdE lbE w v l) : Calls Tryd.prog 18 #[v, .agg #[.string (bsOf c.1), .string (bsOf c.2.1), .string (bsOf c.2.2)]] w fun e w' => e = .returned (.bool (holdsT l c)) ∧ Below w.heap.size w w' := by
  obtain ⟨n, o, p⟩ := c
  have HG := Lib.hid (fun w (h : RdE lbE w v l) => rGet_any v l n w h)
  have Hq := Lib.hid (holds_eq (l := l) (c := (n, o, p)))
  have Hn := Lib.hid (holds_neq (l := l) (c := (n, o, p)))
  have Hp := Lib.hid (holds_pre (l := l) (c := (n, o, p)))
  have Hm := Lib.hid (holds_npre (l := l) (c := (n, o, p)))
  have H0 := Lib.hid (holds_no (l := l) (c := (n, o, p)))
  simp only at Hq Hn Hp Hm H0 ⊢
  generalize getT l n = g at *
  generalize holdsT l (n, o, p) = res at *
  have HR := Lib.hid h
  obtain ⟨A, cp, rfl, _, _, _⟩ := h.form
  clear h
  have zg := bsOf_size g
  have zp := bsOf_size p
  have tg := bsOf_toList g
  have tp := bsOf_toList p
  have t0 := bsOf_toList o
  have hcut : (bsOf g).extract 0 p.length = bsOf (g.take p.length) := bsOf_take g p.length
  have tc := bsOf_toList (g.take p.length)
  have HC := fun h => Lib.hid (pre_take (p := p) (v := g) h)
  have HS := fun h => Lib.hid (pre_short (p := p) (v := g) h)
  generalize p.isPrefixOf g = pre at *
  obtain ⟨q1, e1⟩ : ∃ x, (o == ([61] : Tx)) = x := ⟨_, rfl⟩
  obtain ⟨q2, e2⟩ : ∃ x, (o == ([33, 61] : Tx)) = x := ⟨_, rfl⟩
  obtain ⟨q3, e3⟩ : ∃ x, (o == ([126] : Tx)) = x := ⟨_, rfl⟩
  obtain ⟨q4, e4⟩ : ∃ x, (o == ([33, 126] : Tx)) = x := ⟨_, rfl⟩
  have HV : Hid (res = if q1 then (g == p) else if q2 then !(g == p) else if q3 then pre else if q4 then !pre else false) := Lib.hid (by
    cases q1
    · cases q2
      · cases q3
        · cases q4
          · exact H0.out (by simpa using e1) (by simpa using e2) (by simpa using e3) (by simpa using e4)
          · exact Hm.out (by simpa using e4)
        · exact Hp.out (by simpa using e3)
      · exact Hn.out (by simpa using e2)
    · exact Hq.out (by simpa using e1))
  clear Hq Hn Hp Hm H0
  have hq : q1 = true ∨ (q1 = false ∧ q2 = true) ∨ (q1 = false ∧ q2 = false ∧ q3 = true) ∨ (q1 = false ∧ q2 = false ∧ q3 = false ∧ q4 = true) ∨ (q1 = false ∧ q2 = false ∧ q3 = false ∧ q4 = false) := by
    cases q1 <;> cases q2 <;> cases q3 <;> cases q4 <;> simp
  by_cases hl : p.length ≤ g.length
  · have HX := HC hl
    have hge : (g.length : Int) ≥ (p.length : Int) := by omega
    clear HC HS hl
    rcases hq with rfl | ⟨rfl, rfl⟩ | ⟨rfl, rfl, rfl⟩ | ⟨rfl, rfl, rfl, rfl⟩ | ⟨rfl, rfl, rfl, rfl⟩
    all_goals
      go_enter Tryd.func18, Tryd.ntmps18
      go_wp2_with fail
      refine (HG.out _ (HR.out.keep (by (repeat' (first | (with_reducible exact Below.refl _ _) | (with_reducible refine Below.alloc ?_ ?_ _) | (with_reducible refine Below.drew ?_) | (with_reducible refine below_drewN ?_ _) | (with_reducible refine Below.setCell ?_ ?_ _) | (with_reducible refine below_of (by assumption) ?_ ?_) | go_size))))).mono ?_
      rintro e w1 ⟨rfl, hb1⟩
      have ⟨hc1, hf1⟩ := bcell hb1
      have hz1 := hb1.size
      simp only [World.size_alloc] at hz1
      go_wp2_with fail
      go_quiet (fail)
      go_wp2_with fail
      go_ret
      exact ⟨ret_b (by rw [HV.out, HX.out]; simp), by (repeat' (first | (with_reducible exact Below.refl _ _) | (with_reducible refine Below.alloc ?_ ?_ _) | (with_reducible refine Below.drew ?_) | (with_reducible refine below_drewN ?_ _) | (with_reducible refine Below.setCell ?_ ?_ _) | (with_reducible refine below_of (by assumption) ?_ ?_) | go_size))⟩
  · have HX := HS hl
    have hge : ((g.length : Int) ≥ (p.length : Int)) = False := by simp; omega
    clear HC HS hl
    rcases hq with rfl | ⟨rfl, rfl⟩ | ⟨rfl, rfl, rfl⟩ | ⟨rfl, rfl, rfl, rfl⟩ | ⟨rfl, rfl, rfl, rfl⟩
    all_goals
      go_enter Tryd.func18, Tryd.ntmps18
      go_wp2_with fail
      refine (HG.out _ (HR.out.keep (by (repeat' (first | (with_reducible exact Below.refl _ _) | (with_reducible refine Below.alloc ?_ ?_ _) | (with_reducible refine Below.drew ?_) | (with_reducible refine below_drewN ?_ _) | (with_reducible refine Below.setCell ?_ ?_ _) | (with_reducible refine below_of (by assumption) ?_ ?_) | go_size))))).mono ?_
      rintro e w1 ⟨rfl, hb1⟩
      have ⟨hc1, hf1⟩ := bcell hb1
      have hz1 := hb1.size
      simp only [World.size_alloc] at hz1
      go_wp2_with fail
      go_quiet (fail)
      go_wp2_with fail
      go_ret
      exact ⟨ret_b (by rw [HV.out, HX.out]; simp), by (repeat' (first | (with_reducible exact Below.refl _ _) | (with_reducible refine Below.alloc ?_ ?_ _) | (with_reducible refine Below.drew ?_) | (with_reducible refine below_drewN ?_ _) | (with_reducible refine Below.setCell ?_ ?_ _) | (with_reducible refine below_of (by assumption) ?_ ?_) | go_size))⟩
end Go.Proofs.YtmfocgaojbebgaaDoor
