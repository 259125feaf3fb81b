/- LabelSelects' walk. No condition but the library's variable. -/
import Derived.Test.YtmfocgaojbebgaaDoorLbX
import Derived.Test.YtmfocgaojbebgaaDoorLbU
namespace Go.Proofs.YtmfocgaojbebgaaDoor
open Go.RowKit

theorem mapM_some_iff {α β : Type} {f : α → Option β} : ∀ (ps : List α), (ps.mapM f).isSome = ps.all (fun p => (f p).isSome)
  | [] => rfl
  | p :: ps => by
    have ih := mapM_some_iff (f := f) ps
    rw [List.mapM_cons, List.all_cons, ← ih]
    cases f p with
    | none => rfl
    | some x =>
      cases List.mapM f ps <;> rfl
theorem mapM_at {α β : Type} {f : α → Option β} : ∀ {ps : List α} {l : List β}, ps.mapM f = some l → l.length = ps.length ∧ ∀ j (h : j < ps.length) (h' : j < l.length), f ps[j] = some l[j]
  | [], l, h => by
    have : l = [] := by simpa using h.symm
    subst this
    exact ⟨rfl, fun j h => absurd h (by simp)⟩
  | p :: ps, l, h => by
    rw [List.mapM_cons] at h
    cases hp : f p with
    | none => rw [hp] at h; cases h
    | some x =>
      cases hq : ps.mapM f with
      | none => rw [hp, hq] at h; cases h
      | some l' =>
        rw [hp, hq] at h
        have e : l = x :: l' := by simpa using h.symm
        subst e
        obtain ⟨e1, e2⟩ := mapM_at hq
        refine ⟨by simp [e1], fun j hj hj' => ?_⟩
        cases j with
        | zero => exact hp
        | succ j => exact e2 j (by simpa using hj) (by simpa using hj')
theorem sel_good (s : Tx) : (selT s).isSome = (decide ((partsT s).length ≤ 8) && (partsT s).all (fun p => (condT p).isSome)) := by
  unfold selT
  split
  · rename_i h
    rw [decide_eq_false (by omega)]; rfl
  · rename_i h
    rw [mapM_some_iff, decide_eq_true (by omega)]; rfl
theorem sel_at {s : Tx} {l : List Cd} (h : selT s = some l) : l.length = (partsT s).length ∧ ∀ j (h : j < (partsT s).length) (h' : j < l.length), condT (partsT s)[j] = some l[j] := by
  unfold selT at h
  split at h
  · cases h
  · exact mapM_at h
theorem rparse_any (s : Tx) (w : World) (hs : s.length ≤ 1000000) : Calls Tryd.prog 10 #[.string (bsOf s)] w fun e w' => ∃ v m ok, e = .returned (.tuple #[v, .bool ok]) ∧ OwnE lbE w.heap.size w' v m ∧ (ok = true → rightL m = true) ∧ Below w.heap.size w w' := by
  refine (rParse_t s w hs).mono fun e w' hP => ?_
  unfold RParseP at hP
  obtain ⟨hb, hP⟩ := hP
  by_cases h8 : 8 < (partsT s).length
  · rw [if_pos h8] at hP
    exact ⟨_, [], false, hP, OwnE.nil_ _ _, (fun h => by cases h), hb⟩
  · rw [if_neg h8] at hP
    cases hc : cutL (partsT s) with
    | none =>
      rw [hc] at hP
      exact ⟨_, [], false, hP, OwnE.nil_ _ _, (fun h => by cases h), hb⟩
    | some l =>
      rw [hc] at hP
      obtain ⟨v, he, ho⟩ := hP
      exact ⟨v, _, _, he, ho, id, hb⟩
/-- Cond of the reference, by what it tells. -/
theorem rcond_is (s : Tx) (w : World) (hs : s.length ≤ 1000000) : Calls Tryd.prog 17 #[.string (bsOf s)] w fun e w' => ∃ x : Cd, e = .returned (.tuple #[.agg #[.string (bsOf x.1), .string (bsOf x.2.1), .string (bsOf x.2.2)], .bool (condT s).isSome]) ∧ (∀ c, condT s = some c → x = c) ∧ Below w.heap.size w w' := by
  have h0 := rCond_b (bsOf s) w (by rw [bsOf_size]; exact hs)
  rw [bsOf_data] at h0
  refine h0.mono fun e w' hP => ?_
  unfold CondP at hP
  obtain ⟨hb, hP⟩ := hP
  cases hc : condT s with
  | none =>
    rw [hc] at hP
    obtain ⟨a, b, c, he⟩ := hP
    exact ⟨(a, b, c), he, (fun _ h => by cases h), hb⟩
  | some c =>
    rw [hc] at hP
    exact ⟨c, hP, (fun _ h => by cases h; rfl), hb⟩
theorem take_all {α : Type} {f : α → Bool} {l : List α} {j : Nat} (h : j < l.length) : (l.take (j + 1)).all f = ((l.take j).all f && f l[j]) := by
  rw [List.take_succ_eq_append_getElem h, List.all_append]; simp
set_option maxRecDepth 100000 in
set_option maxHeartbeats 8000000 in
theorem selects_any (s t : Tx) (w : World) (hM : MaxAt w) (hs : s.length ≤ 9223372036854775807) (ht : t.length ≤ 9223372036854775807) : Calls Tryd.prog 4 #[.string (bsOf s), .string (bsOf t)] w fun e w' => e = .returned (.bool true) ∧ Below w.heap.size w w' := by
  have HM := Lib.hid hM
  have sz := bsOf_size s
  have sz' := bsOf_size t
  clear hM
  by_cases h1 : s.length ≤ 1000
  · have h1' : ¬ (s.length : Int) > 1000 := by omega
    by_cases h2 : t.length ≤ 1000
    · have h2' : ¬ (t.length : Int) > 1000 := by omega
      have HG := Lib.hid (sel_good s)
      have HAT := Lib.hid (fun l => sel_at (s := s) (l := l))
      have HPL := Lib.hid (fun p (h : p ∈ partsT s) => part_short h)
      have HS := Lib.hid (Select_t s)
      have HSP := Lib.hid (rSplit_t s)
      unfold SelP at HS
      obtain ⟨sl, hsl⟩ : ∃ x, selT s = x := ⟨_, rfl⟩
      rw [hsl] at HG HS
      have HSL := Lib.hid hsl
      rw [hsl] at HAT
      clear hsl
      generalize partsT s = ps at *
      go_enter Tryd.func4, Tryd.ntmps4
      go_wp2_with fail
      refine (alive31_any w HM.out).mono ?_
      rintro e w1 ⟨rfl, hb1⟩
      have hz1 := hb1.size
      have HB1 := Lib.hid hb1
      go_wp2_with fail
      refine (HS.out w1 (HM.out.keep hb1) (by omega)).mono ?_
      intro e w2 h2
      obtain ⟨hb2, h2⟩ := h2
      clear hb1
      have hz2 := hb2.size
      have HB2 := Lib.hid hb2
      clear hb2
      have key : ∃ v n, e = .returned (.tuple #[v, .int .i64 n]) ∧ ∃ A L c, v = .slice A L c ∧ Hid ((sl = none → n = 1 ∧ L = 0) ∧ ∀ l, sl = some l → n = 0 ∧ L = l.length ∧ OwnE cdE w1.heap.size w2 v l) := by
        cases sl with
        | none => exact ⟨_, _, h2, _, _, _, rfl, Lib.hid ⟨fun _ => ⟨rfl, rfl⟩, fun l h => by cases h⟩⟩
        | some l =>
          obtain ⟨v, he, ho⟩ := h2
          obtain ⟨A, c, rfl, _, _, _⟩ := ho.form
          exact ⟨_, _, he, _, _, _, rfl, Lib.hid ⟨(fun h => by cases h), (fun l' h => by cases h; exact ⟨rfl, rfl, ho⟩)⟩⟩
      clear h2
      obtain ⟨_, n, rfl, A, L, c, rfl, HK⟩ := key
      go_wp2_with fail
      refine (HSP.out w2 (by omega)).mono ?_
      rintro e w3 ⟨v3, rfl, o3, hb3⟩
      obtain ⟨A3, c3, rfl, hn3, hc3, hp3⟩ := o3.form
      have hz3 := hb3.size
      have HB3 := Lib.hid hb3
      have O3 := Lib.hid o3
      have HP3 := Lib.hid hp3
      clear o3 hp3 hb3
      go_wp2_with fail
      go_loopg [8, 9] ps.length (fun q g i wr => ∃ j : Nat, q = ps.length - j ∧ j ≤ ps.length ∧ i = .int .i64 j ∧ g = .bool (decide (ps.length ≤ 8) && (ps.take j).all (fun p => (condT p).isSome)) ∧ Hid (Below w3.heap.size w3 wr))
      case atStart => exact ⟨0, rfl, by omega, rfl, by simp; omega, Lib.hid (Below.refl _ _)⟩
      case round =>
        obtain ⟨j, hk, hj, rfl, rfl, HB⟩ := hrel
        have HK' := Lib.hid hk
        have hz := HB.out.size
        clear hk
        by_cases hlt : j < ps.length
        · obtain ⟨g, off, rfl, hg, c0⟩ := (HP3.out.keep HB.out).tx hlt
          have HT := Lib.hid (take_all (f := fun p => (condT p).isSome) hlt)
          have hlp : ps[j].length ≤ 1000000 := by have := HPL.out _ (List.getElem_mem hlt); omega
          have FC := Lib.hid (fun W => rcond_is ps[j] W hlp)
          obtain ⟨r, hr⟩ : ∃ r, (condT ps[j]).isSome = r := ⟨_, rfl⟩
          rw [hr] at FC HT
          obtain ⟨acc, hacc⟩ : ∃ b, (decide (ps.length ≤ 8) && (ps.take j).all (fun p => (condT p).isSome)) = b := ⟨_, rfl⟩
          rw [hacc]
          have HT2 : Hid ((decide (ps.length ≤ 8) && (ps.take (j + 1)).all (fun p => (condT p).isSome)) = (acc && r)) := Lib.hid (by rw [HT.out, ← Bool.and_assoc, hacc])
          clear hr hacc HT
          go_wp2_with fail
          refine (FC.out _).mono ?_
          rintro e w4 ⟨x, rfl, -, hb4⟩
          have hz4 := hb4.size
          have HB4 := Lib.hid (HB.out.trans (hb4.mono hz))
          clear hb4
          cases acc
          all_goals
            go_wp2_with fail
            go_roundg (ps.length - (j + 1))
            case measure => have := HK'.out; omega
            case rel => exact ⟨j + 1, rfl, by omega, by go_num, by rw [HT2.out]; simp, Lib.hid (HB4.out.alloc (by have := HB4.out.size; omega) _)⟩
        · have hfin : (decide (ps.length ≤ 8) && (ps.take j).all (fun p => (condT p).isSome)) = sl.isSome := by
            rw [HG.out, List.take_of_length_le (by omega)]
          rw [hfin]
          clear hfin
          have hzr := HB.out.size
          cases hsl : sl with
          | none =>
            obtain ⟨rfl, rfl⟩ := HK.out.1 hsl
            clear hsl
            go_wp2_with fail
            go_ret
            exact ⟨by simp, HB1.out.trans ((HB2.out.trans ((HB3.out.trans (HB.out.mono hz3)).mono hz2)).mono hz1)⟩
          | some l =>
            obtain ⟨rfl, rfl, ho⟩ := HK.out.2 l hsl
            obtain ⟨hll, hat⟩ := HAT.out l hsl
            have HL := Lib.hid hll
            have HA := Lib.hid hat
            have HO := Lib.hid ho
            have B05 := Lib.hid (HB1.out.trans ((HB2.out.trans ((HB3.out.trans (HB.out.mono hz3)).mono hz2)).mono hz1))
            have HOr := Lib.hid (HO.out.keep (HB3.out.trans (HB.out.mono hz3)))
            have O3r := Lib.hid (O3.out.keep HB.out)
            clear hsl hll hat ho HK HG HAT
            have hne : ((l.length : Int) != (ps.length : Int)) = false := by have := HL.out; simp; omega
            go_wp2_with fail
            refine (rparse_any t _ (by omega)).mono ?_
            rintro e w5 ⟨v5, m, ok, rfl, o5, hok, hb5⟩
            obtain ⟨A5, c5, rfl, _, _, _⟩ := o5.form
            have hz5 := hb5.size
            have B55 := Lib.hid (B05.out.trans (hb5.mono B05.out.size))
            have O5 := Lib.hid o5.rd
            have HOK := Lib.hid hok
            have HO5 := Lib.hid (HOr.out.keep hb5)
            obtain ⟨_, _, _, _, _, hf5⟩ := HO5.out.form
            have HP5 := Lib.hid ((HP3.out.keep HB.out).keep hb5)
            clear o5 hok hb5 HB2 HB3 HB B05 HOr O3r HP3 hf5
            go_wp2_with fail
            generalize wr = w4 at *
            go_loopg [14, 15] ps.length (fun q f i wr => ∃ k : Nat, q = ps.length - k ∧ k ≤ ps.length ∧ i = .int .i64 k ∧ f = .bool ((l.take k).all (holdsT m)) ∧ Hid (Below w5.heap.size w5 wr))
            case atStart => exact ⟨0, rfl, by omega, rfl, by simp, Lib.hid (Below.refl _ _)⟩
            case round =>
              obtain ⟨k, hk, hj, rfl, rfl, HB⟩ := hrel
              have HK := Lib.hid hk
              have hz := HB.out.size
              clear hk
              have hll := HL.out
              by_cases hlt : k < ps.length
              · have hlt' : k < l.length := by omega
                obtain ⟨g, off, rfl, hg, c0⟩ := (HP5.out.keep HB.out).tx hlt
                obtain ⟨_, _, ev, _, _, hfm⟩ := (HO5.out.keep HB.out).form
                injection ev with ev1 ev2 ev3
                subst ev1; subst ev3
                obtain ⟨g', off', rfl, hg', k0, k1, k2⟩ := hfm.cd hlt'
                have K0 := Lib.hid k0
                have K1 := Lib.hid k1
                have K2 := Lib.hid k2
                have HT := Lib.hid (take_all (f := holdsT m) hlt')
                have hlp : ps[k].length ≤ 1000000 := by have := HPL.out _ (List.getElem_mem hlt); omega
                have FC := Lib.hid (fun W => rcond_is ps[k] W hlp)
                have hca := HA.out k hlt hlt'
                rw [hca] at FC
                have HX : Hid (∀ x : Cd, (∀ c, some l[k] = some c → x = c) → x = l[k]) := Lib.hid (fun x h => h _ rfl)
                obtain ⟨y, hy⟩ : ∃ y, l[k] = y := ⟨_, rfl⟩
                rw [hy] at K0 K1 K2 HT FC HX
                have FH := Lib.hid (fun W h => rHolds_any (.slice A5 m.length c5) m y W h)
                obtain ⟨acc, hacc⟩ : ∃ b, (l.take k).all (holdsT m) = b := ⟨_, rfl⟩
                obtain ⟨hd, hh⟩ : ∃ b, holdsT m y = b := ⟨_, rfl⟩
                rw [hacc, hh] at HT
                rw [hh] at FH
                rw [hacc]
                clear k0 k1 k2 hca hy hacc hh hll ev2
                go_wp2_with fail
                refine (FC.out _).mono ?_
                rintro e w6 ⟨x, rfl, hx, hb6⟩
                obtain rfl := HX.out x hx
                have hz6 := hb6.size
                have k0 := (hb6.cell (p := ⟨g', off' + k * 3, none⟩) hg').trans K0.out
                have k1 := (hb6.cell (p := ⟨g', off' + k * 3 + 1, none⟩) hg').trans K1.out
                have k2 := (hb6.cell (p := ⟨g', off' + k * 3 + 2, none⟩) hg').trans K2.out
                have HB6 := Lib.hid (HB.out.trans (hb6.mono hz))
                have hgw : g' < w6.heap.size := by omega
                have h56 : w5.heap.size ≤ w6.heap.size := HB6.out.size
                clear hx hb6 HX
                go_wp2_with fail
                go_quiet (fail)
                cases acc
                · go_wp2_with fail
                  go_roundg (ps.length - (k + 1))
                  case measure => have := HK.out; omega
                  case rel => exact ⟨k + 1, rfl, by omega, by go_num, by rw [HT.out]; rfl, Lib.hid (below_drewN (HB6.out.alloc h56 _) _)⟩
                · go_wp2_with fail
                  refine (FH.out _ (O5.out.keep (below_drewN (HB6.out.alloc h56 _) _))).mono ?_
                  rintro e w7 ⟨rfl, hb7⟩
                  go_wp2_with fail
                  go_roundg (ps.length - (k + 1))
                  case measure => have := HK.out; omega
                  case rel => exact ⟨k + 1, rfl, by omega, by go_num, by rw [HT.out]; simp, Lib.hid ((below_drewN (HB6.out.alloc h56 _) _).trans (hb7.mono (below_drewN (HB6.out.alloc h56 _) _).size))⟩
              · have hall : (l.take k).all (holdsT m) = l.all (holdsT m) := by rw [List.take_of_length_le (by omega)]
                rw [hall]
                have HB9 := Lib.hid (B55.out.trans (HB.out.mono B55.out.size))
                have hzz := HB9.out.size
                clear hall
                obtain ⟨z, hzq⟩ : ∃ z, l.all (holdsT m) = z := ⟨_, rfl⟩
                clear hll
                rw [hzq]
                have HF : ok = true → Hid (fitsT m l = z) := fun h => Lib.hid (by unfold fitsT; rw [HOK.out h, Bool.true_and, hzq])
                clear hzq
                cases ok
                · go_wp2_with fail
                  go_ret
                  exact ⟨rfl, HB9.out⟩
                · have FT := Lib.hid (fun W h h' => Fits_any (.slice A5 m.length c5) (.slice A l.length c) m l W h h')
                  have HF := HF rfl
                  rw [HF.out] at FT
                  clear HF
                  have R1 := Lib.hid (O5.out.keep HB.out)
                  have R2 := Lib.hid (HO5.out.keep HB.out).rd
                  go_wp2_with fail
                  refine (FT.out _ R1.out R2.out).mono ?_
                  rintro e w7 ⟨rfl, hb7⟩
                  go_wp2_with fail
                  go_ret
                  exact ⟨by simp, HB9.out.trans (hb7.mono hzz)⟩
    · have h2' : (t.length : Int) > 1000 := by omega
      go_enter Tryd.func4, Tryd.ntmps4
      go_wp2_with fail
      refine (alive31_any w HM.out).mono ?_
      rintro e w1 ⟨rfl, hb1⟩
      go_wp2_with fail
      go_ret
      exact ⟨rfl, hb1⟩
  · have h1' : (s.length : Int) > 1000 := by omega
    go_enter Tryd.func4, Tryd.ntmps4
    go_wp2_with fail
    refine (alive31_any w HM.out).mono ?_
    rintro e w1 ⟨rfl, hb1⟩
    go_wp2_with fail
    go_ret
    exact ⟨rfl, hb1⟩
end Go.Proofs.YtmfocgaojbebgaaDoor
