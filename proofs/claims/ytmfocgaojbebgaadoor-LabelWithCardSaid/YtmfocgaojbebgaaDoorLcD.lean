/- With: a set with a name's value turned, or put to it. No condition but that it is a set. -/
import Derived.Test.YtmfocgaojbebgaaDoorLcC
import Derived.Test.YtmfocgaojbebgaaDoorLbC
namespace Go.Proofs.YtmfocgaojbebgaaDoor
open Go.RowKit

set_option maxHeartbeats 1000000 in
/-- Insert of one label, whichever way. -/
theorem insert_any (v : Value) (base : Nat) (l : List Lb) (i : Nat) (x : Lb) (ub : Nat) (T : TypeId) (w : World) (h : OwnE lbE base w v l) (hi : i ≤ l.length) (hl : l.length ≤ 1000) (hbase : base ≤ w.heap.size)
    (hu : Blk w ub T #[.string (bsOf x.1), .string (bsOf x.2)]) (hne : v.ownBlock ≠ some ub) (hT : T = 50) :
    Calls Tryd.prog 43 #[v, .int .i64 i, .slice (some ⟨ub, 0, none⟩) 1 1] w fun e w' => ∃ v', e = .returned v' ∧ OwnE lbE base w' v' (insAt l i x) ∧ Touch (fun k => v.ownBlock = some k) w w' := by
  subst hT
  rcases Nat.lt_or_ge i l.length with h0 | h0
  · obtain ⟨g, c, rfl, hg, hgl, hlc, hcm⟩ := h.pos (by omega)
    have hng : ub ≠ g := fun e => hne (by rw [e]; rfl)
    rcases Nat.lt_or_ge c (l.length + 1) with h1 | h1
    · refine (insert_grow g c base l i x ub _ w h h0 hl h1 hu).mono ?_
      rintro e w' ⟨v', he, ho, hb⟩
      exact ⟨v', he, ho.more hbase, Touch.of_below hb (Nat.le_refl _)⟩
    · refine (insert_room g c base l i x ub _ w h h0 hl h1 hu hng).mono ?_
      rintro e w' ⟨v', he, ho, _, ht⟩
      exact ⟨v', he, ho, ht.mono fun k hk => by subst hk; rfl⟩
  · have e : i = l.length := by omega
    subst e
    refine (insert_end v base l x _ w h ?_ hl hbase).mono ?_
    · refine RdE.of_form (l := [x]) (by simp) (by simp) fun _ => ⟨ub, 0, rfl, hu.lt, fun j hj k hk => ?_⟩
      obtain rfl : j = 0 := by simpa using hj
      rw [show 0 + 0 * lbE.k + k = k by omega, hu.cell k]
      simp [lbE]
    · rintro e w' ⟨v', he, ho, hg⟩
      exact ⟨v', he, ho, (Touch.refl _ _).grown hg fun k hk => .inl hk⟩

def wantT (l : List Lb) (n v : Tx) : List Lb := if placeB n l then l.set (placeT n l) (n, v) else insAt l (placeT n l) (n, v)
theorem placeB_yes {n : Tx} {l : List Lb} (h : placeB n l = true) : ∃ hp : placeT n l < l.length, l[placeT n l].1 = n := by
  unfold placeB at h
  rcases Nat.lt_or_ge (placeT n l) l.length with h1 | h1
  · rw [List.getElem?_eq_getElem h1] at h
    exact ⟨h1, by simpa using h⟩
  · rw [List.getElem?_eq_none h1] at h; cases h
theorem set_id {α : Type} {xs : List α} {p : Nat} {a : α} (h : xs[p]? = some a) : xs.set p a = xs := by
  refine List.ext_getElem? fun i => ?_
  rw [List.getElem?_set]
  split
  · rename_i e
    subst e
    have := (List.getElem?_eq_some_iff.1 h).1
    rw [if_pos this, h]
  · rfl
theorem cells_value (l : List Lb) (i : Nat) (hi : i < l.length) (v : Tx) : (cellsE lbE l).set (i * 2 + 1) (.string (bsOf v)) = cellsE lbE (l.set i (l[i].1, v)) := by
  rw [← cellsE_set lbE l i hi (l[i].1, v)]
  show _ = ((cellsE lbE l).set (i * 2) (.string (bsOf l[i].1))).set (i * 2 + 1) (.string (bsOf v))
  rw [set_id (xs := cellsE lbE l) (p := i * 2)]
  have := cellsE_get lbE l i hi 0 (by decide)
  exact this
theorem OwnE.value {base g c n : Nat} {w : World} {l : List Lb} (h : OwnE lbE base w (.slice (some ⟨g, 0, none⟩) n c) l) (i : Nat) (hi : i < l.length) (v : Tx) : OwnE lbE base (w.setCell ⟨g, i * 2 + 1, none⟩ (.string (bsOf v))) (.slice (some ⟨g, 0, none⟩) n c) (l.set i (l[i].1, v)) := by
  have hn : n = l.length := by
    obtain ⟨A, c', hv, _⟩ := h.form
    injection hv
  subst hn
  have := (World.ownsRow.stored h (i * 2 + 1) (.string (bsOf v))).1
  rw [cells_value l i hi v] at this
  unfold OwnE
  rw [List.length_set]
  exact this
def WithP (l : List Lb) (n v : Tx) (w : World) (e : Ending) (w' : World) : Prop := Below w.heap.size w w' ∧
  if rightL (wantT l n v) then ∃ u, e = .returned (.tuple #[u, .int .i64 0]) ∧ OwnE lbE w.heap.size w' u (wantT l n v) else e = .returned (.tuple #[.slice none 0 0, .int .i64 1])
theorem WithP.no {l : List Lb} {n v : Tx} {w w' : World} (h : rightL (wantT l n v) = false) (hb : Below w.heap.size w w') : WithP l n v w (.returned (.tuple #[.slice none 0 0, .int .i64 1])) w' := by
  unfold WithP
  rw [h]
  exact ⟨hb, rfl⟩
theorem WithP.yes {l : List Lb} {n v : Tx} {w w' : World} {u : Value} (h : rightL (wantT l n v) = true) (hb : Below w.heap.size w w') (ho : OwnE lbE w.heap.size w' u (wantT l n v)) : WithP l n v w (.returned (.tuple #[u, .int .i64 0])) w' := by
  unfold WithP
  rw [h]
  exact ⟨hb, u, rfl, ho⟩
set_option maxRecDepth 100000 in
set_option maxHeartbeats 4000000 in
theorem with_any (v : Value) (l : List Lb) (n vv : Tx) (w : World) (h : RdE lbE w v l) (hr : rightL l = true) :
    Calls Tryd.prog 25 #[v, .string (bsOf n), .string (bsOf vv)] w (WithP l n vv w) := by
  have hl8 : l.length ≤ 8 := by
    unfold rightL at hr
    simp only [Bool.and_eq_true, decide_eq_true_eq] at hr
    exact hr.2
  have HR := Lib.hid h
  obtain ⟨A, c, rfl, _, _, _⟩ := h.form
  clear h
  have C0 := Lib.hid (fun W h => Right_any (.slice A l.length c) l W h)
  rw [hr] at C0
  clear hr
  have HPL := placeT_le n l
  have HPY := Lib.hid (placeB_yes (n := n) (l := l))
  have HWT : Hid (wantT l n vv = if placeB n l then l.set (placeT n l) (n, vv) else insAt l (placeT n l) (n, vv)) := Lib.hid rfl
  have CP := Lib.hid (fun v W h => place_any v l n W h)
  have HYES := Lib.hid (fun (w' : World) (u : Value) => WithP.yes (l := l) (n := n) (v := vv) (w := w) (w' := w') (u := u))
  have HNO := Lib.hid (fun (w' : World) => WithP.no (l := l) (n := n) (v := vv) (w := w) (w' := w'))
  obtain ⟨want, hwant⟩ : ∃ x, wantT l n vv = x := ⟨_, rfl⟩
  rw [hwant] at HWT HYES HNO
  clear hwant
  obtain ⟨rw', hrw⟩ : ∃ x, rightL want = x := ⟨_, rfl⟩
  have C9 := Lib.hid (fun v W h => Right_any v want W h)
  rw [hrw] at C9 HYES HNO
  clear hrw
  generalize placeT n l = p at *
  generalize placeB n l = b at *
  go_enter Tryd.func25, Tryd.ntmps25
  go_wp2_with fail
  refine (C0.out w HR.out).mono ?_
  rintro e w1 ⟨rfl, hb1⟩
  have hz1 := hb1.size
  have HB1 := Lib.hid hb1
  have HR1 := Lib.hid (HR.out.keep hb1)
  clear hb1
  go_wp2_with fail
  refine (clone_lb _ l w1 HR1.out (by omega)).mono ?_
  rintro e w2 ⟨v2, rfl, o2, hb2⟩
  have hz2 := hb2.size
  have HB2 := Lib.hid (HB1.out.trans (hb2.mono hz1))
  have O2 := Lib.hid (o2.more hz1)
  have HR2 := Lib.hid (HR1.out.keep hb2)
  obtain ⟨A2, c2, rfl, _, _, _⟩ := o2.form
  clear hb2 o2
  go_wp2_with fail
  refine (CP.out _ w2 HR2.out).mono ?_
  rintro e w3 ⟨rfl, hb3⟩
  have hz3 := hb3.size
  have HB3 := Lib.hid (HB2.out.trans (hb3.mono (by have := HB2.out.size; omega)))
  have O3 := Lib.hid (O2.out.keep hb3)
  clear hb3
  have hz03 := HB3.out.size
  cases b
  · have HW : Hid (want = insAt l p (n, vv)) := Lib.hid (by rw [HWT.out]; rfl)
    go_wp2_with fail
    have hub : Blk (w3.alloc (.cells #[.string (bsOf n), .string (bsOf vv)] 50)) w3.heap.size 50 #[.string (bsOf n), .string (bsOf vv)] := Blk.new w3 _ _
    refine (insert_any _ w.heap.size l p (n, vv) w3.heap.size 50 _ (O3.out.alloc _) HPL (by omega) (by simp; omega) hub (fun e => by have := (O3.out.lt _ e).2; omega) rfl).mono ?_
    rintro e w4 ⟨v4, rfl, o4, t4⟩
    rw [← HW.out] at o4
    have HB4 := Lib.hid ((HB3.out.alloc hz03 _).trans (t4.below (B := w.heap.size) (fun k hk => (O3.out.lt k hk).1) (by simp; omega)))
    have O4 := Lib.hid o4
    obtain ⟨A4, c4, rfl, _, _, _⟩ := o4.form
    clear o4 t4 hub
    go_wp2_with fail
    refine (C9.out _ w4 O4.out.rd).mono ?_
    rintro e w5 ⟨rfl, hb5⟩
    have HB5 := Lib.hid (HB4.out.trans (hb5.mono HB4.out.size))
    have O5 := Lib.hid (O4.out.keep hb5)
    clear hb5
    cases rw'
    · go_wp2_with fail
      refine bodyPost_ret (by simp [results, Tryd.results25, go_sem, *]; try rfl) rfl ?_
      exact HNO.out _ (by simp) HB5.out
    · go_wp2_with fail
      refine bodyPost_ret (by simp [results, Tryd.results25, go_sem, *]; try rfl) rfl ?_
      exact HYES.out _ _ (by simp) HB5.out O5.out
  · obtain ⟨hp, hpn⟩ := HPY.out rfl
    have HW : Hid (want = l.set p (l[p].1, vv)) := Lib.hid (by rw [HWT.out, hpn]; rfl)
    have HPN := Lib.hid hpn
    clear hpn
    obtain ⟨g, c3, e3, hg1, hg2, _, _⟩ := O3.out.pos (by omega)
    injection e3 with e3 e4 e5
    subst e3; subst e5
    have k1 := O3.out.cellAt hp 1 (by decide)
    have f1 := O3.out.frozenAt (p * 2 + 1)
    simp only [lbE, List.getElem?_cons_succ, List.getElem?_cons_zero] at k1
    have HB4 := Lib.hid (HB3.out.setCell (p := ⟨g, p * 2 + 1, none⟩) hg1 (.string (bsOf vv)))
    have O4 := Lib.hid (O3.out.value p hp vv)
    rw [← HW.out] at O4
    clear e4
    go_wp2_with fail
    have hlw : want.length = l.length := by rw [HW.out, List.length_set]
    clear hlw k1 f1
    refine (C9.out _ _ O4.out.rd).mono ?_
    rintro e w5 ⟨rfl, hb5⟩
    have HB5 := Lib.hid (HB4.out.trans (hb5.mono HB4.out.size))
    have O5 := Lib.hid (O4.out.keep hb5)
    clear hb5
    cases rw'
    · go_wp2_with fail
      refine bodyPost_ret (by simp [results, Tryd.results25, go_sem, *]; try rfl) rfl ?_
      exact HNO.out _ (by simp) HB5.out
    · go_wp2_with fail
      refine bodyPost_ret (by simp [results, Tryd.results25, go_sem, *]; try rfl) rfl ?_
      exact HYES.out _ _ (by simp) HB5.out O5.out
end Go.Proofs.YtmfocgaojbebgaaDoor
