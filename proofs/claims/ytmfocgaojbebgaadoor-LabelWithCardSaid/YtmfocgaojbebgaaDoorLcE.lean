/- LabelWith's walk. No condition but the library's variable and lengths. -/
import Derived.Test.YtmfocgaojbebgaaDoorLcD
import Derived.Test.YtmfocgaojbebgaaDoorLcA
namespace Go.Proofs.YtmfocgaojbebgaaDoor
open Go.RowKit

def accW (m : List Lb) (n v : Tx) (j : Nat) : List Lb := if j ≤ placeT n m then m.take j else (wantT m n v).take (j + if placeB n m then 0 else 1)
theorem accW_zero (m : List Lb) (n v : Tx) : accW m n v 0 = [] := by unfold accW; rw [if_pos (Nat.zero_le _)]; rfl
theorem accW_low {m : List Lb} {n v : Tx} {j : Nat} (h : j < placeT n m) (hj : j < m.length) : accW m n v (j + 1) = accW m n v j ++ [m[j]] := by
  unfold accW
  rw [if_pos (by omega), if_pos (by omega), List.take_succ_eq_append_getElem hj]
theorem accW_eq {m : List Lb} {n v : Tx} (hj : placeT n m < m.length) (hb : placeB n m = true) : accW m n v (placeT n m + 1) = accW m n v (placeT n m) ++ [(n, v)] := by
  unfold accW wantT
  rw [if_neg (by omega), if_pos (Nat.le_refl _), if_pos hb, if_pos hb, Nat.add_zero]
  rw [List.take_succ_eq_append_getElem (by rw [List.length_set]; exact hj), List.getElem_set_self, List.take_set_of_le (Nat.le_refl _)]
theorem accW_new {m : List Lb} {n v : Tx} (hj : placeT n m < m.length) (hb : placeB n m = false) : accW m n v (placeT n m + 1) = accW m n v (placeT n m) ++ [(n, v)] ++ [m[placeT n m]] := by
  unfold accW wantT insAt
  rw [if_neg (by omega), if_pos (Nat.le_refl _), if_neg (by simp [hb]), if_neg (by simp [hb])]
  have hl : (m.take (placeT n m)).length = placeT n m := by rw [List.length_take]; omega
  rw [List.take_append, hl, List.take_of_length_le (by rw [hl]; omega), show placeT n m + 1 + 1 - placeT n m = 2 by omega, List.drop_eq_getElem_cons hj, List.append_assoc]
  rfl
theorem accW_high {m : List Lb} {n v : Tx} {j : Nat} (h : placeT n m < j) (hj : j < m.length) : accW m n v (j + 1) = accW m n v j ++ [m[j]] := by
  unfold accW wantT insAt
  simp only [show ¬ (j + 1 ≤ placeT n m) from by omega, show ¬ (j ≤ placeT n m) from by omega, if_false]
  cases hb : placeB n m
  · simp only [Bool.false_eq_true, if_false]
    have hl : (m.take (placeT n m)).length = placeT n m := by rw [List.length_take]; omega
    have hlen : (m.take (placeT n m) ++ (n, v) :: m.drop (placeT n m)).length = m.length + 1 := by rw [List.length_append, hl, List.length_cons, List.length_drop]; omega
    rw [List.take_succ_eq_append_getElem (by rw [hlen]; omega)]
    congr 2
    rw [List.getElem_append_right (by rw [hl]; omega)]
    simp only [hl]
    obtain ⟨d, hd⟩ : ∃ d, j + 1 - placeT n m = d + 1 := ⟨j - placeT n m, by omega⟩
    simp only [hd, List.getElem_cons_succ, List.getElem_drop]
    congr 1; omega
  · simp only [if_true, Nat.add_zero]
    rw [List.take_succ_eq_append_getElem (by rw [List.length_set]; exact hj), List.getElem_set_ne (by omega)]
theorem accW_end {m : List Lb} {n v : Tx} (h : placeT n m < m.length) : accW m n v m.length = wantT m n v := by
  unfold accW
  rw [if_neg (by omega)]
  refine List.take_of_length_le ?_
  unfold wantT
  cases hb : placeB n m
  · simp only [Bool.false_eq_true, if_false]
    rw [insAt_length _ _ _ (by omega)]; exact Nat.le_refl _
  · simp only [if_true]
    rw [List.length_set]; exact Nat.le_refl _
theorem accW_last {m : List Lb} {n v : Tx} (h : placeT n m = m.length) : accW m n v m.length ++ [(n, v)] = wantT m n v := by
  have hb : placeB n m = false := by unfold placeB; rw [h, List.getElem?_eq_none (Nat.le_refl _)]
  unfold accW wantT
  rw [if_pos (by omega), if_neg (by simp [hb]), h, insAt_end, List.take_length]
theorem place_low {n : Tx} : ∀ {l : List Lb} {j : Nat} (h : j < l.length), j < placeT n l → lessT l[j].1 n = true
  | x :: l, 0, _, hp => by
    rw [placeT] at hp
    split at hp
    · rename_i h; exact h
    · omega
  | x :: l, j + 1, h, hp => by
    rw [placeT] at hp
    split at hp
    · exact place_low (n := n) (l := l) (j := j) (by simpa using h) (by omega)
    · omega
theorem place_at {n : Tx} : ∀ {l : List Lb} (h : placeT n l < l.length), lessT l[placeT n l].1 n = false
  | x :: l, h => by
    by_cases hx : lessT x.1 n = true
    · have e : placeT n (x :: l) = placeT n l + 1 := by rw [placeT, if_pos hx]
      simp only [e, List.length_cons] at h
      simp only [e, List.getElem_cons_succ]
      exact place_at (n := n) (l := l) (by omega)
    · have e : placeT n (x :: l) = 0 := by rw [placeT, if_neg hx]
      simp only [e, List.getElem_cons_zero]
      simpa using hx
theorem placeB_at {n : Tx} {l : List Lb} (h : placeT n l < l.length) : placeB n l = (l[placeT n l].1 == n) := by
  unfold placeB
  rw [List.getElem?_eq_getElem h]
theorem okLb_right {l : List Lb} (h : rightL l = true) : okLb l := by
  unfold rightL at h
  simp only [Bool.and_eq_true, List.all_eq_true] at h
  intro x hx
  have := lab_len (h.1.1 x hx)
  omega
theorem okLb_want {l : List Lb} {n v : Tx} (h : okLb l) (hn : n.length ≤ 9223372036854775807) (hv : v.length ≤ 9223372036854775807) : okLb (wantT l n v) := by
  intro x hx
  have key : x = (n, v) ∨ x ∈ l := by
    unfold wantT insAt at hx
    split at hx
    · rcases List.mem_or_eq_of_mem_set hx with h1 | h1
      · exact .inr h1
      · exact .inl h1
    · rcases List.mem_append.1 hx with h1 | h1
      · exact .inr (List.mem_of_mem_take h1)
      · rcases List.mem_cons.1 h1 with h2 | h2
        · exact .inl h2
        · exact .inr (List.mem_of_mem_drop h2)
  rcases key with rfl | h1
  · exact ⟨hn, hv⟩
  · exact h x h1
theorem any_take {ns : List Tx} {x : Tx} {k : Nat} (h : k < ns.length) : (ns.take (k + 1)).contains x = ((ns.take k).contains x || ns[k] == x) := by
  rw [List.take_succ_eq_append_getElem h, Bool.eq_iff_iff, List.contains_iff_mem, List.mem_append, Bool.or_eq_true, List.contains_iff_mem, List.mem_singleton, beq_iff_eq]
  exact ⟨fun h => h.imp id Eq.symm, fun h => h.imp id Eq.symm⟩
theorem right_len {l : List Lb} (h : rightL l = true) : l.length ≤ 8 := by
  unfold rightL at h
  simp only [Bool.and_eq_true, decide_eq_true_eq] at h
  exact h.2
theorem wantT_len (l : List Lb) (n v : Tx) : (wantT l n v).length ≤ l.length + 1 := by
  unfold wantT
  split
  · rw [List.length_set]; omega
  · rw [insAt_length _ _ _ (placeT_le n l)]; exact Nat.le_refl _
theorem accW_len (m : List Lb) (n v : Tx) (j : Nat) : (accW m n v j).length ≤ m.length + 1 := by
  unfold accW
  split
  · rw [List.length_take]; omega
  · rw [List.length_take]; have := wantT_len m n v; omega
set_option maxRecDepth 100000 in
set_option maxHeartbeats 8000000 in
theorem withs_any (s n v : Tx) (vn : Value) (ns : List Tx) (w : World) (hM : MaxAt w) (hs : s.length ≤ 9223372036854775807) (hln : n.length ≤ 9223372036854775807) (hlv : v.length ≤ 9223372036854775807) (hn : RdE txE w vn ns) :
    Calls Tryd.prog 7 #[.string (bsOf s), .string (bsOf n), .string (bsOf v), vn] w fun e w' => e = .returned (.bool true) ∧ Below w.heap.size w w' := by
  obtain ⟨i0, hi0, hiz, his, hib⟩ := info_parts lbI
  have HI := Lib.hid hi0
  have HZ := Lib.hid hiz
  have HSZ := Lib.hid his
  have HBY := Lib.hid hib
  clear hi0 hiz his hib
  have HM := Lib.hid hM
  have HN := Lib.hid hn
  obtain ⟨AN, cN, rfl, _, _, hnf⟩ := hn.form
  have HNF := Lib.hid hnf
  have sz := bsOf_size s
  clear hM hn hnf
  by_cases h1 : s.length ≤ 1000
  · have h1' : ¬ (s.length : Int) > 1000 := by omega
    by_cases h2 : ns.length ≤ 100
    · have h2' : ¬ (ns.length : Int) > 100 := by omega
      go_enter Tryd.func7, Tryd.ntmps7
      go_wp2_with fail
      refine (alive31_any w HM.out).mono ?_
      rintro e w1 ⟨rfl, hb1⟩
      have hz1 := hb1.size
      have HB1 := Lib.hid hb1
      clear hb1
      go_wp2_with fail
      refine (rparse_any s w1 (by omega)).mono ?_
      rintro e w2 ⟨u2, m, ok, rfl, o2, hok, hb2⟩
      obtain ⟨A2, c2, rfl, _, _, hf2⟩ := o2.form
      have HE2 := Lib.hid hf2
      have hz2 := hb2.size
      have HB2 := Lib.hid (HB1.out.trans (hb2.mono hz1))
      have O2 := Lib.hid o2.rd
      clear o2 hb2 hf2
      cases ok
      · go_wp2_with fail
        go_ret
        exact ⟨rfl, HB2.out⟩
      · have hr := hok rfl
        have hm8 := right_len hr
        have HR := Lib.hid hr
        have HOK := Lib.hid (okLb_want (n := n) (v := v) (okLb_right hr) hln hlv)
        have HWL := wantT_len m n v
        clear hok hr
        have hzz2 := HB2.out.size
        go_wp2_with (at_builtin; refine wpList_append_E lbE (ts := 23) i0 _ 32 Tryd.underlying23 HI.out HZ.out HSZ.out HBY.out rfl (by decide) (by decide) rfl (.tmp 38) (.tmp 39) rfl w2.heap.size _ [] rfl (OwnE.lit (E := lbE) w2 [] _ rfl _ rfl (by decide)) _ m rfl (O2.out.keep (by (repeat' (first | (with_reducible exact Below.refl _ _) | (with_reducible refine Below.alloc ?_ ?_ _) | (with_reducible refine Below.drew ?_) | (with_reducible refine below_drewN ?_ _) | (with_reducible refine Below.setCell ?_ ?_ _) | (with_reducible refine below_of (by assumption) ?_ ?_) | go_size)))) (by simp; omega) (by simp) ?_; intro v3 w3 o3 g3 a3)
        have hb3 : Below w2.heap.size w2 w3 := (Below.alloc (Below.refl _ _) (Nat.le_refl _) _).grown g3 (by simp) (fun k hk => by have := Option.some.inj (show some w2.heap.size = some k from hk); omega)
        simp only [List.nil_append] at o3
        have hz3 := hb3.size
        have HB3 := Lib.hid (HB2.out.trans (hb3.mono hzz2))
        have O3 := Lib.hid o3.rd
        have R3 := Lib.hid (O2.out.keep hb3)
        have HE3 := Lib.hid (HE2.out.keep hb3)
        obtain ⟨A3, c3, rfl, _, _, _⟩ := o3.form
        clear o3 g3 a3 hb3
        have hzz3 := HB3.out.size
        go_wp2_with fail
        refine (with_any _ m n v w3 R3.out HR.out).mono ?_
        intro e w4 hP
        obtain ⟨hb4, hP⟩ := hP
        have hz4 := hb4.size
        have HB4 := Lib.hid (HB3.out.trans (hb4.mono hzz3))
        have R4 := Lib.hid (R3.out.keep hb4)
        have HE4 := Lib.hid (HE3.out.keep hb4)
        have O4 := Lib.hid (O3.out.keep hb4)
        have HN4 := Lib.hid (HN.out.keep HB4.out)
        have HF4 := Lib.hid (HNF.out.keep HB4.out)
        have hzz4 := HB4.out.size
        clear hb4
        have key : ∃ u q, e = .returned (.tuple #[u, .int .i64 q]) ∧ ∃ A L c, u = .slice A L c ∧ Hid ((rightL (wantT m n v) = false → q = 1 ∧ L = 0) ∧ (rightL (wantT m n v) = true → q = 0 ∧ L = (wantT m n v).length ∧ RdE lbE w4 u (wantT m n v))) := by
          cases hq : rightL (wantT m n v) with
          | false =>
            rw [hq] at hP
            exact ⟨_, _, hP, _, _, _, rfl, Lib.hid ⟨(fun _ => ⟨rfl, rfl⟩), (fun h => by cases h)⟩⟩
          | true =>
            rw [hq] at hP
            obtain ⟨u, he, ho⟩ := hP
            obtain ⟨A, c, rfl, _, _, _⟩ := ho.form
            exact ⟨_, _, he, _, _, _, rfl, Lib.hid ⟨(fun h => by cases h), (fun _ => ⟨rfl, rfl, ho.rd⟩)⟩⟩
        clear hP
        obtain ⟨_, q, rfl, A4, L4, c4, rfl, HK⟩ := key
        have hpl := placeT_le n m
        have HPL := Lib.hid (fun j h => place_low (n := n) (l := m) (j := j) h)
        have HPA := Lib.hid (place_at (n := n) (l := m))
        have HPB := Lib.hid (placeB_at (n := n) (l := m))
        have A0 := Lib.hid (accW_zero m n v)
        have A1 := Lib.hid (fun j h hj => accW_low (m := m) (n := n) (v := v) (j := j) h hj)
        have A2q := Lib.hid (accW_eq (m := m) (n := n) (v := v))
        have A3q := Lib.hid (accW_new (m := m) (n := n) (v := v))
        have A5 := Lib.hid (fun j h hj => accW_high (m := m) (n := n) (v := v) (j := j) h hj)
        have A6 := Lib.hid (accW_end (m := m) (n := n) (v := v))
        have A7 := Lib.hid (accW_last (m := m) (n := n) (v := v))
        have AL := Lib.hid (accW_len m n v)
        generalize wantT m n v = want at *
        generalize accW m n v = acc at *
        generalize placeT n m = p at *
        generalize placeB n m = pb at *
        go_wp2_with fail
        go_loopg [14, 15, 16] m.length (fun gq u d i wr => ∃ j : Nat, gq = m.length - j ∧ j ≤ m.length ∧ i = .int .i64 j ∧ d = .bool (decide (p < j)) ∧ Hid (OwnE lbE w4.heap.size wr u (acc j)) ∧ Hid (Below w4.heap.size w4 wr))
        case atStart => exact ⟨0, rfl, by omega, rfl, by simp, Lib.hid (by rw [A0.out]; exact OwnE.nil_ _ _), Lib.hid (Below.refl _ _)⟩
        case round =>
          obtain ⟨j, hk, hj, rfl, rfl, HO, HB⟩ := hrel
          have HKj := Lib.hid hk
          have hz := HB.out.size
          clear hk
          obtain ⟨a5, c5, rfl, _, _, _⟩ := HO.out.form
          have hal := AL.out j
          by_cases hlt : j < m.length
          · obtain ⟨g, off, rfl, hg, c0, c1⟩ := (HE4.out.keep HB.out).lb hlt
            rcases Nat.lt_trichotomy j p with hjp | rfl | hjp
            · have hd : ¬ p < j := by omega
              have q1 : Op.bytesLess (bsOf m[j].1).toList (bsOf n).toList = true := by rw [bsOf_toList, bsOf_toList]; exact HPL.out j hlt hjp
              have HAJ := Lib.hid (A1.out j hjp hlt)
              go_wp2_with (at_builtin; refine wpList_append_E lbE (ts := 23) i0 _ 32 Tryd.underlying23 HI.out HZ.out HSZ.out HBY.out rfl (by decide) (by decide) rfl (.tmp 78) (.tmp 83) rfl w4.heap.size _ (acc j) rfl (HO.out.alloc _) _ [m[j]] rfl (RdE.one_at (E := lbE) _ m[j] _ rfl _ rfl _ rfl) (by simp; omega) (by simp; omega) ?_; intro v7 w7 o7 g7 a7)
              have HB7 : Hid (Below w4.heap.size w4 w7) := Lib.hid ((HB.out.alloc (by have := HB.out.size; omega) _).grown g7 (by simp; omega) (fun k hk => (HO.out.lt k hk).1))
              have O7 := Lib.hid o7
              clear o7 g7 a7
              go_wp2_with fail
              go_roundg (m.length - (j + 1))
              case measure => have := HKj.out; omega
              case rel => exact ⟨j + 1, rfl, by omega, by go_num, by simp; omega, by rw [HAJ.out]; exact O7, HB7⟩
            · have hd : ¬ j < j := by omega
              have hle := HPA.out hlt
              have q1 : Op.bytesLess (bsOf m[j].1).toList (bsOf n).toList = false := by rw [bsOf_toList, bsOf_toList]; exact hle
              have q2 : Op.bytesLess m[j].1 n = false := hle
              have hpb := HPB.out hlt
              have t1 := bsOf_toList m[j].1
              have t2 := bsOf_toList n
              clear hle
              go_upto_region 18 with (at_builtin; refine wpList_append_E lbE (ts := 23) i0 _ 32 Tryd.underlying23 HI.out HZ.out HSZ.out HBY.out rfl (by decide) (by decide) rfl (.tmp 65) (.tmp 69) rfl w4.heap.size _ (acc j) rfl (HO.out.alloc _) _ [(n, v)] rfl (RdE.one_at (E := lbE) _ (n, v) _ rfl _ rfl _ rfl) (by simp; omega) (by simp; omega) ?_; intro v6 w6 o6 g6 a6)
              have HB6 : Hid (Below w4.heap.size w4 w6) := Lib.hid ((HB.out.alloc (by have := HB.out.size; omega) _).grown g6 (by simp; omega) (fun k hk => (HO.out.lt k hk).1))
              obtain ⟨lm, hlm⟩ : ∃ y, acc j ++ [(n, v)] = y := ⟨_, rfl⟩
              have hml : lm.length = (acc j).length + 1 := by rw [← hlm]; simp
              rw [hlm] at o6
              have O6 := Lib.hid o6
              obtain ⟨a6', c6', rfl, _, _, _⟩ := o6.form
              obtain ⟨g', off', e6, hg', k0, k1⟩ := (HE4.out.keep HB6.out).lb hlt
              injection e6 with e6
              injection e6 with e6 e7
              subst e6; subst e7
              have hz6 := HB6.out.size
              clear o6 g6 a6 c0 c1 q1 q2
              cases pb
              · have haj := A3q.out hlt rfl
                rw [hlm] at haj
                have HAJ := Lib.hid haj
                clear haj hlm
                have hq : (m[j].1 == n) = false := hpb.symm
                clear hpb
                go_wp2_with (at_builtin; refine wpList_append_E lbE (ts := 23) i0 _ 32 Tryd.underlying23 HI.out HZ.out HSZ.out HBY.out rfl (by decide) (by decide) rfl (.tmp 78) (.tmp 83) rfl w4.heap.size _ lm rfl (O6.out.alloc _) _ [m[j]] rfl (RdE.one_at (E := lbE) _ m[j] _ rfl _ rfl _ rfl) (by simp; omega) (by simp; omega) ?_; intro v7 w7 o7 g7 a7)
                have HB7 : Hid (Below w4.heap.size w4 w7) := Lib.hid ((HB6.out.alloc (by have := HB6.out.size; omega) _).grown g7 (by simp; omega) (fun k hk => (O6.out.lt k hk).1))
                have O7 := Lib.hid o7
                clear o7 g7 a7
                go_wp2_with fail
                go_roundg (m.length - (j + 1))
                case measure => have := HKj.out; omega
                case rel => exact ⟨j + 1, rfl, by omega, by go_num, by simp, by rw [HAJ.out]; exact O7, HB7⟩
              · have haj := A2q.out hlt rfl
                rw [hlm] at haj
                have HAJ := Lib.hid haj
                clear haj hlm hml
                have hq : (m[j].1 == n) = true := hpb.symm
                clear hpb
                go_wp2_with fail
                go_roundg (m.length - (j + 1))
                case measure => have := HKj.out; omega
                case rel => exact ⟨j + 1, rfl, by omega, by go_num, by simp, by rw [HAJ.out]; exact O6, HB6⟩
            · have hd : p < j := hjp
              have HAJ := Lib.hid (A5.out j hjp hlt)
              go_wp2_with (at_builtin; refine wpList_append_E lbE (ts := 23) i0 _ 32 Tryd.underlying23 HI.out HZ.out HSZ.out HBY.out rfl (by decide) (by decide) rfl (.tmp 78) (.tmp 83) rfl w4.heap.size _ (acc j) rfl (HO.out.alloc _) _ [m[j]] rfl (RdE.one_at (E := lbE) _ m[j] _ rfl _ rfl _ rfl) (by simp; omega) (by simp; omega) ?_; intro v7 w7 o7 g7 a7)
              have HB7 : Hid (Below w4.heap.size w4 w7) := Lib.hid ((HB.out.alloc (by have := HB.out.size; omega) _).grown g7 (by simp; omega) (fun k hk => (HO.out.lt k hk).1))
              have O7 := Lib.hid o7
              clear o7 g7 a7
              go_wp2_with fail
              go_roundg (m.length - (j + 1))
              case measure => have := HKj.out; omega
              case rel => exact ⟨j + 1, rfl, by omega, by go_num, by simp; omega, by rw [HAJ.out]; exact O7, HB7⟩
          · obtain rfl : j = m.length := by omega
            obtain ⟨dd, hdd⟩ : ∃ y, decide (p < m.length) = y := ⟨_, rfl⟩
            rw [hdd]
            have HD1 : Hid (dd = true → acc m.length = want) := Lib.hid fun h => A6.out (by rw [h] at hdd; simpa using hdd)
            have HD2 : Hid (dd = false → acc m.length ++ [(n, v)] = want) := Lib.hid fun h => A7.out (by rw [h] at hdd; have : ¬ p < m.length := by simpa using hdd
                                                                                                         omega)
            clear hdd
            go_upto_if 86 with fail
            go_cut [14] (fun u w5 => Hid (OwnE lbE w4.heap.size w5 u want) ∧ Hid (Below w4.heap.size w4 w5))
            case first =>
              cases dd
              · have HW := Lib.hid (HD2.out rfl)
                go_wp2_with (at_builtin; refine wpList_append_E lbE (ts := 23) i0 _ 32 Tryd.underlying23 HI.out HZ.out HSZ.out HBY.out rfl (by decide) (by decide) rfl (.tmp 87) (.tmp 91) rfl w4.heap.size _ (acc m.length) rfl (HO.out.alloc _) _ [(n, v)] rfl (RdE.one_at (E := lbE) _ (n, v) _ rfl _ rfl _ rfl) (by simp; omega) (by simp; omega) ?_; intro v7 w7 o7 g7 a7)
                have HB7 : Hid (Below w4.heap.size w4 w7) := Lib.hid ((HB.out.alloc (by have := HB.out.size; omega) _).grown g7 (by simp; omega) (fun k hk => (HO.out.lt k hk).1))
                rw [HW.out] at o7
                have O7 := Lib.hid o7
                clear o7 g7 a7
                go_wp2_with fail
                go_meet
                exact ⟨O7, HB7⟩
              · have HW := Lib.hid (HD1.out rfl)
                go_wp2_with fail
                go_meet
                exact ⟨by rw [← HW.out]; exact HO, HB⟩
            case rest =>
              obtain ⟨HO5, HB5⟩ := hcut
              generalize wc = w5 at *
              have hz5 := HB5.out.size
              have BW5 := Lib.hid (HB4.out.trans (HB5.out.mono hzz4))
              have R5 := Lib.hid (R4.out.keep HB5.out)
              have HE5 := Lib.hid (HE4.out.keep HB5.out)
              have O5 := Lib.hid (O4.out.keep HB5.out)
              have HN5 := Lib.hid (HN4.out.keep HB5.out)
              have HF5 := Lib.hid (HF4.out.keep HB5.out)
              have W5 := Lib.hid HO5.out.rd
              have HK5 : Hid ((rightL want = false → q = 1 ∧ L4 = 0) ∧ (rightL want = true → q = 0 ∧ L4 = want.length ∧ RdE lbE w5 (.slice A4 L4 c4) want)) := Lib.hid ⟨HK.out.1, fun h => ⟨(HK.out.2 h).1, (HK.out.2 h).2.1, (HK.out.2 h).2.2.keep HB5.out⟩⟩
              obtain ⟨aw, cw, rfl, _, _, _⟩ := HO5.out.form
              clear HK HO5 HB5 HB HO HB1 HB2 HB3 HB4 R4 HE4 O4 HN4 HF4 R3 HE3 O3 HE2 O2 HN HNF A0 A1 A2q A3q A5 A6 A7 AL HPL HPA HPB HD1 HD2 HKj
              have hzz5 := BW5.out.size
              obtain ⟨rw', hrw⟩ : ∃ x, rightL want = x := ⟨_, rfl⟩
              rw [hrw] at HK5
              have FR := Lib.hid (fun W h => rRight_any (.slice aw want.length cw) want W h HOK.out)
              rw [hrw] at FR
              clear hrw
              go_upto_region 22 with fail
              go_cut [124] (fun v w6 => v = .bool false ∧ Hid (Below w5.heap.size w5 w6))
              case first =>
                cases rw'
                · obtain ⟨rfl, rfl⟩ := HK5.out.1 rfl
                  have B5 : Hid (Below w5.heap.size w5 w5) := Lib.hid (Below.refl _ _)
                  go_wp2_with fail
                  refine (FR.out w5 W5.out).mono ?_
                  rintro e w6 ⟨rfl, hb6⟩
                  have B6 := Lib.hid (B5.out.trans (hb6.mono B5.out.size))
                  clear hb6
                  go_wp2_with fail
                  refine (FR.out w6 (W5.out.keep B6.out)).mono ?_
                  rintro e w7 ⟨rfl, hb7⟩
                  have B7 := Lib.hid (B6.out.trans (hb7.mono B6.out.size))
                  clear hb7
                  go_wp2_with fail
                  refine (lsame_any _ _ m m w7 (R5.out.keep B7.out) (O5.out.keep B7.out)).mono ?_
                  rintro e w8 ⟨rfl, hb8⟩
                  have B8 := Lib.hid (B7.out.trans (hb8.mono B7.out.size))
                  clear hb8
                  go_wp2_with fail
                  go_meet
                  exact ⟨by simp, B8⟩
                · obtain ⟨rfl, rfl, HS⟩ := HK5.out.2 rfl
                  have HS := Lib.hid HS
                  have B5 : Hid (Below w5.heap.size w5 w5) := Lib.hid (Below.refl _ _)
                  go_wp2_with fail
                  refine (FR.out w5 W5.out).mono ?_
                  rintro e w6 ⟨rfl, hb6⟩
                  have B6 := Lib.hid (B5.out.trans (hb6.mono B5.out.size))
                  clear hb6
                  go_wp2_with fail
                  refine (FR.out w6 (W5.out.keep B6.out)).mono ?_
                  rintro e w7 ⟨rfl, hb7⟩
                  have B7 := Lib.hid (B6.out.trans (hb7.mono B6.out.size))
                  clear hb7
                  go_wp2_with fail
                  refine (lsame_any _ _ want want w7 (HS.out.keep B7.out) (W5.out.keep B7.out)).mono ?_
                  rintro e w8 ⟨rfl, hb8⟩
                  have B8 := Lib.hid (B7.out.trans (hb8.mono B7.out.size))
                  clear hb8
                  go_wp2_with fail
                  refine (lsame_any _ _ m m w8 (R5.out.keep B8.out) (O5.out.keep B8.out)).mono ?_
                  rintro e w9 ⟨rfl, hb9⟩
                  have B9 := Lib.hid (B8.out.trans (hb9.mono B8.out.size))
                  clear hb9
                  go_wp2_with fail
                  go_meet
                  exact ⟨by simp, B9⟩
              case rest =>
                obtain ⟨rfl, HB6⟩ := hcut
                generalize wc = w6 at *
                have hz6 := HB6.out.size
                have BW6 := Lib.hid (BW5.out.trans (HB6.out.mono hzz5))
                have R6 := Lib.hid (R5.out.keep HB6.out)
                have HE6 := Lib.hid (HE5.out.keep HB6.out)
                have O6 := Lib.hid (O5.out.keep HB6.out)
                have HN6 := Lib.hid (HN5.out.keep HB6.out)
                have HF6 := Lib.hid (HF5.out.keep HB6.out)
                clear R5 HE5 O5 HN5 HF5 W5 HK5 BW5 HB6 FR HOK
                have hzz6 := BW6.out.size
                go_wp2_with fail
                go_loopg [17, 18, 19, 20] m.length (fun gq u i _ _ wr => ∃ j : Nat, gq = m.length - j ∧ j ≤ m.length ∧ i = .int .i64 j ∧ Hid (OwnE lbE w6.heap.size wr u (onlyT (m.take j) ns)) ∧ Hid (Below w6.heap.size w6 wr))
                case atStart => exact ⟨0, rfl, by omega, rfl, Lib.hid (by rw [List.take_zero]; exact OwnE.nil_ _ _), Lib.hid (Below.refl _ _)⟩
                case round =>
                  obtain ⟨j, hk, hj, rfl, HO, HB⟩ := hrel
                  have HKj := Lib.hid hk
                  generalize wr = w7 at *
                  have hz := HB.out.size
                  clear hk
                  obtain ⟨a5, c5, rfl, _, _, _⟩ := HO.out.form
                  have hlen : (onlyT (m.take j) ns).length ≤ j := by
                    have := List.length_filter_le (fun x : Lb => ns.contains x.1) (m.take j)
                    unfold onlyT
                    rw [List.length_take] at this; omega
                  by_cases hlt : j < m.length
                  · obtain ⟨g, off, rfl, hg, c0, c1⟩ := (HE6.out.keep HB.out).lb hlt
                    have HF := Lib.hid (filter_snoc (f := fun x : Lb => ns.contains x.1) hlt)
                    obtain ⟨x, hx⟩ : ∃ x, m[j] = x := ⟨_, rfl⟩
                    rw [hx] at c0 c1 HF
                    have C0 := Lib.hid c0
                    have C1 := Lib.hid c1
                    clear hx c0 c1
                    go_wp2_with fail
                    go_loopg [19, 20] ns.length (fun gq b i wr => ∃ k : Nat, gq = ns.length - k ∧ k ≤ ns.length ∧ i = .int .i64 k ∧ b = .bool ((ns.take k).contains x.1) ∧ Hid (Below w7.heap.size w7 wr))
                    case atStart => exact ⟨0, rfl, by omega, rfl, by simp, Lib.hid (Below.refl _ _)⟩
                    case round =>
                      obtain ⟨k, hk, hkn, rfl, rfl, HBk⟩ := hrel
                      have HKk := Lib.hid hk
                      have hzk := HBk.out.size
                      clear hk
                      by_cases hkl : k < ns.length
                      · have HAT := Lib.hid (any_take (x := x.1) hkl)
                        obtain ⟨gn, on, rfl, hgn, e0⟩ := ((HF6.out.keep HB.out).keep HBk.out).tx hkl
                        have k0 := (HBk.out.cell (p := ⟨g, off + j * 2, none⟩) hg).trans C0.out
                        have t1 := bsOf_toList ns[k]
                        have t2 := bsOf_toList x.1
                        obtain ⟨bb, hbb⟩ : ∃ y, (ns.take k).contains x.1 = y := ⟨_, rfl⟩
                        rw [hbb]
                        rw [hbb] at HAT
                        clear hbb
                        cases bb
                        all_goals
                          go_wp2_with fail
                          go_quiet (fail)
                          go_wp2_with fail
                          go_roundg (ns.length - (k + 1))
                          case measure => have := HKk.out; omega
                          case rel => exact ⟨k + 1, rfl, by omega, by go_num, by rw [HAT.out]; simp, Lib.hid (by have := HBk.out; (repeat' (first | (with_reducible exact Below.refl _ _) | (with_reducible refine Below.alloc ?_ ?_ _) | (with_reducible refine Below.drew ?_) | (with_reducible refine below_drewN ?_ _) | (with_reducible refine Below.setCell ?_ ?_ _) | (with_reducible refine below_of (by assumption) ?_ ?_) | go_size)))⟩
                      · have hkk : (ns.take k).contains x.1 = ns.contains x.1 := by rw [List.take_of_length_le (by omega)]
                        rw [hkk]
                        clear hkk
                        have HBK := Lib.hid (HB.out.trans (HBk.out.mono hz))
                        have hzw := HBK.out.size
                        have HOk := Lib.hid (HO.out.keep HBk.out)
                        have c0 := (HBk.out.cell (p := ⟨g, off + j * 2, none⟩) hg).trans C0.out
                        have c1 := (HBk.out.cell (p := ⟨g, off + j * 2 + 1, none⟩) hg).trans C1.out
                        obtain ⟨bb, hbb⟩ : ∃ y, ns.contains x.1 = y := ⟨_, rfl⟩
                        rw [hbb]
                        rw [hbb] at HF
                        clear hbb
                        cases bb
                        · have HQ : Hid (onlyT (m.take (j + 1)) ns = onlyT (m.take j) ns) := Lib.hid (by have := HF.out; unfold onlyT; rw [this]; simp)
                          clear c0 c1
                          go_wp2_with fail
                          go_roundg (m.length - (j + 1))
                          case measure => have := HKj.out; omega
                          case rel => exact ⟨j + 1, rfl, by omega, by go_num, by rw [HQ.out]; exact HOk, HBK⟩
                        · have HQ : Hid (onlyT (m.take (j + 1)) ns = onlyT (m.take j) ns ++ [x]) := Lib.hid (by have := HF.out; unfold onlyT; rw [this]; simp)
                          go_wp2_with (at_builtin; refine wpList_append_E lbE (ts := 23) i0 _ 32 Tryd.underlying23 HI.out HZ.out HSZ.out HBY.out rfl (by decide) (by decide) rfl (.tmp 151) (.tmp 156) rfl w6.heap.size _ (onlyT (m.take j) ns) rfl (HOk.out.alloc _) _ [x] rfl (RdE.one_at (E := lbE) _ x _ rfl _ rfl _ rfl) (by simp; omega) (by simp; omega) ?_; intro v8 w8 o8 g8 a8)
                          have HB8 : Hid (Below w6.heap.size w6 w8) := Lib.hid ((HBK.out.alloc (by omega) _).grown g8 (by simp; omega) (fun k hk => (HOk.out.lt k hk).1))
                          have O8 := Lib.hid o8
                          clear o8 g8 a8 c0 c1
                          go_wp2_with fail
                          go_roundg (m.length - (j + 1))
                          case measure => have := HKj.out; omega
                          case rel => exact ⟨j + 1, rfl, by omega, by go_num, by rw [HQ.out]; exact O8, HB8⟩
                  · have hfin : onlyT (m.take j) ns = onlyT m ns := by rw [List.take_of_length_le (by omega)]
                    have HOW := HO.out
                    rw [hfin] at HOW hlen
                    have HOW := Lib.hid HOW.rd
                    rw [hfin]
                    clear hfin
                    have B7 := Lib.hid (BW6.out.trans (HB.out.mono hzz6))
                    have R7 := Lib.hid (R6.out.keep HB.out)
                    have O7 := Lib.hid (O6.out.keep HB.out)
                    have N7 := Lib.hid (HN6.out.keep HB.out)
                    clear HB HO BW6 R6 O6 HN6 HE6 HF6
                    have hzz7 := B7.out.size
                    go_wp2_with fail
                    refine (only_any _ _ m ns w7 R7.out N7.out (by omega)).mono ?_
                    rintro e w8 ⟨u8, rfl, o8, hb8⟩
                    obtain ⟨a8, c8, rfl, _, _, _⟩ := o8.form
                    have B8 := Lib.hid (B7.out.trans (hb8.mono hzz7))
                    have R8 := Lib.hid (R7.out.keep hb8)
                    have O8 := Lib.hid (O7.out.keep hb8)
                    have W8 := Lib.hid (HOW.out.keep hb8)
                    have U8 := Lib.hid o8.rd
                    clear o8 hb8
                    have hzz8 := B8.out.size
                    go_wp2_with fail
                    refine (lsame_any _ _ _ _ w8 U8.out W8.out).mono ?_
                    rintro e w9 ⟨rfl, hb9⟩
                    have B9 := Lib.hid (B8.out.trans (hb9.mono hzz8))
                    have R9 := Lib.hid (R8.out.keep hb9)
                    have O9 := Lib.hid (O8.out.keep hb9)
                    clear hb9
                    go_wp2_with fail
                    refine (lsame_any _ _ m m w9 R9.out O9.out).mono ?_
                    rintro e w10 ⟨rfl, hb10⟩
                    go_wp2_with fail
                    go_ret
                    exact ⟨by simp, B9.out.trans (hb10.mono B9.out.size)⟩
    · have h2' : (ns.length : Int) > 100 := by omega
      go_enter Tryd.func7, Tryd.ntmps7
      go_wp2_with fail
      refine (alive31_any w HM.out).mono ?_
      rintro e w1 ⟨rfl, hb1⟩
      go_wp2_with fail
      go_ret
      exact ⟨rfl, hb1⟩
  · have h1' : (s.length : Int) > 1000 := by omega
    go_enter Tryd.func7, Tryd.ntmps7
    go_wp2_with fail
    refine (alive31_any w HM.out).mono ?_
    rintro e w1 ⟨rfl, hb1⟩
    go_wp2_with fail
    go_ret
    exact ⟨rfl, hb1⟩
end Go.Proofs.YtmfocgaojbebgaaDoor
