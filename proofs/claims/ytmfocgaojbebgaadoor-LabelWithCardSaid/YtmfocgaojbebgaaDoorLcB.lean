/- place, Clone, Contains, Only of labels. No condition but lengths. -/
import Derived.Test.YtmfocgaojbebgaaDoorLbH
namespace Go.Proofs.YtmfocgaojbebgaaDoor
open Go.RowKit

/-- Where a name is, or would be. -/
def placeT (n : Tx) : List Lb → Nat
  | [] => 0
  | x :: l => if lessT x.1 n then placeT n l + 1 else 0
theorem placeT_le (n : Tx) : ∀ l, placeT n l ≤ l.length
  | [] => Nat.le_refl _
  | x :: l => by
    rw [placeT]
    split
    · have := placeT_le n l
      rw [List.length_cons]; omega
    · omega
theorem placeT_hit {n : Tx} : ∀ {l : List Lb} {j : Nat} (h : j < l.length), j ≤ placeT n l → lessT l[j].1 n = false → placeT n l = j
  | x :: l, 0, _, _, h => by rw [placeT, if_neg (by simpa using h)]
  | x :: l, j + 1, hj, hp, h => by
    rw [placeT] at hp ⊢
    split at hp
    · rename_i hx
      rw [if_pos hx, placeT_hit (n := n) (l := l) (j := j) (by simpa using hj) (by omega) (by simpa using h)]
    · omega
theorem placeT_miss {n : Tx} : ∀ {l : List Lb} {j : Nat} (h : j < l.length), j ≤ placeT n l → lessT l[j].1 n = true → j + 1 ≤ placeT n l
  | x :: l, 0, _, _, h => by rw [placeT, if_pos (by simpa using h)]; omega
  | x :: l, j + 1, hj, hp, h => by
    rw [placeT] at hp ⊢
    split at hp
    · rename_i hx
      rw [if_pos hx]
      have := placeT_miss (n := n) (l := l) (j := j) (by simpa using hj) (by omega) (by simpa using h)
      omega
    · omega
def placeB (n : Tx) (l : List Lb) : Bool := match l[placeT n l]? with
  | some x => x.1 == n
  | none => false
set_option maxHeartbeats 4000000 in
theorem place_any (v : Value) (l : List Lb) (n : Tx) (w : World) (h : RdE lbE w v l) : Calls Tryd.prog 42 #[v, .string (bsOf n)] w fun e w' => e = .returned (.tuple #[.int .i64 (placeT n l), .bool (placeB n l)]) ∧ Below w.heap.size w w' := by
  obtain ⟨A, c, rfl, hn, hc, hp⟩ := h.form
  have HP := Lib.hid hp
  clear hp h
  go_enter Tryd.func42, Tryd.ntmps42
  go_wp2_with fail
  go_loopg [6, 10] l.length (fun q _ i wr => ∃ j : Nat, q = l.length - j ∧ j ≤ l.length ∧ i = .int .i64 j ∧ Hid (j ≤ placeT n l) ∧ Below w.heap.size w wr)
  case atStart => exact ⟨0, rfl, by omega, rfl, Lib.hid (Nat.zero_le _), by (repeat' (first | (with_reducible exact Below.refl _ _) | (with_reducible refine Below.alloc ?_ ?_ _) | (with_reducible refine Below.drew ?_) | (with_reducible refine below_drewN ?_ _) | (with_reducible refine Below.setCell ?_ ?_ _) | (with_reducible refine below_of (by assumption) ?_ ?_) | go_size))⟩
  case round =>
    obtain ⟨j, hk, hj, rfl, HS, hb⟩ := hrel
    have HK := Lib.hid hk
    have hz := hb.size
    clear hk
    by_cases hlt : j < l.length
    · obtain ⟨g, off, rfl, hg, c0, c1⟩ := (HP.out.keep hb).lb hlt
      by_cases hle : lessT l[j].1 n = true
      · have HN := Lib.hid (placeT_miss hlt HS.out hle)
        have q1 : Op.bytesLess (bsOf l[j].1).toList (bsOf n).toList = true := by rw [bsOf_toList, bsOf_toList]; exact hle
        clear hle
        go_wp2_with fail
        go_roundg (l.length - (j + 1))
        case measure => have := HK.out; omega
        case rel => exact ⟨j + 1, rfl, by omega, by go_num, HN, by (repeat' (first | (with_reducible exact Below.refl _ _) | (with_reducible refine Below.alloc ?_ ?_ _) | (with_reducible refine Below.drew ?_) | (with_reducible refine below_drewN ?_ _) | (with_reducible refine Below.setCell ?_ ?_ _) | (with_reducible refine below_of (by assumption) ?_ ?_) | go_size))⟩
      · have HE := Lib.hid (placeT_hit hlt HS.out (by simpa using hle))
        have HF : Hid (placeB n l = (l[j].1 == n)) := Lib.hid (by unfold placeB; rw [HE.out, List.getElem?_eq_getElem hlt])
        have q1 : Op.bytesLess (bsOf l[j].1).toList (bsOf n).toList = false := by rw [bsOf_toList, bsOf_toList]; simpa [lessT] using hle
        have q2 : Op.bytesLess l[j].1 n = false := by simpa [lessT] using hle
        have t1 := bsOf_toList l[j].1
        have t2 := bsOf_toList n
        clear hle
        go_wp2_with fail
        go_quiet (fail)
        go_wp2_with fail
        refine bodyPost_ret (by simp [results, Tryd.results42, go_sem, *]; try rfl) rfl ?_
        exact ⟨by rw [HE.out, HF.out], by (repeat' (first | (with_reducible exact Below.refl _ _) | (with_reducible refine Below.alloc ?_ ?_ _) | (with_reducible refine Below.drew ?_) | (with_reducible refine below_drewN ?_ _) | (with_reducible refine Below.setCell ?_ ?_ _) | (with_reducible refine below_of (by assumption) ?_ ?_) | go_size))⟩
    · have HE : Hid (placeT n l = l.length) := Lib.hid (by have := placeT_le n l; have := HS.out; omega)
      have HF : Hid (placeB n l = false) := Lib.hid (by unfold placeB; rw [HE.out, List.getElem?_eq_none (Nat.le_refl _)])
      go_wp2_with fail
      refine bodyPost_ret (by simp [results, Tryd.results42, go_sem, *]; try rfl) rfl ?_
      exact ⟨by rw [HE.out, HF.out], hb⟩

theorem lbI : (Tryd.prog.info? 50).map (fun i => (i.zero, i.size, i.bytes)) = some (some (.agg #[.string ⟨#[]⟩, .string ⟨#[]⟩]), 2, 32) := by kernel_rfl
set_option maxHeartbeats 1000000 in
theorem clone_lb (v : Value) (l : List Lb) (w : World) (h : RdE lbE w v l) (hlen : l.length ≤ 1000000000000) :
    Calls Tryd.prog 41 #[v] w fun e w' => ∃ v', e = .returned v' ∧ OwnE lbE w.heap.size w' v' l ∧ Below w.heap.size w w' := by
  obtain ⟨i0, hi0, hiz, his, hib⟩ := info_parts lbI
  have HI := Lib.hid hi0
  have HZ := Lib.hid hiz
  have HSZ := Lib.hid his
  have HBY := Lib.hid hib
  clear hi0 hiz his hib
  obtain ⟨A, c, rfl, hn, hc, hp⟩ := h.form
  have HR := Lib.hid h
  clear h
  by_cases hnil : A = none
  · subst hnil
    have h0 : l = [] := by
      rcases Nat.eq_zero_or_pos l.length with h0 | h0
      · exact List.eq_nil_of_length_eq_zero h0
      · obtain ⟨g, off, e, _⟩ := hp h0; cases e
    subst h0
    clear hp
    have he : (binOp .eql 23 (.slice none 0 c) (.slice none 0 0)).run Tryd.prog w = .ok (.bool true) w := Lib.run_eql_slice_nil w _ _ _ _ _ _ _ Tryd.underlying23
    go_enter Tryd.func41, Tryd.ntmps41
    go_wp2_with fail
    go_ret
    exact ⟨_, rfl, OwnE.nil_ _ _, by (repeat' (first | (with_reducible exact Below.refl _ _) | (with_reducible refine Below.alloc ?_ ?_ _) | (with_reducible refine Below.drew ?_) | (with_reducible refine below_drewN ?_ _) | (with_reducible refine Below.setCell ?_ ?_ _) | (with_reducible refine below_of (by assumption) ?_ ?_) | go_size))⟩
  · obtain ⟨a, rfl⟩ : ∃ a, A = some a := by
      cases A with
      | none => exact absurd rfl hnil
      | some a => exact ⟨a, rfl⟩
    clear hnil hp
    have he : (binOp .eql 23 (.slice (some a) l.length c) (.slice none 0 0)).run Tryd.prog w = .ok (.bool false) w := Lib.run_eql_slice_nil w _ _ _ _ _ _ _ Tryd.underlying23
    go_enter Tryd.func41, Tryd.ntmps41
    go_wp2_with (at_builtin; refine wpList_append_E lbE (ts := 23) i0 _ 32 Tryd.underlying23 HI.out HZ.out HSZ.out HBY.out rfl (by decide) (by decide) rfl (.tmp 5) (.tmp 6) rfl w.heap.size _ [] rfl (OwnE.lit (E := lbE) w [] _ rfl _ rfl (by decide)) _ l rfl (HR.out.keep (by (repeat' (first | (with_reducible exact Below.refl _ _) | (with_reducible refine Below.alloc ?_ ?_ _) | (with_reducible refine Below.drew ?_) | (with_reducible refine below_drewN ?_ _) | (with_reducible refine Below.setCell ?_ ?_ _) | (with_reducible refine below_of (by assumption) ?_ ?_) | go_size)))) (by simp; omega) (by simp) ?_; intro v1 w7 o1 g1 a1)
    have HB7 : Below w.heap.size w w7 := (Below.alloc (Below.refl _ _) (Nat.le_refl _) _).grown g1 (by simp) (fun k hk => by have := Option.some.inj (show some w.heap.size = some k from hk); omega)
    simp only [List.nil_append] at o1
    go_wp2_with fail
    go_ret
    exact ⟨_, rfl, o1, HB7⟩

theorem contains_t (v : Value) (ns : List Tx) (n : Tx) (w : World) (h : RdE txE w v ns) : Calls Tryd.prog 44 #[v, .string (bsOf n)] w fun e w' => e = .returned (.bool (ns.contains n)) ∧ w = w' := by
  obtain ⟨A, c, rfl, hn, hc, hp⟩ := h.form
  rcases Nat.eq_zero_or_pos ns.length with h0 | h0
  · have e : ns = [] := List.eq_nil_of_length_eq_zero h0
    subst e
    refine (Tryd.slices_Contains_string_empty A c (bsOf n) w).mono ?_
    rintro e w' ⟨rfl, rfl⟩
    exact ⟨rfl, rfl⟩
  · obtain ⟨g, off, rfl, hg, _⟩ := hp h0
    refine (Tryd.slices_Contains_string g off ns.length c (ns.map bsOf) (bsOf n) w (by simp) (by omega) (fun j hj => ?_)).mono ?_
    · rw [List.length_map] at hj
      obtain ⟨g', off', e, _, hc⟩ := EForm.tx hp hj
      injection e with e; injection e with e1 e2; subst e1; subst e2
      rw [hc]
      simp [List.getD, List.getElem?_eq_getElem hj]
    · rintro e w' ⟨rfl, rfl⟩
      refine ⟨?_, rfl⟩
      congr 2
      rw [Bool.eq_iff_iff, Lib.containsS_iff, List.take_of_length_le (by simp), List.mem_map, List.contains_iff_mem]
      constructor
      · rintro ⟨x, hx, e⟩
        rw [← bsOf_inj e]; exact hx
      · intro hx; exact ⟨n, hx, rfl⟩
def onlyT (l : List Lb) (ns : List Tx) : List Lb := l.filter fun x => ns.contains x.1
theorem filter_snoc {α : Type} {f : α → Bool} {l : List α} {j : Nat} (h : j < l.length) : (l.take (j + 1)).filter f = (l.take j).filter f ++ if f l[j] then [l[j]] else [] := by
  rw [List.take_succ_eq_append_getElem h, List.filter_append]
  cases hf : f l[j] <;> simp [hf]
set_option maxRecDepth 100000 in
set_option maxHeartbeats 4000000 in
theorem only_any (v vn : Value) (l : List Lb) (ns : List Tx) (w : World) (h : RdE lbE w v l) (h' : RdE txE w vn ns) (hl : l.length ≤ 1000000000000) : Calls Tryd.prog 26 #[v, vn] w fun e w' => ∃ u, e = .returned u ∧ OwnE lbE w.heap.size w' u (onlyT l ns) ∧ Below w.heap.size w w' := by
  obtain ⟨i0, hi0, hiz, his, hib⟩ := info_parts lbI
  have HI := Lib.hid hi0
  have HZ := Lib.hid hiz
  have HSZ := Lib.hid his
  have HBY := Lib.hid hib
  clear hi0 hiz his hib
  have HR' := Lib.hid h'
  obtain ⟨A, c, rfl, hn, hc, hp⟩ := h.form
  obtain ⟨A', c', rfl, _, _, _⟩ := h'.form
  have HP := Lib.hid hp
  clear hp h h'
  go_enter Tryd.func26, Tryd.ntmps26
  go_wp2_with fail
  go_loopg [5, 10] l.length (fun q u i wr => ∃ j : Nat, q = l.length - j ∧ j ≤ l.length ∧ i = .int .i64 j ∧ Hid (OwnE lbE w.heap.size wr u (onlyT (l.take j) ns)) ∧ Hid (Below w.heap.size w wr))
  case atStart => exact ⟨0, rfl, by omega, rfl, Lib.hid (by rw [List.take_zero]; exact OwnE.nil_ _ _), Lib.hid (Below.refl _ _)⟩
  case round =>
    obtain ⟨j, hk, hj, rfl, HO, HB⟩ := hrel
    have HK := Lib.hid hk
    have hz := HB.out.size
    clear hk
    obtain ⟨a5, c5, rfl, _, _, _⟩ := HO.out.form
    have hlen : (onlyT (l.take j) ns).length ≤ j := by
      have := List.length_filter_le (fun x : Lb => ns.contains x.1) (l.take j)
      unfold onlyT
      rw [List.length_take] at this; omega
    by_cases hlt : j < l.length
    · obtain ⟨g, off, rfl, hg, c0, c1⟩ := (HP.out.keep HB.out).lb hlt
      have HF := Lib.hid (filter_snoc (f := fun x : Lb => ns.contains x.1) hlt)
      obtain ⟨x, hx⟩ : ∃ x, l[j] = x := ⟨_, rfl⟩
      rw [hx] at c0 c1
      rw [hx] at HF
      clear hx
      obtain ⟨b, hb⟩ : ∃ b, ns.contains x.1 = b := ⟨_, rfl⟩
      have CT := Lib.hid (fun w h => contains_t (.slice A' ns.length c') ns x.1 w h)
      simp only [hb] at CT
      rw [hb] at HF
      clear hb
      go_wp2_with fail
      refine (CT.out _ (HR'.out.keep (HB.out.alloc hz _))).mono ?_
      rintro e w1 ⟨rfl, rfl⟩
      cases b
      · have HN : Hid (onlyT (l.take (j + 1)) ns = onlyT (l.take j) ns) := Lib.hid (by have := HF.out; unfold onlyT; rw [this]; simp)
        go_wp2_with fail
        go_roundg (l.length - (j + 1))
        case measure => have := HK.out; omega
        case rel => exact ⟨j + 1, rfl, by omega, by go_num, by rw [HN.out]; exact Lib.hid (HO.out.alloc _), Lib.hid (HB.out.alloc hz _)⟩
      · have HN : Hid (onlyT (l.take (j + 1)) ns = onlyT (l.take j) ns ++ [x]) := Lib.hid (by have := HF.out; unfold onlyT; rw [this]; simp)
        go_wp2_with (at_builtin; refine wpList_append_E lbE (ts := 23) i0 _ 32 Tryd.underlying23 HI.out HZ.out HSZ.out HBY.out rfl (by decide) (by decide) rfl (.tmp 18) (.tmp 20) rfl w.heap.size _ (onlyT (l.take j) ns) rfl ((HO.out.alloc _).alloc _) _ [x] rfl (RdE.one_at (E := lbE) _ x _ rfl _ rfl _ (by simp)) (by simp; omega) (by simp; omega) ?_; intro v1 w7 o1 g1 a1)
        have HB7 : Hid (Below w.heap.size w w7) := Lib.hid (((HB.out.alloc hz _).alloc (by simp; omega) _).grown g1 (by simp; omega) (fun k hk => (HO.out.lt k hk).1))
        have O7 := Lib.hid o1
        clear o1 g1 a1
        go_wp2_with fail
        go_roundg (l.length - (j + 1))
        case measure => have := HK.out; omega
        case rel => exact ⟨j + 1, rfl, by omega, by go_num, by rw [HN.out]; exact O7, HB7⟩
    · have HE : Hid (onlyT l ns = onlyT (l.take j) ns) := Lib.hid (by rw [List.take_of_length_le (by omega)])
      go_wp2_with fail
      go_ret
      exact ⟨_, rfl, by rw [HE.out]; exact HO.out, HB.out⟩
end Go.Proofs.YtmfocgaojbebgaaDoor
