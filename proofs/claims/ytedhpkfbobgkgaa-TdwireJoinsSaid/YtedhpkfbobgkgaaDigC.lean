/- Package slices at means: Grow of nil, Concat, Clone. Condition: at most 2^40 means in all. -/
import Derived.Test.YtedhpkfbobgkgaaDigB
import Derived.Shelf.Spec.SlicesGrow
namespace Go.Proofs.Ytedhpkfbobgkgaa
open Go.RowKit Go.Lib

set_option maxRecDepth 100000 in
set_option maxHeartbeats 1000000 in
theorem grow_M (n : Nat) (w : World) (hn : n ≤ 1099511627776) :
    Calls Try.prog 97 #[.slice none 0 0, .int .i64 n] w fun e w' => ∃ v, e = .returned v ∧ OwnM w.heap.size w' v [] ∧ Below w.heap.size w w' := by
  obtain ⟨i0, hi, hz0, hz1, hz2⟩ := info_parts infoM
  by_cases h0 : n = 0
  · subst h0
    go_enter Try.func97, Try.ntmps97
    go_wp2_with fail
    go_ret
    exact ⟨_, rfl, OwnM.nil_ _ _, by (repeat' (first | (with_reducible exact Below.refl _ _) | (with_reducible refine Below.alloc ?_ ?_ _) | (with_reducible refine Below.drew ?_) | (with_reducible refine below_drewN ?_ _) | (with_reducible refine Below.setCell ?_ ?_ _) | (with_reducible refine below_of (by assumption) ?_ ?_) | go_size))⟩
  · have hold : (Builtin.firstCells i0.size 0 (.slice none 0 0)).run Try.prog w.drew = .ok #[] w.drew := run_firstCells_none w.drew i0.size 0 0 0
    have hrz : ∀ ty, (Builtin.append_ #[35, 3] ty #[.slice none 0 0, .int .i64 (n : Int)]).run Try.prog w =
        .ok (.slice (some ⟨w.heap.size, 0, none⟩) n (grownCap w n 0 45)) (w.drew.alloc (.cells (([] : List Value).toArray ++ Builtin.zeroCells (Value.agg #[.int .i64 0, .int .u64 0]).cells n ++ Builtin.zeroCells (Value.agg #[.int .i64 0, .int .u64 0]).cells (grownCap w n 0 45 - n)) 45)) := fun ty => by
      have h := Lib.run_append_grow_zeros w 35 3 ty 45 i0 _ .i64 .i64 Try.underlying35 Try.underlying3 hi hz0 none 0 0 [] hold n (by omega) (by omega) (by omega) (by omega) (by rw [hz2]; omega) (growslice_fits (by omega) (by rw [hz2]; omega))
      simpa using h
    have hGn : n ≤ grownCap w n 0 45 := grownCap_ge w _ _ _
    have hG63 : grownCap w n 0 45 ≤ maxLen := grownCap_le_maxLen w n 0 45 (by unfold maxLen; omega)
    obtain ⟨G, hG⟩ : ∃ G, grownCap w n 0 45 = G := ⟨_, rfl⟩
    rw [hG] at hrz hGn hG63
    obtain ⟨Z, hZ⟩ : ∃ Z : Array Value, (([] : List Value).toArray ++ Builtin.zeroCells (Value.agg #[.int .i64 0, .int .u64 0]).cells n ++ Builtin.zeroCells (Value.agg #[.int .i64 0, .int .u64 0]).cells (G - n)) = Z := ⟨_, rfl⟩
    rw [hZ] at hrz
    have hZs : Z.size = G * 2 := by
      rw [← hZ, Array.size_append, Array.size_append, size_zeroCells, size_zeroCells]
      simp only [Value.cells, List.size_toArray, List.length_cons, List.length_nil]
      omega
    have HZ := Lib.hid hZs
    have HG := Lib.hid hG63
    have hG' : G ≤ 9223372036854775807 := by unfold maxLen at hG63; omega
    clear hZ hZs hG hold hi hz0 hz1 hz2 hG63
    go_enter Try.func97, Try.ntmps97
    go_wp2_with (at_builtin; refine Lib.wpList_append_run _ rfl _ _ _ _ rfl _ _ rfl rfl _ _ (hrz _) ?_)
    go_ret
    refine ⟨_, rfl, ?_, by (repeat' (first | (with_reducible exact Below.refl _ _) | (with_reducible refine Below.alloc ?_ ?_ _) | (with_reducible refine Below.drew ?_) | (with_reducible refine below_drewN ?_ _) | (with_reducible refine Below.setCell ?_ ?_ _) | (with_reducible refine below_of (by assumption) ?_ ?_) | go_size))⟩
    exact ⟨by simp [cellsM], .inr ⟨w.heap.size, G, Z, rfl, Nat.le_refl _, heap_alloc_new _ _, Nat.zero_le _, HG.out, HZ.out, by simp [cellsM]⟩⟩

theorem own_empty (w : World) : OwnM w.heap.size (w.alloc (.cells #[] 45)) (.slice (some ⟨w.heap.size, 0, none⟩) 0 0) [] :=
  ⟨by simp [cellsM], .inr ⟨w.heap.size, 0, #[], rfl, Nat.le_refl _, heap_alloc_new _ _, Nat.zero_le _, by unfold maxLen; omega, rfl, by simp [cellsM]⟩⟩

set_option maxRecDepth 100000 in
set_option maxHeartbeats 1000000 in
theorem clone_M (v : Value) (l : List Mn) (w : World) (h : RdM w v l) (hlen : l.length ≤ 1099511627776) :
    Calls Try.prog 71 #[v] w fun e w' => ∃ v', e = .returned v' ∧ OwnM w.heap.size w' v' l ∧ Below w.heap.size w w' := by
  have H := Lib.hid h
  obtain ⟨A, c, rfl, hn, hc, hp⟩ := h.form
  rcases A with _ | a
  · have hl : l = [] := by
      rcases Nat.eq_zero_or_pos l.length with h0 | h0
      · exact List.eq_nil_of_length_eq_zero h0
      · obtain ⟨g, off, hA, _⟩ := hp h0; cases hA
    subst hl
    clear hp h
    have he : (binOp .eql 35 (.slice none 0 c) (.slice none 0 0)).run Try.prog w = .ok (.bool true) w := Lib.run_eql_slice_nil w _ _ _ _ _ _ _ Try.underlying35
    go_enter Try.func71, Try.ntmps71
    go_wp2_with fail
    go_ret
    exact ⟨_, rfl, OwnM.nil_ _ _, by (repeat' (first | (with_reducible exact Below.refl _ _) | (with_reducible refine Below.alloc ?_ ?_ _) | (with_reducible refine Below.drew ?_) | (with_reducible refine below_drewN ?_ _) | (with_reducible refine Below.setCell ?_ ?_ _) | (with_reducible refine below_of (by assumption) ?_ ?_) | go_size))⟩
  · clear hp h
    have he : (binOp .eql 35 (.slice (some a) l.length c) (.slice none 0 0)).run Try.prog w = .ok (.bool false) w := Lib.run_eql_slice_nil w _ _ _ _ _ _ _ Try.underlying35
    go_enter Try.func71, Try.ntmps71
    go_wp2_with (first
      | (at_builtin
         go_must (refine append_M rfl (.tmp 5) (.tmp 6) rfl w.heap.size (.slice (some ⟨w.heap.size, 0, none⟩) 0 0) [] rfl (own_empty w) (.slice (some a) l.length c) l rfl (H.out.keep ((Below.refl _ _).alloc (Nat.le_refl _) _)) (by simp only [List.length_nil]; omega) (by go_size) ?_)
         intro v1 w1 o1 g1 a1
         have hb1 : Below w.heap.size w w1 := ((Below.refl _ _).alloc (Nat.le_refl _) _).grown g1 (by go_size) (fun k hk => by simp [Value.ownBlock] at hk; omega)
         have O1 := Lib.hid o1
         clear o1 g1 a1))
    go_ret
    exact ⟨v1, rfl, O1.out, hb1⟩

/-- A row of slices: its cells, and what each reads. -/
def RdRow (w : World) (g : Nat) (L : List (List Mn)) : Prop := ∀ i (h : i < L.length), ∃ v, w.cell? ⟨g, i, none⟩ = some v ∧ RdM w v L[i]
theorem RdRow.keep {w w' : World} {g : Nat} {L : List (List Mn)} (h : RdRow w g L) (hg : g < w.heap.size) (hb : Below w.heap.size w w') : RdRow w' g L := fun i hi => by
  obtain ⟨v, h1, h2⟩ := h i hi
  exact ⟨v, (hb.cell (p := ⟨g, i, none⟩) hg).trans h1, h2.keep hb⟩
theorem flat_take_succ (L : List (List Mn)) (i : Nat) (h : i < L.length) : (L.take (i + 1)).flatten = (L.take i).flatten ++ L[i] := by
  rw [List.take_succ_eq_append_getElem h, List.flatten_append]; simp
theorem flat_take_le (L : List (List Mn)) (i : Nat) : (L.take i).flatten.length ≤ L.flatten.length := by
  have h : L.flatten = (L.take i).flatten ++ (L.drop i).flatten := by rw [← List.flatten_append, List.take_append_drop]
  rw [h, List.length_append]; omega

set_option maxRecDepth 100000 in
set_option maxHeartbeats 1000000 in
theorem concat_M (g : Nat) (L : List (List Mn)) (w : World) (hg : g < w.heap.size) (h : RdRow w g L) (hL : L.length ≤ 1000) (hlen : L.flatten.length ≤ 1099511627776) :
    Calls Try.prog 69 #[.slice (some ⟨g, 0, none⟩) L.length L.length] w fun e w' => ∃ v, e = .returned v ∧ OwnM w.heap.size w' v L.flatten ∧ Below w.heap.size w w' := by
  have H := Lib.hid h
  clear h
  go_enter Try.func69, Try.ntmps69
  go_wp2_with fail
  go_loopg [3, 11] L.length (fun q sz i wr => ∃ j z : Nat, q = L.length - j ∧ j ≤ L.length ∧ i = .int .i64 j ∧ sz = .int .i64 (z : Int) ∧ Hid ((L.take j).flatten.length = z) ∧ Below w.heap.size w wr)
  case atStart => exact ⟨0, 0, rfl, by omega, rfl, rfl, rfl, Below.refl _ _⟩
  case round =>
    obtain ⟨j, z, hk, hj, rfl, rfl, HZ, hb⟩ := hrel
    have HK := Lib.hid hk
    have hz := hb.size
    clear hk
    have hz0 : z ≤ 1099511627776 := by have := flat_take_le L j; have := HZ.out; omega
    by_cases hlt : j < L.length
    · obtain ⟨v, c0, r0⟩ := (H.out.keep hg hb) j hlt
      obtain ⟨A, c, rfl, hn, hc, hp⟩ := r0.form
      have HT : Hid ((L.take (j + 1)).flatten.length = z + L[j].length) := by show _ = _; rw [flat_take_succ L j hlt, List.length_append, HZ.out]
      have ht : z + L[j].length ≤ 1099511627776 := by have := flat_take_le L (j + 1); have := HT.out; omega
      clear hp r0
      go_wp2_with fail
      go_roundg (L.length - (j + 1))
      case measure => have := HK.out; omega
      case rel => exact ⟨j + 1, z + L[j].length, rfl, by omega, by go_num, by go_num, HT, hb⟩
    · have hjL : j = L.length := by omega
      have hzl : z ≤ 1099511627776 := hz0
      clear HK
      go_wp2_with (first | (go_at_call 97; refine (grow_M z _ hz0).mono ?_; rintro e w1 ⟨v1, rfl, o1, hb1⟩; have O1 := Lib.hid o1; have hz1 := hb1.size; clear o1))
      obtain ⟨wa, rfl⟩ : ∃ wa : World, wa = wr := ⟨_, rfl⟩
      go_loopg [6, 27] L.length (fun q ns i wx => ∃ k : Nat, q = L.length - k ∧ k ≤ L.length ∧ i = .int .i64 k ∧ OwnM wa.heap.size wx ns (L.take k).flatten ∧ Below wa.heap.size wa wx)
      case atStart => exact ⟨0, rfl, by omega, rfl, O1.out, hb1⟩
      case round =>
        obtain ⟨k, hk, hj, rfl, ho, hb2⟩ := hrel
        have HK := Lib.hid hk
        have hz2 := hb2.size
        have HO := Lib.hid ho
        clear hk ho
        by_cases hlt2 : k < L.length
        · obtain ⟨v, c0, r0⟩ := (H.out.keep hg (hb.trans (hb2.mono hz))) k hlt2
          have R0 := Lib.hid r0
          have HT := Lib.hid (flat_take_succ L k hlt2)
          have ht : (L.take k).flatten.length + L[k].length ≤ 1099511627776 := by
            have h1 := flat_take_le L (k + 1)
            rw [HT.out, List.length_append] at h1
            omega
          have HH := Lib.hid ht
          clear ht r0
          go_wp2_with (first
            | (at_builtin
               refine append_M rfl (.tmp 31) (.tmp 32) rfl wa.heap.size u6 _ rfl HO.out v L[k] rfl R0.out HH.out (by omega) ?_
               intro v2 w2 o2 g2 a2
               have hb3 : Below wa.heap.size wa w2 := hb2.grown g2 (by omega) (fun x hx => (HO.out.lt x hx).1)
               have O2 := Lib.hid o2
               clear o2 g2 a2))
          go_roundg (L.length - (k + 1))
          case measure => have := HK.out; omega
          case rel => exact ⟨k + 1, rfl, by omega, by go_num, by rw [HT.out]; exact O2.out, hb3⟩
        · have hkL : k = L.length := by omega
          have HF : Hid (L.take k = L) := by show _ = _; rw [List.take_of_length_le (by omega)]
          clear hkL hjL
          go_wp2_with fail
          go_ret
          refine ⟨_, rfl, ?_, hb.trans (hb2.mono hz)⟩
          have h1 := HO.out
          rw [HF.out] at h1
          exact h1.more hz

/-- make of no means, with room. -/
theorem made_M (c : Nat) (hc : c ≤ 1099511627776) (w : World) : ∃ Z : Array Value, (Instr.makeSlice 35 (.int .i64 0) (.int .i64 (c : Int))).run Try.prog w = .ok (.slice (some ⟨w.heap.size, 0, none⟩) 0 c) (w.alloc (.cells Z 45)) ∧
    OwnM w.heap.size (w.alloc (.cells Z 45)) (.slice (some ⟨w.heap.size, 0, none⟩) 0 c) [] := by
  obtain ⟨i0, hi, hz0, hz1, hz2⟩ := info_parts infoM
  refine ⟨_, run_make_rowN 35 45 i0 _ Try.underlying35 hi hz0 .i64 .i64 0 c (Nat.zero_le _) (by rw [hz2]; omega) (by omega) w, ?_⟩
  exact ⟨by simp [cellsM], .inr ⟨w.heap.size, c, _, rfl, Nat.le_refl _, heap_alloc_new _ _, Nat.zero_le _, by unfold maxLen; omega, by rw [size_madeCells, hz1], by simp [cellsM]⟩⟩
end Go.Proofs.Ytedhpkfbobgkgaa
