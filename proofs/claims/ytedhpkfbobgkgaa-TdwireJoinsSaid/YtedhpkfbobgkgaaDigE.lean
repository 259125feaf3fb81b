/- pressed of package digest. Conditions: at least one mean, in rising order, that may be, n in all, at most 2^48; at most 10^9 of them; the fineness from 0 to 1000. -/
import Derived.Test.YtedhpkfbobgkgaaDigD
namespace Go.Proofs.Ytedhpkfbobgkgaa
open Go.RowKit Go.Lib

set_option maxRecDepth 100000 in
set_option maxHeartbeats 2000000 in
theorem pressed_any (d : Int) (v : Value) (l : List Mn) (w : World) (h : RdM w v l) (h0 : 0 < l.length) (ho : okL l) (hr : Rises l) (hlen : l.length ≤ 1000000000) (ht : tot l ≤ 281474976710656) (d0 : 0 ≤ d) (d1 : d ≤ 1000) :
    Calls Try.prog 67 #[.int .i64 d, .int .u64 (tot l), v] w fun e w' => ∃ v, e = .returned v ∧ OwnM w.heap.size w' v (press d (tot l) l) ∧ Below w.heap.size w w' := by
  obtain ⟨A, c, rfl, hn, hc, hp⟩ := h.form
  obtain ⟨g, off, rfl, hg, e0, e1⟩ := hp.at_ h0
  simp only [Nat.zero_mul, Nat.add_zero] at e0 e1
  have HP := Lib.hid hp
  have ST := Lib.hid (PrAt.start d h0 ho hr)
  have cut := RdM.cut1 h0 hn hc hp
  have i1 : (1 : Int) ≤ (l.length : Int) := by omega
  clear hp h
  go_enter Try.func67, Try.ntmps67
  go_upto_block 0 with fail
  generalize (if c = 1 then some (⟨g, off, none⟩ : Addr) else some ⟨g, off + 2, none⟩) = bb at cut ⊢
  have cf := cut.form
  obtain ⟨A', c', hv', hn', hc', hp'⟩ := cf
  simp only [Value.slice.injEq] at hv'
  obtain ⟨rfl, hl', rfl⟩ := hv'
  have HQ := Lib.hid hp'
  have HL := Lib.hid hl'
  clear cut hp' hn' hc' hl'
  go_wp2_with fail
  go_loopg [7, 8, 18] (l.length - 1) (fun q o dn i wr => ∃ (j : Nat) (acc : List Mn) (now : Mn), q = l.length - 1 - j ∧ j ≤ l.length - 1 ∧ i = .int .i64 j ∧ dn = .int .u64 (tot acc) ∧ PrAt d (tot l) l (j + 1) acc now ∧
    OwnM (w.heap.size + 1) wr o acc ∧ Blk wr w.heap.size 45 #[.int .i64 now.1, .int .u64 now.2] ∧ Below w.heap.size w wr)
  case atStart => exact ⟨0, [], l[0], rfl, by omega, rfl, rfl, ST.out, OwnM.nil_ _ _, Blk.new _ _ _, by (repeat' (first | (with_reducible exact Below.refl _ _) | (with_reducible refine Below.alloc ?_ ?_ _) | (with_reducible refine Below.drew ?_) | (with_reducible refine below_drewN ?_ _) | (with_reducible refine Below.setCell ?_ ?_ _) | (with_reducible refine below_of (by assumption) ?_ ?_) | go_size))⟩
  case round =>
    obtain ⟨j, acc, now, hk, hj, rfl, rfl, hpr, hown, hblk, hb⟩ := hrel
    have HK := Lib.hid hk
    have HO := Lib.hid hown
    have HB := Lib.hid hblk
    have hbl := hblk.lt
    have hz := hb.size
    have n0 := hblk.cell 0
    have n1 := hblk.cell 1
    have f0 := hblk.frozen 0
    have f1 := hblk.frozen 1
    simp only [List.getElem?_toArray, List.getElem?_cons_succ, List.getElem?_cons_zero] at n0 n1
    clear hk hown hblk
    by_cases hlt : j < l.length - 1
    · have hlt1 : j + 1 < l.length := by omega
      obtain ⟨p1, p2, p3, p4, p5⟩ := hpr.facts hlt1
      have hlt2 : j < (l.drop 1).length := by rw [List.length_drop]; exact hlt
      obtain ⟨g1, o1, rfl, hg1, x0, x1⟩ := HQ.out.at_ hlt2
      have hdrop : (l.drop 1)[j] = l[j + 1] := by rw [List.getElem_drop]; congr 1; omega
      rw [hdrop] at x0 x1
      clear hdrop
      replace x0 := (hb.cell (p := ⟨_, _, none⟩) hg1).trans x0
      replace x1 := (hb.cell (p := ⟨_, _, none⟩) hg1).trans x1
      obtain ⟨x, hx⟩ : ∃ x, l[j + 1] = x := ⟨_, rfl⟩
      rw [hx] at x0 x1 p3 p4 p5
      have q1 := p2.2.2
      have q2 := p3.2.2
      have MB : MayB d (tot l) (tot acc) (now.2 + x.2) := ⟨d0, d1, ht, p1, by omega, p5⟩
      have HPr := Lib.hid hpr
      have HX := Lib.hid hx
      clear hpr hx
      have m0 : (wr.alloc (.cells #[.int .i64 x.1, .int .u64 x.2] 45)).cell? ⟨wr.heap.size, 0, none⟩ = some (.int .i64 x.1) := by simp [World.cell?_alloc_new]
      have m1 : (wr.alloc (.cells #[.int .i64 x.1, .int .u64 x.2] 45)).cell? ⟨wr.heap.size, 1, none⟩ = some (.int .u64 x.2) := by simp [World.cell?_alloc_new]
      have M0 := Lib.hid m0
      have M1 := Lib.hid m1
      have BA := Lib.hid (HB.out.alloc (.cells #[.int .i64 x.1, .int .u64 x.2] 45))
      have OA := Lib.hid (HO.out.alloc (.cells #[.int .i64 x.1, .int .u64 x.2] 45))
      clear m0 m1
      go_upto_region 7 with fail
      go_wp2_with fail
      refine (may_any d (tot l) (tot acc) (now.2 + x.2) _ MB).mono ?_
      rintro e w3 ⟨rfl, hb3⟩
      have hz3 := hb3.size
      simp only [World.size_alloc] at hz3
      have B3 := Lib.hid (BA.out.keep hb3)
      have O3 := Lib.hid (OA.out.keep hb3)
      have c0 := B3.out.cell 0
      have c1 := B3.out.cell 1
      have f0' := B3.out.frozen 0
      have f1' := B3.out.frozen 1
      simp only [List.getElem?_toArray, List.getElem?_cons_succ, List.getElem?_cons_zero] at c0 c1
      have c2 := (hb3.cell (p := ⟨wr.heap.size, 0, none⟩) (by simp)).trans M0.out
      have c3 := (hb3.cell (p := ⟨wr.heap.size, 1, none⟩) (by simp)).trans M1.out
      have hbw : Below w.heap.size w w3 := (hb.alloc hz _).trans (hb3.mono (by simp; omega))
      have hne : w.heap.size < wr.heap.size := hbl
      clear n0 n1 f0 f1 x0 x1
      by_cases hmay : mayI d (tot l) (tot acc) (now.2 + x.2) = true
      · rw [hmay]
        have HP2 := Lib.hid (HPr.out.merge hlt1 (by rw [HX.out]; exact hmay))
        clear hmay
        go_wp2_with fail
        refine (avg_any now.1 now.2 x.1 x.2 _ p2.1 p4 p3.2.1 (by omega) q2 (by omega)).mono ?_
        rintro e w4 ⟨rfl, hb4⟩
        have hz4 := hb4.size
        have d0' := (hb4.cell (p := ⟨w.heap.size, 0, none⟩) (by show w.heap.size < w3.heap.size; omega)).trans c0
        have d1' := (hb4.cell (p := ⟨w.heap.size, 1, none⟩) (by show w.heap.size < w3.heap.size; omega)).trans c1
        have d2 := (hb4.cell (p := ⟨wr.heap.size, 1, none⟩) (by show wr.heap.size < w3.heap.size; omega)).trans c3
        have d3 := (hb4.frozen (p := ⟨w.heap.size, 0, none⟩) (by show w.heap.size < w3.heap.size; omega)).trans f0'
        have d4 := (hb4.frozen (p := ⟨w.heap.size, 1, none⟩) (by show w.heap.size < w3.heap.size; omega)).trans f1'
        have B4 := Lib.hid (((B3.out.keep hb4).set_ 0 (.int .i64 (lerpI now.1 x.1 x.2 (now.2 + x.2)))).set_ 1 (.int .u64 (now.2 + x.2)))
        have O4 := Lib.hid (((O3.out.keep hb4).far (p := ⟨w.heap.size, 0, none⟩) (fun e => by have h9 : w.heap.size + 1 ≤ w.heap.size := (O3.out.lt _ e).1; omega) (.int .i64 (lerpI now.1 x.1 x.2 (now.2 + x.2)))).far (p := ⟨w.heap.size, 1, none⟩) (fun e => by have h9 : w.heap.size + 1 ≤ w.heap.size := (O3.out.lt _ e).1; omega) (.int .u64 (now.2 + x.2)))
        go_wp2_with fail
        go_roundg (l.length - 1 - (j + 1))
        case measure => have := HK.out; omega
        case rel => exact ⟨j + 1, acc, _, rfl, by omega, by go_num, rfl, HP2.out, O4.out, by rw [HX.out]; exact B4.out, by (repeat' (first | (with_reducible exact Below.refl _ _) | (with_reducible refine Below.alloc ?_ ?_ _) | (with_reducible refine Below.drew ?_) | (with_reducible refine below_drewN ?_ _) | (with_reducible refine Below.setCell ?_ ?_ _) | (with_reducible refine below_of (by assumption) ?_ ?_) | go_size))⟩
      · have hmay' : mayI d (tot l) (tot acc) (now.2 + x.2) = false := by simpa using hmay
        rw [hmay']
        have HP2 := Lib.hid (HPr.out.push hlt1 (by rw [HX.out]; exact hmay'))
        have HT : Hid (tot (acc ++ [now]) = tot acc + now.2) := by show _ = _; rw [tot_append]; simp [tot]
        have hal : acc.length ≤ 1000000000 := by have := HPr.out.len; omega
        clear hmay hmay'
        go_wp2_with (first
          | (at_builtin
             refine append_M rfl (.tmp 50) (.tmp 52) rfl (w.heap.size + 1) u7 acc rfl (O3.out.alloc _) _ [now] rfl (RdM.one _ now) (by simp only [List.length_singleton]; omega) (by go_size) ?_
             intro v4 w4 o4 g4 a4
             have hb4 : Below w.heap.size w w4 := (hbw.alloc (by omega) _).grown g4 (by go_size) (fun k hk => by have := (O3.out.lt k hk).1; omega)
             have hz4 := g4.size
             simp only [World.size_alloc] at hz4
             have O4 := Lib.hid o4
             have hk4 : ∀ k, k < w3.heap.size → u7.ownBlock ≠ some k → w4.heap[k]? = w3.heap[k]? := fun k h1 h2 => (g4.block k (by simp; omega) (fun e => h2 e.symm)).trans (Below.heap_alloc _ _ _ h1)
             have B4 := Lib.hid (show Blk w4 w.heap.size 45 #[.int .i64 now.1, .int .u64 now.2] from (hk4 _ (by omega) (fun e => by have := (O3.out.lt _ e).1; omega)).trans B3.out)
             have c6 := (World.cell?_of_block (a := ⟨wr.heap.size, 0, none⟩) (hk4 wr.heap.size (by omega) (fun e => by have := (HO.out.lt _ e).2; omega))).trans c2
             have c7 := (World.cell?_of_block (a := ⟨wr.heap.size, 1, none⟩) (hk4 wr.heap.size (by omega) (fun e => by have := (HO.out.lt _ e).2; omega))).trans c3
             have c4 := B4.out.cell 0
             have c5 := B4.out.cell 1
             have f4 := B4.out.frozen 0
             have f5 := B4.out.frozen 1
             simp only [List.getElem?_toArray, List.getElem?_cons_succ, List.getElem?_cons_zero] at c4 c5
             clear o4 g4 a4 hk4))
        go_roundg (l.length - 1 - (j + 1))
        case measure => have := HK.out; omega
        case rel =>
          refine ⟨j + 1, acc ++ [now], x, rfl, by omega, by go_num, by rw [HT.out], by rw [← HX.out]; exact HP2.out, ?_, ?_, by (repeat' (first | (with_reducible exact Below.refl _ _) | (with_reducible refine Below.alloc ?_ ?_ _) | (with_reducible refine Below.drew ?_) | (with_reducible refine below_drewN ?_ _) | (with_reducible refine Below.setCell ?_ ?_ _) | (with_reducible refine below_of (by assumption) ?_ ?_) | go_size))⟩
          · exact (O4.out.far (p := ⟨w.heap.size, 0, none⟩) (fun e => by have h9 : w.heap.size + 1 ≤ w.heap.size := (O4.out.lt _ e).1; omega) _).far (p := ⟨w.heap.size, 1, none⟩) (fun e => by have h9 : w.heap.size + 1 ≤ w.heap.size := (O4.out.lt _ e).1; omega) _
          · exact (B4.out.set_ 0 (.int .i64 x.1)).set_ 1 (.int .u64 x.2)
    · have hjl : j = l.length - 1 := by omega
      have HF : Hid (press d (tot l) l = acc ++ [now]) := by
        show _ = _
        rw [show j + 1 = l.length by omega] at hpr
        exact hpr.fin
      have hal : acc.length ≤ 1000000000 := by have := hpr.len; omega
      clear hpr hjl
      go_wp2_with (first
        | (at_builtin
           refine append_M rfl (.tmp 60) (.tmp 62) rfl (w.heap.size + 1) u7 acc rfl (HO.out.alloc _) _ [now] rfl (RdM.one _ now) (by simp only [List.length_singleton]; omega) (by go_size) ?_
           intro v4 w4 o4 g4 a4
           have hb4 : Below w.heap.size w w4 := (hb.alloc (by omega) _).grown g4 (by go_size) (fun k hk => by have := (HO.out.lt k hk).1; omega)
           have O4 := Lib.hid o4
           clear o4 g4 a4))
      go_ret
      exact ⟨_, rfl, by rw [HF.out]; exact O4.out.more (by omega), hb4⟩
end Go.Proofs.Ytedhpkfbobgkgaa
