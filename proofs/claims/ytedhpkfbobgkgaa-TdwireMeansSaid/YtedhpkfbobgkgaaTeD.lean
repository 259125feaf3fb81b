/- TdwireMeans' walk. -/
import Derived.Test.YtedhpkfbobgkgaaTeC
import Derived.Test.YtedhpkfbobgkgaaRight
import Derived.Test.YtedhpkfbobgkgaaSame
import Derived.Test.YtedhpkfbobgkgaaTW
namespace Go.Proofs.Ytedhpkfbobgkgaa
open Go.RowKit Go.Lib

theorem wrl_by : ∀ (l : List Mn) (p : Option Int), rawL l → (∀ q, p = some q → -9223372036854775808 ≤ q ∧ ∀ m ∈ l, q ≤ m.1) → Rises l → byL (wrl p l)
  | [], _, _, _, _ => by intro b hb; simp [wrl] at hb
  | m :: l, p, hr, hp, hs => by
    have hm := hr m (List.mem_cons_self ..)
    have hs' := List.pairwise_cons.1 hs
    simp only [wrl]
    refine byL.append ?_ (byL.append (leb_by hm.2.2.1 (by omega)) (wrl_by l (some m.1) (fun x hx => hr x (List.mem_cons_of_mem _ hx)) (fun q hq => by cases hq; exact ⟨hm.1, fun x hx => hs'.1 x hx⟩) hs'.2))
    unfold encP
    cases p with
    | none => exact leb_by (sgn_bd hm.1 hm.2.1).1 (sgn_bd hm.1 hm.2.1).2
    | some q => have := hp q rfl; have h2 := this.2 m (List.mem_cons_self ..); exact leb_by (by omega) (by omega)
theorem wrw_by : ∀ (l : List Mn), rawL l → byL (wrw l)
  | [], _ => by intro b hb; simp [wrw] at hb
  | m :: l, hr => by
    have hm := hr m (List.mem_cons_self ..)
    simp only [wrw]
    exact byL.append (leb_by (sgn_bd hm.1 hm.2.1).1 (sgn_bd hm.1 hm.2.1).2) (byL.append (leb_by hm.2.2.1 (by omega)) (wrw_by l (fun x hx => hr x (List.mem_cons_of_mem _ hx))))
theorem wrD_by {d lo hi : Int} {L W : List Mn} (d0 : 0 ≤ d) (d1 : d ≤ 9223372036854775807) (l0 : -9223372036854775808 ≤ lo) (l1 : lo ≤ 9223372036854775807) (h0 : -9223372036854775808 ≤ hi) (h1 : hi ≤ 9223372036854775807) (hL : rawL L) (hs : Rises L) (hW : rawL W) (hl : L.length + W.length ≤ 1000000) : byL (wrD d L W lo hi) := by
  have sl := sgn_bd l0 l1
  have sh := sgn_bd h0 h1
  unfold wrD
  refine byL.append (leb_by (by omega) (by omega)) (byL.append (leb_by sl.1 sl.2) (byL.append (leb_by sh.1 sh.2) (byL.append (leb_by (by omega) (by omega)) (byL.append ?_ (byL.append (leb_by (by omega) (by omega)) (wrw_by _ hW))))))
  exact wrl_by _ none hL (fun q hq => by cases hq) hs
theorem rises_of {L : List Mn} (h : ∀ i (h1 : i + 1 < L.length), L[i].1 ≤ L[i + 1].1) : Rises L := by
  have key : ∀ (n i : Nat) (h1 : i + n < L.length), (L[i]'(by omega)).1 ≤ L[i + n].1 := by
    intro n
    induction n with
    | zero => intro i h1; exact Int.le_refl _
    | succ n ih => intro i h1; exact Int.le_trans (ih i (by omega)) (h (i + n) h1)
  refine List.pairwise_iff_getElem.2 fun i j hi hj hij => ?_
  obtain ⟨n, rfl⟩ : ∃ n, j = i + n := ⟨j - i, by omega⟩
  exact key n i hj

set_option maxRecDepth 100000 in
set_option maxHeartbeats 8000000 in
theorem tmeans_any (d lo hi : Int) (vl vw : Value) (L W : List Mn) (w : World) (hL : RdM w vl L) (hW : RdM w vw W) (hr : rawL (L ++ W)) (d1 : d ≤ 9223372036854775807)
    (l0 : -9223372036854775808 ≤ lo) (l1 : lo ≤ 9223372036854775807) (h0 : -9223372036854775808 ≤ hi) (h1 : hi ≤ 9223372036854775807) :
    Calls Try.prog 12 #[.int .i64 d, .int .i64 lo, .int .i64 hi, vl, vw] w fun e w' => e = .returned (.bool true) ∧ Below w.heap.size w w' := by
  have HL := Lib.hid hL
  have HW := Lib.hid hW
  have HRAW := Lib.hid hr
  obtain ⟨A, ca, rfl, na, ma, fa⟩ := hL.form
  obtain ⟨B, cb, rfl, nb, mb, fb⟩ := hW.form
  have FA := Lib.hid fa
  clear hL hW fa fb hr
  by_cases hbig : 100 < L.length ∨ 100 < W.length ∨ d < 0
  · by_cases hb1 : 100 < L.length
    · clear hbig
      go_enter Try.func12, Try.ntmps12
      go_wp2_with fail
      refine (alive23_any w).mono ?_
      rintro e w1 ⟨rfl, hb1⟩
      go_wp2_with fail
      go_ret
      exact ⟨rfl, hb1⟩
    · by_cases hb2 : 100 < W.length
      · clear hbig
        go_enter Try.func12, Try.ntmps12
        go_wp2_with fail
        refine (alive23_any w).mono ?_
        rintro e w1 ⟨rfl, hb1⟩
        go_wp2_with fail
        go_ret
        exact ⟨rfl, hb1⟩
      · have hd0 : d < 0 := by omega
        clear hbig
        go_enter Try.func12, Try.ntmps12
        go_wp2_with fail
        refine (alive23_any w).mono ?_
        rintro e w1 ⟨rfl, hb1⟩
        go_wp2_with fail
        go_ret
        exact ⟨rfl, hb1⟩
  · have hl1 : L.length ≤ 100 := by omega
    have hl2 : W.length ≤ 100 := by omega
    have d0 : 0 ≤ d := by omega
    have dn : decide (d < 0) = false := decide_eq_false (by omega)
    clear hbig
    go_enter Try.func12, Try.ntmps12
    go_wp2_with fail
    refine (alive23_any w).mono ?_
    rintro e w3 ⟨rfl, hb03⟩
    have hz3 := hb03.size
    go_upto_region 6 with fail
    obtain ⟨g2, hg2⟩ : ∃ g2, w3.heap.size = g2 := ⟨_, rfl⟩
    have B4 : Hid (Blk (w3.alloc (.cells #[.int .i64 d, .slice none 0 0, .slice none 0 0, .int .i64 lo, .int .i64 hi] 37)) g2 37 #[.int .i64 d, .slice none 0 0, .slice none 0 0, .int .i64 lo, .int .i64 hi]) := by
      show Blk _ _ _ _
      rw [← hg2]; exact Blk.new _ _ _
    have hb34 : Below w3.heap.size w3 (w3.alloc (.cells #[.int .i64 d, .slice none 0 0, .slice none 0 0, .int .i64 lo, .int .i64 hi] 37)) := (Below.refl _ _).alloc (Nat.le_refl _) _
    have hz4 : g2 < (w3.alloc (.cells #[.int .i64 d, .slice none 0 0, .slice none 0 0, .int .i64 lo, .int .i64 hi] 37)).heap.size := by rw [World.size_alloc]; omega
    rw [hg2]
    have hg2' : w3.heap.size ≤ g2 := by omega
    have HG2 := Lib.hid hg2
    have T4 : Hid (Touch (fun k => k = g2) w3 (w3.alloc (.cells #[.int .i64 d, .slice none 0 0, .slice none 0 0, .int .i64 lo, .int .i64 hi] 37))) := Lib.hid ((Touch.refl _ _).alloc _)
    clear hg2
    generalize w3.alloc (.cells #[.int .i64 d, .slice none 0 0, .slice none 0 0, .int .i64 lo, .int .i64 hi] 37) = w4 at *
    have L4 := Lib.hid (HL.out.keep (hb03.trans (hb34.mono (by omega))))
    have W4 := Lib.hid (HW.out.keep (hb03.trans (hb34.mono (by omega))))
    have y1 := B4.out.cell 1
    have y2 := B4.out.cell 2
    simp only [List.getElem?_toArray, List.getElem?_cons_succ, List.getElem?_cons_zero] at y1 y2
    go_upto_region 7 with (first
      | (at_builtin
         go_must (refine append_M rfl (.tmp 38) (.tmp 39) rfl (g2 + 1) (.slice none 0 0) [] rfl (OwnM.nil_ _ _) (.slice A L.length ca) L rfl L4.out (by simp only [List.length_nil]; omega) hz4 ?_)
         intro v5 w5 o5 g5 a5
         obtain ⟨A5, c5, rfl, n5, m5, f5⟩ := o5.form
         have O5 : Hid (OwnM (g2 + 1) w5 (.slice A5 L.length c5) L) := Lib.hid o5
         have b5 : Blk w5 g2 37 #[.int .i64 d, .slice none 0 0, .slice none 0 0, .int .i64 lo, .int .i64 hi] := (g5.block g2 hz4 (by simp [Value.ownBlock])).trans B4.out
         have T5 : Hid (Touch (fun k => k = g2) w3 w5) := Lib.hid (T4.out.grown g5 (by simp [Value.ownBlock]))
         have W5 := Lib.hid (W4.out.keep ((Below.refl _ _).grown g5 (Nat.le_refl _) (by simp [Value.ownBlock])))
         have z5 := g5.size
         have B5 := Lib.hid b5
         have p1 := b5.cell 1
         have q1 := b5.frozen 1
         simp only [List.getElem?_toArray, List.getElem?_cons_succ, List.getElem?_cons_zero] at p1
         clear o5 g5 a5 f5 b5 y1 y2
         go_simp))
    have B6 : Hid (Blk (w5.setCell ⟨g2, 1, none⟩ (.slice A5 L.length c5)) g2 37 #[.int .i64 d, .slice A5 L.length c5, .slice none 0 0, .int .i64 lo, .int .i64 hi]) := Lib.hid (B5.out.set_ 1 (.slice A5 L.length c5))
    have own5 : ∀ k, (Value.slice A5 L.length c5).ownBlock = some k → g2 + 1 ≤ k ∧ k < w5.heap.size := fun k e => O5.out.lt k e
    have HOW5 := Lib.hid own5
    have O6 := Lib.hid (O5.out.far (p := ⟨g2, 1, none⟩) (fun e => by have h9 : g2 + 1 ≤ g2 := (own5 _ e).1; omega) (.slice A5 L.length c5))
    have T6 := Lib.hid (T5.out.setCell (p := ⟨g2, 1, none⟩) (.inl rfl) (.slice A5 L.length c5))
    have W6 : Hid (RdM (w5.setCell ⟨g2, 1, none⟩ (.slice A5 L.length c5)) (.slice B W.length cb) W) := HW.out.keep (hb03.trans (T6.out.below (fun i hi => by omega) (by omega)))
    have z6 : (w5.setCell ⟨g2, 1, none⟩ (.slice A5 L.length c5)).heap.size = w5.heap.size := World.size_setCell ..
    have z6' : w4.heap.size ≤ (w5.setCell ⟨g2, 1, none⟩ (.slice A5 L.length c5)).heap.size := by rw [z6]; exact z5
    have HZ6 := Lib.hid z6
    clear p1 q1 own5 z6 B5 O5 T5 W5
    generalize w5.setCell ⟨g2, 1, none⟩ (.slice A5 L.length c5) = w6 at *
    have y2 := B6.out.cell 2
    simp only [List.getElem?_toArray, List.getElem?_cons_succ, List.getElem?_cons_zero] at y2
    go_upto_region 8 with (first
      | (at_builtin
         go_must (refine append_M rfl (.tmp 47) (.tmp 48) rfl (g2 + 1) (.slice none 0 0) [] rfl (OwnM.nil_ _ _) (.slice B W.length cb) W rfl W6.out (by simp only [List.length_nil]; omega) (by omega) ?_)
         intro v7 w7 o7 g7 a7
         obtain ⟨A7, c7, rfl, n7, m7, f7⟩ := o7.form
         have O7 : Hid (OwnM (g2 + 1) w7 (.slice A7 W.length c7) W) := Lib.hid o7
         have b7 : Blk w7 g2 37 #[.int .i64 d, .slice A5 L.length c5, .slice none 0 0, .int .i64 lo, .int .i64 hi] := (g7.block g2 (by omega) (by simp [Value.ownBlock])).trans B6.out
         have T7 : Hid (Touch (fun k => k = g2) w3 w7) := Lib.hid (T6.out.grown g7 (by simp [Value.ownBlock]))
         have L7 := Lib.hid (O6.out.keep ((Below.refl _ _).grown g7 (Nat.le_refl _) (by simp [Value.ownBlock])))
         have z7 := g7.size
         have A77 : Hid (∀ k, (Value.slice A7 W.length c7).ownBlock = some k → w6.heap.size ≤ k) := fun k e => by
           rcases a7 with a | a
           · have a' : (Value.slice A7 W.length c7).ownBlock = none := a
             rw [a'] at e; cases e
           · have a' : (Value.slice A7 W.length c7).ownBlock = some w6.heap.size := a
             rw [a'] at e; simp only [Option.some.injEq] at e; omega
         have B7 := Lib.hid b7
         have p2 := b7.cell 2
         have q2 := b7.frozen 2
         simp only [List.getElem?_toArray, List.getElem?_cons_succ, List.getElem?_cons_zero] at p2
         clear o7 g7 a7 f7 b7 y2
         go_simp))
    have T8 := Lib.hid (T7.out.setCell (p := ⟨g2, 2, none⟩) (.inl rfl) (.slice A7 W.length c7))
    have R8 : Hid (∃ F2 : Nat → Prop, RDgS (w7.setCell ⟨g2, 2, none⟩ (.slice A7 W.length c7)) g2 F2 d ⟨L, W, lo, hi⟩ ∧ (∀ k, F2 k → g2 ≤ k)) := by
      refine ⟨fun k => k = g2 ∨ (Value.slice A5 L.length c5).ownBlock = some k ∨ (Value.slice A7 W.length c7).ownBlock = some k, ⟨_, _, B7.out.set_ 2 (.slice A7 W.length c7), (L7.out.far (p := ⟨g2, 2, none⟩) (fun e => by have h9 : g2 + 1 ≤ g2 := (L7.out.lt _ e).1; omega) _).more (Nat.zero_le _), (O7.out.far (p := ⟨g2, 2, none⟩) (fun e => by have h9 : g2 + 1 ≤ g2 := (O7.out.lt _ e).1; omega) _).more (Nat.zero_le _), .inl rfl, fun k e => .inr (.inl e), fun k e => .inr (.inr e), fun k e e2 => ?_, fun k hk => ?_⟩, fun k hk => ?_⟩
      · have q8 := A77.out k e; have q9 := (HOW5.out k e2).2; have := HZ6.out; omega
      · simp only [World.size_setCell]
        rcases hk with rfl | hk | hk
        · omega
        · exact (L7.out.lt k hk).2
        · exact (O7.out.lt k hk).2
      · rcases hk with rfl | hk | hk
        · exact Nat.le_refl _
        · have := (HOW5.out k hk).1; omega
        · have := (O7.out.lt k hk).1; omega
    have hzz : w4.heap.size ≤ (w7.setCell ⟨g2, 2, none⟩ (.slice A7 W.length c7)).heap.size := by rw [World.size_setCell]; omega
    clear p2 q2 L7 O7 B7 T7 A77 O6 B6 T6 W6 HZ6 HOW5
    generalize w7.setCell ⟨g2, 2, none⟩ (.slice A7 W.length c7) = w8 at *
    have hb38 : Below w3.heap.size w3 w8 := T8.out.below (fun i hi => by omega) (Nat.le_refl _)
    have hb08 : Below w.heap.size w w8 := hb03.trans (hb38.mono (by omega))
    obtain ⟨F2, r8, f8⟩ := R8.out
    have R9 := Lib.hid r8
    have FF2 := Lib.hid f8
    clear r8 f8 R8
    have hz08 := hb08.size
    go_wp2_with fail
    go_loopg [12] L.length (fun q i wr => ∃ j : Nat, q = L.length - j ∧ j ≤ L.length ∧ i = .int .i64 ((j : Int) + 1) ∧ Hid (∀ i (h1 : i + 1 < L.length), i < j → L[i].1 ≤ L[i + 1].1) ∧ Below w8.heap.size w8 wr)
    case atStart => exact ⟨0, rfl, Nat.zero_le _, rfl, Lib.hid (fun i h1 h2 => absurd h2 (by omega)), Below.refl _ _⟩
    case round =>
      obtain ⟨j, hq, hj, rfl, hri, hbr⟩ := hrel
      have HQ := Lib.hid hq
      have hzr := hbr.size
      have hb0r : Below w.heap.size w wr := hb08.trans (hbr.mono hz08)
      clear hq
      by_cases hlt : j + 1 < L.length
      · obtain ⟨g5, q5, rfl, hg5, e0, _⟩ := (FA.out.keep hb0r).at_ hlt
        obtain ⟨g6, q6, hA6, _, e2, _⟩ := (FA.out.keep hb0r).at_ (j := j) (by omega)
        simp only [Option.some.injEq, Addr.mk.injEq] at hA6
        obtain ⟨rfl, rfl, -⟩ := hA6
        have j5 : (0 : Int) ≤ (j : Int) + 1 := by omega
        have j6 : (j : Int) + 1 < (L.length : Int) := by omega
        have j7 : (j : Int) < (L.length : Int) := by omega
        by_cases hd : L[j + 1].1 < L[j].1
        · have dd : decide (L[j + 1].1 < L[j].1) = true := decide_eq_true hd
          generalize L[j + 1].1 = x at *
          generalize L[j].1 = y at *
          clear hd
          go_wp2_with fail
          have j3 : ((j : Int) + 1).toNat = j + 1 := by omega
          have j4 : IntKind.i64.wrap (j : Int) = (j : Int) := IntWalk.i64_in _ (by omega)
          go_quiet (fail)
          clear j3 j4
          go_wp2_with fail
          go_ret
          exact ⟨rfl, below_drewN hb0r _⟩
        · have dd : decide (L[j + 1].1 < L[j].1) = false := decide_eq_false hd
          have HN : Hid (∀ i (h1 : i + 1 < L.length), i < j + 1 → L[i].1 ≤ L[i + 1].1) := Lib.hid (fun i h1 h2 => by
            rcases Nat.lt_or_ge i j with h | h
            · exact hri.out i h1 h
            · obtain rfl : i = j := by omega
              omega)
          generalize L[j + 1].1 = x at *
          generalize L[j].1 = y at *
          clear hd
          go_wp2_with fail
          have j3 : ((j : Int) + 1).toNat = j + 1 := by omega
          have j4 : IntKind.i64.wrap (j : Int) = (j : Int) := IntWalk.i64_in _ (by omega)
          go_quiet (fail)
          clear j3 j4
          go_wp2_with fail
          go_roundg (L.length - (j + 1))
          case measure => have := HQ.out; omega
          case rel => exact ⟨j + 1, rfl, by omega, by go_num, HN, below_drewN hbr _⟩
      · have RS : Hid (Rises L) := Lib.hid (rises_of (fun i h1 => hri.out i h1 (by omega)))
        have dn2 : decide (((j : Int) + 1) < (L.length : Int)) = false := decide_eq_false (by omega)
        have RL : Hid (rawL L) := Lib.hid (fun m hm => HRAW.out m (List.mem_append_left _ hm))
        have RW : Hid (rawL W) := Lib.hid (fun m hm => HRAW.out m (List.mem_append_right _ hm))
        have RR := Lib.hid (RDg.keep R9.out hbr)
        go_wp2_with fail
        refine (rwrite_any g2 F2 d lo hi L W wr RR.out RS.out RL.out RW.out (by omega) d0 d1 l0 l1 h0 h1).mono ?_
        rintro e wa ⟨va, rfl, oa, hba⟩
        have OA := Lib.hid (OwnI.rd oa)
        have hza := hba.size
        have RRa := Lib.hid (RDg.keep RR.out hba)
        clear oa
        go_wp2_with fail
        refine (read_any va (wrD d L W lo hi) wa OA.out (wrD_by d0 d1 l0 l1 h0 h1 RL.out RS.out RW.out (by omega)) (wrD_len (by omega))).mono ?_
        intro e wb hP
        have hrt := readT_wrD d0 d1 l0 l1 h0 h1 RL.out RS.out RW.out (by omega) (by omega)
        unfold ReadP at hP
        cases hR : rightI d lo hi L W
        · rw [hR] at hrt
          rw [if_neg (by simp)] at hrt
          rw [hrt] at hP
          obtain ⟨rfl, hbb⟩ := hP
          have HRI := Lib.hid hR
          have hbwb : Below w.heap.size w wb := (hb0r.trans (hba.mono hb0r.size)).trans (hbb.mono (by omega))
          have hzb := hbwb.size
          clear hR hrt
          go_wp2_with fail
          have C1 := right_any d lo hi _ _ L W wb (HL.out.keep hbwb) (HW.out.keep hbwb) HRAW.out (by omega)
          rw [HRI.out] at C1
          refine C1.mono ?_
          rintro e wc ⟨rfl, hbc⟩
          clear C1
          go_wp2_with fail
          go_ret
          exact ⟨rfl, hbwb.trans (hbc.mono hzb)⟩
        · rw [hR] at hrt
          rw [if_pos rfl] at hrt
          rw [hrt] at hP
          obtain ⟨g, F, rfl, hDg, hFg, hbb⟩ := hP
          have DG := Lib.hid hDg
          have HRI := Lib.hid hR
          obtain ⟨ok, ht, dd0, dd1⟩ := right_ok hR HRAW.out l0 l1 h0 h1
          have FT : Hid (Fit d ⟨L, W, lo, hi⟩ 200) := Lib.hid ⟨ok.more (by omega), by omega, ht, dd0, dd1⟩
          have hbwb : Below w.heap.size w wb := (hb0r.trans (hba.mono hb0r.size)).trans (hbb.mono (by omega))
          have hzb := hbwb.size
          have RRb := Lib.hid (RDg.keep RRa.out hbb)
          clear hR hrt ok ht dd0 dd1 hDg hFg
          go_wp2_with fail
          have C1 := right_any d lo hi _ _ L W wb (HL.out.keep hbwb) (HW.out.keep hbwb) HRAW.out (by omega)
          rw [HRI.out] at C1
          refine C1.mono ?_
          rintro e wc ⟨rfl, hbc⟩
          have SM := Lib.hid (same_any wc (Dg.keep DG.out hbc) (RDg.keep RRb.out hbc) FT.out)
          clear C1
          go_wp2_with (go_at_call 31; refine (SM.out).mono ?_; rintro e wd ⟨rfl, hbd⟩)
          go_ret
          exact ⟨rfl, (hbwb.trans (hbc.mono hzb)).trans (hbd.mono (by have := hbc.size; omega))⟩
end Go.Proofs.Ytedhpkfbobgkgaa
