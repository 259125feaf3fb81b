/- The program's coins: bitio's reader. Condition: a coin's bytes are few. -/
import Derived.Test.YtigmncogjbbmhaaKlE
namespace Go.Proofs.Ytigmncogjbbmhaa
open Go.RowKit
theorem u8I : (Try.prog.info? 5).map (fun i => (i.zero, i.size, i.bytes)) = some (some (.int .u8 0), 1, 1) := by kernel_rfl
set_option maxHeartbeats 1000000 in
theorem clone_u8 (v : Value) (l : List Int) (w : World) (h : RdE u8E w v l) (hlen : l.length ≤ 1000000000000) :
    Calls Try.prog 88 #[v] w fun e w' => ∃ s : Sv, e = .returned (svV s) ∧ OwnE u8E w.heap.size w' (svV s) l ∧ Below w.heap.size w w' := by
  obtain ⟨i0, hi0, hiz, his, hib⟩ := info_parts u8I
  have HI := Lib.hid hi0
  have HZ := Lib.hid hiz
  have HSZ := Lib.hid his
  have HBY := Lib.hid hib
  clear hi0 hiz his hib
  obtain ⟨A, c, rfl, hn, hc, hp⟩ := h.form
  have HR := Lib.hid h
  clear h
  by_cases hnil : A = none
  · subst hnil
    have h0 : l = [] := by
      rcases Nat.eq_zero_or_pos l.length with h0 | h0
      · exact List.eq_nil_of_length_eq_zero h0
      · obtain ⟨g, off, e, _⟩ := hp h0; cases e
    subst h0
    clear hp
    have he : (binOp .eql 23 (.slice none 0 c) (.slice none 0 0)).run Try.prog w = .ok (.bool true) w := Lib.run_eql_slice_nil w _ _ _ _ _ _ _ Try.underlying23
    go_enter Try.func88, Try.ntmps88
    go_wp2_with fail
    go_ret
    exact ⟨(none, 0, 0), rfl, OwnE.nil_ _ _, by (repeat' (first | (with_reducible exact Below.refl _ _) | (with_reducible refine Below.alloc ?_ ?_ _) | (with_reducible refine Below.drew ?_) | (with_reducible refine below_drewN ?_ _) | (with_reducible refine Below.setCell ?_ ?_ _) | (with_reducible refine below_of (by assumption) ?_ ?_) | go_size))⟩
  · obtain ⟨a, rfl⟩ : ∃ a, A = some a := by
      cases A with
      | none => exact absurd rfl hnil
      | some a => exact ⟨a, rfl⟩
    clear hnil hp
    have he : (binOp .eql 23 (.slice (some a) l.length c) (.slice none 0 0)).run Try.prog w = .ok (.bool false) w := Lib.run_eql_slice_nil w _ _ _ _ _ _ _ Try.underlying23
    go_enter Try.func88, Try.ntmps88
    go_wp2_with (at_builtin; refine wpList_append_E u8E (ts := 23) i0 _ 1 Try.underlying23 HI.out HZ.out HSZ.out HBY.out rfl (by decide) (by decide) rfl (.tmp 5) (.tmp 6) rfl w.heap.size _ [] rfl (OwnE.lit (E := u8E) w [] _ rfl _ rfl (by decide)) _ l rfl (HR.out.keep (by (repeat' (first | (with_reducible exact Below.refl _ _) | (with_reducible refine Below.alloc ?_ ?_ _) | (with_reducible refine Below.drew ?_) | (with_reducible refine below_drewN ?_ _) | (with_reducible refine Below.setCell ?_ ?_ _) | (with_reducible refine below_of (by assumption) ?_ ?_) | go_size)))) (by simp; omega) (by simp) ?_; intro v1 w7 o1 g1 a1)
    have HB7 : Below w.heap.size w w7 := (Below.alloc (Below.refl _ _) (Nat.le_refl _) _).grown g1 (by simp) (fun k hk => by have := Option.some.inj (show some w.heap.size = some k from hk); omega)
    simp only [List.nil_append] at o1
    obtain ⟨A1, c1, rfl, _, _, _⟩ := o1.form
    go_wp2_with fail
    go_ret
    exact ⟨(A1, _, c1), rfl, o1, HB7⟩

/-- The program's coins. -/
structure KC (w : World) (g r : Nat) (v : Value) (B : List Int) (a : Nat) : Prop where
  blk : Blk w g 105 #[.pointer (some ⟨r, 0, none⟩)]
  rd : BR w r v B a
  ne : g ≠ r
  nv : v.ownBlock ≠ some g

set_option maxHeartbeats 1000000 in
theorem bleft_any (r : Nat) (v : Value) (B : List Int) (a : Nat) (w : World) (h : BR w r v B a) :
    Calls Try.prog 64 #[.pointer (some ⟨r, 0, none⟩)] w fun e w' => e = .returned (.int .i64 (8 * (B.length : Int) - a)) ∧ ∃ n, w' = w.drewN n := by
  obtain ⟨A, c, rfl, hc1, hc2, hf⟩ := h.rd.form
  have c0 := h.blk.cell 0
  have c1 := h.blk.cell 1
  have hb1 := h.byt.1
  have hat := h.at_
  simp only [List.getElem?_toArray, List.getElem?_cons_succ, List.getElem?_cons_zero] at c0 c1
  clear h hf
  go_enter Try.func64, Try.ntmps64
  go_wp2_with fail
  go_quiet (fail)
  go_wp2_with fail
  refine bodyPost_ret (by simp [results, Try.results64, go_sem, *]; try rfl) rfl ?_
  exact ⟨rfl, _, rfl⟩
set_option maxRecDepth 100000 in
theorem bit_tab : (List.range 256).all (fun (y : Nat) => bits .or .u32 0 (bits .and .u8 (y : Int) 1 % 4294967296) == ((y % 2 : Nat) : Int)) = true := by kernel_rfl
theorem bit_byte {y : Int} (h : 0 ≤ y ∧ y ≤ 255) : bits .or .u32 0 (bits .and .u8 y 1 % 4294967296) = y % 2 := by
  obtain ⟨n, rfl⟩ : ∃ n : Nat, y = n := ⟨y.toNat, by omega⟩
  have h1 := List.all_eq_true.1 bit_tab n (List.mem_range.2 (by omega))
  have h2 := eq_of_beq h1
  rw [h2]; omega
set_option maxRecDepth 100000 in
set_option maxHeartbeats 4000000 in
theorem group_any (r : Nat) (v : Value) (B : List Int) (a : Nat) (w : World) (h : BR w r v B a) :
    Calls Try.prog 89 #[.pointer (some ⟨r, 0, none⟩), .int .i64 1] w fun e w' => ∃ q : Int, e = .returned (.tuple #[.int .u32 (coinAt B a : Nat), .int .i64 q]) ∧ BR w' r v B (coinNx B a) ∧ Touch (fun k => k = r) w w' := by
  have HL := Lib.hid (bleft_any r v B a w h)
  have HH := Lib.hid h
  obtain ⟨A, c, rfl, hc1, hc2, hf⟩ := h.rd.form
  have hgw := h.blk.lt
  have c0 := h.blk.cell 0
  have c1 := h.blk.cell 1
  have f1 := h.blk.frozen 1
  have hb1 := h.byt.1
  have hat := h.at_
  simp only [List.getElem?_toArray, List.getElem?_cons_succ, List.getElem?_cons_zero] at c0 c1
  have HF := Lib.hid hf
  clear h hf
  by_cases hlt : a < 8 * B.length
  · have hl8 : a / 8 < B.length := by omega
    obtain ⟨gb, off, rfl, hgb, cb⟩ := HF.out.u8 hl8
    have hx := HH.out.byt.2 _ (List.getElem_mem hl8)
    obtain ⟨x, hxe⟩ : ∃ x, B[a / 8] = x := ⟨_, rfl⟩
    rw [hxe] at cb hx
    have HX := Lib.hid hxe
    clear hxe
    have hge : ¬ 8 * (B.length : Int) - a < 1 := by omega
    go_enter Try.func89, Try.ntmps89
    go_wp2_with fail
    refine (HL.out).mono ?_
    rintro e w1 ⟨rfl, n, rfl⟩
    go_wp2_with fail
    go_loopg [6, 7, 19] 1 (fun q t6 _ t19 wr => (q = 1 ∧ t6 = .int .u32 0 ∧ t19 = .int .i64 0 ∧ Hid (wr = w.drewN n)) ∨ (q = 0 ∧ t6 = .int .u32 (coinAt B a : Nat) ∧ t19 = .int .i64 1 ∧ Hid (BR wr r (Value.slice (some ⟨gb, off, none⟩) B.length c) B (a + 1)) ∧ Hid (Touch (fun k => k = r) w wr)))
    case atStart => exact .inl ⟨rfl, rfl, rfl, Lib.hid rfl⟩
    case round =>
      rcases hrel with ⟨hq, rfl, rfl, HW⟩ | ⟨hq, rfl, rfl, HB, HT⟩
      · have HQ := Lib.hid hq
        clear hq
        obtain ⟨⟨rfl⟩⟩ : Nonempty (Hid (wr = w.drewN n)) := ⟨HW⟩
        go_wp2_with fail
        go_quiet (fail)
        have hy : 0 ≤ x / 2 ^ (a % 8) ∧ x / 2 ^ (a % 8) ≤ 255 := by
          have hp : (0 : Int) < 2 ^ (a % 8) := Int.pow_pos (by decide)
          exact ⟨Int.ediv_nonneg hx.1 (by omega), Int.le_trans (Int.ediv_le_self _ hx.1) hx.2⟩
        have HC : x / 2 ^ (a % 8) % 2 = ((coinAt B a : Nat) : Int) := by
          unfold coinAt
          rw [if_pos hlt]
          simp only [List.getD]
          rw [List.getElem?_eq_getElem hl8, Option.getD_some, HX.out]
          omega
        rw [bit_byte hy, HC]
        clear HC hy
        obtain ⟨y, hy⟩ : ∃ y, coinAt B a = y := ⟨_, rfl⟩
        rw [hy]
        have HY := Lib.hid hy
        clear hy
        go_wp2_with fail
        go_roundg 0
        case measure => have := HQ.out; omega
        case rel =>
          refine .inr ⟨rfl, by rw [HY.out], rfl, Lib.hid ?_, Lib.hid ?_⟩
          · exact (HH.out.drewN _).step hlt
          · exact Touch.setCell (F := fun k => k = r) (Touch.drewN (Touch.refl _ _) _) (.inl rfl) _
      · have hc2 : coinNx B a = a + 1 := by unfold coinNx; rw [if_pos hlt]
        have HC2 := Lib.hid hc2
        clear hc2 hq
        obtain ⟨y, hy⟩ : ∃ y, coinAt B a = y := ⟨_, rfl⟩
        rw [hy]
        have HY := Lib.hid hy
        clear hy
        go_wp2_with fail
        refine bodyPost_ret (by simp [results, Try.results89, go_sem, *]; try rfl) rfl ?_
        refine ⟨0, by rw [HY.out], ?_, HT.out⟩
        rw [HC2.out]; exact HB.out
  · have hge : 8 * (B.length : Int) - a < 1 := by omega
    go_enter Try.func89, Try.ntmps89
    go_wp2_with fail
    refine (HL.out).mono ?_
    rintro e w1 ⟨rfl, n, rfl⟩
    go_wp2_with fail
    refine bodyPost_ret (by simp [results, Try.results89, go_sem, *]; try rfl) rfl ?_
    have h1 : coinNx B a = a := by unfold coinNx; rw [if_neg hlt]
    have h2 : coinAt B a = 0 := by unfold coinAt; rw [if_neg hlt]
    rw [h1, h2]
    exact ⟨20, rfl, HH.out.drewN _, (Touch.refl _ _).drewN _⟩
theorem bit_any (r : Nat) (v : Value) (B : List Int) (a : Nat) (w : World) (h : BR w r v B a) :
    Calls Try.prog 63 #[.pointer (some ⟨r, 0, none⟩)] w fun e w' => ∃ q : Int, e = .returned (.tuple #[.int .u32 (coinAt B a : Nat), .int .i64 q]) ∧ BR w' r v B (coinNx B a) ∧ Touch (fun k => k = r) w w' := by
  have HL := Lib.hid (group_any r v B a w h)
  clear h
  go_enter Try.func63, Try.ntmps63
  go_wp2_with fail
  refine (HL.out).mono ?_
  rintro e w1 ⟨q, rfl, h1, h2⟩
  have H1 := Lib.hid h1
  have H2 := Lib.hid h2
  clear h1 h2
  go_wp2_with fail
  refine bodyPost_ret (by simp [results, Try.results63, go_sem, *]; try rfl) rfl ?_
  exact ⟨q, rfl, H1.out, H2.out⟩
set_option maxHeartbeats 1000000 in
theorem knext_any (g r : Nat) (v : Value) (B : List Int) (a : Nat) (w : World) (h : KC w g r v B a) :
    Calls Try.prog 24 #[.pointer (some ⟨g, 0, none⟩)] w fun e w' => e = .returned (.int .i64 (coinAt B a : Nat)) ∧ KC w' g r v B (coinNx B a) ∧ Touch (fun k => k = r) w w' := by
  have HL := Lib.hid (bit_any r v B a w h.rd)
  have c0 := h.blk.cell 0
  simp only [List.getElem?_toArray, List.getElem?_cons_zero] at c0
  have HH := Lib.hid h
  have hle := coinAt_le B a
  clear h
  obtain ⟨y, hy⟩ : ∃ y, coinAt B a = y := ⟨_, rfl⟩
  rw [hy] at HL hle
  rw [hy]
  clear hy
  go_enter Try.func24, Try.ntmps24
  go_wp2_with fail
  refine (HL.out).mono ?_
  rintro e w1 ⟨q, rfl, h1, h2⟩
  have H1 := Lib.hid h1
  have H2 := Lib.hid h2
  clear h1 h2
  go_wp2_with fail
  refine bodyPost_ret (by simp [results, Try.results24, go_sem, *]; try rfl) rfl ?_
  refine ⟨rfl, ⟨?_, H1.out, HH.out.ne, HH.out.nv⟩, H2.out⟩
  exact (H2.out.block g HH.out.blk.lt (fun e => HH.out.ne e)).trans HH.out.blk
set_option maxHeartbeats 1000000 in
theorem kleft_any (g r : Nat) (v : Value) (B : List Int) (a : Nat) (w : World) (h : KC w g r v B a) :
    Calls Try.prog 26 #[.pointer (some ⟨g, 0, none⟩)] w fun e w' => e = .returned (.int .i64 (8 * (B.length : Int) - a)) ∧ ∃ n, w' = w.drewN n := by
  have HL := Lib.hid (bleft_any r v B a w h.rd)
  have c0 := h.blk.cell 0
  simp only [List.getElem?_toArray, List.getElem?_cons_zero] at c0
  clear h
  go_enter Try.func26, Try.ntmps26
  go_wp2_with fail
  refine (HL.out).mono ?_
  rintro e w1 ⟨rfl, n, rfl⟩
  go_wp2_with fail
  refine bodyPost_ret (by simp [results, Try.results26, go_sem, *]; try rfl) rfl ?_
  exact ⟨rfl, n, rfl⟩
set_option maxHeartbeats 1000000 in
theorem bnew_any (v : Value) (B : List Int) (w : World) (h : RdE u8E w v B) (hb : Byt B) :
    Calls Try.prog 62 #[v] w fun e w' => ∃ r v', e = .returned (.pointer (some ⟨r, 0, none⟩)) ∧ w.heap.size ≤ r ∧ BR w' r v' B 0 ∧ (∀ k, v'.ownBlock = some k → w.heap.size ≤ k ∧ k < w'.heap.size) ∧ Below w.heap.size w w' := by
  have HL := Lib.hid (clone_u8 v B w h (by have := hb.1; omega))
  have HB := Lib.hid hb
  clear h hb
  go_enter Try.func62, Try.ntmps62
  go_wp2_with fail
  refine (HL.out).mono ?_
  rintro e w1 ⟨s, rfl, o1, b1⟩
  obtain ⟨A1, c1, e1, _, _, _⟩ := o1.form
  rw [e1] at o1 ⊢
  have O1 := Lib.hid o1
  have hz := b1.size
  clear o1 e1
  go_wp2_with fail
  refine bodyPost_ret (by simp [results, Try.results62, go_sem, *]; try rfl) rfl ?_
  refine ⟨_, .slice A1 B.length c1, rfl, hz, ⟨Blk.new _ _ _, RdE.keep O1.out.rd ((Below.refl _ _).alloc (Nat.le_refl _) _), fun e => ?_, Nat.zero_le _, HB.out⟩, fun k e => ?_, b1.alloc hz _⟩
  · have := (O1.out.lt _ e).2; omega
  · have := O1.out.lt k e
    refine ⟨this.1, ?_⟩
    simp; omega
set_option maxHeartbeats 1000000 in
theorem knew_any (v : Value) (B : List Int) (w : World) (h : RdE u8E w v B) (hb : Byt B) :
    Calls Try.prog 23 #[v] w fun e w' => ∃ g r v', e = .returned (.pointer (some ⟨g, 0, none⟩)) ∧ w.heap.size ≤ g ∧ w.heap.size ≤ r ∧ KC w' g r v' B 0 ∧ (∀ k, v'.ownBlock = some k → w.heap.size ≤ k ∧ k < w'.heap.size) ∧ Below w.heap.size w w' := by
  have HL := Lib.hid (bnew_any v B w h hb)
  clear h hb
  go_enter Try.func23, Try.ntmps23
  go_wp2_with fail
  refine (HL.out).mono ?_
  rintro e w1 ⟨r, v', rfl, hr, h1, h2, b1⟩
  have H1 := Lib.hid h1
  have H2 := Lib.hid h2
  have hz := b1.size
  clear h1 h2
  go_wp2_with fail
  refine bodyPost_ret (by simp [results, Try.results23, go_sem, *]; try rfl) rfl ?_
  have hrl := H1.out.blk.lt
  refine ⟨_, r, v', rfl, hz, hr, ⟨Blk.new _ _ _, H1.out.stay ?_ (fun k e => ?_) (by simp), by omega, fun e => ?_⟩, fun k e => ?_, b1.alloc hz _⟩
  · exact Below.heap_alloc _ _ _ hrl
  · exact Below.heap_alloc _ _ _ (H2.out k e).2
  · have := (H2.out _ e).2; omega
  · have := H2.out k e
    refine ⟨this.1, ?_⟩
    simp; omega
end Go.Proofs.Ytigmncogjbbmhaa
