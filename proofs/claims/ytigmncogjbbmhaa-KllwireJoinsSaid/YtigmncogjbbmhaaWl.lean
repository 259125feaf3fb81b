/- kllwire's stack: what is read of bytes. Condition: fewer than 2^30 bytes. · kllwire's Read, Tall. Condition: fewer than 2^30 bytes. · law25's added; Add without coins, where all have room; bytes as a string. Conditions: bytes are bytes; numbers of 64 bits. · kllwire's Read of a stack's own bytes, Tall; law25's example. Condition: fewer than 2^30 bytes. -/
import Derived.Test.YtigmncogjbbmhaaWk
import Derived.Test.YtigmncogjbbmhaaKmI
import Derived.Test.YtigmncogjbbmhaaKlY
import Derived.Laws.BytesArg
namespace Go.Proofs.Ytigmncogjbbmhaa
section
open Go.RowKit Go.Lib
/-- The bytes of a stack that may be. -/
structure IsK (bs : List Int) (k : Nat) (L : LL) (led : Nat) : Prop where
  right : RightP k L led
  bd : ∀ j, I64L (lvl L j)
  eq : wrK k L led = bs
theorem IsK.rd {bs : List Int} {k : Nat} {L : LL} {led : Nat} (h : IsK bs k L led) : rdK bs = some (⟨k, led, L⟩, []) := by
  have hr := h.right
  have hm : ∀ l ∈ L, I64L l ∧ Srt l ∧ l.length ≤ 4096 := fun l hl => by
    obtain ⟨j, hj, rfl⟩ := List.getElem_of_mem hl
    have h1 := hr.lev j hj
    have h2 := h.bd j
    rw [lvl_at hj] at h1 h2
    refine ⟨h2, h1.2, Nat.le_trans h1.1 (Nat.le_trans (room_le ?_) ?_)⟩
    · rw [Int.toNat_natCast]; have := hr.k8; omega
    · rw [Int.toNat_natCast]; have := hr.k4; omega
  have := rdK_wrK (k := (k : Int)) (L := L) (led := led) [] (by omega) hr.k4 (by have := hr.hled; omega) hr.hlen hm
  rw [List.append_nil, h.eq] at this
  exact this
theorem IsK.uniq {bs : List Int} {k k' : Nat} {L L' : LL} {led led' : Nat} (h : IsK bs k L led) (h' : IsK bs k' L' led') : k = k' ∧ L = L' ∧ led = led' := by
  have h1 := h.rd
  rw [h'.rd] at h1
  injection h1 with h1
  injection h1 with h1 _
  injection h1 with h1 h2 h3
  exact ⟨by omega, h3.symm, by omega⟩
theorem rdK_of {bs r1 r2 r3 r4 : List Int} {k led n : Int} {L : LL} (h1 : rdN 4096 bs = some (k, r1)) (h2 : unleb r1 = some (led, r2)) (h3 : rdN 49 r2 = some (n, r3)) (h4 : rdLs n.toNat [] r3 = some (L, r4)) : rdK bs = some (⟨k, led, L⟩, r4) := by
  unfold rdK
  rw [h1]; simp only
  rw [h2]; simp only
  rw [h3]; simp only
  rw [h4]
theorem rdK_no1 {bs : List Int} (h1 : rdN 4096 bs = none) : rdK bs = none := by unfold rdK; rw [h1]
theorem rdK_no2 {bs r1 : List Int} {k : Int} (h1 : rdN 4096 bs = some (k, r1)) (h2 : unleb r1 = none) : rdK bs = none := by
  unfold rdK
  rw [h1]; simp only
  rw [h2]
theorem rdK_no3 {bs r1 r2 : List Int} {k led : Int} (h1 : rdN 4096 bs = some (k, r1)) (h2 : unleb r1 = some (led, r2)) (h3 : rdN 49 r2 = none) : rdK bs = none := by
  unfold rdK
  rw [h1]; simp only
  rw [h2]; simp only
  rw [h3]
theorem rdK_no4 {bs r1 r2 r3 : List Int} {k led n : Int} (h1 : rdN 4096 bs = some (k, r1)) (h2 : unleb r1 = some (led, r2)) (h3 : rdN 49 r2 = some (n, r3)) (h4 : rdLs n.toNat [] r3 = none) : rdK bs = none := by
  unfold rdK
  rw [h1]; simp only
  rw [h2]; simp only
  rw [h3]; simp only
  rw [h4]
theorem not_isK {bs : List Int} (h : rdK bs = none) : ∀ k L led, ¬ IsK bs k L led := fun k L led hk => by
  rw [hk.rd] at h; cases h
theorem rdLs_step {k : Nat} {acc : LL} {l : List Int} {T : Option (LL × List Int)} (h : rdLs (k + 1) acc l = T) {x : List Int × List Int} (hx : rdLv l = some x) : rdLs k (acc ++ [x.1]) x.2 = T := by
  rw [rdLs, hx] at h; exact h
theorem rdLs_stop {k : Nat} {acc : LL} {l : List Int} {T : Option (LL × List Int)} (h : rdLs (k + 1) acc l = T) (hx : rdLv l = none) : T = none := by
  rw [rdLs, hx] at h; exact h.symm
theorem rdVs_suf : ∀ (k : Nat) (acc l : List Int) (x : List Int × List Int), rdVs k acc l = some x → ∃ j, x.2 = l.drop j
  | 0, acc, l, x, h => by simp only [rdVs, Option.some.injEq] at h; subst h; exact ⟨0, by simp⟩
  | k + 1, acc, l, x, h => by
    rw [rdVs] at h
    cases h1 : unleb l with
    | none => rw [h1] at h; cases h
    | some y =>
      rw [h1] at h
      simp only at h
      cases h2 : nxV acc.getLast? y.1 with
      | none => rw [h2] at h; cases h
      | some v => rw [h2] at h; exact suf_trans (unleb_len h1).2 (rdVs_suf k _ _ x h)
theorem rdVs_len : ∀ (k : Nat) (acc l : List Int) (x : List Int × List Int), rdVs k acc l = some x → x.1.length = acc.length + k
  | 0, acc, l, x, h => by simp only [rdVs, Option.some.injEq] at h; subst h; rfl
  | k + 1, acc, l, x, h => by
    rw [rdVs] at h
    cases h1 : unleb l with
    | none => rw [h1] at h; cases h
    | some y =>
      rw [h1] at h
      simp only at h
      cases h2 : nxV acc.getLast? y.1 with
      | none => rw [h2] at h; cases h
      | some v =>
        rw [h2] at h
        have := rdVs_len k _ _ x h
        rw [this, List.length_append, List.length_singleton]; omega
theorem rdLv_suf {bs : List Int} {a : Nat} {l r : List Int} (h : rdLv (bs.drop a) = some (l, r)) : bs.drop (bs.length - r.length) = r ∧ l.length ≤ 4096 := by
  unfold rdLv at h
  cases h1 : rdN 4096 (bs.drop a) with
  | none => rw [h1] at h; cases h
  | some x =>
    rw [h1] at h
    simp only at h
    obtain ⟨h2, h3⟩ := rdN_some h1
    obtain ⟨j, hj⟩ := suf_trans (unleb_len h2).2 (rdVs_suf _ _ _ _ h)
    have hl := rdVs_len _ _ _ _ h
    simp only [List.length_nil] at hl
    exact ⟨suf (m := a + j) (by rw [← List.drop_drop]; exact hj), by omega⟩

/-! ### Levels in the making -/
def LvS (base : Nat) (w : World) (gl n : Nat) (acc : LL) : Prop :=
  ∃ vs, OwnE slE base w (.slice (some ⟨gl, 0, none⟩) n n) vs ∧ vs.length = n ∧ ∀ i (h : i < vs.length), i < acc.length → OwnE i64E base w (svV vs[i]) (lvl acc i) ∧ (svV vs[i]).ownBlock ≠ some gl
section
variable {base gl n : Nat} {w w' : World} {acc : LL}
theorem LvS.lt (h : LvS base w gl n acc) : base ≤ gl ∧ gl < w.heap.size := by
  obtain ⟨vs, h1, _⟩ := h
  exact h1.lt gl rfl
theorem LvS.stay (h : LvS base w gl n acc) (hk : ∀ k, base ≤ k → k < w.heap.size → w'.heap[k]? = w.heap[k]?) : LvS base w' gl n acc := by
  obtain ⟨vs, h1, h2, h3⟩ := h
  exact ⟨vs, h1.stay fun k e => hk k (h1.lt k e).1 (h1.lt k e).2, h2, fun i hi hj => ⟨(h3 i hi hj).1.stay fun k e => hk k ((h3 i hi hj).1.lt k e).1 ((h3 i hi hj).1.lt k e).2, (h3 i hi hj).2⟩⟩
theorem LvS.start (w : World) (n : Nat) (hn : n ≤ 1000000) : LvS w.heap.size (w.alloc (.cells (madeCells #[.slice none 0 0] n) 24)) w.heap.size n [] :=
  ⟨noSv n, own_noSv w n hn, by simp [noSv], fun i _ hj => absurd hj (by simp)⟩
theorem LvS.put (h : LvS base w gl n acc) (hj : acc.length < n) {s : Sv} {l : List Int} (ho : OwnE i64E base w (svV s) l) (hne : (svV s).ownBlock ≠ some gl) : LvS base (w.setCell ⟨gl, acc.length, none⟩ (svV s)) gl n (acc ++ [l]) := by
  obtain ⟨vs, h1, h2, h3⟩ := h
  have hj' : acc.length < vs.length := by omega
  have hset := h1.set_ acc.length hj' s
  rw [show acc.length * slE.k = acc.length by show acc.length * 1 = _; omega] at hset
  refine ⟨vs.set acc.length s, hset, by rw [List.length_set]; exact h2, fun i hi hia => ?_⟩
  rw [List.length_set] at hi
  rw [List.length_append, List.length_singleton] at hia
  rw [List.getElem_set]
  by_cases e : acc.length = i
  · subst e
    have el : lvl (acc ++ [l]) acc.length = l := by unfold lvl; simp [List.getD]
    rw [if_pos rfl, el]
    exact ⟨ho.far hne _, hne⟩
  · rw [if_neg e]
    have hia' : i < acc.length := by omega
    have el : lvl (acc ++ [l]) i = lvl acc i := by unfold lvl; simp only [List.getD]; rw [List.getElem?_append_left hia']
    rw [el]
    exact ⟨(h3 i hi hia').1.far (h3 i hi hia').2 _, (h3 i hi hia').2⟩
theorem LvS.cell (h : LvS base w gl n acc) {j : Nat} (hj : j < n) : ∃ u, w.cell? ⟨gl, j, none⟩ = some (svV u) ∧ w.frozen? ⟨gl, j, none⟩ = false := by
  obtain ⟨vs, h1, h2, _⟩ := h
  have hj' : j < vs.length := by omega
  have c := h1.cellAt hj' 0 (by decide)
  rw [show j * slE.k + 0 = j by show j * 1 + 0 = j; omega] at c
  exact ⟨vs[j], c, h1.frozenAt j⟩
theorem LvS.rdr (h : LvS base w gl n acc) {g a : Nat} {bs : List Int} (hr : RdrAt w g bs a) (hne : gl ≠ g) (j : Nat) (u : Value) : RdrAt (w.setCell ⟨gl, j, none⟩ u) g bs a := by
  obtain ⟨vs, h1, _, _⟩ := h
  obtain ⟨v, b1, b2, b3⟩ := hr
  have hk : ∀ k, k ≠ gl → (w.setCell ⟨gl, j, none⟩ u).heap[k]? = w.heap[k]? := fun k hk => Below.heap_setCell w ⟨gl, j, none⟩ u k hk
  refine ⟨v, (hk g (fun e => hne e.symm)).trans b1, b2.stay fun k e => hk k ?_, b3⟩
  rintro rfl
  rcases b2.2 with q | ⟨g1, cap, cur, rfl, _, e3, _⟩
  · rw [q.1] at e; cases e
  · cases e
    rcases h1.2 with q | ⟨g2, cap2, cur2, e4, _, e6, _⟩
    · cases q.1
    · injection e4 with e4
      injection e4 with e4
      injection e4 with e4
      subst e4
      rw [e3] at e6
      cases e6
theorem LvS.llr (h : LvS base w gl n acc) (hl : acc.length = n) : LLR w (.slice (some ⟨gl, 0, none⟩) n n) acc := by
  obtain ⟨vs, h1, h2, h3⟩ := h
  exact ⟨vs, by omega, h1.rd, fun i hi => (h3 i hi (by omega)).1.rd⟩
end
/-- What the reading of a stack makes. -/
def StackP (bs : List Int) (w : World) (e : Ending) (w' : World) : Prop :=
  ((∃ (g k : Nat) (L : LL) (led : Nat) (F : Nat → Prop), e = .returned (.pointer (some ⟨g, 0, none⟩)) ∧ IsK bs k L led ∧ KAt F w' g k L led ∧ ∀ x, F x → w.heap.size ≤ x) ∨ (Gave e ∧ ∀ k L led, ¬ IsK bs k L led)) ∧ Below w.heap.size w w'

set_option maxRecDepth 100000 in
set_option maxHeartbeats 16000000 in
theorem stack_any (v : Value) (bs : List Int) (w : World) (h : RdI .u8 w v bs) (hb : byL bs) (hlen : bs.length ≤ 1000000000) :
    Calls Try.prog 79 #[v] w (StackP bs w) := by
  obtain ⟨i1, hi0, hiz, his, hib⟩ := info_parts slI
  have JI := Lib.hid hi0
  have JZ := Lib.hid hiz
  have JSZ := Lib.hid his
  have JBY := Lib.hid hib
  clear hi0 hiz his hib
  have hl12 : bs.length ≤ 1000000000000 := by omega
  have HNW := Lib.hid (rnew_any v bs w h hl12)
  have HRD := Lib.hid (fun W (hb : Below w.heap.size w W) => Rd.keep h hb)
  have HB := Lib.hid hb
  obtain ⟨Av, cv, rfl, _, _, _⟩ := h.form
  clear h hb
  have hmk : ∀ n : Nat, n ≤ 49 → ∀ W : World, (Instr.makeSlice 48 (.int .u64 n) (.int .u64 n)).run Try.prog W = .ok (.slice (some ⟨W.heap.size, 0, none⟩) n n) (W.alloc (.cells (madeCells #[.slice none 0 0] n) 24)) := fun n hn W => by
    have := run_make_rowN 48 24 i1 _ Try.underlying48 JI.out JZ.out .u64 .u64 n n (Nat.le_refl _) (by rw [JBY.out]; omega) (by omega) W
    rw [JSZ.out, Nat.mul_one] at this
    exact this
  have HMK := Lib.hid hmk
  clear hmk
  have elv : ∀ args w, (callFunc 100 args).run Try.prog w = .ok (.enter 100 args) w := fun _ _ => rfl
  go_enter Try.func79, Try.ntmps79
  go_wp2_with fail
  refine (HNW.out).mono ?_
  rintro e w1 ⟨g, rfl, hg, hr1, hb1⟩
  have hz1 := hb1.size
  have hgl := hr1.lt
  have HR1 := Lib.hid hr1
  have HB1 := Lib.hid hb1
  clear hr1 hb1 HNW
  go_upto_region 3 with fail
  obtain ⟨w2, hw2⟩ : ∃ w2, w1.alloc (.cells #[.pointer (some ⟨g, 0, none⟩)] 159) = w2 := ⟨_, rfl⟩
  have hb2 : Below w1.heap.size w1 w2 := by rw [← hw2]; exact (Below.refl _ _).alloc (Nat.le_refl _) _
  have hz2 : w2.heap.size = w1.heap.size + 1 := by rw [← hw2]; simp
  have c2 : w2.cell? ⟨w1.heap.size, 0, none⟩ = some (.pointer (some ⟨g, 0, none⟩)) := by rw [← hw2]; simp [World.cell?_alloc_new]
  obtain ⟨gr, hgr⟩ : ∃ gr, w1.heap.size = gr := ⟨_, rfl⟩
  rw [hgr] at c2 hgl hz2
  rw [hw2, hgr]
  have R2 := Lib.hid (HR1.out.keep hb2)
  have C2 := Lib.hid c2
  have HB2 := Lib.hid (HB1.out.trans (hb2.mono hz1))
  have hne : gr ≠ g := by omega
  have hgr2 : gr < w2.heap.size := by omega
  have hwz : w.heap.size ≤ w2.heap.size := by omega
  have NO : Hid (∀ (s : _) (w' : World), Touch (fun k => k = g) w2 w' → rdK bs = none → StackP bs w (.panicked [{ v := .iface 129 (.string s), recovered := false }]) w') := Lib.hid fun s w' ht hn =>
    ⟨.inr ⟨⟨s, rfl⟩, not_isK hn⟩, HB2.out.trans (ht.below (fun i hi => by have hi : i = g := hi; omega) hwz)⟩
  have HN1 := Lib.hid (knumv_any 4096 gr g bs 0 w2 R2.out c2 HB.out hl12)
  rw [List.drop_zero] at HN1
  clear hw2 hb2 c2 hgr HR1 HB1
  go_wp2_with fail
  refine (HN1.out).mono ?_
  intro e w3 hg
  unfold GotX at hg
  cases hA : rdN 4096 bs with
  | none =>
    simp only [hA] at hg
    have HU := Lib.hid (rdK_no1 hA)
    obtain ⟨⟨pv, rfl⟩, h4⟩ := hg
    have T3 := Lib.hid h4
    clear hA h4
    go_wp2_with fail
    exact ⟨rfl, NO.out _ _ T3.out HU.out⟩
  | some pA =>
    obtain ⟨k, r1⟩ := pA
    simp only [hA] at hg
    obtain ⟨v1, rfl, rfl, h3, h4⟩ := hg
    have T3 := Lib.hid h4
    have R3 := Lib.hid h3
    have HA := Lib.hid hA
    obtain ⟨hx, hkm⟩ := rdN_some hA
    have hkb := unleb_bd HB.out hx
    have S1 : Hid (bs.drop (bs.length - r1.length) = r1) := Lib.hid (suf_unleb (a := 0) (by rw [List.drop_zero]; exact hx))
    have C3 := Lib.hid ((h4.cell (o := 0) hgr2 hne).trans C2.out)
    have HN2 := Lib.hid (knumv64_any gr g bs _ w3 h3 C3.out HB.out hl12)
    rw [S1.out] at HN2
    have hz3 := h4.size
    simp only at hkm hkb
    clear hA h3 h4 hx HN1
    go_wp2_with fail
    refine (HN2.out).mono ?_
    intro e w4 hg
    unfold GotX at hg
    cases hA : unleb r1 with
    | none =>
      simp only [hA] at hg
      have HU := Lib.hid (rdK_no2 HA.out hA)
      obtain ⟨⟨pv, rfl⟩, h4⟩ := hg
      have T4 := Lib.hid (tt T3.out h4)
      clear hA h4
      go_wp2_with fail
      exact ⟨rfl, NO.out _ _ T4.out HU.out⟩
    | some pB =>
      obtain ⟨led, r2⟩ := pB
      simp only [hA] at hg
      obtain ⟨v2, rfl, rfl, h3, h4⟩ := hg
      have T4 := Lib.hid (tt T3.out h4)
      have HA2 := Lib.hid hA
      have hlb : 0 ≤ led ∧ led < 18446744073709551616 := by
        have hby : byL r1 := by rw [← S1.out]; exact HB.out.drop _
        exact unleb_bd hby hA
      have S2 : Hid (bs.drop (bs.length - r2.length) = r2) := Lib.hid (suf_unleb (by rw [S1.out]; exact hA))
      have C4 := Lib.hid ((T4.out.cell (o := 0) hgr2 hne).trans C2.out)
      have HN3 := Lib.hid (knumv_any 49 gr g bs _ w4 h3 C4.out HB.out hl12)
      rw [S2.out] at HN3
      have hz4 := T4.out.size
      clear hA h3 h4 HN2
      go_wp2_with fail
      refine (HN3.out).mono ?_
      intro e w5 hg
      unfold GotX at hg
      cases hA : rdN 49 r2 with
      | none =>
        simp only [hA] at hg
        have HU := Lib.hid (rdK_no3 HA.out HA2.out hA)
        obtain ⟨⟨pv, rfl⟩, h4⟩ := hg
        have T5 := Lib.hid (tt T4.out h4)
        clear hA h4
        go_wp2_with fail
        exact ⟨rfl, NO.out _ _ T5.out HU.out⟩
      | some pC =>
        obtain ⟨n0, r3⟩ := pC
        simp only [hA] at hg
        obtain ⟨v3, rfl, rfl, h3, h4⟩ := hg
        have T5 := Lib.hid (tt T4.out h4)
        have R5 := Lib.hid h3
        have HA3 := Lib.hid hA
        obtain ⟨hx, hnm⟩ := rdN_some hA
        have hnb : 0 ≤ n0 ∧ n0 < 18446744073709551616 := by
          have hby : byL r2 := by rw [← S2.out]; exact HB.out.drop _
          exact unleb_bd hby hx
        obtain ⟨n, rfl⟩ : ∃ n : Nat, n0 = n := ⟨n0.toNat, by omega⟩
        simp only at hnm
        have S3 : Hid (bs.drop (bs.length - r3.length) = r3) := Lib.hid (suf_unleb (by rw [S2.out]; exact hx))
        have C5 := Lib.hid ((T5.out.cell (o := 0) hgr2 hne).trans C2.out)
        have hz5 := T5.out.size
        have hmk := HMK.out n (by omega)
        clear hA h3 h4 HN3 hx
        go_wp2_with fail
        have HLS := Lib.hid (LvS.start w5 n (by omega))
        have hb6 : Below w5.heap.size w5 (w5.alloc (.cells (madeCells #[.slice none 0 0] n) 24)) := (Below.refl _ _).alloc (Nat.le_refl _) _
        have T6 := Lib.hid (T5.out.alloc (.cells (madeCells #[.slice none 0 0] n) 24))
        have R6 := Lib.hid (R5.out.keep hb6)
        obtain ⟨T, hT⟩ : ∃ T, rdLs n [] r3 = T := ⟨_, rfl⟩
        have HT := Lib.hid hT
        have R0 : Hid (rdLs n [] (bs.drop (bs.length - r3.length)) = T) := Lib.hid (by rw [S3.out]; exact hT)
        have hb6z := hb6.size
        obtain ⟨w6, hw6⟩ : ∃ w6, w5.alloc (.cells (madeCells #[.slice none 0 0] n) 24) = w6 := ⟨_, rfl⟩
        rw [hw6] at HLS T6 R6 hb6z ⊢
        obtain ⟨gl, hgl2⟩ : ∃ gl, w5.heap.size = gl := ⟨_, rfl⟩
        rw [hgl2] at HLS hb6z ⊢
        have hglg : gl ≠ g := by omega
        have hgl5 : w2.heap.size ≤ gl := by omega
        clear hw6 hb6 hT hmk R5 HMK
        generalize bs.length - r3.length = a3 at *
        go_loopg [8, 26] n (fun q _ i wr => ∃ (j a' : Nat) (acc : LL), q = n - j ∧ j ≤ n ∧ i = .int .i64 j ∧ acc.length = j ∧ Hid (∀ l ∈ acc, I64L l ∧ l.length ≤ 4096) ∧ Hid (LvS gl wr gl n acc) ∧ Hid (RdrAt wr g bs a') ∧ Hid (rdLs (n - j) acc (bs.drop a') = T) ∧ Hid (Touch (fun k => k = g) w2 wr))
        case atStart => exact ⟨0, a3, [], rfl, by omega, rfl, rfl, Lib.hid (fun x hx => by simp at hx), HLS, R6, R0, T6⟩
        case round =>
          obtain ⟨j, a', acc, hq, hj, rfl, hacc, HI, HLJ, HR, HS0, HTO⟩ := hrel
          have HQ := Lib.hid hq
          have hzr := HTO.out.size
          have cb := (HTO.out.cell (o := 0) hgr2 hne).trans C2.out
          clear hq
          by_cases hlt2 : j < n
          · have hs' := HS0.out
            rw [show n - j = (n - (j + 1)) + 1 by omega] at hs'
            have HSJ := Lib.hid hs'
            have hji : (j : Int) < (n : Int) := by omega
            have HRL := Lib.hid (rlevel_any gr g bs a' wr HR.out cb hne HB.out hl12)
            have hglr := HLJ.out.lt.2
            clear hs' HS0 cb
            go_wp2_with (go_at_fn 100; refine (HRL.out).mono ?_)
            intro e w7 hg
            unfold GotX at hg
            cases hA : rdLv (bs.drop a') with
            | none =>
              simp only [hA] at hg
              have HU : Hid (rdK bs = none) := Lib.hid (rdK_no4 HA.out HA2.out HA3.out (by rw [Int.toNat_natCast, HT.out]; exact rdLs_stop HSJ.out hA))
              obtain ⟨⟨pv, rfl⟩, h4⟩ := hg
              have T7 := Lib.hid (tt HTO.out h4)
              clear hA h4
              go_wp2_with fail
              exact ⟨rfl, NO.out _ _ T7.out HU.out⟩
            | some p =>
              obtain ⟨l, r⟩ := p
              simp only [hA] at hg
              obtain ⟨v, rfl, ⟨h2, h2b⟩, h3, h4⟩ := hg
              obtain ⟨A7, c7, ev, _, _, _⟩ := h2.rd.form
              subst ev
              obtain ⟨hsuf, hll⟩ := rdLv_suf hA
              have HNX : Hid (rdLs (n - (j + 1)) (acc ++ [l]) (bs.drop (bs.length - r.length)) = T) := Lib.hid (by rw [hsuf]; exact rdLs_step HSJ.out hA)
              have HI1 : Hid (∀ x ∈ acc ++ [l], I64L x ∧ x.length ≤ 4096) := Lib.hid fun x hx => by
                rcases List.mem_append.1 hx with hx | hx
                · exact HI.out x hx
                · simp only [List.mem_singleton] at hx; subst hx; exact ⟨h2b, hll⟩
              have L7 := Lib.hid (HLJ.out.stay fun k h1 h2 => h4.block k h2 (fun e => by have e : k = g := e; omega))
              have o7 : OwnE i64E gl w7 (svV (A7, l.length, c7)) l := (own_i64.1 h2).more (by omega)
              have n7 : (svV (A7, l.length, c7)).ownBlock ≠ some gl := fun e => by have := (OwnI.lt h2 gl e).1; omega
              obtain ⟨u, ku, fu⟩ := L7.out.cell hlt2
              have L8 := Lib.hid (L7.out.put (by omega) o7 n7)
              have R8 := Lib.hid (L7.out.rdr h3 hglg j (svV (A7, l.length, c7)))
              have T8 : Hid (Touch (fun k => k = g) w2 (w7.setCell ⟨gl, j, none⟩ (svV (A7, l.length, c7)))) := Lib.hid ((tt HTO.out h4).setCell (.inr hgl5) _)
              rw [hacc] at L8
              obtain ⟨uA, un, uc⟩ := u
              simp only [svV] at ku
              have hl64 : l.length ≤ 9223372036854775807 := by omega
              clear hA h2 h3 h4 hsuf o7 n7 HLJ HR
              generalize bs.length - r.length = a2 at *
              go_wp2_with fail
              go_roundg (n - (j + 1))
              case measure => have := HQ.out; omega
              case rel => exact ⟨j + 1, a2, acc ++ [l], rfl, by omega, by go_num, by simp [hacc], HI1, L8, R8, HNX, T8⟩
          · obtain rfl : j = n := by omega
            have hs' := HS0.out
            rw [Nat.sub_self, rdLs] at hs'
            have hsuf2 : bs.drop a' = bs.drop a' := rfl
            have HK : Hid (rdK bs = some (⟨k, led, acc⟩, bs.drop a')) := Lib.hid (rdK_of HA.out HA2.out HA3.out (by rw [Int.toNat_natCast, HT.out]; exact hs'.symm))
            obtain ⟨K, rfl⟩ : ∃ K : Nat, k = K := ⟨k.toNat, by omega⟩
            obtain ⟨ld, rfl⟩ : ∃ ld : Nat, led = ld := ⟨led.toNat, by omega⟩
            have hbdL : ∀ i, I64L (lvl acc i) ∧ (lvl acc i).length ≤ 4096 := fun i => by
              rcases Nat.lt_or_ge i acc.length with h1 | h1
              · rw [lvl_at h1]; exact HI.out _ (List.getElem_mem h1)
              · rw [lvl_of_ge h1]; exact ⟨fun x hx => by simp at hx, by simp⟩
            have HBDL := Lib.hid hbdL
            have hli := HLJ.out.llr hacc
            have HLD := Lib.hid (load_any (K : Int) _ acc ld wr hli (by omega) (by omega) (by omega) (fun i => by have := (hbdL i).2; omega))
            have EK := Lib.hid (show wrap64 (K : Int) = (K : Int) by unfold wrap64; omega)
            have hwr : w.heap.size ≤ wr.heap.size := by omega
            have HBR : Hid (Below w.heap.size w wr) := Lib.hid (HB2.out.trans (HTO.out.below (fun i hi => by have hi : i = g := hi; omega) hwz))
            have CB := Lib.hid cb
            have hgrr : gr < wr.heap.size := by omega
            have NOK : Hid ((¬ RightP K acc ld ∨ bs.drop a' ≠ [] ∨ wrK K acc ld ≠ bs) → ∀ k L led, ¬ IsK bs k L led) := Lib.hid fun hor k L led hk => by
              have h1 := hk.rd
              rw [HK.out] at h1
              injection h1 with h1
              injection h1 with h1 h2
              injection h1 with e1 e2 e3
              have e1' : K = k := Int.ofNat_inj.1 e1
              have e2' : ld = led := Int.ofNat_inj.1 e2
              subst e1'; subst e2'; subst e3
              rcases hor with h | h | h
              · exact h hk.right
              · exact h h2
              · exact h hk.eq
            have ha' : a' ≤ bs.length := by obtain ⟨_, _, _, h3⟩ := HR.out; exact h3
            clear hs' HS0 hli hbdL HLJ cb hsuf2
            have ek := EK.out
            go_wp2_with fail
            clear ek EK
            refine (HLD.out).mono ?_
            rintro e w8 ⟨hor, hb8⟩
            have HB8 := Lib.hid (HBR.out.trans (hb8.mono hwr))
            have hz8 := hb8.size
            rcases hor with ⟨g2, rfl, hrt, F, hka, hF⟩ | ⟨rfl, hnr⟩
            · have HRT := Lib.hid hrt
              have HKA := Lib.hid hka
              rw [Int.toNat_natCast] at HKA
              have HFN : Hid (∀ x, F x → w.heap.size ≤ x) := Lib.hid fun x hx => Nat.le_trans hwr (hF x hx)
              have c8 := (hb8.cell (p := ⟨gr, 0, none⟩) hgrr).trans CB.out
              have R8 := Lib.hid (HR.out.keep hb8)
              have HLF := Lib.hid (rleft_any g bs a' w8 R8.out hl12)
              clear hrt hka hF hb8 HLD
              by_cases hrest : a' < bs.length
              · have HNO := Lib.hid (NOK.out (.inr (.inl (fun e => by have := congrArg List.length e; rw [List.length_drop, List.length_nil] at this; omega))))
                have hgt : (bs.length : Int) - (a' : Int) > 0 := by omega
                go_wp2_with (go_at_call 102; refine (HLF.out).mono ?_; rintro e w' ⟨rfl, q, rfl⟩)
                refine ⟨rfl, .inr ⟨⟨_, rfl⟩, HNO.out⟩, below_drewN HB8.out _⟩
              · have hdn : bs.drop a' = [] := List.drop_eq_nil_of_le (by omega)
                have HDN := Lib.hid hdn
                have hgt : (bs.length : Int) - (a' : Int) = 0 := by omega
                rw [hgt] at HLF
                clear hdn hgt
                go_wp2_with (go_at_call 102; refine (HLF.out).mono ?_; rintro e w' ⟨rfl, q, rfl⟩)
                have HB9 := Lib.hid (below_drewN HB8.out q)
                have HK9 := Lib.hid (HKA.out.keep (below_drewN (Below.refl _ _) q))
                obtain ⟨w9, hw9⟩ : ∃ w9, w8.drewN q = w9 := ⟨_, rfl⟩
                rw [hw9] at HB9 HK9 ⊢
                obtain ⟨lv, vs, hks⟩ := HK9.out
                have HWR := Lib.hid (kwrite_any w9 hks HRT.out.fit.ok (fun i => (HBDL.out i).1) (by omega))
                have hwkl : (wrK K acc ld).length ≤ 1000000000000 := by
                  have h1 := wrK_len K acc ld
                  have h2 : cnt acc ≤ _ := HRT.out.fit.ok.cntL
                  have h3 : acc.length ≤ 49 := HRT.out.hlen
                  omega
                clear hw9 hks c8
                refine (HWR.out).mono ?_
                rintro e w10 ⟨v10, rfl, o10, hb10⟩
                have HB10 := Lib.hid (HB9.out.trans (hb10.mono HB9.out.size))
                have HK10 := Lib.hid (HK9.out.keep hb10)
                have HEQ := Lib.hid (equal_any v10 _ (wrK K acc ld) bs w10 (OwnI.rd o10) (HRD.out w10 HB10.out) hwkl hl12)
                obtain ⟨A10, c10, ev, _, _, _⟩ := (OwnI.rd o10).form
                obtain ⟨n10, hn10⟩ : ∃ n10, (wrK K acc ld).length = n10 := ⟨_, rfl⟩
                rw [hn10] at ev
                subst ev
                clear o10 hb10 hn10 hwkl
                go_wp2_with fail
                refine (HEQ.out).mono ?_
                rintro e w11 ⟨rfl, hb11⟩
                have HB11 := Lib.hid (HB10.out.trans (hb11.mono HB10.out.size))
                have HK11 := Lib.hid (HK10.out.keep hb11)
                clear hb11 HEQ
                by_cases hE : wrK K acc ld = bs
                · have HE := Lib.hid hE
                  rw [decide_eq_true hE]
                  clear hE
                  go_wp2_with fail
                  refine bodyPost_ret (by simp [results, Try.results79, go_sem, *]; try rfl) rfl ?_
                  exact ⟨.inl ⟨g2, K, acc, ld, F, rfl, ⟨HRT.out, fun i => (HBDL.out i).1, HE.out⟩, HK11.out, HFN.out⟩, HB11.out⟩
                · have HNO := Lib.hid (NOK.out (.inr (.inr hE)))
                  rw [decide_eq_false hE]
                  clear hE
                  go_wp2_with fail
                  exact ⟨rfl, .inr ⟨⟨_, rfl⟩, HNO.out⟩, HB11.out⟩
            · have HNO := Lib.hid (NOK.out (.inl hnr))
              clear hnr hb8 HLD
              go_wp2_with fail
              refine ⟨rfl, .inr ⟨⟨_, rfl⟩, HNO.out⟩, HB8.out⟩
end
section
open Go.RowKit Go.Lib
set_option maxRecDepth 100000 in
set_option maxHeartbeats 1000000 in
theorem catch_panicking (h2 h3 : Nat) (x2 x3 : Value) (s : ByteArray) (w : World) (c2 : w.cell? ⟨h2, 0, none⟩ = some x2) (c3 : w.cell? ⟨h3, 0, none⟩ = some x3) (f2 : w.frozen? ⟨h2, 0, none⟩ = false) (f3 : w.frozen? ⟨h3, 0, none⟩ = false) (hne : h2 ≠ h3) :
    CallsD Try.prog 78 #[.pointer (some ⟨h2, 0, none⟩), .pointer (some ⟨h3, 0, none⟩)] (.panicking ({ v := .iface 129 (.string s), recovered := false } :: [])) w fun e u' w' =>
      e = .returned (.tuple #[]) ∧ u' = .panicking ({ v := .iface 129 (.string s), recovered := true } :: []) ∧ w'.cell? ⟨h2, 0, none⟩ = some (.pointer none) ∧ w'.cell? ⟨h3, 0, none⟩ = some (.int .i64 9) ∧ Touch (fun k => k = h2 ∨ k = h3) w w' := by
  have l2 : h2 < w.heap.size := World.block_lt_of_cell? _ _ c2
  have l3 : h3 < w.heap.size := World.block_lt_of_cell? _ _ c3
  refine callsD_of_wpS Try.func78 rfl fun c₀ cs hu => ?_
  apply wpS_seq
  apply wpS_region
  rw [Try.ntmps78]
  simp [wpOpsS, go_sem, recoverD, hu, Exit.thenS]
  refine wpS_of_wp ?_
  have e : (#[Value.pointer (some ⟨h2, 0, none⟩), Value.pointer (some ⟨h3, 0, none⟩)] ++ ((Array.replicate 14 undef).setIfInBounds 3 (Value.iface 129 (Value.string s))).setIfInBounds 0 (Value.iface 129 (Value.string s)) : Array Value) = #[Value.pointer (some ⟨h2, 0, none⟩), Value.pointer (some ⟨h3, 0, none⟩), Value.iface 129 (Value.string s), undef, undef, Value.iface 129 (Value.string s), undef, undef, undef, undef, undef, undef, undef, undef, undef, undef] := rfl
  rw [e]
  clear e
  have hta : ∀ (s : ByteArray) (w : World), (Instr.typeAssert (.iface 129 (.string s)) 20 129 true).run Try.prog w = .ok (.tuple #[.string s, .bool true]) w := fun _ _ => by kernel_rfl
  go_wp2
  cases c₀
  have n23 : (⟨h2, 0, none⟩ : Addr) ≠ ⟨h3, 0, none⟩ := fun h => hne (by injection h)
  have B2 : ((w.setCell ⟨h2, 0, none⟩ (.pointer none)).setCell ⟨h3, 0, none⟩ (.int .i64 9)).cell? ⟨h2, 0, none⟩ = some (.pointer none) :=
    (World.cell?_setCell_other _ _ _ _ n23.symm).trans (World.cell?_setCell_same _ _ _ c2)
  have B3 : ((w.setCell ⟨h2, 0, none⟩ (.pointer none)).setCell ⟨h3, 0, none⟩ (.int .i64 9)).cell? ⟨h3, 0, none⟩ = some (.int .i64 9) :=
    World.cell?_setCell_same _ _ _ ((World.cell?_setCell_other _ _ _ _ n23).trans c3)
  refine ⟨rfl, _, rfl, .tuple #[], by simp [results, Try.results78, go_sem], rfl, rfl, B2, B3, ?_⟩
  exact ((Touch.refl (fun k => k = h2 ∨ k = h3) w).setCell (p := ⟨h2, 0, none⟩) (.inl (.inl rfl)) _).setCell (p := ⟨h3, 0, none⟩) (.inl (.inr rfl)) _
set_option maxRecDepth 100000 in
theorem catch_idle (h2 h3 : Nat) (w : World) :
    CallsD Try.prog 78 #[.pointer (some ⟨h2, 0, none⟩), .pointer (some ⟨h3, 0, none⟩)] .returning w fun e u' w' => e = .returned (.tuple #[]) ∧ u' = .returning ∧ w' = w := by
  refine callsD_of_wpS Try.func78 rfl fun c₀ cs hu => ?_
  apply wpS_seq
  apply wpS_region
  simp [wpOpsS, go_sem, recoverD, hu, Try.ntmps78, Exit.thenS]
  refine wpS_of_wp ?_
  go_wp2
  cases c₀
  simp_all [bodyPostS, results, Try.results78]
/-- The door where the reading was given up. -/
theorem door_gave (h2 h3 : Nat) (s : ByteArray) (w0 w : World) (R : Ending → World → Prop) (tmps : Array Value) (t2 : tmps[2]? = some (.pointer (some ⟨h2, 0, none⟩))) (t3 : tmps[3]? = some (.pointer (some ⟨h3, 0, none⟩)))
    (x2 x3 : Value) (c2 : w.cell? ⟨h2, 0, none⟩ = some x2) (c3 : w.cell? ⟨h3, 0, none⟩ = some x3) (f2 : w.frozen? ⟨h2, 0, none⟩ = false) (f3 : w.frozen? ⟨h3, 0, none⟩ = false) (hne : h2 ≠ h3) (b2 : w0.heap.size ≤ h2) (b3 : w0.heap.size ≤ h3) (hb : Below w0.heap.size w0 w)
    (hR : ∀ w', Below w0.heap.size w0 w' → R (.returned (.tuple #[.pointer none, .int .i64 9])) w') :
    Leaves Try.prog Try.f48 tmps R [{ target := .fn (.func 78) #[.pointer (some ⟨h2, 0, none⟩), .pointer (some ⟨h3, 0, none⟩)], args := #[] }] (.panicking [{ v := .iface 129 (.string s), recovered := false }]) w := by
  refine leaves_cons (f := 78) (args := #[.pointer (some ⟨h2, 0, none⟩), .pointer (some ⟨h3, 0, none⟩)]) (by simp) (by simp [go_sem]) ?_
  refine (catch_panicking h2 h3 x2 x3 s w c2 c3 f2 f3 hne).mono ?_
  rintro e u' w'' ⟨rfl, rfl, k2, k3, kt⟩
  have hb' : Below w0.heap.size w0 w'' := hb.trans (kt.below (fun i hi => by rcases hi with rfl | rfl <;> assumption) hb.size)
  have g2 : tmps.getD 2 undef = .pointer (some ⟨h2, 0, none⟩) := by simp [Array.getD_eq_getD_getElem?, t2]
  have g3 : tmps.getD 3 undef = .pointer (some ⟨h3, 0, none⟩) := by simp [Array.getD_eq_getD_getElem?, t3]
  refine ⟨.tuple #[.pointer none, .int .i64 9], ?_, hR w'' hb'⟩
  simp [results, Try.results48, go_sem, t2, t3, k2, k3]
/-- The door behind a return. -/
theorem door_back (h2 h3 : Nat) (w : World) (R : Ending → World → Prop) (tmps : Array Value) (t2 : tmps[2]? = some (.pointer (some ⟨h2, 0, none⟩))) (t3 : tmps[3]? = some (.pointer (some ⟨h3, 0, none⟩)))
    (x2 x3 : Value) (c2 : w.cell? ⟨h2, 0, none⟩ = some x2) (c3 : w.cell? ⟨h3, 0, none⟩ = some x3) (hR : R (.returned (.tuple #[x2, x3])) w) :
    Leaves Try.prog Try.f48 tmps R [{ target := .fn (.func 78) #[.pointer (some ⟨h2, 0, none⟩), .pointer (some ⟨h3, 0, none⟩)], args := #[] }] .returning w := by
  refine leaves_cons (f := 78) (args := #[.pointer (some ⟨h2, 0, none⟩), .pointer (some ⟨h3, 0, none⟩)]) (by simp) (by simp [go_sem]) ?_
  refine (catch_idle h2 h3 w).mono ?_
  rintro e u' w'' ⟨rfl, rfl, rfl⟩
  refine ⟨.tuple #[x2, x3], ?_, hR⟩
  simp [results, Try.results48, go_sem, t2, t3, c2, c3]
theorem two_put {h2 : Nat} (X : World) (a b : Value) {x y : Value} (c2 : X.cell? ⟨h2, 0, none⟩ = some x) (c3 : X.cell? ⟨h2 + 1, 0, none⟩ = some y) :
    ((X.setCell ⟨h2, 0, none⟩ a).setCell ⟨h2 + 1, 0, none⟩ b).cell? ⟨h2, 0, none⟩ = some a ∧ ((X.setCell ⟨h2, 0, none⟩ a).setCell ⟨h2 + 1, 0, none⟩ b).cell? ⟨h2 + 1, 0, none⟩ = some b := by
  have n23 : (⟨h2, 0, none⟩ : Addr) ≠ ⟨h2 + 1, 0, none⟩ := fun h => by injection h with h; omega
  exact ⟨(World.cell?_setCell_other _ _ _ _ n23.symm).trans (World.cell?_setCell_same _ _ _ c2), World.cell?_setCell_same _ _ _ ((World.cell?_setCell_other _ _ _ _ n23).trans c3)⟩
theorem below_two {w X : World} {h2 : Nat} (hb : Below w.heap.size w X) (h : w.heap.size ≤ h2) (a b : Value) : Below w.heap.size w ((X.setCell ⟨h2, 0, none⟩ a).setCell ⟨h2 + 1, 0, none⟩ b) :=
  (hb.setCell (p := ⟨h2, 0, none⟩) h a).setCell (p := ⟨h2 + 1, 0, none⟩) (by show _ ≤ h2 + 1; omega) b
/-- What Read hands back. -/
def ReadP (bs : List Int) (w : World) (e : Ending) (w' : World) : Prop :=
  ((∃ (g k : Nat) (L : LL) (led : Nat) (F : Nat → Prop), e = .returned (.tuple #[.pointer (some ⟨g, 0, none⟩), .int .i64 0]) ∧ IsK bs k L led ∧ KAt F w' g k L led ∧ ∀ x, F x → w.heap.size ≤ x) ∨ (e = .returned (.tuple #[.pointer none, .int .i64 9]) ∧ ∀ k L led, ¬ IsK bs k L led)) ∧ Below w.heap.size w w'

set_option maxRecDepth 100000 in
set_option maxHeartbeats 8000000 in
theorem kread_any (v : Value) (bs : List Int) (w : World) (h : RdI .u8 w v bs) (hb : byL bs) (hlen : bs.length ≤ 1000000000) :
    Calls Try.prog 48 #[v] w (ReadP bs w) := by
  have hmf : ∀ (fn : Fn) (first cap : Array Value) (w : World), (Instr.makeFunc fn first cap).run Try.prog w = .ok (.func fn first cap) w := fun _ _ _ _ => rfl
  have HR := Lib.hid h
  have HB := Lib.hid hb
  clear h hb
  go_enter_defers Try.func48, Try.ntmps48
  go_wp2_with fail
  obtain ⟨w1, hw1⟩ : ∃ w1, w1 = (w.alloc (.cells #[.pointer none] 28)).alloc (.cells #[.int .i64 0] 32) := ⟨_, rfl⟩
  have hb1 : Below w.heap.size w w1 := by rw [hw1]; exact ((Below.refl _ _).alloc (Nat.le_refl _) _).alloc (by simp) _
  have B2 : Hid (Blk w1 w.heap.size 28 #[.pointer none]) := by show Blk _ _ _ _; rw [hw1]; exact (Blk.new _ _ _).alloc _
  have B3 : Hid (Blk w1 (w.heap.size + 1) 32 #[.int .i64 0]) := by
    show Blk _ _ _ _; rw [hw1]
    have h := Blk.new (w.alloc (.cells #[.pointer none] 28)) 32 #[.int .i64 0]
    rwa [World.size_alloc] at h
  obtain ⟨h2, hh2⟩ : ∃ h2, w.heap.size = h2 := ⟨_, rfl⟩
  have HH2 := Lib.hid hh2
  rw [← hw1]
  rw [hh2] at B2 B3 ⊢
  have l2 := B2.out.lt
  have l3 := B3.out.lt
  have e2 : w.heap.size ≤ h2 := by omega
  have HST := Lib.hid (stack_any v bs w1 (Rd.keep HR.out hb1) HB.out hlen)
  have hz1 := hb1.size
  clear hw1 hh2
  refine (HST.out).mono ?_
  rintro e w2 ⟨hor, hb2⟩
  have C2 := Lib.hid (B2.out.keep hb2)
  have C3 := Lib.hid (B3.out.keep hb2)
  have HBW := Lib.hid (hb1.trans (hb2.mono hz1))
  have hz2 := hb2.size
  rcases hor with ⟨g, k, L, led, F, rfl, hk, hka, hF⟩ | ⟨⟨s, rfl⟩, hno⟩
  · have HK := Lib.hid hk
    have HKA := Lib.hid hka
    have HF := Lib.hid hF
    have x2 := C2.out.cell 0
    have x3 := C3.out.cell 0
    have y2 := C2.out.frozen 0
    have y3 := C3.out.frozen 0
    simp only [List.getElem?_toArray, List.getElem?_cons_zero] at x2 x3
    clear hk hka hF hb2
    go_wp2_with fail
    have tp := two_put w2 (.pointer (some ⟨g, 0, none⟩)) (.int .i64 0) x2 x3
    refine (show Leaves Try.prog Try.f48 _ (ReadP bs w) _ .returning _ from ?_)
    refine door_back h2 (h2 + 1) _ _ _ rfl rfl _ _ tp.1 tp.2 ?_
    have T8 : Touch (fun k => k = h2 ∨ k = h2 + 1) w2 ((w2.setCell ⟨h2, 0, none⟩ (.pointer (some ⟨g, 0, none⟩))).setCell ⟨h2 + 1, 0, none⟩ (.int .i64 0)) := ((Touch.refl _ w2).setCell (p := ⟨h2, 0, none⟩) (.inl (.inl rfl)) _).setCell (p := ⟨h2 + 1, 0, none⟩) (.inl (.inr rfl)) _
    refine ⟨.inl ⟨g, k, L, led, F, rfl, HK.out, HKA.out.stay (fun x hx => ?_) T8.size, fun x hx => Nat.le_trans hz1 (HF.out x hx)⟩, below_two HBW.out e2 _ _⟩
    have h1 := HF.out x hx
    have h3 : x < w2.heap.size := by
      obtain ⟨lv, vs, hks⟩ := HKA.out
      exact hks.low x hx
    exact T8.block x h3 (fun e => by rcases e with e | e <;> omega)
  · have HNO := Lib.hid hno
    have x2 := C2.out.cell 0
    have x3 := C3.out.cell 0
    have y2 := C2.out.frozen 0
    have y3 := C3.out.frozen 0
    simp only [List.getElem?_toArray, List.getElem?_cons_zero] at x2 x3
    clear hno hb2
    go_wp2_with fail
    refine (show Leaves Try.prog Try.f48 _ (ReadP bs w) _ (.panicking _) _ from ?_)
    exact door_gave h2 (h2 + 1) s w w2 _ _ rfl rfl _ _ x2 x3 y2 y3 (by omega) e2 (by omega) HBW.out (fun w' hb' => ⟨.inr ⟨rfl, HNO.out⟩, hb'⟩)
end
section
open Go.RowKit Go.Lib
theorem conv_B {w : World} {v : Value} {l : List Int} (h : RdI .u8 w v l) : (convert 23 9 v).run Try.prog w = .ok (.string (strOfNums l)) w := by
  obtain ⟨A, c, rfl, _, _, f⟩ := h.form
  cases A with
  | none =>
    have h0 : l = [] := by
      rcases Nat.eq_zero_or_pos l.length with h0 | h0
      · exact List.eq_nil_of_length_eq_zero h0
      · obtain ⟨g, off, e, _⟩ := f h0; cases e
    subst h0
    exact run_convert_bytes_nil w 23 5 Try.underlying23 Try.underlying5 _ _ _ Try.underlying9
  | some a =>
    rcases Nat.eq_zero_or_pos l.length with h0 | h0
    · have h1 : l = [] := List.eq_nil_of_length_eq_zero h0
      subst h1
      obtain ⟨b, off, spot⟩ := a
      cases spot with
      | none => exact run_convert_bytes_arg w 23 5 Try.underlying23 Try.underlying5 b off 0 c [] rfl (fun i hi => absurd hi (by omega)) _ Try.underlying9
      | some s => rw [run_convert_bytes_string w 23 9 5 _ _ _ Try.underlying23 Try.underlying5 Try.underlying9, run_bytesToString w _ _ c [] (by simp [loadCells, loadCellsFrom])]; rfl
    · obtain ⟨g, off, hA, _, hc⟩ := f h0
      cases hA
      exact run_convert_bytes_arg w 23 5 Try.underlying23 Try.underlying5 g off l.length c l rfl (fun i hi => by
        rw [hc i hi]; simp [List.getD, List.getElem?_eq_getElem hi]) _ Try.underlying9

/-! ### Add without coins -/
set_option maxHeartbeats 1000000 in
theorem pack_idle {F : Nat → Prop} {g k n led : Nat} {lv : Value} {vs : List Sv} {L : LL} (toss : Value) (w : World) (hs : Kst F w g k n led lv vs L) (h2 : 2 ≤ k) (hk : k ≤ 1000000) (hL : L.length ≤ 1000) (hl : cnt L ≤ 1000000000) (hf : fullN k L = none) :
    Calls Try.prog 69 #[.pointer (some ⟨g, 0, none⟩), toss] w fun e w' => e = .returned (.tuple #[]) ∧ w = w' := by
  have HFU := Lib.hid (full_any w hs h2 hk hL hl)
  have e1 : fullI k L = -1 := by unfold fullI; rw [hf]
  rw [e1] at HFU
  clear hs hf e1
  go_enter Try.func69, Try.ntmps69
  go_wp2_with fail
  refine (HFU.out).mono ?_
  rintro e w1 ⟨rfl, rfl⟩
  go_wp2_with fail
  go_loopg [4] 0 (fun _ t4 wr => t4 = .int .i64 (-1) ∧ w = wr)
  case atStart => exact ⟨rfl, rfl⟩
  case round =>
    obtain ⟨rfl, rfl⟩ := hrel
    go_wp2_with fail
    go_end0
    exact ⟨rfl, rfl⟩
set_option maxRecDepth 100000 in
set_option maxHeartbeats 8000000 in
theorem add_nil {F : Nat → Prop} {g k n led a c : Nat} {lv : Value} {vs : List Sv} {L : LL} (v : Int) (w : World) (hs : Kst F w g k n led lv vs L) (hok : PkOk (L, led, a))
    (hn : n = wt L) (hc0 : 0 < c) (hc : n + c ≤ 281474976710656) (hcn : cnt L ≤ 900000) (h2 : 2 ≤ k) (hk : k ≤ 1000000) (hfn : fullN k (addL L v c) = none) :
    Calls Try.prog 43 #[.pointer (some ⟨g, 0, none⟩), .int .i64 v, .int .u64 c, .pointer none] w fun e w' => e = .returned (.int .i64 0) ∧ ∃ F' lv' vs', Kst F' w' g k (n + c) led lv' vs' (addL L v c) ∧ (∀ x, F' x → F x ∨ w.heap.size ≤ x) ∧ (∀ x, F x → F' x) ∧ Touch F w w' := by
  have HA0 : Hid (AdAt F w g k (n + c) led v c L 0 F (w.setCell ⟨g, 2, none⟩ (.int .u64 (n + c : Nat))) lv vs L) := Lib.hid ⟨hs.put2 _, by simp [addL], hok.srt, hok.len, Nat.le_refl _, fun _ h => .inl h, fun _ h => h, Touch.setCell (Touch.refl _ _) (.inl hs.fg) _⟩
  have k2 := hs.cell2
  have f2 := hs.blk.frozen 2
  have HFN := Lib.hid hfn
  have HOK := Lib.hid hok
  have HOKA := Lib.hid (pkOk_add hok v c (by omega) hcn)
  clear hs hok hn hfn
  have hc1 : ¬ (c : Int) = 0 := by omega
  have hc2 : ¬ (c : Int) > 281474976710656 - (n : Int) := by omega
  go_enter Try.func43, Try.ntmps43
  go_wp2_with fail
  go_loopg [9] 64 (fun q i wr => ∃ (j : Nat) (F1 : Nat → Prop) (lv1 : Value) (vs1 : List Sv) (L1 : LL), q = 64 - j ∧ j ≤ 49 ∧ i = .int .i64 (j : Int) ∧ Hid (AdAt F w g k (n + c) led v c L j F1 wr lv1 vs1 L1))
  case atStart =>
    have HA1 := HA0.out
    rw [Int.natCast_add] at HA1
    exact ⟨0, F, lv, vs, L, rfl, by omega, rfl, Lib.hid HA1⟩
  case round =>
    obtain ⟨j, F1, lv1, vs1, L1, hq, hj, rfl, HA⟩ := hrel
    have HQ := Lib.hid hq
    clear hq
    obtain ⟨m, hm⟩ : ∃ m, c / 2 ^ j = m := ⟨_, rfl⟩
    have hmc : m ≤ c := by rw [← hm]; exact Nat.div_le_self ..
    have hmi : (c : Int) / 2 ^ j = (m : Int) := by
      rw [← hm, Int.natCast_ediv, Int.natCast_pow]; rfl
    have HM := Lib.hid hm
    have HMI := Lib.hid hmi
    clear hmi
    have hsz := HA.out.touch.size
    by_cases hm0 : m = 0
    · have hm0' : ¬ (m : Int) > 0 := by omega
      have hEQ : L1 = addL L v c := by rw [HA.out.eq, HM.out, hm0, putB_zero]
      subst hEQ
      have HP := Lib.hid (pack_idle (.func (.func 24) #[.pointer none] #[]) wr HA.out.st h2 hk (by have := HOKA.out.len; exact Nat.le_trans this (by decide)) (by have := HOKA.out.cnt; exact Nat.le_trans this (by decide)) HFN.out)
      go_wp2_with (first | (have hmi := HMI.out; rw [hmi]))
      refine (HP.out).mono ?_
      rintro e w2 ⟨rfl, hw⟩
      subst hw
      clear HP
      go_wp2_with fail
      refine bodyPost_ret (by simp [results, Try.results43, go_sem, *]; try rfl) rfl ?_
      exact ⟨rfl, F1, lv1, vs1, HA.out.st, HA.out.sub, HA.out.sup, HA.out.touch⟩
    · have hm0' : (m : Int) > 0 := by omega
      have hj48 : j ≤ 48 := by
        rcases Nat.lt_or_ge j 49 with h1 | h1
        · omega
        · have h3 : 2 ^ 49 ≤ 2 ^ j := Nat.pow_le_pow_right (by decide) h1
          have h4 : c / 2 ^ j = 0 := Nat.div_eq_of_lt (by omega)
          have := HM.out; omega
      have hmd : c / 2 ^ (j + 1) = m / 2 := by rw [Nat.pow_succ, ← Nat.div_div_eq_div_mul, HM.out]
      have HPB : Hid (putB (64 - j) j m L1 v = putB (64 - (j + 1)) (j + 1) (m / 2) (if m % 2 = 1 then putL L1 j [v] else L1) v) := Lib.hid (by
        rw [show 64 - j = (64 - (j + 1)) + 1 by omega, putB, if_neg hm0])
      have HMD := Lib.hid hmd
      have HAN := Lib.hid (and_one m (by omega))
      clear hmd
      have hj49 : j + 1 ≤ 49 := by omega
      by_cases hm1 : m % 2 = 1
      · have hm1' : ((m % 2 : Nat) : Int) = 1 := by omega
        have HPU := Lib.hid (put_any j (.slice (some ⟨wr.heap.size, 0, none⟩) 1 1) [v] (wr.alloc (.cells #[.int .i64 v] 2)) (HA.out.st.keep ((Below.refl _ _).alloc (Nat.le_refl _) _)) (Aside.of_own (OwnE.one (E := i64E) wr v _ rfl _ rfl) fun kk e h1 => by
          have e := Option.some.inj (show some wr.heap.size = some kk from e)
          have := HA.out.st.low kk h1; omega) (HA.out.srt j) (by omega) (by have := HA.out.len; omega) (by have := lvl_le_cnt L1 j; have := HA.out.cnt; omega) (by simp))
        have hmi := HMI.out
        have han : bits .and .u64 (m : Int) 1 = 1 := by rw [HAN.out]; exact hm1'
        go_wp2_with fail
        refine (HPU.out).mono ?_
        rintro e w2 ⟨rfl, F2, lv2, vs2, q1, q2, q3, q4⟩
        have Q1 := Lib.hid q1
        have Q2 := Lib.hid q2
        have Q3 := Lib.hid q3
        have Q4 := Lib.hid q4
        have hasz : (wr.alloc (.cells #[.int .i64 v] 2)).heap.size = wr.heap.size + 1 := by simp
        rw [hasz] at q1
        have Q1 := Lib.hid q1
        clear q1 q2 q3 q4 HPU hasz
        go_wp2_with fail
        go_roundg (64 - (j + 1))
        case measure => have := HQ.out; omega
        case rel =>
          refine ⟨j + 1, F2, lv2, vs2, putL L1 j [v], rfl, by omega, by go_num, Lib.hid ⟨Q3.out, ?_, putL_srt HA.out.srt j [v], ?_, ?_, ?_, ?_, ?_⟩⟩
          · rw [HA.out.eq, HM.out, HMD.out, HPB.out, if_pos hm1]
          · rw [putL_length]; have := HA.out.len; omega
          · rw [cnt_put]; have := HA.out.cnt; simp; omega
          · intro kk hk1
            rcases Q1.out kk hk1 with h1 | h1
            · exact HA.out.sub kk h1
            · exact .inr (by omega)
          · exact fun kk hk1 => Q2.out kk (HA.out.sup kk hk1)
          · exact (HA.out.touch.alloc _).trans Q4.out fun i hi => HA.out.sub i hi
      · have hm1' : ((m % 2 : Nat) : Int) = 0 := by omega
        have hmi := HMI.out
        have han : bits .and .u64 (m : Int) 1 = 0 := by rw [HAN.out]; exact hm1'
        go_wp2_with fail
        go_roundg (64 - (j + 1))
        case measure => have := HQ.out; omega
        case rel =>
          refine ⟨j + 1, F1, lv1, vs1, L1, rfl, by omega, by go_num, Lib.hid ⟨HA.out.st, ?_, HA.out.srt, HA.out.len, ?_, HA.out.sub, HA.out.sup, HA.out.touch⟩⟩
          · rw [HA.out.eq, HM.out, HMD.out, HPB.out, if_neg hm1]
          · have := HA.out.cnt; omega

/-! ### added -/
set_option maxRecDepth 100000 in
set_option maxHeartbeats 8000000 in
theorem added25_any (k : Nat) (v1 v2 v3 : Value) (B l n : List Int) (w : World) (hk : k ≤ 65535) (hB : RdE u8E w v1 B) (hbt : Byt B) (hown : ∀ x, v1.ownBlock = some x → x < w.heap.size) (hl : RdE i64E w v2 l) (hn : RdE u16E w v3 n) (hu : U16s n) :
    Calls Try.prog 51 #[.int .u16 k, v1, v2, v3] w fun e w' => ∃ g h, e = .returned (.tuple #[.pointer (some ⟨g, 0, none⟩), .pointer (some ⟨h, 0, none⟩)]) ∧ ∃ Ow cg r dg cv, AddedAt w w' (8 + k % 40) B (addedS (8 + k % 40) B l n) g h Ow cg r dg cv v1 := by
  obtain ⟨A1, c1, rfl, _, _, _⟩ := hB.form
  have HB := Lib.hid hB
  have HBT := Lib.hid hbt
  have HOW := Lib.hid hown
  have HL := Lib.hid hl
  have HN := Lib.hid hn
  have HU := Lib.hid hu
  obtain ⟨A2, c2, rfl, hl1, hl2, fl⟩ := hl.form
  have FL := Lib.hid fl
  obtain ⟨K, hK⟩ : ∃ K, 8 + k % 40 = K := ⟨_, rfl⟩
  have hK8 : 8 ≤ K := by omega
  have hK2 : K ≤ 47 := by omega
  rw [hK]
  have hKi : (8 : Int) + (k : Int) % 40 = (K : Int) := by omega
  have HOK := Lib.hid (fun i hi => addedN_ok (K := K) (B := B) (l := l) (n := n) hK8 (by omega) i hi)
  clear hB hbt hown hl hn hu fl hK
  go_enter Try.func51, Try.ntmps51
  go_wp2_with fail
  refine (new_any K w hK8 (by omega)).mono ?_
  rintro e w1 ⟨rfl, hw1⟩
  have hks := kAt_new K w
  rw [← hw1] at hks
  have hb1 : Below w.heap.size w w1 := by rw [hw1]; exact (Below.refl _ _).alloc (Nat.le_refl _) _
  have hz1 : w1.heap.size = w.heap.size + 1 := by rw [hw1]; simp
  have he1 : Env w w1 _ := (env_start HB.out).add (c := 0) (F := fun x => x = w.heap.size) hb1 (fun x hx => by omega)
  have KS1 := Lib.hid hks
  have HE1 := Lib.hid he1
  have HB1 := Lib.hid hb1
  clear hw1 hks he1 hb1
  go_upto_region 6 with fail
  have hrs := rAt_new K w1
  have hb2 : Below w1.heap.size w1 (w1.alloc (.cells #[.int .i64 K, .slice none 0 0, .int .u64 0] 53)) := (Below.refl _ _).alloc (Nat.le_refl _) _
  have hz2 : (w1.alloc (.cells #[.int .i64 K, .slice none 0 0, .int .u64 0] 53)).heap.size = w1.heap.size + 1 := by simp
  have he2 : Env w (w1.alloc (.cells #[.int .i64 K, .slice none 0 0, .int .u64 0] 53)) _ := HE1.out.add (c := 1) (F := fun x => x = w1.heap.size) hb2 (fun x hx => by omega)
  have hks2 := KS1.out.keep hb2
  obtain ⟨w2, hw2⟩ : ∃ x, w1.alloc (.cells #[.int .i64 K, .slice none 0 0, .int .u64 0] 53) = x := ⟨_, rfl⟩
  rw [hw2] at hrs hb2 hz2 he2 hks2 ⊢
  have KS2 := Lib.hid hks2
  have RS2 := Lib.hid hrs
  have HE2 := Lib.hid he2
  have HB2 := Lib.hid (HB1.out.trans (hb2.mono (by omega)))
  clear hw2 hrs hb2 he2 hks2 KS1 HE1 HB1
  go_wp2_with fail
  refine (knew_any (.slice A1 B.length c1) B w2 (HB.out.keep HB2.out) HBT.out).mono ?_
  rintro e w3 ⟨cg, r, cv, rfl, hcg, hr, hkc, hcv, hb3⟩
  obtain ⟨Ow4, he4, hco4, hsame⟩ := coins_env HE2.out (dv := (.slice A1 B.length c1)) (fun x e => by
    rw [upd_ne (by decide), upd_ne (by decide)]
    exact ⟨rfl, e, HOW.out x e⟩) HBT.out (HB.out.keep HB2.out) hkc hcg hr hcv hb3
  have ho0 : Ow4 0 = fun x => x = w.heap.size := by rw [hsame 0 (.inl (by omega)), upd_ne (by decide), upd_at]
  have ho1 : Ow4 1 = fun x => x = w1.heap.size := by rw [hsame 1 (.inl (by omega)), upd_at]
  have hb4 : Below w2.heap.size w2 (w3.alloc (.cells #[(.slice A1 B.length c1), .int .i64 0] 44)) := hb3.trans (((Below.refl _ _).alloc (Nat.le_refl _) _).mono hb3.size)
  have KS4 : Hid (KAt (Ow4 0) (w3.alloc (.cells #[(.slice A1 B.length c1), .int .i64 0] 44)) w.heap.size K [] 0) := Lib.hid (by rw [ho0]; exact KS2.out.keep hb4)
  have RS4 : Hid (RAt (Ow4 1) (w3.alloc (.cells #[(.slice A1 B.length c1), .int .i64 0] 44)) w1.heap.size K [] 0) := Lib.hid (by rw [ho1]; exact RS2.out.keep hb4)
  have HA0 : Hid (AddedAt w (w3.alloc (.cells #[(.slice A1 B.length c1), .int .i64 0] 44)) K B (addedN K B l n 0) w.heap.size w1.heap.size Ow4 cg r w3.heap.size cv (.slice A1 B.length c1)) := Lib.hid ⟨he4, hco4, KS4.out, RS4.out, Fit.nil_ K⟩
  clear he4 hco4 hsame ho0 ho1 hb4 KS4 RS4 hkc hcg hr hcv hb3 KS2 RS2 HE2 HB2
  go_upto_region 7 with fail
  obtain ⟨w4, hw4⟩ : ∃ x, w3.alloc (.cells #[(.slice A1 B.length c1), .int .i64 0] 44) = x := ⟨_, rfl⟩
  rw [hw4] at HA0 ⊢
  obtain ⟨dg, hdg⟩ : ∃ dg, w3.heap.size = dg := ⟨_, rfl⟩
  rw [hdg] at HA0 ⊢
  obtain ⟨g, hg⟩ : ∃ g, w.heap.size = g := ⟨_, rfl⟩
  have hh : w1.heap.size = g + 1 := by omega
  rw [hh] at HA0
  rw [hg] at HA0 ⊢
  have HSW := Lib.hid hg
  clear hw4 hdg hz1 hz2 hh hg
  go_wp2_with fail
  go_loopg [16] (min l.length 120) (fun q i wr => ∃ (j : Nat) (Ow : Nat → Nat → Prop), q = min l.length 120 - j ∧ j ≤ min l.length 120 ∧ i = .int .i64 (j : Int) ∧ Hid (AddedAt w wr K B (addedN K B l n j) g (g + 1) Ow cg r dg cv (.slice A1 B.length c1)))
  case atStart => exact ⟨0, Ow4, by omega, by omega, rfl, HA0⟩
  case round =>
    obtain ⟨j, Ow, hq, hj, rfl, HA⟩ := hrel
    have HQ := Lib.hid hq
    have hj2 : j ≤ l.length := by omega
    have hj3 : j ≤ 120 := by omega
    clear hq
    by_cases hjl : j < min l.length 120
    · have hjl2 : j < l.length := by omega
      have hjl3 : (j : Int) < 120 := by omega
      obtain ⟨ga, oa, eA, hga, ka⟩ := FL.out.i64 hjl2
      subst eA
      obtain ⟨f1, f2, f3⟩ := HOK.out j (by omega)
      have hwb := wtI_bd n j
      have HNX : Hid (addedN K B l n (j + 1) = addS K B l[j] (wtI n j) (addedN K B l n j)) := Lib.hid (by rw [addedN, List.getD, List.getElem?_eq_getElem hjl2]; rfl)
      obtain ⟨x, hx⟩ : ∃ x, l[j] = x := ⟨_, rfl⟩
      rw [hx] at ka HNX
      obtain ⟨s, hs⟩ : ∃ s, addedN K B l n j = s := ⟨_, rfl⟩
      rw [hs] at f1 f2 f3 HNX HA
      obtain ⟨L, led, a⟩ := s
      have F1 := Lib.hid f1
      have F3 := Lib.hid f3
      have HWT := Lib.hid (fun W (hb : Below w.heap.size w W) => weight_any v3 n j W (HN.out.keep hb) HU.out (by omega))
      obtain ⟨m, hm⟩ : ∃ m, wtI n j = m := ⟨_, rfl⟩
      rw [hm] at hwb F3 HNX HWT
      have KA := Lib.hid ka
      have HE := Lib.hid HA.out.env
      clear hx hs f1 f2 f3 hm ka
      go_upto_region 10 with fail
      refine wp_region_plan (fun w' => Below w.heap.size w w') [(0, true), (1, true), (2, true), (3, true), (4, true), (5, true), (6, true), (8, true), (7, false), (9, false), (10, true), (11, true), (12, true), (13, true), (14, true), (15, true), (16, true), (17, true), (18, true), (20, true), (19, false), (21, false), (22, true), (23, true)] (by kernel_rfl) (by kernel_rfl) (HE.out.below.drew) ?_
      iterate 8
        refine wpPlan_read (by rfl) (by rfl) (fun R hR => ?_)
        apply Exists.intro
        refine ⟨fun w' hS' => ?_, ?_⟩
        · have k0 := (hS'.cell (p := ⟨ga, oa + j, none⟩) hga).trans KA.out
          go_simp
          exact ⟨rfl, rfl⟩
        go_simp
        refine hR _ ?_
        clear hR R
      refine wpPlan_do (by rfl) (by rfl) (fun K hK => ?_)
      go_simp
      refine (HWT.out _ HE.out.below.drew).mono ?_
      rintro e w5 ⟨rfl, hw5⟩
      subst hw5
      refine hK _ _ (HE.out.below.drew) ?_
      clear hK K
      refine wpPlan_do (by rfl) (by rfl) (fun K hK => ?_)
      go_simp
      refine (kadd_env (c := 0) x m (HE.out.keep (Below.refl _ _).drew) (HA.out.co.keep HE.out (Below.refl _ _).drew) (by omega) (HA.out.ks.keep (Below.refl _ _).drew) F1.out hK8 (by omega) (by omega)).mono ?_
      rintro e w6 ⟨rfl, Ow6, he6, hco6, hk6, ht6⟩
      rw [F3.out]
      have HE6 := Lib.hid he6
      have HC6 := Lib.hid hco6
      have HK6 := Lib.hid hk6
      have HT6 := Lib.hid ht6
      clear he6 hco6 hk6 ht6
      refine hK _ _ (HE6.out.below) ?_
      clear hK K
      iterate 10
        refine wpPlan_read (by rfl) (by rfl) (fun R hR => ?_)
        apply Exists.intro
        refine ⟨fun w' hS' => ?_, ?_⟩
        · have k0 := (hS'.cell (p := ⟨ga, oa + j, none⟩) hga).trans KA.out
          go_simp
          exact ⟨rfl, rfl⟩
        go_simp
        refine hR _ ?_
        clear hR R
      refine wpPlan_do (by rfl) (by rfl) (fun K hK => ?_)
      go_simp
      refine (HWT.out _ HE6.out.below).mono ?_
      rintro e w7 ⟨rfl, hw7⟩
      subst hw7
      refine hK _ _ (HE6.out.below) ?_
      clear hK K
      refine wpPlan_do (by rfl) (by rfl) (fun K hK => ?_)
      go_simp
      refine (radd_env (c := 1) x m HE6.out HC6.out (by omega) ((HA.out.rs.keep (Below.refl _ _).drew).turned HT6.out (by decide) (by decide)) F1.out hK8 (by omega) (by omega)).mono ?_
      rintro e w8 ⟨rfl, Ow8, he8, hco8, hr8, ht8⟩
      rw [F3.out]
      have HE8 := Lib.hid he8
      have HC8 := Lib.hid hco8
      have HR8 := Lib.hid hr8
      have HT8 := Lib.hid ht8
      clear he8 hco8 hr8 ht8
      refine hK _ _ (HE8.out.below) ?_
      clear hK K
      iterate 2
        refine wpPlan_read (by rfl) (by rfl) (fun R hR => ?_)
        apply Exists.intro
        refine ⟨fun w' hS' => ?_, ?_⟩
        · have k0 := (hS'.cell (p := ⟨ga, oa + j, none⟩) hga).trans KA.out
          go_simp
          exact ⟨rfl, rfl⟩
        go_simp
        refine hR _ ?_
        clear hR R
      refine wpPlan_nil ?_
      have HNA : Hid (AddedAt w w8 K B (addedN K B (l := l) n (j + 1)) g (g + 1) Ow8 cg r dg cv (.slice A1 B.length c1)) := Lib.hid (by
        rw [HNX.out]
        exact ⟨HE8.out, HC8.out, HK6.out.turned HT8.out (by decide) (by decide), HR8.out, addS_fit F1.out (by omega) (by omega)⟩)
      go_wp2_with fail
      go_roundg (min l.length 120 - (j + 1))
      case measure => have := HQ.out; omega
      case rel => exact ⟨j + 1, Ow8, rfl, by omega, by go_num, HNA⟩
    · have hje : j = min l.length 120 := by omega
      have HEND : Hid (AddedAt w wr K B (addedS K B l n) g (g + 1) Ow cg r dg cv (.slice A1 B.length c1)) := Lib.hid (by unfold addedS; rw [← hje]; exact HA.out)
      clear hje
      by_cases h120 : j < l.length
      · have h1 : ¬ (j : Int) < 120 := by omega
        go_wp2_with fail
        refine bodyPost_ret (by simp [results, Try.results51, go_sem, *]; try rfl) rfl ?_
        exact ⟨g, g + 1, rfl, Ow, cg, r, dg, cv, HEND.out⟩
      · have h1 : ¬ (j : Int) < (l.length : Int) := by omega
        go_wp2_with fail
        refine bodyPost_ret (by simp [results, Try.results51, go_sem, *]; try rfl) rfl ?_
        exact ⟨g, g + 1, rfl, Ow, cg, r, dg, cv, HEND.out⟩
end
section
open Go.RowKit Go.Lib
theorem RightP.lvl_le {k : Nat} {L : LL} {led : Nat} (h : RightP k L led) (j : Nat) : (lvl L j).length ≤ 4096 := by
  rcases Nat.lt_or_ge j L.length with hj | hj
  · refine Nat.le_trans (h.lev j hj).1 (Nat.le_trans (room_le ?_) ?_)
    · rw [Int.toNat_natCast]; have := h.k8; omega
    · rw [Int.toNat_natCast]; have := h.k4; omega
  · rw [lvl_of_ge hj]; simp
theorem RightP.by_ {k : Nat} {L : LL} {led : Nat} (h : RightP k L led) (hb : ∀ j, I64L (lvl L j)) : byL (wrK k L led) :=
  wrK_by (by omega) (by have := h.k4; omega) (by have := h.hled; omega) (by have := h.hlen; omega) fun l hl => by
    obtain ⟨j, hj, rfl⟩ := List.getElem_of_mem hl
    have h1 := h.lev j hj
    have h2 := hb j
    have h3 := h.lvl_le j
    rw [lvl_at hj] at h1 h2 h3
    exact ⟨h2, h1.2, by omega⟩
theorem RightP.len_ {k : Nat} {L : LL} {led : Nat} (h : RightP k L led) : (wrK k L led).length ≤ 1000000000 := by
  have h1 := wrK_len k L led
  have h2 : cnt L ≤ _ := h.fit.ok.cntL
  have h3 := h.hlen
  omega
/-- Read of a stack's own bytes. -/
theorem kread_own {k : Nat} {L : LL} {led : Nat} (v : Value) (w : World) (h : RdI .u8 w v (wrK k L led)) (hr : RightP k L led) (hb : ∀ j, I64L (lvl L j)) :
    Calls Try.prog 48 #[v] w fun e w' => ∃ (g : Nat) (F : Nat → Prop), e = .returned (.tuple #[.pointer (some ⟨g, 0, none⟩), .int .i64 0]) ∧ KAt F w' g k L led ∧ (∀ x, F x → w.heap.size ≤ x) ∧ Below w.heap.size w w' := by
  refine (kread_any v _ w h (hr.by_ hb) hr.len_).mono ?_
  rintro e w' ⟨hor, hbw⟩
  rcases hor with ⟨g, k', L', led', F, rfl, hk, hka, hF⟩ | ⟨rfl, hno⟩
  · obtain ⟨rfl, rfl, rfl⟩ := hk.uniq ⟨hr, hb, rfl⟩
    exact ⟨g, F, rfl, hka, hF, hbw⟩
  · exact absurd ⟨hr, hb, rfl⟩ (hno k L led)
set_option maxRecDepth 100000 in
set_option maxHeartbeats 4000000 in
theorem ktall_any (v : Value) (bs : List Int) (w : World) (h : RdI .u8 w v bs) (hb : byL bs) (hlen : bs.length ≤ 1000000000) :
    Calls Try.prog 53 #[v] w fun e w' => ((∃ (k : Nat) (L : LL) (led : Nat), e = .returned (.tuple #[.int .i64 (L.length : Nat), .int .i64 (cnt L : Nat), .int .i64 0]) ∧ IsK bs k L led) ∨ (e = .returned (.tuple #[.int .i64 0, .int .i64 0, .int .i64 9]) ∧ ∀ k L led, ¬ IsK bs k L led)) ∧ Below w.heap.size w w' := by
  have HR := Lib.hid (kread_any v bs w h hb hlen)
  clear h hb
  go_enter Try.func53, Try.ntmps53
  go_wp2_with fail
  refine (HR.out).mono ?_
  rintro e w1 ⟨hor, hb1⟩
  have HB1 := Lib.hid hb1
  rcases hor with ⟨g, k, L, led, F, rfl, hk, hka, hF⟩ | ⟨rfl, hno⟩
  · have HK := Lib.hid hk
    have h49 := hk.right.hlen
    have hcn : cnt L ≤ _ := hk.right.fit.ok.cntL
    obtain ⟨lv, vs, hks⟩ := hka
    have HKS := Lib.hid hks
    have HLV := Lib.hid (levels_any w1 hks (by omega) (by omega))
    clear hk hks hF hb1 HR
    go_wp2_with fail
    refine (HLV.out).mono ?_
    rintro e w2 ⟨v2, vs2, rfl, hlo, hb2⟩
    obtain ⟨A, c, ev, _, _⟩ := hlo.llr.form
    subst ev
    have HKT := Lib.hid (kept_any w2 (HKS.out.keep hb2) (by omega) (by omega))
    have HB2 := Lib.hid (HB1.out.trans (hb2.mono HB1.out.size))
    clear hlo hb2 HLV HKS
    go_wp2_with fail
    refine (HKT.out).mono ?_
    rintro e w3 ⟨rfl, hw⟩
    subst hw
    go_wp2_with fail
    refine bodyPost_ret (by simp [results, Try.results53, go_sem, *]; try rfl) rfl ?_
    exact ⟨.inl ⟨k, L, led, rfl, HK.out⟩, HB2.out⟩
  · have HNO := Lib.hid hno
    clear hno hb1 HR
    go_wp2_with fail
    refine bodyPost_ret (by simp [results, Try.results53, go_sem, *]; try rfl) rfl ?_
    exact ⟨.inr ⟨rfl, HNO.out⟩, HB1.out⟩

/-! ### The document's example -/
def eL1 : LL := addL [] 3 1
def eL2 : LL := addL eL1 5 1
def eL3 : LL := addL eL2 (-1) 2
theorem eL_eq : eL1 = [[3]] ∧ eL2 = [[3, 5]] ∧ eL3 = [[3, 5], [-1]] := by decide +kernel
theorem eL_full : fullN 8 eL1 = none ∧ fullN 8 eL2 = none ∧ fullN 8 eL3 = none := by decide +kernel
theorem eL_wr0 : wrK 8 [] 0 = [8, 0, 0] := by decide +kernel
theorem eL_wr3 : wrK 8 eL3 0 = [8, 0, 2, 2, 6, 2, 1, 1] := by decide +kernel
theorem eL_right : RightP 8 eL3 0 := by
  rw [eL_eq.2.2]
  exact ⟨by decide, by decide, by decide, by decide, fun h => absurd h (by decide), fun _ => by decide, fun h hh => by
    have : h = 0 ∨ h = 1 := by have : h < 2 := hh; omega
    rcases this with rfl | rfl <;> exact ⟨by decide +kernel, by decide⟩, by decide⟩
theorem eL_bd : ∀ j, I64L (lvl eL3 j) := by
  rw [eL_eq.2.2]
  refine I64L.lvl fun x hx => ?_
  have : x = 3 ∨ x = 5 ∨ x = -1 := by simpa [allV] using hx
  omega
theorem eL_ok : PkOk ([], 0, 0) ∧ PkOk (eL1, 0, 0) ∧ PkOk (eL2, 0, 0) ∧ PkOk (eL3, 0, 0) := by
  have h0 := (Fit.nil_ 8).ok
  have h1 : PkOk (eL1, 0, 0) := pkOk_add h0 3 1 (by decide) (by decide)
  have h2 : PkOk (eL2, 0, 0) := pkOk_add h1 5 1 (by rw [eL_eq.1]; decide) (by rw [eL_eq.1]; decide)
  have h3 : PkOk (eL3, 0, 0) := pkOk_add h2 (-1) 2 (by rw [eL_eq.2.1]; decide) (by rw [eL_eq.2.1]; decide)
  exact ⟨h0, h1, h2, h3⟩
theorem eL_wt : wt eL1 = 1 ∧ wt eL2 = 2 ∧ wt eL3 = 4 := by decide +kernel
set_option maxRecDepth 100000 in
set_option maxHeartbeats 8000000 in
theorem alive25_any (w : World) : Calls Try.prog 47 #[] w fun e w' => e = .returned (.bool true) ∧ Below w.heap.size w w' := by
  obtain ⟨q0, q1, q2, q3⟩ := eL_ok
  have Q0 := Lib.hid q0
  have Q1 := Lib.hid q1
  have Q2 := Lib.hid q2
  have Q3 := Lib.hid q3
  have EA : Hid (strOfNums (wrK 8 [] 0) = ⟨#[8, 0, 0]⟩) := Lib.hid (by rw [eL_wr0]; rfl)
  have EB : Hid (strOfNums (wrK 8 eL3 0) = ⟨#[8, 0, 2, 2, 6, 2, 1, 1]⟩) := Lib.hid (by rw [eL_wr3]; rfl)
  have WT := Lib.hid eL_wt
  have WT0 : Hid (wt [] = 0) := Lib.hid rfl
  clear q0 q1 q2 q3
  go_enter Try.func47, Try.ntmps47
  go_wp2_with fail
  refine (new_any 8 w (by decide) (by decide)).mono ?_
  rintro e w1 ⟨rfl, hw1⟩
  obtain ⟨lv0, vs0, hk0⟩ := kAt_new 8 w
  rw [← hw1] at hk0
  have hb1 : Below w.heap.size w w1 := by rw [hw1]; exact (Below.refl _ _).alloc (Nat.le_refl _) _
  have K0 := Lib.hid hk0
  have HB1 := Lib.hid hb1
  have hz1 : w1.heap.size = w.heap.size + 1 := by rw [hw1]; simp
  obtain ⟨g, hg⟩ : ∃ g, w.heap.size = g := ⟨_, rfl⟩
  have HG := Lib.hid hg
  rw [hg] at K0 hz1 ⊢
  clear hw1 hk0 hb1 hg
  have X1 := Lib.hid (kwrite_any w1 K0.out Q0.out (fun j => by rw [lvl_of_ge (by simp)]; exact fun x hx => by simp at hx) (by decide))
  go_wp2_with fail
  refine (X1.out).mono ?_
  rintro e w2 ⟨va, rfl, oa, hb2⟩
  have OA := Lib.hid oa
  have K2 := Lib.hid (K0.out.keep hb2)
  have HB2 := Lib.hid (HB1.out.trans (hb2.mono (by have := HG.out; omega)))
  have hz2 := hb2.size
  have hzg : g < w2.heap.size := by omega
  have X2 := Lib.hid (add_nil (c := 1) 3 w2 K2.out Q0.out rfl (by decide) (by decide) (by decide) (by decide) (by decide) eL_full.1)
  clear oa hb2 X1
  go_wp2_with fail
  refine (X2.out).mono ?_
  rintro e w3 ⟨rfl, F3, lv3, vs3, k3, s3, _, t3⟩
  have K3 : Hid (Kst F3 w3 g 8 1 0 lv3 vs3 eL1) := Lib.hid k3
  have T3 := Lib.hid t3
  have S3 := Lib.hid s3
  have X3 := Lib.hid (add_nil (c := 1) 5 w3 K3.out Q1.out WT.out.1.symm (by decide) (by decide) (by rw [eL_eq.1]; decide) (by decide) (by decide) eL_full.2.1)
  clear k3 s3 t3 X2
  go_wp2_with fail
  refine (X3.out).mono ?_
  rintro e w4 ⟨rfl, F4, lv4, vs4, k4, s4, _, t4⟩
  have K4 : Hid (Kst F4 w4 g 8 2 0 lv4 vs4 eL2) := Lib.hid k4
  have T4 := Lib.hid t4
  have S4 := Lib.hid s4
  have X4 := Lib.hid (add_nil (c := 2) (-1) w4 K4.out Q2.out WT.out.2.1.symm (by decide) (by decide) (by rw [eL_eq.2.1]; decide) (by decide) (by decide) eL_full.2.2)
  clear k4 s4 t4 X3
  go_wp2_with fail
  refine (X4.out).mono ?_
  rintro e w5 ⟨rfl, F5, lv5, vs5, k5, s5, _, t5⟩
  have K5 : Hid (Kst F5 w5 g 8 4 0 lv5 vs5 eL3) := Lib.hid k5
  have T25 : Hid (Touch (fun x => x = g) w2 w5) := Lib.hid ((T3.out.trans T4.out (fun i hi => S3.out i hi)).trans t5 (fun i hi => by
    rcases S4.out i hi with h | h
    · exact S3.out i h
    · have := T3.out.size; exact .inr (by omega)))
  have OA5 : Hid (OwnB w1.heap.size w5 va (wrK 8 [] 0)) := Lib.hid (OwnI.stay OA.out fun k e => T25.out.block k (OwnI.lt OA.out k e).2 (fun h => by have := (OwnI.lt OA.out k e).1; have h : k = g := h; omega))
  have HB5 := Lib.hid (HB2.out.trans (T25.out.below (B := w.heap.size) (fun i hi => by have hi : i = g := hi; have := HG.out; omega) HB2.out.size))
  have X5 := Lib.hid (kwrite_any w5 K5.out Q3.out eL_bd (by decide))
  clear k5 s5 t5 X4 T3 T4 S3 S4 T25 OA
  go_wp2_with fail
  refine (X5.out).mono ?_
  rintro e w6 ⟨vb, rfl, ob, hb6⟩
  have OB := Lib.hid (OwnI.rd ob)
  have HB6 := Lib.hid (HB5.out.trans (hb6.mono HB5.out.size))
  have OA6 := Lib.hid (OwnI.rd (OwnI.keep OA5.out hb6))
  have X6 := Lib.hid (kread_own vb w6 OB.out eL_right eL_bd)
  clear ob hb6 X5 OA5
  go_wp2_with fail
  refine (X6.out).mono ?_
  rintro e w7 ⟨g7, F7, rfl, k7, _, hb7⟩
  have HB7 := Lib.hid (HB6.out.trans (hb7.mono HB6.out.size))
  have cA := conv_B (Rd.keep OA6.out hb7)
  have cB := conv_B (Rd.keep OB.out hb7)
  have e8 : ((8 : Nat) : Int) = 8 := rfl
  rw [EA.out] at cA
  rw [e8, EB.out] at cB
  clear e8
  obtain ⟨lv7, vs7, hk7⟩ := k7
  rw [WT.out.2.2] at hk7
  have X7 := Lib.hid (total_any w7 hk7)
  clear hk7 hb7 X6
  go_wp2_with (go_at_call 29; refine (X7.out).mono ?_; rintro e w' ⟨rfl, hw⟩; subst hw)
  refine bodyPost_ret (by simp [results, Try.results47, go_sem, *]; try rfl) rfl ?_
  exact ⟨rfl, HB7.out⟩
end
end Go.Proofs.Ytigmncogjbbmhaa
