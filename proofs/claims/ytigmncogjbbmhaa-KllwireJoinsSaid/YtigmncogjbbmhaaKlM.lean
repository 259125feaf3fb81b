/- Take, of the program and of the reference. Conditions: what a stack keeps. -/
import Derived.Test.YtigmncogjbbmhaaKlL
namespace Go.Proofs.Ytigmncogjbbmhaa
open Go.RowKit

/-- Levels that read, each slice known. -/
structure LLV (w : World) (v : Value) (vs : List Sv) (L : LL) : Prop where
  len : vs.length = L.length
  row : RdE slE w v vs
  each : ∀ i (h : i < vs.length), RdE i64E w (svV vs[i]) (lvl L i)
theorem LLV.at_ {w : World} {A : Option Addr} {n c : Nat} {vs : List Sv} {L : LL} (h : LLV w (.slice A n c) vs L) {j : Nat} (hj : j < L.length) :
    ∃ gl off sA sc, A = some ⟨gl, off, none⟩ ∧ gl < w.heap.size ∧ vs[j]? = some (sA, (lvl L j).length, sc) ∧ w.cell? ⟨gl, off + j, none⟩ = some (.slice sA (lvl L j).length sc) ∧ RdE i64E w (.slice sA (lvl L j).length sc) (lvl L j) := by
  obtain ⟨h1, h2, h3⟩ := h
  obtain ⟨A', c', e, _, _, hf⟩ := h2.form
  injection e with e1 e2 e3
  subst e1
  obtain ⟨gl, off, hA, hg, hc⟩ := hf.sl (j := j) (by omega)
  have hr := h3 j (by omega)
  obtain ⟨s, hs⟩ : ∃ s, vs[j]'(by omega) = s := ⟨_, rfl⟩
  rw [hs] at hr hc
  obtain ⟨sA, sn, sc⟩ := s
  obtain ⟨_, _, es, _, _, _⟩ := hr.form
  injection es with es1 es2 es3
  subst es2
  exact ⟨gl, off, sA, sc, hA, hg, by rw [List.getElem?_eq_getElem (by omega), hs], hc, hr⟩
/-- Levels that read so whatever is done to the stack's blocks. -/
def AsideL (F : Nat → Prop) (w : World) (v : Value) (vs : List Sv) (L : LL) : Prop := ∀ W, (∀ k, k < w.heap.size → ¬ F k → W.heap[k]? = w.heap[k]?) → w.heap.size ≤ W.heap.size → LLV W v vs L
theorem AsideL.now {F : Nat → Prop} {w : World} {v : Value} {vs : List Sv} {L : LL} (h : AsideL F w v vs L) : LLV w v vs L := h w (fun _ _ _ => rfl) (Nat.le_refl _)
theorem AsideL.next {F G : Nat → Prop} {w w' : World} {v : Value} {vs : List Sv} {L : LL} (h : AsideL F w v vs L) (hk : ∀ k, k < w.heap.size → ¬ F k → w'.heap[k]? = w.heap[k]?) (hz : w.heap.size ≤ w'.heap.size) (hG : ∀ k, G k → F k ∨ w.heap.size ≤ k) : AsideL G w' v vs L :=
  fun W h1 h2 => h W (fun k hk1 hk2 => (h1 k (by omega) (fun hg => (hG k hg).elim hk2 (by omega))).trans (hk k hk1 hk2)) (by omega)
theorem AsideL.of_own {F : Nat → Prop} {base : Nat} {w : World} {v : Value} {vs : List Sv} {L : LL} (h : LLO base w v vs L) (hF : ∀ k, F k → k < base) : AsideL F w v vs L := fun W h1 _ => by
  have h2 := h.stay (w' := W) fun k e1 e2 => h1 k e2 (fun hf => by have := hF k hf; omega)
  exact ⟨h2.len, h2.row.rd, fun i hi => (h2.each i hi).rd⟩
theorem AsideL.one {F : Nat → Prop} {w : World} {v : Value} {vs : List Sv} {L : LL} (h : AsideL F w v vs L) {j : Nat} {s : Sv} (hs : vs[j]? = some s) : Aside F w (svV s) (lvl L j) := fun W h1 h2 => by
  obtain ⟨hj, e⟩ := List.getElem?_eq_some_iff.1 hs
  have := (h W h1 h2).each j hj
  rw [e] at this; exact this

/-! ### Plain -/
theorem takeN_srt {L M : LL} (h : ∀ i, Srt (lvl L i)) : ∀ j i, Srt (lvl (takeN M j L) i)
  | 0, i => h i
  | j + 1, i => by rw [takeN]; exact putL_srt (takeN_srt h j) _ _ i
theorem pkOk_take {L M : LL} {led led2 a b : Nat} (h : PkOk (L, led, a)) (hm : PkOk (M, led2, b)) (hw : wt L + wt M ≤ 281474976710656) (hc : cnt L + cnt M ≤ 900000) : PkOk (takeL L M, min (led + led2) 4611686018427387904, a) := by
  refine ⟨takeN_srt h.srt M.length, h.top.take hm.top, ?_, ?_, ?_⟩
  · show wt (takeL L M) ≤ _
    rw [takeL_wt]; exact hw
  · show cnt (takeL L M) ≤ _
    rw [takeL_cnt]; omega
  · show min _ _ ≤ _
    omega
/-- As the reference takes: a level that is empty is passed by. -/
def takeR (M : LL) : Nat → LL → LL
  | 0, L => L
  | j + 1, L => if lvl M j = [] then takeR M j L else putL (takeR M j L) j (lvl M j)
theorem lvl_takeR (M L : LL) : ∀ j i, lvl (takeR M j L) i = if i < j then insL (lvl L i) (lvl M i) else lvl L i
  | 0, i => by simp [takeR]
  | j + 1, i => by
    rw [takeR]
    by_cases h0 : lvl M j = []
    · rw [if_pos h0, lvl_takeR M L j i]
      by_cases e : i = j
      · subst e; rw [if_neg (by omega), if_pos (by omega), h0, insL_nil]
      · by_cases h : i < j
        · rw [if_pos h, if_pos (by omega)]
        · rw [if_neg h, if_neg (by omega)]
    · rw [if_neg h0, lvl_put, lvl_takeR M L j i, lvl_takeR M L j j]
      by_cases e : i = j
      · subst e; rw [if_pos rfl, if_neg (by omega), if_pos (by omega)]
      · rw [if_neg e]
        by_cases h : i < j
        · rw [if_pos h, if_pos (by omega)]
        · rw [if_neg h, if_neg (by omega)]
theorem takeR_length (M L : LL) : ∀ j, L.length ≤ (takeR M j L).length ∧ (takeR M j L).length ≤ max L.length j
  | 0 => by simp [takeR]
  | j + 1 => by
    have := takeR_length M L j
    rw [takeR]
    split
    · omega
    · rw [putL_length]; omega
theorem takeR_all {L M : LL} (hm : Top M) : takeR M M.length L = takeL L M := by
  have hl : (takeR M M.length L).length = max L.length M.length := by
    rcases Nat.eq_zero_or_pos M.length with h0 | h0
    · rw [h0]; simp [takeR]
    · obtain ⟨j, hj⟩ : ∃ j, M.length = j + 1 := ⟨M.length - 1, by omega⟩
      have ht := hm h0
      have h1 := takeR_length M L j
      rw [hj, takeR, if_neg (by rw [hj] at ht; simpa using ht), putL_length]; omega
  refine ll_ext (by rw [hl]; unfold takeL; rw [takeN_length]) fun i _ => ?_
  unfold takeL
  rw [lvl_takeR, lvl_takeN]
theorem takeR_cnt (M L : LL) : ∀ j, j ≤ M.length → cnt (takeR M j L) = cnt L + cnt (M.take j)
  | 0, _ => by simp [takeR, cnt]
  | j + 1, hj => by
    rw [takeR, cnt_take_succ (by omega)]
    have := takeR_cnt M L j (by omega)
    split
    · rename_i h; rw [h]; simp; omega
    · rw [cnt_put]; omega
/-- Level j so far: the first i of its values. -/
def takeI (M L : LL) (j i : Nat) : LL := if i = 0 then takeR M j L else putL (takeR M j L) j ((lvl M j).take i)
theorem takeI_succ {M L : LL} {j i : Nat} (hi : i < (lvl M j).length) : putL (takeI M L j i) j [(lvl M j)[i]] = takeI M L j (i + 1) := by
  unfold takeI
  rw [if_neg (show ¬ i + 1 = 0 by omega), List.take_succ_eq_append_getElem hi]
  by_cases h0 : i = 0
  · subst h0; rw [if_pos rfl]; simp
  · rw [if_neg h0, putL_putL]
theorem takeI_all (M L : LL) (j : Nat) : takeI M L j (lvl M j).length = takeR M (j + 1) L := by
  unfold takeI
  rw [takeR, List.take_length]
  by_cases h : lvl M j = []
  · rw [if_pos (by rw [h]; rfl), if_pos h]
  · rw [if_neg (by rw [List.length_eq_zero_iff]; exact h), if_neg h]
theorem takeI_len (M L : LL) (j i : Nat) : (takeI M L j i).length ≤ max L.length (j + 1) := by
  have := takeR_length M L j
  unfold takeI
  split
  · omega
  · rw [putL_length]; omega
theorem takeI_cnt {M L : LL} {j i : Nat} (hj : j ≤ M.length) : cnt (takeI M L j i) ≤ cnt L + cnt M + i := by
  have h1 := takeR_cnt M L j hj
  have h2 := cnt_take_le M j
  unfold takeI
  split
  · omega
  · rw [cnt_put, List.length_take]; omega

/-! ### The program's -/
structure TkAt (F : Nat → Prop) (w : World) (g k n led : Nat) (L M : LL) (lw : Value) (ws : List Sv) (j : Nat) (F1 : Nat → Prop) (wr : World) (lv : Value) (vs : List Sv) : Prop where
  st : Kst F1 wr g k n led lv vs (takeN M j L)
  al : AsideL F1 wr lw ws M
  sub : ∀ k, F1 k → F k ∨ w.heap.size ≤ k
  sup : ∀ k, F k → F1 k
  touch : Touch F w wr
set_option maxRecDepth 100000 in
set_option maxHeartbeats 8000000 in
theorem take_yes {F G : Nat → Prop} {g h k n m led led2 cg r a b : Nat} {cv lv lv2 : Value} {vs vs2 : List Sv} {B : List Int} {L M : LL} (w : World) (hs : Kst F w g k n led lv vs L) (ht : Kst G w h k m led2 lv2 vs2 M) (hco : KC w cg r cv B a) (hf : CoFar F w cg r cv)
    (hok : PkOk (L, led, a)) (hom : PkOk (M, led2, b)) (hn : n = wt L) (hm : m = wt M) (hnm : n + m ≤ 281474976710656) (hcn : cnt L + cnt M ≤ 900000) (h2 : 2 ≤ k) (hk : k ≤ 1000000) :
    Calls Try.prog 39 #[.pointer (some ⟨g, 0, none⟩), .pointer (some ⟨h, 0, none⟩), .pointer (some ⟨cg, 0, none⟩)] w fun e w' => e = .returned (.int .i64 0) ∧ ∃ F' lv' vs', PkAt F w g k (n + m) cg r cv B (takeL L M, min (led + led2) 4611686018427387904, a) F' w' lv' vs' (packA k B (takeL L M, min (led + led2) 4611686018427387904, a)) ∧ fullN k (packA k B (takeL L M, min (led + led2) 4611686018427387904, a)).1 = none := by
  have HOKA := Lib.hid (pkOk_take hok hom (by omega) hcn)
  have HT := Lib.hid ht
  have HS := Lib.hid hs
  have HCO := Lib.hid hco
  have HF := Lib.hid hf
  have HSR := Lib.hid hok.srt
  have hledb : led ≤ 4611686018427387904 := hok.led
  have hled2 : led2 ≤ 4611686018427387904 := hom.led
  have hlenL : L.length ≤ 49 := hok.len
  have hlenM : M.length ≤ 49 := hom.len
  have c0 := hs.cell0
  have C2 := Lib.hid hs.cell2
  have c2 := hs.cell2
  have C3 := Lib.hid hs.cell3
  have d0 := ht.cell0
  have d2 := ht.cell2
  have D2 := Lib.hid ht.cell2
  have D3 := Lib.hid ht.cell3
  have hgw := hs.blk.lt
  have hhw := ht.blk.lt
  have hov : ¬ (m : Int) > 281474976710656 - (n : Int) := by omega
  have hcM : cnt M ≤ 1000000000 := by omega
  clear hs ht hco hf hok hom hn hm
  go_enter Try.func39, Try.ntmps39
  go_wp2_with fail
  go_quiet (fail)
  go_wp2_with fail
  go_quiet (fail)
  go_upto_region 7 with fail
  clear c0 c2 d0 d2
  refine wp_region_plan (fun w' => Below w.heap.size w w') [(0, true), (2, true), (3, true), (4, true), (5, true), (6, true), (7, true), (8, true), (9, true), (1, false), (10, true), (11, true), (12, true)] (by kernel_rfl) (by kernel_rfl) (by (repeat' (first | (with_reducible exact Below.refl _ _) | (with_reducible refine Below.alloc ?_ ?_ _) | (with_reducible refine Below.drew ?_) | (with_reducible refine below_drewN ?_ _) | (with_reducible refine Below.setCell ?_ ?_ _) | (with_reducible refine below_of (by assumption) ?_ ?_) | go_size))) ?_
  iterate 9
    refine wpPlan_read (by rfl) (by rfl) (fun R hR => ?_)
    apply Exists.intro
    refine ⟨fun w' hS' => ?_, ?_⟩
    · have d2 := (hS'.cell (p := ⟨h, 2, none⟩) hhw).trans D2.out
      have d3 := (hS'.cell (p := ⟨h, 3, none⟩) hhw).trans D3.out
      go_simp
      exact ⟨rfl, rfl⟩
    go_simp
    refine hR _ ?_
    clear hR R
  refine wpPlan_do (by rfl) (by rfl) (fun K hK => ?_)
  go_simp
  refine (levels_any _ (HT.out.keep (by (repeat' (first | (with_reducible exact Below.refl _ _) | (with_reducible refine Below.alloc ?_ ?_ _) | (with_reducible refine Below.drew ?_) | (with_reducible refine below_drewN ?_ _) | (with_reducible refine Below.setCell ?_ ?_ _) | (with_reducible refine below_of (by assumption) ?_ ?_) | go_size)))) (by omega) hcM).mono ?_
  rintro e w1 ⟨lw, ws, rfl, hlo, hb1⟩
  have HLO := Lib.hid hlo
  have HB1 : Below w.heap.size w w1 := Below.trans (by (repeat' (first | (with_reducible exact Below.refl _ _) | (with_reducible refine Below.alloc ?_ ?_ _) | (with_reducible refine Below.drew ?_) | (with_reducible refine below_drewN ?_ _) | (with_reducible refine Below.setCell ?_ ?_ _) | (with_reducible refine below_of (by assumption) ?_ ?_) | go_size))) hb1
  clear hlo hb1
  refine hK _ _ (HB1) ?_
  clear hK K
  iterate 3
    refine wpPlan_read (by rfl) (by rfl) (fun R hR => ?_)
    apply Exists.intro
    refine ⟨fun w' hS' => ?_, ?_⟩
    · have d2 := (hS'.cell (p := ⟨h, 2, none⟩) hhw).trans D2.out
      have d3 := (hS'.cell (p := ⟨h, 3, none⟩) hhw).trans D3.out
      go_simp
      exact ⟨rfl, rfl⟩
    go_simp
    refine hR _ ?_
    clear hR R
  refine wpPlan_nil ?_
  have HL1 : Hid (LLO w.heap.size w1 lw ws M) := Lib.hid (by have h1 := HLO.out; simpa only [size_drewN] using h1)
  have HS1 := Lib.hid (HS.out.keep HB1)
  have k2 := HS1.out.cell2
  have f2 := HS1.out.blk.frozen 2
  go_upto_region 9 with fail
  have hst2 := HS1.out.put2 (.int .u64 (n + m : Nat))
  rw [Int.natCast_add] at hst2
  have HS2 := Lib.hid hst2
  have HT2 : Hid (Touch F w (w1.setCell ⟨g, 2, none⟩ (.int .u64 ((n : Int) + (m : Int))))) := Lib.hid ((Touch.of_below HB1 (Nat.le_refl _)).setCell (.inl HS1.out.fg) _)
  have HA1 : Hid (AsideL F w1 lw ws M) := Lib.hid (AsideL.of_own HL1.out fun kk e => HS.out.low kk e)
  have HA2 : Hid (AsideL F (w1.setCell ⟨g, 2, none⟩ (.int .u64 ((n : Int) + (m : Int)))) lw ws M) := Lib.hid (HA1.out.next (fun kk _ h1 => Below.heap_setCell w1 ⟨g, 2, none⟩ _ kk (fun e => h1 (by rw [e]; exact HS1.out.fg))) (by simp) (fun kk e => .inl e))
  obtain ⟨w2, hw2⟩ : ∃ x, w1.setCell ⟨g, 2, none⟩ (.int .u64 ((n : Int) + (m : Int))) = x := ⟨_, rfl⟩
  rw [hw2] at HS2 HT2 HA2 ⊢
  clear hw2 hst2 k2 f2 HS1 HL1 HLO HA1 HB1
  have k3 : w2.cell? ⟨g, 3, none⟩ = some (.int .u64 led) := HS2.out.cell3
  have f3 := HS2.out.blk.frozen 3
  go_upto_region 10 with fail
  have hst3 : Kst F (w2.setCell ⟨g, 3, none⟩ (.int .u64 (min (led + led2) 4611686018427387904 : Nat))) g k (n + m) (min (led + led2) 4611686018427387904) lv vs L := by
    have := HS2.out.put3 (.int .u64 (min (led + led2) 4611686018427387904 : Nat))
    rw [← Int.natCast_add] at this
    exact this
  have HMI : Hid (min ((led : Int) + (led2 : Int)) 4611686018427387904 = ((min (led + led2) 4611686018427387904 : Nat) : Int)) := Lib.hid (by omega)
  rw [HMI.out]
  have HT3 : Hid (Touch F w (w2.setCell ⟨g, 3, none⟩ (.int .u64 (min (led + led2) 4611686018427387904 : Nat)))) := Lib.hid (HT2.out.setCell (.inl HS2.out.fg) _)
  have HA3 : Hid (AsideL F (w2.setCell ⟨g, 3, none⟩ (.int .u64 (min (led + led2) 4611686018427387904 : Nat))) lw ws M) := Lib.hid (HA2.out.next (fun kk _ h1 => Below.heap_setCell w2 ⟨g, 3, none⟩ _ kk (fun e => h1 (by rw [e]; exact HS2.out.fg))) (by simp) (fun kk e => .inl e))
  have HS3 := Lib.hid hst3
  obtain ⟨w3, hw3⟩ : ∃ x, w2.setCell ⟨g, 3, none⟩ (.int .u64 (min (led + led2) 4611686018427387904 : Nat)) = x := ⟨_, rfl⟩
  rw [hw3] at HS3 HT3 HA3 ⊢
  clear hw3 hst3 k3 f3 HS2 HT2 HA2 HMI
  have hz3 := HT3.out.size
  obtain ⟨A0, c0, elw, _, _, _⟩ := HA3.out.now.row.form
  rw [HA3.out.now.len] at elw
  subst elw
  obtain ⟨ld, hld⟩ : ∃ ld, min (led + led2) 4611686018427387904 = ld := ⟨_, rfl⟩
  rw [hld] at HS3 HOKA ⊢
  have HLDE := Lib.hid hld
  clear hld hov
  go_wp2_with fail
  go_loopg [10, 11, 66] M.length (fun q _ _ i wr => ∃ (j : Nat) (F1 : Nat → Prop) (lv1 : Value) (vs1 : List Sv), q = M.length - j ∧ j ≤ M.length ∧ i = .int .i64 (j : Int) ∧ Hid (TkAt F w g k (n + m) ld L M (.slice A0 M.length c0) ws j F1 wr lv1 vs1))
  case atStart => exact ⟨0, F, lv, vs, by omega, by omega, rfl, Lib.hid ⟨HS3.out, HA3.out, fun _ h => .inl h, fun _ h => h, HT3.out⟩⟩
  case round =>
    obtain ⟨j, F1, lv1, vs1, hq, hj, rfl, HA⟩ := hrel
    have HQ := Lib.hid hq
    clear hq
    have hsz := HA.out.touch.size
    by_cases hjl : j < M.length
    · obtain ⟨gl, off, sA, sc, eA, hgl, hvs, c2, _⟩ := HA.out.al.now.at_ hjl
      subst eA
      have hlenN : (takeN M j L).length ≤ 49 := by rw [takeN_length]; omega
      have hlj : (lvl M j).length ≤ 900000 := by have := lvl_le_cnt M j; omega
      have hlN : (lvl (takeN M j L) j).length ≤ 900000 := by have := lvl_le_cnt (takeN M j L) j; have h1 := takeN_cnt M L j (by omega); have h2 := cnt_take_le M j; omega
      have HPU := Lib.hid (put_any j (svV (sA, (lvl M j).length, sc)) (lvl M j) wr HA.out.st (HA.out.al.one hvs) (takeN_srt HSR.out j j) (by omega) (by omega) (by omega) (by omega))
      obtain ⟨x, hx⟩ : ∃ x, (lvl M j).length = x := ⟨_, rfl⟩
      rw [hx] at c2 HPU
      clear hvs hx
      go_wp2_with fail
      refine (HPU.out).mono ?_
      rintro e w5 ⟨rfl, F2, lv2', vs2', q1, q2, q3, q4⟩
      have Q1 := Lib.hid q1
      have Q2 := Lib.hid q2
      have Q3 := Lib.hid q3
      have Q4 := Lib.hid q4
      clear q1 q2 q3 q4 HPU c2
      go_wp2_with fail
      go_roundg (M.length - (j + 1))
      case measure => have := HQ.out; omega
      case rel =>
        refine ⟨j + 1, F2, lv2', vs2', rfl, by omega, by go_num, Lib.hid ⟨Q3.out, ?_, ?_, ?_, ?_⟩⟩
        · exact HA.out.al.next (fun kk h1 h2 => Q4.out.block kk h1 h2) Q4.out.size Q1.out
        · intro kk hk1
          rcases Q1.out kk hk1 with h1 | h1
          · exact HA.out.sub kk h1
          · exact .inr (by omega)
        · exact fun kk hk1 => Q2.out kk (HA.out.sup kk hk1)
        · exact HA.out.touch.trans Q4.out fun i hi => HA.out.sub i hi
    · obtain rfl : j = M.length := by omega
      have HP := Lib.hid (pack_any (s0 := (takeL L M, ld, a)) wr HA.out.st (HCO.out.touch HF.out HA.out.touch) (HF.out.next HA.out.sub hsz) HOKA.out h2 hk)
      go_wp2_with fail
      refine (HP.out).mono ?_
      rintro e w2 ⟨rfl, F2, lv2, vs2, q1, q2⟩
      have Q1 := Lib.hid q1
      have Q2 := Lib.hid q2
      clear q1 q2 HP
      go_wp2_with fail
      refine bodyPost_ret (by simp [results, Try.results39, go_sem, *]; try rfl) rfl ?_
      rw [HLDE.out]
      exact ⟨rfl, F2, lv2, vs2, Q1.out.back HA.out.sub HA.out.sup HA.out.touch, Q2.out⟩
set_option maxHeartbeats 1000000 in
theorem take_nil (g : Nat) (q : Value) (w : World) :
    Calls Try.prog 39 #[.pointer (some ⟨g, 0, none⟩), .pointer none, q] w fun e w' => e = .returned (.int .i64 1) ∧ w = w' := by
  go_enter Try.func39, Try.ntmps39
  go_wp2_with fail
  refine bodyPost_ret (by simp [results, Try.results39, go_sem, *]; try rfl) rfl ?_
  exact ⟨rfl, rfl⟩
set_option maxHeartbeats 1000000 in
theorem take_kind {F G : Nat → Prop} {g h k k2 n m led led2 : Nat} {lv lv2 : Value} {vs vs2 : List Sv} {L M : LL} (q : Value) (w : World) (hs : Kst F w g k n led lv vs L) (ht : Kst G w h k2 m led2 lv2 vs2 M) (hk : k2 ≠ k) :
    Calls Try.prog 39 #[.pointer (some ⟨g, 0, none⟩), .pointer (some ⟨h, 0, none⟩), q] w fun e w' => e = .returned (.int .i64 3) ∧ ∃ n, w' = w.drewN n := by
  have c0 := hs.cell0
  have d0 := ht.cell0
  have hk' : ¬ (k2 : Int) = (k : Int) := by omega
  clear hs ht hk
  go_enter Try.func39, Try.ntmps39
  go_wp2_with fail
  go_quiet (fail)
  go_wp2_with fail
  refine bodyPost_ret (by simp [results, Try.results39, go_sem, *]; try rfl) rfl ?_
  exact ⟨rfl, by first | exact ⟨_, rfl⟩ | exact ⟨_, drewN_add _ _ _⟩⟩
set_option maxHeartbeats 1000000 in
theorem take_over {F G : Nat → Prop} {g h k n m led led2 : Nat} {lv lv2 : Value} {vs vs2 : List Sv} {L M : LL} (q : Value) (w : World) (hs : Kst F w g k n led lv vs L) (ht : Kst G w h k m led2 lv2 vs2 M) (hn : n ≤ 281474976710656) (_hm : m ≤ 281474976710656) (hnm : 281474976710656 < n + m) :
    Calls Try.prog 39 #[.pointer (some ⟨g, 0, none⟩), .pointer (some ⟨h, 0, none⟩), q] w fun e w' => e = .returned (.int .i64 6) ∧ ∃ n, w' = w.drewN n := by
  have c0 := hs.cell0
  have d0 := ht.cell0
  have c2 := hs.cell2
  have d2 := ht.cell2
  have hov : (m : Int) > 281474976710656 - (n : Int) := by omega
  clear hs ht
  go_enter Try.func39, Try.ntmps39
  go_wp2_with fail
  go_quiet (fail)
  go_wp2_with fail
  go_quiet (fail)
  go_wp2_with fail
  refine bodyPost_ret (by simp [results, Try.results39, go_sem, *]; try rfl) rfl ?_
  exact ⟨rfl, by first | exact ⟨_, rfl⟩ | exact ⟨_, drewN_add _ _ _⟩⟩
end Go.Proofs.Ytigmncogjbbmhaa
