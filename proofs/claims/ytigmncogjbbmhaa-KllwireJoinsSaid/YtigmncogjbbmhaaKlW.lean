/- Who owns which blocks; what adding and taking do, of the program and of the reference, in all cases. Conditions: sizes from 8 to 4096; what a stack keeps. -/
import Derived.Test.YtigmncogjbbmhaaKlV
namespace Go.Proofs.Ytigmncogjbbmhaa
open Go.RowKit

/-! ### Stacks that fit -/
structure Fit (k : Nat) (L : LL) (led : Nat) : Prop where
  ok : PkOk (L, led, 0)
  none : fullN k L = none
theorem PkOk.coin {L : LL} {led a b : Nat} (h : PkOk (L, led, a)) : PkOk (L, led, b) := ⟨h.srt, h.top, h.wt, h.cnt, h.led⟩
theorem Fit.pk {k led a : Nat} {L : LL} (h : Fit k L led) : PkOk (L, led, a) := h.ok.coin
theorem cnt_rooms : ∀ (L : LL) (k : Nat), (∀ j, j < L.length → (lvl L j).length ≤ k) → cnt L ≤ L.length * k
  | [], k, _ => by simp [cnt]
  | l :: L, k, h => by
    have h0 := h 0 (by simp)
    have ih := cnt_rooms L k fun j hj => by
      have := h (j + 1) (by simpa using hj)
      simpa [lvl] using this
    rw [cnt_cons, List.length_cons, Nat.add_mul]
    simp only [lvl, List.getD_cons_zero] at h0
    omega
theorem Fit.cnt {k led : Nat} {L : LL} (h : Fit k L led) (h2 : 2 ≤ k) (hk : k ≤ 4096) : Go.Proofs.Ytigmncogjbbmhaa.cnt L ≤ 200704 := by
  have h1 := cnt_rooms L k fun j hj => Nat.le_trans (fullN_none h.none j hj) (room_le h2)
  have h3 : L.length * k ≤ 49 * 4096 := Nat.mul_le_mul h.ok.lenL hk
  omega
theorem Fit.nil_ (k : Nat) : Fit k [] 0 := ⟨⟨fun j => by simp [lvl], fun h => absurd h (by simp), by decide, by decide, by decide⟩, rfl⟩
def addE (L : LL) (n : Nat) : Int := if n = 0 then 4 else if 281474976710656 < wt L + n then 6 else 0
def addS (k : Nat) (B : List Int) (v : Int) (n : Nat) (s : KS) : KS := if addE s.1 n = 0 then packA k B (addL s.1 v n, s.2.1, s.2.2) else s
def takeE (L M : LL) : Int := if 281474976710656 < wt L + wt M then 6 else 0
def takeS (k : Nat) (B : List Int) (t : LL × Nat) (s : KS) : KS := if takeE s.1 t.1 = 0 then packA k B (takeL s.1 t.1, min (s.2.1 + t.2) 4611686018427387904, s.2.2) else s
theorem packA_fit {k : Nat} {B : List Int} {s : KS} (h : PkOk s) : Fit k (packA k B s).1 (packA k B s).2.1 := by
  have h1 := packA_keep (k := k) (B := B) (P := PkOk) (fun s j h1 h2 => h1.step h2) h
  exact ⟨PkOk.coin (a := (packA k B s).2.2) h1, packA_done k B s⟩
theorem packA_wt {k : Nat} {B : List Int} (s : KS) : wt (packA k B s).1 = wt s.1 := by
  refine packA_keep (k := k) (B := B) (P := fun t => wt t.1 = wt s.1) (fun t h h1 h2 => ?_) rfl
  show wt (packS t.1 h (coinAt B t.2.2)) = _
  rw [packS_wt (fullN_some h2).1]; exact h1
theorem addE_zero {L : LL} {n : Nat} (h : addE L n = 0) : 0 < n ∧ wt L + n ≤ 281474976710656 := by
  unfold addE at h
  by_cases h1 : n = 0
  · rw [if_pos h1] at h; cases h
  · rw [if_neg h1] at h
    by_cases h2 : 281474976710656 < wt L + n
    · rw [if_pos h2] at h; cases h
    · omega
theorem addS_fit {k n : Nat} {B : List Int} {v : Int} {s : KS} (h : Fit k s.1 s.2.1) (h2 : 2 ≤ k) (hk : k ≤ 4096) : Fit k (addS k B v n s).1 (addS k B v n s).2.1 := by
  unfold addS
  split
  · rename_i h0
    exact packA_fit (pkOk_add h.pk v n (addE_zero h0).2 (by have := h.cnt h2 hk; omega))
  · exact h
theorem addS_wt {k n : Nat} {B : List Int} {v : Int} {s : KS} : wt (addS k B v n s).1 = if addE s.1 n = 0 then wt s.1 + n else wt s.1 := by
  unfold addS
  split
  · rename_i h0
    rw [packA_wt]
    exact addL_wt _ _ (by have := addE_zero h0; omega)
  · rfl
theorem takeE_zero {L M : LL} (h : takeE L M = 0) : wt L + wt M ≤ 281474976710656 := by
  unfold takeE at h
  by_cases h2 : 281474976710656 < wt L + wt M
  · rw [if_pos h2] at h; cases h
  · omega
theorem takeS_fit {k : Nat} {B : List Int} {t : LL × Nat} {s : KS} (h : Fit k s.1 s.2.1) (ht : Fit k t.1 t.2) (h2 : 2 ≤ k) (hk : k ≤ 4096) : Fit k (takeS k B t s).1 (takeS k B t s).2.1 := by
  unfold takeS
  split
  · rename_i h0
    exact packA_fit (pkOk_take h.pk (ht.pk (a := 0)) (takeE_zero h0) (by have := h.cnt h2 hk; have := ht.cnt h2 hk; omega))
  · exact h
theorem takeS_wt {k : Nat} {B : List Int} {t : LL × Nat} {s : KS} : wt (takeS k B t s).1 = if takeE s.1 t.1 = 0 then wt s.1 + wt t.1 else wt s.1 := by
  unfold takeS
  split
  · rw [packA_wt]; exact takeL_wt _ _
  · rfl

/-! ### Who owns which blocks -/
/-- Everything lies in blocks that were made since W, but what belongs to 9. -/
structure Env (W w : World) (Ow : Nat → Nat → Prop) : Prop where
  below : Below W.heap.size W w
  uniq : ∀ c d x, Ow c x → Ow d x → c = d
  lt : ∀ c x, Ow c x → x < w.heap.size
  new : ∀ c x, c ≠ 9 → Ow c x → W.heap.size ≤ x
def upd (Ow : Nat → Nat → Prop) (c : Nat) (F : Nat → Prop) : Nat → Nat → Prop := fun d x => (d = c ∧ F x) ∨ (d ≠ c ∧ Ow d x)
theorem upd_at {Ow : Nat → Nat → Prop} {c : Nat} {F : Nat → Prop} : upd Ow c F c = F := by
  funext x
  unfold upd
  simp
theorem upd_ne {Ow : Nat → Nat → Prop} {c d : Nat} {F : Nat → Prop} (h : d ≠ c) : upd Ow c F d = Ow d := by
  funext x
  unfold upd
  simp [h]
section
variable {W w w' : World} {Ow : Nat → Nat → Prop} {c e : Nat} {F : Nat → Prop}
theorem Env.keep (h : Env W w Ow) (hb : Below w.heap.size w w') : Env W w' Ow :=
  ⟨h.below.trans (hb.mono h.below.size), h.uniq, fun c x hx => Nat.lt_of_lt_of_le (h.lt c x hx) hb.size, h.new⟩
theorem Env.kept (h : Env W w Ow) (ht : Touch (fun x => Ow c x ∨ Ow e x) w w') : ∀ d x, d ≠ c → d ≠ e → Ow d x → w'.heap[x]? = w.heap[x]? := fun d x h1 h2 hx =>
  ht.block x (h.lt d x hx) fun h3 => by
    rcases h3 with h3 | h3
    · exact h1 (h.uniq d c x hx h3)
    · exact h2 (h.uniq d e x hx h3)
theorem Env.step (h : Env W w Ow) (hc : c ≠ 9) (he : e ≠ 9) (ht : Touch (fun x => Ow c x ∨ Ow e x) w w') (hF : ∀ x, F x → Ow c x ∨ w.heap.size ≤ x) (hl : ∀ x, F x → x < w'.heap.size) : Env W w' (upd Ow c F) := by
  have hz := h.below.size
  refine ⟨h.below.trans (ht.below (fun i hi => ?_) hz), fun a b x ha hb => ?_, fun a x ha => ?_, fun a x h9 ha => ?_⟩
  · rcases hi with hi | hi
    · exact h.new c i hc hi
    · exact h.new e i he hi
  · rcases ha with ⟨rfl, ha⟩ | ⟨ha1, ha⟩
    · rcases hb with ⟨rfl, hb⟩ | ⟨hb1, hb⟩
      · rfl
      · rcases hF x ha with h1 | h1
        · exact h.uniq _ _ x h1 hb
        · have := h.lt b x hb; omega
    · rcases hb with ⟨rfl, hb⟩ | ⟨hb1, hb⟩
      · rcases hF x hb with h1 | h1
        · exact h.uniq _ _ x ha h1
        · have := h.lt a x ha; omega
      · exact h.uniq a b x ha hb
  · rcases ha with ⟨rfl, ha⟩ | ⟨ha1, ha⟩
    · exact hl x ha
    · exact Nat.lt_of_lt_of_le (h.lt a x ha) ht.size
  · rcases ha with ⟨rfl, ha⟩ | ⟨ha1, ha⟩
    · rcases hF x ha with h1 | h1
      · exact h.new a x h9 h1
      · omega
    · exact h.new a x h9 ha
/-- A new owner of new blocks. -/
theorem Env.add (h : Env W w Ow) (hb : Below w.heap.size w w') (hF : ∀ x, F x → w.heap.size ≤ x ∧ x < w'.heap.size) : Env W w' (upd Ow c F) := by
  have hz := h.below.size
  refine ⟨(h.keep hb).below, fun a b x ha hb => ?_, fun a x ha => ?_, fun a x h9 ha => ?_⟩
  · rcases ha with ⟨rfl, ha⟩ | ⟨ha1, ha⟩
    · rcases hb with ⟨rfl, hb⟩ | ⟨hb1, hb⟩
      · rfl
      · have := hF x ha; have := h.lt b x hb; omega
    · rcases hb with ⟨rfl, hb⟩ | ⟨hb1, hb⟩
      · have := hF x hb; have := h.lt a x ha; omega
      · exact h.uniq a b x ha hb
  · rcases ha with ⟨rfl, ha⟩ | ⟨ha1, ha⟩
    · exact (hF x ha).2
    · exact Nat.lt_of_lt_of_le (h.lt a x ha) hb.size
  · rcases ha with ⟨rfl, ha⟩ | ⟨ha1, ha⟩
    · have := hF x ha; omega
    · exact h.new a x h9 ha
end
/-- Of owner c alone something may be otherwise. -/
structure Turned (c : Nat) (Ow Ow' : Nat → Nat → Prop) (w w' : World) : Prop where
  same : ∀ d, d ≠ c → Ow' d = Ow d
  kept : ∀ d x, d ≠ c → d ≤ 4 → Ow d x → w'.heap[x]? = w.heap[x]?
  size : w.heap.size ≤ w'.heap.size

/-! ### Stacks and coins -/
def KAt (F : Nat → Prop) (w : World) (g k : Nat) (L : LL) (led : Nat) : Prop := ∃ lv vs, Kst F w g k (wt L) led lv vs L
def RAt (F : Nat → Prop) (w : World) (g k : Nat) (L : LL) (led : Nat) : Prop := ∃ lv vs, Rst F w g k led lv vs L
theorem KAt.stay {F : Nat → Prop} {w w' : World} {g k led : Nat} {L : LL} (h : KAt F w g k L led) (hk : ∀ x, F x → w'.heap[x]? = w.heap[x]?) (hz : w.heap.size ≤ w'.heap.size) : KAt F w' g k L led := by
  obtain ⟨lv, vs, h⟩ := h
  exact ⟨lv, vs, h.stay hk hz⟩
theorem RAt.stay {F : Nat → Prop} {w w' : World} {g k led : Nat} {L : LL} (h : RAt F w g k L led) (hk : ∀ x, F x → w'.heap[x]? = w.heap[x]?) (hz : w.heap.size ≤ w'.heap.size) : RAt F w' g k L led := by
  obtain ⟨lv, vs, h⟩ := h
  exact ⟨lv, vs, h.stay hk hz⟩
theorem KAt.keep {F : Nat → Prop} {w w' : World} {g k led : Nat} {L : LL} (h : KAt F w g k L led) (hb : Below w.heap.size w w') : KAt F w' g k L led := by
  obtain ⟨lv, vs, h⟩ := h
  exact ⟨lv, vs, h.keep hb⟩
theorem RAt.keep {F : Nat → Prop} {w w' : World} {g k led : Nat} {L : LL} (h : RAt F w g k L led) (hb : Below w.heap.size w w') : RAt F w' g k L led := by
  obtain ⟨lv, vs, h⟩ := h
  exact ⟨lv, vs, h.keep hb⟩
theorem KAt.turned {c d : Nat} {Ow Ow' : Nat → Nat → Prop} {w w' : World} {g k led : Nat} {L : LL} (h : KAt (Ow d) w g k L led) (ht : Turned c Ow Ow' w w') (hd : d ≠ c) (h4 : d ≤ 4) : KAt (Ow' d) w' g k L led := by
  rw [ht.same d hd]
  exact h.stay (fun x hx => ht.kept d x hd h4 hx) ht.size
theorem RAt.turned {c d : Nat} {Ow Ow' : Nat → Nat → Prop} {w w' : World} {g k led : Nat} {L : LL} (h : RAt (Ow d) w g k L led) (ht : Turned c Ow Ow' w w') (hd : d ≠ c) (h4 : d ≤ 4) : RAt (Ow' d) w' g k L led := by
  rw [ht.same d hd]
  exact h.stay (fun x hx => ht.kept d x hd h4 hx) ht.size
/-- The coins of both: the program's have been read up to a, the reference's up to b. -/
structure Co (w : World) (Ow : Nat → Nat → Prop) (cg r : Nat) (cv : Value) (dg : Nat) (dv : Value) (B : List Int) (a b : Nat) : Prop where
  kc : KC w cg r cv B a
  rc : RC w dg dv B b
  o7 : Ow 7 cg
  o5 : Ow 5 r
  u5 : ∀ x, Ow 5 x → x = r
  o8 : ∀ x, cv.ownBlock = some x → Ow 8 x
  o6 : Ow 6 dg
  u6 : ∀ x, Ow 6 x → x = dg
  o9 : ∀ x, dv.ownBlock = some x → Ow 9 x
section
variable {W w w' : World} {Ow Ow' : Nat → Nat → Prop} {c cg r dg a b : Nat} {cv dv : Value} {B : List Int}
theorem Co.far (h : Co w Ow cg r cv dg dv B a b) (he : Env W w Ow) (hc : c ≤ 4) : CoFar (Ow c) w cg r cv :=
  ⟨fun e => by have := he.uniq _ _ _ e h.o7; omega, fun e => by have := he.uniq _ _ _ e h.o5; omega, fun k e => ⟨fun e2 => by have := he.uniq _ _ _ e2 (h.o8 k e); omega, he.lt _ _ (h.o8 k e)⟩, he.lt _ _ h.o7, he.lt _ _ h.o5⟩
theorem Co.rfar (h : Co w Ow cg r cv dg dv B a b) (he : Env W w Ow) (hc : c ≤ 4) : RoFar (Ow c) w dg dv :=
  ⟨fun e => by have := he.uniq _ _ _ e h.o6; omega, fun k e => ⟨fun e2 => by have := he.uniq _ _ _ e2 (h.o9 k e); omega, he.lt _ _ (h.o9 k e)⟩, he.lt _ _ h.o6⟩
theorem Co.keep (h : Co w Ow cg r cv dg dv B a b) (he : Env W w Ow) (hb : Below w.heap.size w w') : Co w' Ow cg r cv dg dv B a b :=
  ⟨h.kc.stay (hb.block _ (he.lt _ _ h.o7)) (hb.block _ (he.lt _ _ h.o5)) (fun k e => hb.block _ (he.lt _ _ (h.o8 k e))) hb.size, h.rc.stay (hb.block _ (he.lt _ _ h.o6)) (fun k e => hb.block _ (he.lt _ _ (h.o9 k e))) hb.size, h.o7, h.o5, h.u5, h.o8, h.o6, h.u6, h.o9⟩
theorem Co.upd {F : Nat → Prop} (h : Co w Ow cg r cv dg dv B a b) (hc : c ≤ 4) : Co w (upd Ow c F) cg r cv dg dv B a b :=
  ⟨h.kc, h.rc, by rw [upd_ne (by omega)]; exact h.o7, by rw [upd_ne (by omega)]; exact h.o5, by rw [upd_ne (by omega)]; exact h.u5, by rw [upd_ne (by omega)]; exact h.o8, by rw [upd_ne (by omega)]; exact h.o6, by rw [upd_ne (by omega)]; exact h.u6, by rw [upd_ne (by omega)]; exact h.o9⟩
end

/-! ### Add and Take, in all cases -/
section
variable {W w : World} {Ow : Nat → Nat → Prop} {c d cg r dg a b g h k led led2 : Nat} {cv dv : Value} {B : List Int} {L M : LL}
theorem kpack_env {s0 : KS} {F' : Nat → Prop} {lv : Value} {vs : List Sv} {w' : World} {n : Nat} (he : Env W w Ow) (hco : Co w Ow cg r cv dg dv B a b) (hc : c ≤ 4) (hp : PkAt (Ow c) w g k n cg r cv B s0 F' w' lv vs (packA k B s0)) (hn : n = wt s0.1) :
    ∃ Ow', Env W w' Ow' ∧ Co w' Ow' cg r cv dg dv B (packA k B s0).2.2 b ∧ KAt (Ow' c) w' g k (packA k B s0).1 (packA k B s0).2.1 ∧ Turned c Ow Ow' w w' := by
  have ht : Touch (fun x => Ow c x ∨ Ow 5 x) w w' := hp.touch.mono fun x hx => hx.imp id fun e => by rw [show x = r from e]; exact hco.o5
  have hk := he.kept ht
  refine ⟨upd Ow c F', he.step (by omega) (by omega) ht hp.sub hp.st.low, ?_, ?_, ⟨fun d hd => upd_ne hd, fun d x h1 h4 hx => hk d x h1 (by omega) hx, hp.touch.size⟩⟩
  · refine Co.upd (w := w') ⟨hp.co, hco.rc.stay (hk 6 _ (by omega) (by omega) hco.o6) (fun x e => hk 9 x (by omega) (by omega) (hco.o9 x e)) hp.touch.size, hco.o7, hco.o5, hco.u5, hco.o8, hco.o6, hco.u6, hco.o9⟩ hc
  · rw [upd_at]
    refine ⟨lv, vs, ?_⟩
    rw [packA_wt, ← hn]
    exact hp.st
theorem rpack_env {s0 : KS} {F' : Nat → Prop} {lv : Value} {vs : List Sv} {w' : World} (he : Env W w Ow) (hco : Co w Ow cg r cv dg dv B a b) (hc : c ≤ 4) (hp : RkAt (Ow c) w g k dg dv B s0 F' w' lv vs (packA k B s0)) :
    ∃ Ow', Env W w' Ow' ∧ Co w' Ow' cg r cv dg dv B a (packA k B s0).2.2 ∧ RAt (Ow' c) w' g k (packA k B s0).1 (packA k B s0).2.1 ∧ Turned c Ow Ow' w w' := by
  have ht : Touch (fun x => Ow c x ∨ Ow 6 x) w w' := hp.touch.mono fun x hx => hx.imp id fun e => by rw [show x = dg from e]; exact hco.o6
  have hk := he.kept ht
  refine ⟨upd Ow c F', he.step (by omega) (by omega) ht hp.sub hp.st.low, ?_, ?_, ⟨fun d hd => upd_ne hd, fun d x h1 h4 hx => hk d x h1 (by omega) hx, hp.touch.size⟩⟩
  · refine Co.upd (w := w') ⟨hco.kc.stay (hk 7 _ (by omega) (by omega) hco.o7) (hk 5 _ (by omega) (by omega) hco.o5) (fun x e => hk 8 x (by omega) (by omega) (hco.o8 x e)) hp.touch.size, hp.co, hco.o7, hco.o5, hco.u5, hco.o8, hco.o6, hco.u6, hco.o9⟩ hc
  · rw [upd_at]
    exact ⟨lv, vs, hp.st⟩
theorem turned_refl (w : World) (q : Nat) : Turned c Ow Ow w (w.drewN q) := ⟨fun _ _ => rfl, fun _ _ _ _ _ => rfl, Nat.le_refl _⟩
theorem kadd_env (v : Int) (n : Nat) (he : Env W w Ow) (hco : Co w Ow cg r cv dg dv B a b) (hc : c ≤ 4) (hs : KAt (Ow c) w g k L led) (hf : Fit k L led) (h8 : 8 ≤ k) (hk : k ≤ 4096) (hn : n < 18446744073709551616) :
    Calls Try.prog 43 #[.pointer (some ⟨g, 0, none⟩), .int .i64 v, .int .u64 n, .pointer (some ⟨cg, 0, none⟩)] w fun e w' => e = .returned (.int .i64 (addE L n)) ∧ ∃ Ow', Env W w' Ow' ∧ Co w' Ow' cg r cv dg dv B (addS k B v n (L, led, a)).2.2 b ∧ KAt (Ow' c) w' g k (addS k B v n (L, led, a)).1 (addS k B v n (L, led, a)).2.1 ∧ Turned c Ow Ow' w w' := by
  obtain ⟨lv, vs, hs⟩ := hs
  have hcnt := hf.cnt (by omega) hk
  have hw := hf.ok.wtL
  unfold addS
  by_cases h0 : n = 0
  · subst h0
    have e : addE L 0 = 4 := rfl
    rw [e, if_neg (by decide)]
    refine (add_zero g v _ w).mono ?_
    rintro _ w' ⟨rfl, rfl⟩
    exact ⟨rfl, Ow, he, hco, ⟨lv, vs, hs⟩, turned_refl w 0⟩
  · by_cases h6 : 281474976710656 < wt L + n
    · have e : addE L n = 6 := by unfold addE; rw [if_neg h0, if_pos h6]
      rw [e, if_neg (by decide)]
      refine (add_over v n _ w hs hw h6 hn).mono ?_
      rintro _ w' ⟨rfl, rfl⟩
      exact ⟨rfl, Ow, he, hco, ⟨lv, vs, hs⟩, turned_refl w 0⟩
    · have e : addE L n = 0 := by unfold addE; rw [if_neg h0, if_neg h6]
      rw [e, if_pos rfl]
      refine (add_yes v w hs hco.kc (hco.far he hc) hf.pk rfl (by omega) (by omega) (by omega) (by omega) (by omega)).mono ?_
      rintro _ w' ⟨rfl, F', lv', vs', hp, _⟩
      exact ⟨rfl, kpack_env he hco hc hp (addL_wt _ _ (by omega)).symm⟩
theorem radd_env (v : Int) (n : Nat) (he : Env W w Ow) (hco : Co w Ow cg r cv dg dv B a b) (hc : c ≤ 4) (hs : RAt (Ow c) w g k L led) (hf : Fit k L led) (h8 : 8 ≤ k) (hk : k ≤ 4096) (hn : n < 18446744073709551616) :
    Calls Try.prog 44 #[.pointer (some ⟨g, 0, none⟩), .int .i64 v, .int .u64 n, .pointer (some ⟨dg, 0, none⟩)] w fun e w' => e = .returned (.int .i64 (addE L n)) ∧ ∃ Ow', Env W w' Ow' ∧ Co w' Ow' cg r cv dg dv B a (addS k B v n (L, led, b)).2.2 ∧ RAt (Ow' c) w' g k (addS k B v n (L, led, b)).1 (addS k B v n (L, led, b)).2.1 ∧ Turned c Ow Ow' w w' := by
  obtain ⟨lv, vs, hs⟩ := hs
  have hcnt := hf.cnt (by omega) hk
  have hw := hf.ok.wtL
  unfold addS
  by_cases h0 : n = 0
  · subst h0
    have e : addE L 0 = 4 := rfl
    rw [e, if_neg (by decide)]
    refine (radd_zero g v _ w).mono ?_
    rintro _ w' ⟨rfl, rfl⟩
    exact ⟨rfl, Ow, he, hco, ⟨lv, vs, hs⟩, turned_refl w 0⟩
  · by_cases h6 : 281474976710656 < wt L + n
    · have e : addE L n = 6 := by unfold addE; rw [if_neg h0, if_pos h6]
      rw [e, if_neg (by decide)]
      refine (radd_over v n _ w hs hw hf.ok.lenL h6 hn).mono ?_
      rintro _ w' ⟨rfl, rfl⟩
      exact ⟨rfl, Ow, he, hco, ⟨lv, vs, hs⟩, turned_refl w 0⟩
    · have e : addE L n = 0 := by unfold addE; rw [if_neg h0, if_neg h6]
      rw [e, if_pos rfl]
      refine (radd_yes v w hs hco.rc (hco.rfar he hc) hf.pk (by omega) (by omega) (by omega) (by omega) (by omega)).mono ?_
      rintro _ w' ⟨rfl, F', lv', vs', hp⟩
      exact ⟨rfl, rpack_env he hco hc hp⟩
theorem ktake_env (he : Env W w Ow) (hco : Co w Ow cg r cv dg dv B a b) (hc : c ≤ 4) (hs : KAt (Ow c) w g k L led) (hf : Fit k L led) (ht : KAt (Ow d) w h k M led2) (hf2 : Fit k M led2) (h8 : 8 ≤ k) (hk : k ≤ 4096) :
    Calls Try.prog 39 #[.pointer (some ⟨g, 0, none⟩), .pointer (some ⟨h, 0, none⟩), .pointer (some ⟨cg, 0, none⟩)] w fun e w' => e = .returned (.int .i64 (takeE L M)) ∧ ∃ Ow', Env W w' Ow' ∧ Co w' Ow' cg r cv dg dv B (takeS k B (M, led2) (L, led, a)).2.2 b ∧ KAt (Ow' c) w' g k (takeS k B (M, led2) (L, led, a)).1 (takeS k B (M, led2) (L, led, a)).2.1 ∧ Turned c Ow Ow' w w' := by
  obtain ⟨lv, vs, hs⟩ := hs
  obtain ⟨lv2, vs2, ht⟩ := ht
  have hcnt := hf.cnt (by omega) hk
  have hcnt2 := hf2.cnt (by omega) hk
  unfold takeS
  by_cases h6 : 281474976710656 < wt L + wt M
  · have e : takeE L M = 6 := by unfold takeE; rw [if_pos h6]
    rw [e, if_neg (by decide)]
    refine (take_over _ w hs ht hf.ok.wtL hf2.ok.wtL h6).mono ?_
    rintro _ w' ⟨rfl, q, rfl⟩
    have hb : Below w.heap.size w (w.drewN q) := below_drewN (Below.refl _ _) _
    exact ⟨rfl, Ow, he.keep hb, hco.keep he hb, ⟨lv, vs, hs.keep hb⟩, turned_refl w q⟩
  · have e : takeE L M = 0 := by unfold takeE; rw [if_neg h6]
    rw [e, if_pos rfl]
    refine (take_yes w hs ht hco.kc (hco.far he hc) hf.pk (hf2.pk (a := 0)) rfl rfl (by omega) (by omega) (by omega) (by omega)).mono ?_
    rintro _ w' ⟨rfl, F', lv', vs', hp, _⟩
    exact ⟨rfl, kpack_env he hco hc hp (takeL_wt _ _).symm⟩
theorem rtake_env (he : Env W w Ow) (hco : Co w Ow cg r cv dg dv B a b) (hc : c ≤ 4) (hs : RAt (Ow c) w g k L led) (hf : Fit k L led) (ht : RAt (Ow d) w h k M led2) (hf2 : Fit k M led2) (h8 : 8 ≤ k) (hk : k ≤ 4096) :
    Calls Try.prog 56 #[.pointer (some ⟨g, 0, none⟩), .pointer (some ⟨h, 0, none⟩), .pointer (some ⟨dg, 0, none⟩)] w fun e w' => e = .returned (.int .i64 (takeE L M)) ∧ ∃ Ow', Env W w' Ow' ∧ Co w' Ow' cg r cv dg dv B a (takeS k B (M, led2) (L, led, b)).2.2 ∧ RAt (Ow' c) w' g k (takeS k B (M, led2) (L, led, b)).1 (takeS k B (M, led2) (L, led, b)).2.1 ∧ Turned c Ow Ow' w w' := by
  obtain ⟨lv, vs, hs⟩ := hs
  obtain ⟨lv2, vs2, ht⟩ := ht
  have hcnt := hf.cnt (by omega) hk
  have hcnt2 := hf2.cnt (by omega) hk
  unfold takeS
  by_cases h6 : 281474976710656 < wt L + wt M
  · have e : takeE L M = 6 := by unfold takeE; rw [if_pos h6]
    rw [e, if_neg (by decide)]
    refine (rtake_over _ w hs ht (hf.pk (a := 0)) (hf2.pk (a := 0)) h6).mono ?_
    rintro _ w' ⟨rfl, q, rfl⟩
    have hb : Below w.heap.size w (w.drewN q) := below_drewN (Below.refl _ _) _
    exact ⟨rfl, Ow, he.keep hb, hco.keep he hb, ⟨lv, vs, hs.keep hb⟩, turned_refl w q⟩
  · have e : takeE L M = 0 := by unfold takeE; rw [if_neg h6]
    rw [e, if_pos rfl]
    refine (rtake_yes w hs ht hco.rc (hco.rfar he hc) hf.pk (hf2.pk (a := 0)) (by omega) (by omega) (by omega) (by omega)).mono ?_
    rintro _ w' ⟨rfl, F', lv', vs', hp⟩
    exact ⟨rfl, rpack_env he hco hc hp⟩
end
end Go.Proofs.Ytigmncogjbbmhaa
