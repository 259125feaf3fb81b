/- New, Weight, size, added, Same of law 24. Conditions: few coins; sizes from 8 to 4096. -/
import Derived.Test.YtigmncogjbbmhaaKlW
namespace Go.Proofs.Ytigmncogjbbmhaa
open Go.RowKit

set_option maxHeartbeats 1000000 in
theorem new_any (k : Nat) (w : World) (h8 : 8 ≤ k) (hk : k ≤ 4096) :
    Calls Try.prog 27 #[.int .i64 k] w fun e w' => e = .returned (.tuple #[.pointer (some ⟨w.heap.size, 0, none⟩), .int .i64 0]) ∧ w' = w.alloc (.cells #[.int .i64 k, .slice none 0 0, .int .u64 0, .int .u64 0] 96) := by
  have h1 : ¬ (k : Int) < 8 := by omega
  have h2 : ¬ (k : Int) > 4096 := by omega
  go_enter Try.func27, Try.ntmps27
  go_wp2_with fail
  go_ret2
  exact ⟨rfl, rfl⟩
set_option maxHeartbeats 1000000 in
theorem new_no (k : Int) (w : World) (h : k < 8 ∨ 4096 < k) :
    Calls Try.prog 27 #[.int .i64 k] w fun e w' => e = .returned (.tuple #[.pointer none, .int .i64 1]) ∧ w = w' := by
  by_cases h1 : k < 8
  · go_enter Try.func27, Try.ntmps27
    go_wp2_with fail
    go_ret2
    exact ⟨rfl, rfl⟩
  · have h2 : k > 4096 := by omega
    clear h
    go_enter Try.func27, Try.ntmps27
    go_wp2_with fail
    go_ret2
    exact ⟨rfl, rfl⟩
theorem stG_new {t : TypeId} {a : Value} {rest : List Value} {w : World} {g : Nat} (h : Blk w g t (a :: .slice none 0 0 :: rest).toArray) : StG t a rest (fun x => x = g) w g (.slice none 0 0) [] [] :=
  ⟨h, ⟨OwnE.nil_ _ _, rfl, fun i hi => absurd hi (by simp), fun i hi => absurd hi (by simp), fun i j hi => absurd hi (by simp), fun k e => by simp [Value.ownBlock] at e, fun i hi => absurd hi (by simp)⟩, rfl, by simp [Value.ownBlock], fun i hi => absurd hi (by simp), fun k hk => by rw [show k = g from hk]; exact h.lt⟩
theorem kAt_new (k : Nat) (w : World) : KAt (fun x => x = w.heap.size) (w.alloc (.cells #[.int .i64 k, .slice none 0 0, .int .u64 0, .int .u64 0] 96)) w.heap.size k [] 0 := ⟨_, _, stG_new (Blk.new w _ _)⟩
theorem rAt_new (k : Nat) (w : World) : RAt (fun x => x = w.heap.size) (w.alloc (.cells #[.int .i64 k, .slice none 0 0, .int .u64 0] 53)) w.heap.size k [] 0 := ⟨_, _, stG_new (Blk.new w _ _)⟩
set_option maxHeartbeats 1000000 in
theorem lsize_any (k : Nat) (w : World) (hk : k ≤ 65535) :
    Calls Try.prog 36 #[.int .u16 k] w fun e w' => e = .returned (.int .i64 (8 + k % 40 : Nat)) ∧ w = w' := by
  go_enter Try.func36, Try.ntmps36
  go_wp2_with fail
  refine bodyPost_ret (by simp [results, Try.results36, go_sem, *]; try rfl) rfl ?_
  exact ⟨by rw [show ((8 + k % 40 : Nat) : Int) = 8 + (k : Int) % 40 by omega], rfl⟩
/-- Weight number i of a list. -/
def wtI (n : List Int) (i : Nat) : Nat := if i < n.length then 1 + ((n.getD i 0) % 1000).toNat else 1
theorem wtI_bd (n : List Int) (i : Nat) : 1 ≤ wtI n i ∧ wtI n i ≤ 1000 := by
  unfold wtI
  have h1 := Int.emod_nonneg (n.getD i 0) (show (1000 : Int) ≠ 0 by decide)
  have h2 := Int.emod_lt_of_pos (n.getD i 0) (show (0 : Int) < 1000 by decide)
  split <;> omega
/-- A slice of short numbers. -/
def u16E : Lie Int where
  k := 1
  t := 22
  enc x := [.int .u16 x]
  len _ := rfl
  one x u hu := by
    simp only [List.mem_cons, List.not_mem_nil, or_false] at hu
    subst hu; rfl
theorem EForm.u16 {w : World} {A : Option Addr} {l : List Int} (h : EForm u16E w A l) {j : Nat} (hj : j < l.length) :
    ∃ g off, A = some ⟨g, off, none⟩ ∧ g < w.heap.size ∧ w.cell? ⟨g, off + j, none⟩ = some (.int .u16 l[j]) := by
  obtain ⟨g, off, hA, hg, hc⟩ := h (by omega)
  refine ⟨g, off, hA, hg, ?_⟩
  have := hc j hj 0 (by decide)
  rw [show off + j * u16E.k + 0 = off + j by show off + j * 1 + 0 = _; omega] at this
  exact this
def U16s (n : List Int) : Prop := ∀ x ∈ n, 0 ≤ x ∧ x ≤ 65535
set_option maxHeartbeats 1000000 in
theorem weight_any (v : Value) (n : List Int) (i : Nat) (w : World) (h : RdE u16E w v n) (hb : U16s n) (_hi : i ≤ 1000000) :
    Calls Try.prog 22 #[v, .int .i64 i] w fun e w' => e = .returned (.int .u64 (wtI n i : Nat)) ∧ w = w' := by
  obtain ⟨A, c, rfl, h1, h2, hf⟩ := h.form
  have HF := Lib.hid hf
  clear h hf
  by_cases hlt : i < n.length
  · obtain ⟨g, off, eA, hg, k1⟩ := HF.out.u16 hlt
    subst eA
    have hx := hb _ (List.getElem_mem hlt)
    have HW : Hid (((wtI n i : Nat) : Int) = 1 + n[i] % 1000) := Lib.hid (by
      unfold wtI
      rw [if_pos hlt, List.getD, List.getElem?_eq_getElem hlt, Option.getD_some]
      have := Int.emod_nonneg n[i] (show (1000 : Int) ≠ 0 by decide)
      omega)
    obtain ⟨x, hxe⟩ : ∃ x, n[i] = x := ⟨_, rfl⟩
    rw [hxe] at k1 hx HW
    have hge : ¬ (i : Int) ≥ (n.length : Int) := by omega
    clear hxe hb
    rw [HW.out]
    go_enter Try.func22, Try.ntmps22
    go_wp2_with fail
    refine bodyPost_ret (by simp [results, Try.results22, go_sem, *]; try rfl) rfl ?_
    exact ⟨rfl, rfl⟩
  · have HW : Hid (((wtI n i : Nat) : Int) = 1) := Lib.hid (by unfold wtI; rw [if_neg hlt]; rfl)
    have hge : (i : Int) ≥ (n.length : Int) := by omega
    clear hb
    rw [HW.out]
    go_enter Try.func22, Try.ntmps22
    go_wp2_with fail
    refine bodyPost_ret (by simp [results, Try.results22, go_sem, *]; try rfl) rfl ?_
    exact ⟨rfl, rfl⟩

/-! ### added -/
def addedN (K : Nat) (B l n : List Int) : Nat → KS
  | 0 => ([], 0, 0)
  | i + 1 => addS K B (l.getD i 0) (wtI n i) (addedN K B l n i)
def addedS (K : Nat) (B l n : List Int) : KS := addedN K B l n (min l.length 120)
theorem addedN_ok {K : Nat} {B l n : List Int} (h8 : 8 ≤ K) (hk : K ≤ 4096) : ∀ i, i ≤ 120 → Fit K (addedN K B l n i).1 (addedN K B l n i).2.1 ∧ wt (addedN K B l n i).1 ≤ 1000 * i ∧ addE (addedN K B l n i).1 (wtI n i) = 0
  | 0, _ => by
    have h := wtI_bd n 0
    refine ⟨Fit.nil_ K, Nat.le_refl 0, ?_⟩
    unfold addE
    show (if _ then _ else if 281474976710656 < wt [] + wtI n 0 then _ else _) = _
    rw [if_neg (by omega), if_neg (by have : wt [] = 0 := rfl; omega)]
  | i + 1, hi => by
    obtain ⟨h1, h2, h3⟩ := addedN_ok (B := B) (l := l) (n := n) h8 hk i (by omega)
    have hw : wt (addedN K B l n (i + 1)).1 ≤ 1000 * (i + 1) := by
      rw [addedN, addS_wt, if_pos h3]
      have := wtI_bd n i
      omega
    refine ⟨addS_fit h1 (by omega) hk, hw, ?_⟩
    have h := wtI_bd n (i + 1)
    unfold addE
    rw [if_neg (by omega), if_neg (by omega)]
theorem env_start {w : World} {dv : Value} {B : List Int} (_h : RdE u8E w dv B) : Env w w (fun c x => c = 9 ∧ dv.ownBlock = some x ∧ x < w.heap.size) :=
  ⟨Below.refl _ _, fun c d x h1 h2 => by omega, fun c x h => h.2.2, fun c x h1 h2 => absurd h2.1 h1⟩
/-- A slice that came in lies in a block that is there. -/
theorem own_lt_ok {P : Program} {w : World} {r : Reach} {b : Nat} {t e : TypeId} {v : Value} (ht : P.underlying t = some (.slice e)) (h : Value.okWide P w r b t v) : ∀ x, v.ownBlock = some x → x < w.heap.size := fun x hx => by
  obtain ⟨a, len, cap, rfl⟩ := WideShapes.okWide_slice ht h
  cases a with
  | none => cases hx
  | some a =>
    simp only [Value.okWide, ht, Cell.okWide, Cell.ok] at h
    obtain ⟨_, _, _, _, row, cells, hs, _⟩ := h
    have hx := Option.some.inj (show some a.block = some x from hx)
    subst hx
    unfold World.shape? at hs
    rcases Nat.lt_or_ge a.block w.heap.size with h1 | h1
    · exact h1
    · rw [Array.getElem?_eq_none h1] at hs; cases hs
theorem addS_coin_le {k n : Nat} {B : List Int} {v : Int} {s : KS} (h : s.2.2 ≤ 8 * B.length) : (addS k B v n s).2.2 ≤ 8 * B.length := by
  unfold addS
  split
  · exact packA_keep (k := k) (B := B) (P := fun t => t.2.2 ≤ 8 * B.length) (fun t j h1 _ => coinNx_le h1) h
  · exact h
/-- The outcome of added: two stacks, alike, and their coins. -/
structure AddedAt (W w : World) (K : Nat) (B : List Int) (s : KS) (g h : Nat) (Ow : Nat → Nat → Prop) (cg r dg : Nat) (cv dv : Value) : Prop where
  env : Env W w Ow
  co : Co w Ow cg r cv dg dv B s.2.2 s.2.2
  ks : KAt (Ow 0) w g K s.1 s.2.1
  rs : RAt (Ow 1) w h K s.1 s.2.1
  fit : Fit K s.1 s.2.1
/-- New coins of both. -/
theorem coins_env {W w w3 : World} {Ow : Nat → Nat → Prop} {cg r : Nat} {cv dv : Value} {B : List Int} (h : Env W w Ow) (hdv : ∀ x, dv.ownBlock = some x → Ow 9 x) (hbt : Byt B) (hrd : RdE u8E w dv B) (hkc : KC w3 cg r cv B 0) (hcg : w.heap.size ≤ cg) (hr : w.heap.size ≤ r)
    (hcv : ∀ k, cv.ownBlock = some k → w.heap.size ≤ k ∧ k < w3.heap.size) (hb3 : Below w.heap.size w w3) :
    ∃ Ow', Env W (w3.alloc (.cells #[dv, .int .i64 0] 44)) Ow' ∧ Co (w3.alloc (.cells #[dv, .int .i64 0] 44)) Ow' cg r cv w3.heap.size dv B 0 0 ∧ ∀ c, (c ≤ 4 ∨ c = 9) → Ow' c = Ow c := by
  have hrl := hkc.rd.blk.lt
  have hcl := hkc.blk.lt
  have hcr := hkc.ne
  have hcvg := hkc.nv
  have hcvr := hkc.rd.ne
  have hz3 := hb3.size
  have hzW := h.below.size
  have hz4 : (w3.alloc (.cells #[dv, .int .i64 0] 44)).heap.size = w3.heap.size + 1 := by simp
  have hb4 : Below w3.heap.size w3 (w3.alloc (.cells #[dv, .int .i64 0] 44)) := (Below.refl _ _).alloc (Nat.le_refl _) _
  have hb : Below w.heap.size w (w3.alloc (.cells #[dv, .int .i64 0] 44)) := hb3.trans (hb4.mono hz3)
  refine ⟨fun c x => ((c ≤ 4 ∨ c = 9) ∧ Ow c x) ∨ (c = 5 ∧ x = r) ∨ (c = 7 ∧ x = cg) ∨ (c = 8 ∧ cv.ownBlock = some x) ∨ (c = 6 ∧ x = w3.heap.size), ⟨(h.keep hb).below, fun c d x h1 h2 => ?_, fun c x h1 => ?_, fun c x h9 h1 => ?_⟩, ⟨hkc.stay (hb4.block _ hcl) (hb4.block _ hrl) (fun k e => hb4.block _ (hcv k e).2) hb4.size, ⟨Blk.new w3 _ _, hrd.keep hb, fun e => ?_, Nat.zero_le _, hbt⟩, ?_, ?_, ?_, ?_, ?_, ?_, ?_⟩, ?_⟩
  · rcases h1 with ⟨e1, h1⟩ | ⟨e1, h1⟩ | ⟨e1, h1⟩ | ⟨e1, h1⟩ | ⟨e1, h1⟩ <;> rcases h2 with ⟨e2, h2⟩ | ⟨e2, h2⟩ | ⟨e2, h2⟩ | ⟨e2, h2⟩ | ⟨e2, h2⟩ <;>
    first
      | omega
      | exact h.uniq c d x h1 h2
      | (exfalso; have := h.lt _ _ h1; have := hcv x h2; omega)
      | (exfalso; have := h.lt _ _ h2; have := hcv x h1; omega)
      | (exfalso; have := h.lt _ _ h1; omega)
      | (exfalso; have := h.lt _ _ h2; omega)
      | (exfalso; have := hcv x h2; omega)
      | (exfalso; have := hcv x h1; omega)
      | (exfalso; rw [h2] at h1; exact hcvg h1)
      | (exfalso; rw [h1] at h2; exact hcvg h2)
      | (exfalso; rw [h2] at h1; exact hcvr h1)
      | (exfalso; rw [h1] at h2; exact hcvr h2)
  · rcases h1 with ⟨e1, h1⟩ | ⟨e1, h1⟩ | ⟨e1, h1⟩ | ⟨e1, h1⟩ | ⟨e1, h1⟩ <;>
    first
      | omega
      | (have := h.lt _ _ h1; omega)
      | (have := hcv x h1; omega)
  · rcases h1 with ⟨e1, h1⟩ | ⟨e1, h1⟩ | ⟨e1, h1⟩ | ⟨e1, h1⟩ | ⟨e1, h1⟩ <;>
    first
      | omega
      | exact h.new c x h9 h1
      | (have := hcv x h1; omega)
  · have := h.lt _ _ (hdv _ e); omega
  · exact .inr (.inr (.inl ⟨rfl, rfl⟩))
  · exact .inr (.inl ⟨rfl, rfl⟩)
  · intro x h1
    rcases h1 with ⟨e1, h1⟩ | ⟨e1, h1⟩ | ⟨e1, h1⟩ | ⟨e1, h1⟩ | ⟨e1, h1⟩ <;> first | omega | exact h1
  · exact fun x e => .inr (.inr (.inr (.inl ⟨rfl, e⟩)))
  · exact .inr (.inr (.inr (.inr ⟨rfl, rfl⟩)))
  · intro x h1
    rcases h1 with ⟨e1, h1⟩ | ⟨e1, h1⟩ | ⟨e1, h1⟩ | ⟨e1, h1⟩ | ⟨e1, h1⟩ <;> first | omega | exact h1
  · exact fun x e => .inl ⟨.inr rfl, hdv x e⟩
  · intro c hc
    funext x
    refine propext ⟨fun h1 => ?_, fun h1 => .inl ⟨hc, h1⟩⟩
    rcases h1 with ⟨e1, h1⟩ | ⟨e1, h1⟩ | ⟨e1, h1⟩ | ⟨e1, h1⟩ | ⟨e1, h1⟩ <;> first | exact h1 | omega
set_option maxRecDepth 100000 in
set_option maxHeartbeats 8000000 in
theorem added_any (k : Nat) (v1 v2 v3 : Value) (B l n : List Int) (w : World) (hk : k ≤ 65535) (hB : RdE u8E w v1 B) (hbt : Byt B) (hown : ∀ x, v1.ownBlock = some x → x < w.heap.size) (hl : RdE i64E w v2 l) (hn : RdE u16E w v3 n) (hu : U16s n) :
    Calls Try.prog 18 #[.int .u16 k, v1, v2, v3] w fun e w' => ∃ g h, e = .returned (.tuple #[.pointer (some ⟨g, 0, none⟩), .pointer (some ⟨h, 0, none⟩)]) ∧ ∃ Ow cg r dg cv, AddedAt w w' (8 + k % 40) B (addedS (8 + k % 40) B l n) g h Ow cg r dg cv v1 := by
  obtain ⟨A1, c1, rfl, _, _, _⟩ := hB.form
  have HB := Lib.hid hB
  have HBT := Lib.hid hbt
  have HOW := Lib.hid hown
  have HL := Lib.hid hl
  have HN := Lib.hid hn
  have HU := Lib.hid hu
  obtain ⟨A2, c2, rfl, hl1, hl2, fl⟩ := hl.form
  have FL := Lib.hid fl
  have HSZ := Lib.hid (fun W => lsize_any k W hk)
  obtain ⟨K, hK⟩ : ∃ K, 8 + k % 40 = K := ⟨_, rfl⟩
  have hK8 : 8 ≤ K := by omega
  have hK2 : K ≤ 47 := by omega
  rw [hK] at HSZ ⊢
  have HOK := Lib.hid (fun i hi => addedN_ok (K := K) (B := B) (l := l) (n := n) hK8 (by omega) i hi)
  clear hB hbt hown hl hn hu fl hK
  go_enter Try.func18, Try.ntmps18
  go_wp2_with fail
  refine (HSZ.out _).mono ?_
  rintro e w1 ⟨rfl, rfl⟩
  go_wp2_with fail
  refine (new_any K w hK8 (by omega)).mono ?_
  rintro e w1 ⟨rfl, hw1⟩
  have hks := kAt_new K w
  rw [← hw1] at hks
  have hb1 : Below w.heap.size w w1 := by rw [hw1]; exact (Below.refl _ _).alloc (Nat.le_refl _) _
  have hz1 : w1.heap.size = w.heap.size + 1 := by rw [hw1]; simp
  have he1 : Env w w1 _ := (env_start HB.out).add (c := 0) (F := fun x => x = w.heap.size) hb1 (fun x hx => by omega)
  have KS1 := Lib.hid hks
  have HE1 := Lib.hid he1
  have HB1 := Lib.hid hb1
  clear hw1 hks he1 hb1
  go_wp2_with fail
  refine (HSZ.out _).mono ?_
  rintro e w2 ⟨rfl, rfl⟩
  go_upto_region 5 with fail
  have hrs := rAt_new K w1
  have hb2 : Below w1.heap.size w1 (w1.alloc (.cells #[.int .i64 K, .slice none 0 0, .int .u64 0] 53)) := (Below.refl _ _).alloc (Nat.le_refl _) _
  have hz2 : (w1.alloc (.cells #[.int .i64 K, .slice none 0 0, .int .u64 0] 53)).heap.size = w1.heap.size + 1 := by simp
  have he2 : Env w (w1.alloc (.cells #[.int .i64 K, .slice none 0 0, .int .u64 0] 53)) _ := HE1.out.add (c := 1) (F := fun x => x = w1.heap.size) hb2 (fun x hx => by omega)
  have hks2 := KS1.out.keep hb2
  obtain ⟨w2, hw2⟩ : ∃ x, w1.alloc (.cells #[.int .i64 K, .slice none 0 0, .int .u64 0] 53) = x := ⟨_, rfl⟩
  rw [hw2] at hrs hb2 hz2 he2 hks2 ⊢
  have KS2 := Lib.hid hks2
  have RS2 := Lib.hid hrs
  have HE2 := Lib.hid he2
  have HB2 := Lib.hid (HB1.out.trans (hb2.mono (by omega)))
  clear hw2 hrs hb2 he2 hks2 KS1 HE1 HB1
  go_wp2_with fail
  refine (knew_any (.slice A1 B.length c1) B w2 (HB.out.keep HB2.out) HBT.out).mono ?_
  rintro e w3 ⟨cg, r, cv, rfl, hcg, hr, hkc, hcv, hb3⟩
  obtain ⟨Ow4, he4, hco4, hsame⟩ := coins_env HE2.out (dv := (.slice A1 B.length c1)) (fun x e => by
    rw [upd_ne (by decide), upd_ne (by decide)]
    exact ⟨rfl, e, HOW.out x e⟩) HBT.out (HB.out.keep HB2.out) hkc hcg hr hcv hb3
  have ho0 : Ow4 0 = fun x => x = w.heap.size := by rw [hsame 0 (.inl (by omega)), upd_ne (by decide), upd_at]
  have ho1 : Ow4 1 = fun x => x = w1.heap.size := by rw [hsame 1 (.inl (by omega)), upd_at]
  have hb4 : Below w2.heap.size w2 (w3.alloc (.cells #[(.slice A1 B.length c1), .int .i64 0] 44)) := hb3.trans (((Below.refl _ _).alloc (Nat.le_refl _) _).mono hb3.size)
  have KS4 : Hid (KAt (Ow4 0) (w3.alloc (.cells #[(.slice A1 B.length c1), .int .i64 0] 44)) w.heap.size K [] 0) := Lib.hid (by rw [ho0]; exact KS2.out.keep hb4)
  have RS4 : Hid (RAt (Ow4 1) (w3.alloc (.cells #[(.slice A1 B.length c1), .int .i64 0] 44)) w1.heap.size K [] 0) := Lib.hid (by rw [ho1]; exact RS2.out.keep hb4)
  have HA0 : Hid (AddedAt w (w3.alloc (.cells #[(.slice A1 B.length c1), .int .i64 0] 44)) K B (addedN K B l n 0) w.heap.size w1.heap.size Ow4 cg r w3.heap.size cv (.slice A1 B.length c1)) := Lib.hid ⟨he4, hco4, KS4.out, RS4.out, Fit.nil_ K⟩
  clear he4 hco4 hsame ho0 ho1 hb4 KS4 RS4 hkc hcg hr hcv hb3 KS2 RS2 HE2 HB2
  go_upto_region 6 with fail
  obtain ⟨w4, hw4⟩ : ∃ x, w3.alloc (.cells #[(.slice A1 B.length c1), .int .i64 0] 44) = x := ⟨_, rfl⟩
  rw [hw4] at HA0 ⊢
  obtain ⟨dg, hdg⟩ : ∃ dg, w3.heap.size = dg := ⟨_, rfl⟩
  rw [hdg] at HA0 ⊢
  obtain ⟨g, hg⟩ : ∃ g, w.heap.size = g := ⟨_, rfl⟩
  have hh : w1.heap.size = g + 1 := by omega
  rw [hh] at HA0
  rw [hg] at HA0 ⊢
  have HSW := Lib.hid hg
  clear hw4 hdg hz1 hz2 hh hg
  go_wp2_with fail
  go_loopg [15] (min l.length 120) (fun q i wr => ∃ (j : Nat) (Ow : Nat → Nat → Prop), q = min l.length 120 - j ∧ j ≤ min l.length 120 ∧ i = .int .i64 (j : Int) ∧ Hid (AddedAt w wr K B (addedN K B l n j) g (g + 1) Ow cg r dg cv (.slice A1 B.length c1)))
  case atStart => exact ⟨0, Ow4, by omega, by omega, rfl, HA0⟩
  case round =>
    obtain ⟨j, Ow, hq, hj, rfl, HA⟩ := hrel
    have HQ := Lib.hid hq
    have hj2 : j ≤ l.length := by omega
    have hj3 : j ≤ 120 := by omega
    clear hq
    by_cases hjl : j < min l.length 120
    · have hjl2 : j < l.length := by omega
      have hjl3 : (j : Int) < 120 := by omega
      obtain ⟨ga, oa, eA, hga, ka⟩ := FL.out.i64 hjl2
      subst eA
      obtain ⟨f1, f2, f3⟩ := HOK.out j (by omega)
      have hwb := wtI_bd n j
      have HNX : Hid (addedN K B l n (j + 1) = addS K B l[j] (wtI n j) (addedN K B l n j)) := Lib.hid (by rw [addedN, List.getD, List.getElem?_eq_getElem hjl2]; rfl)
      obtain ⟨x, hx⟩ : ∃ x, l[j] = x := ⟨_, rfl⟩
      rw [hx] at ka HNX
      obtain ⟨s, hs⟩ : ∃ s, addedN K B l n j = s := ⟨_, rfl⟩
      rw [hs] at f1 f2 f3 HNX HA
      obtain ⟨L, led, a⟩ := s
      have F1 := Lib.hid f1
      have F3 := Lib.hid f3
      have HWT := Lib.hid (fun W (hb : Below w.heap.size w W) => weight_any v3 n j W (HN.out.keep hb) HU.out (by omega))
      obtain ⟨m, hm⟩ : ∃ m, wtI n j = m := ⟨_, rfl⟩
      rw [hm] at hwb F3 HNX HWT
      have KA := Lib.hid ka
      have HE := Lib.hid HA.out.env
      clear hx hs f1 f2 f3 hm ka
      go_upto_region 9 with fail
      refine wp_region_plan (fun w' => Below w.heap.size w w') [(0, true), (1, true), (2, true), (3, true), (4, true), (5, true), (6, true), (8, true), (7, false), (9, false), (10, true), (11, true), (12, true), (13, true), (14, true), (15, true), (16, true), (17, true), (18, true), (20, true), (19, false), (21, false), (22, true), (23, true)] (by kernel_rfl) (by kernel_rfl) (HE.out.below.drew) ?_
      iterate 8
        refine wpPlan_read (by rfl) (by rfl) (fun R hR => ?_)
        apply Exists.intro
        refine ⟨fun w' hS' => ?_, ?_⟩
        · have k0 := (hS'.cell (p := ⟨ga, oa + j, none⟩) hga).trans KA.out
          go_simp
          exact ⟨rfl, rfl⟩
        go_simp
        refine hR _ ?_
        clear hR R
      refine wpPlan_do (by rfl) (by rfl) (fun K hK => ?_)
      go_simp
      refine (HWT.out _ HE.out.below.drew).mono ?_
      rintro e w5 ⟨rfl, hw5⟩
      subst hw5
      refine hK _ _ (HE.out.below.drew) ?_
      clear hK K
      refine wpPlan_do (by rfl) (by rfl) (fun K hK => ?_)
      go_simp
      refine (kadd_env (c := 0) x m (HE.out.keep (Below.refl _ _).drew) (HA.out.co.keep HE.out (Below.refl _ _).drew) (by omega) (HA.out.ks.keep (Below.refl _ _).drew) F1.out hK8 (by omega) (by omega)).mono ?_
      rintro e w6 ⟨rfl, Ow6, he6, hco6, hk6, ht6⟩
      rw [F3.out]
      have HE6 := Lib.hid he6
      have HC6 := Lib.hid hco6
      have HK6 := Lib.hid hk6
      have HT6 := Lib.hid ht6
      clear he6 hco6 hk6 ht6
      refine hK _ _ (HE6.out.below) ?_
      clear hK K
      iterate 10
        refine wpPlan_read (by rfl) (by rfl) (fun R hR => ?_)
        apply Exists.intro
        refine ⟨fun w' hS' => ?_, ?_⟩
        · have k0 := (hS'.cell (p := ⟨ga, oa + j, none⟩) hga).trans KA.out
          go_simp
          exact ⟨rfl, rfl⟩
        go_simp
        refine hR _ ?_
        clear hR R
      refine wpPlan_do (by rfl) (by rfl) (fun K hK => ?_)
      go_simp
      refine (HWT.out _ HE6.out.below).mono ?_
      rintro e w7 ⟨rfl, hw7⟩
      subst hw7
      refine hK _ _ (HE6.out.below) ?_
      clear hK K
      refine wpPlan_do (by rfl) (by rfl) (fun K hK => ?_)
      go_simp
      refine (radd_env (c := 1) x m HE6.out HC6.out (by omega) ((HA.out.rs.keep (Below.refl _ _).drew).turned HT6.out (by decide) (by decide)) F1.out hK8 (by omega) (by omega)).mono ?_
      rintro e w8 ⟨rfl, Ow8, he8, hco8, hr8, ht8⟩
      rw [F3.out]
      have HE8 := Lib.hid he8
      have HC8 := Lib.hid hco8
      have HR8 := Lib.hid hr8
      have HT8 := Lib.hid ht8
      clear he8 hco8 hr8 ht8
      refine hK _ _ (HE8.out.below) ?_
      clear hK K
      iterate 2
        refine wpPlan_read (by rfl) (by rfl) (fun R hR => ?_)
        apply Exists.intro
        refine ⟨fun w' hS' => ?_, ?_⟩
        · have k0 := (hS'.cell (p := ⟨ga, oa + j, none⟩) hga).trans KA.out
          go_simp
          exact ⟨rfl, rfl⟩
        go_simp
        refine hR _ ?_
        clear hR R
      refine wpPlan_nil ?_
      have HNA : Hid (AddedAt w w8 K B (addedN K B (l := l) n (j + 1)) g (g + 1) Ow8 cg r dg cv (.slice A1 B.length c1)) := Lib.hid (by
        rw [HNX.out]
        exact ⟨HE8.out, HC8.out, HK6.out.turned HT8.out (by decide) (by decide), HR8.out, addS_fit F1.out (by omega) (by omega)⟩)
      go_wp2_with fail
      go_roundg (min l.length 120 - (j + 1))
      case measure => have := HQ.out; omega
      case rel => exact ⟨j + 1, Ow8, rfl, by omega, by go_num, HNA⟩
    · have hje : j = min l.length 120 := by omega
      have HEND : Hid (AddedAt w wr K B (addedS K B l n) g (g + 1) Ow cg r dg cv (.slice A1 B.length c1)) := Lib.hid (by unfold addedS; rw [← hje]; exact HA.out)
      clear hje
      by_cases h120 : j < l.length
      · have h1 : ¬ (j : Int) < 120 := by omega
        go_wp2_with fail
        refine bodyPost_ret (by simp [results, Try.results18, go_sem, *]; try rfl) rfl ?_
        exact ⟨g, g + 1, rfl, Ow, cg, r, dg, cv, HEND.out⟩
      · have h1 : ¬ (j : Int) < (l.length : Int) := by omega
        go_wp2_with fail
        refine bodyPost_ret (by simp [results, Try.results18, go_sem, *]; try rfl) rfl ?_
        exact ⟨g, g + 1, rfl, Ow, cg, r, dg, cv, HEND.out⟩
end Go.Proofs.Ytigmncogjbbmhaa
