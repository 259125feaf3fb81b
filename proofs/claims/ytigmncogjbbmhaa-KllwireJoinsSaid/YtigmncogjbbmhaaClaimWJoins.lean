/- KllwireJoins: bytes of two stacks joined are those of the one that takes the other one, with the same coins; of unlike ones the error is Take's; of cut bytes there are none. No condition. -/
import Derived.Test.YtigmncogjbbmhaaRows
import Derived.Test.YtigmncogjbbmhaaWmW
import Derived.Test.YtigmncogjbbmhaaKlZ
namespace Go.Proofs.Ytigmncogjbbmhaa
section
open Go.RowKit Go.Lib


/-! ### Cut bytes -/
theorem IsK.rdr {bs : List Int} {k : Nat} {L : LL} {led : Nat} (h : IsK bs k L led) (r : List Int) : rdK (bs ++ r) = some (⟨k, led, L⟩, r) := by
  have hr := h.right
  have hm : ∀ l ∈ L, I64L l ∧ Srt l ∧ l.length ≤ 4096 := fun l hl => by
    obtain ⟨j, hj, rfl⟩ := List.getElem_of_mem hl
    have h1 := hr.lev j hj
    have h2 := h.bd j
    have h3 := hr.lvl_le j
    rw [lvl_at hj] at h1 h2 h3
    exact ⟨h2, h1.2, h3⟩
  have := rdK_wrK (k := (k : Int)) (L := L) (led := led) r (by omega) hr.k4 (by have := hr.hled; omega) hr.hlen hm
  rw [h.eq] at this
  exact this
theorem IsK.cut {bs : List Int} {k : Nat} {L : LL} {led : Nat} (h : IsK bs k L led) {cut : Nat} (hc : cut < bs.length) : ∀ k' L' led', ¬ IsK (bs.take cut) k' L' led' := fun k' L' led' h' => by
  have h1 := h'.rdr (bs.drop cut)
  rw [List.take_append_drop, h.rd] at h1
  injection h1 with h1
  injection h1 with _ h1
  have := congrArg List.length h1
  rw [List.length_drop, List.length_nil] at this
  omega

theorem RdI.cut {k : IntKind} {w : World} {g off c n : Nat} {l : List Int} (h : RdI k w (.slice (some ⟨g, off, none⟩) l.length c) l) (hn : n ≤ l.length) : RdI k w (.slice (some ⟨g, off, none⟩) n c) (l.take n) := by
  obtain ⟨hl, A, c', hv, hn', hc, hd⟩ := h
  simp only [Value.slice.injEq, true_and] at hv
  obtain ⟨rfl, rfl⟩ := hv
  unfold RdI
  rw [show (l.take n).length = n by rw [List.length_take]; omega]
  refine ⟨by rw [List.length_map, List.length_take]; omega, _, _, rfl, by omega, hc, fun h0 => ?_⟩
  obtain ⟨g', off', hA, hg, hj⟩ := hd (by omega)
  simp only [Option.some.injEq, Addr.mk.injEq] at hA
  obtain ⟨rfl, rfl, -⟩ := hA
  refine ⟨_, _, rfl, hg, fun j h => (hj j (by omega)).trans ?_⟩
  rw [List.map_take, List.getElem?_take, if_pos (by omega)]

/-! ### Values of what is taken together -/
theorem takeS_bd {k : Nat} {B : List Int} {M L : LL} {led led2 a : Nat} (hL : ∀ j, I64L (lvl L j)) (hM : ∀ j, I64L (lvl M j)) : ∀ j, I64L (lvl (takeS k B (M, led2) (L, led, a)).1 j) := by
  have aL : ∀ x ∈ allV L, -9223372036854775808 ≤ x ∧ x ≤ 9223372036854775807 := fun x hx => by obtain ⟨j, hj⟩ := mem_allV.1 hx; exact hL j x hj
  have aM : ∀ x ∈ allV M, -9223372036854775808 ≤ x ∧ x ≤ 9223372036854775807 := fun x hx => by obtain ⟨j, hj⟩ := mem_allV.1 hx; exact hM j x hj
  refine I64L.lvl fun x hx => ?_
  unfold takeS at hx
  split at hx
  · rcases mem_takeN M L M.length (mem_packA hx) with h | h
    · exact aL x h
    · exact aM x h
  · exact aL x hx

/-! ### Join -/
set_option maxRecDepth 100000 in
set_option maxHeartbeats 4000000 in
theorem kjoin_no1 (v v2 q : Value) (bs : List Int) (w : World) (h : RdI .u8 w v bs) (hb : byL bs) (hlen : bs.length ≤ 1000000000) (hno : ∀ k L led, ¬ IsK bs k L led) :
    Calls Try.prog 55 #[v, v2, q] w fun e w' => e = .returned (.tuple #[.slice none 0 0, .int .i64 9]) ∧ Below w.heap.size w w' := by
  have HR := Lib.hid (kread_any v bs w h hb hlen)
  have HNO := Lib.hid hno
  clear h hb hno
  go_enter Try.func55, Try.ntmps55
  go_wp2_with fail
  refine (HR.out).mono ?_
  rintro e w1 ⟨hor, hb1⟩
  rcases hor with ⟨g, k, L, led, F, rfl, hk, _⟩ | ⟨rfl, _⟩
  · exact absurd hk (HNO.out k L led)
  · have HB1 := Lib.hid hb1
    clear hb1 HR
    go_wp2_with fail
    refine bodyPost_ret (by simp [results, Try.results55, go_sem, *]; try rfl) rfl ?_
    exact ⟨rfl, HB1.out⟩
set_option maxRecDepth 100000 in
set_option maxHeartbeats 4000000 in
theorem kjoin_no2 (v v2 q : Value) (bs bs2 : List Int) (w : World) {k : Nat} {L : LL} {led : Nat} (h : RdI .u8 w v bs) (hk : IsK bs k L led) (h2 : RdI .u8 w v2 bs2) (hb2 : byL bs2) (hlen2 : bs2.length ≤ 1000000000) (hno : ∀ k L led, ¬ IsK bs2 k L led) :
    Calls Try.prog 55 #[v, v2, q] w fun e w' => e = .returned (.tuple #[.slice none 0 0, .int .i64 9]) ∧ Below w.heap.size w w' := by
  have hh := h
  rw [← hk.eq] at hh
  have HR := Lib.hid (kread_own v w hh hk.right hk.bd)
  have HR2 := Lib.hid (fun W (hW : Below w.heap.size w W) => kread_any v2 bs2 W (Rd.keep h2 hW) hb2 hlen2)
  have HNO := Lib.hid hno
  clear h hh hb2 hno h2 hk
  go_enter Try.func55, Try.ntmps55
  go_wp2_with fail
  refine (HR.out).mono ?_
  rintro e w1 ⟨g, F, rfl, _, _, hb1⟩
  have HB1 := Lib.hid hb1
  have XR2 := Lib.hid (HR2.out w1 hb1)
  clear hb1 HR HR2
  go_wp2_with fail
  refine (XR2.out).mono ?_
  rintro e w2 ⟨hor, hb2⟩
  rcases hor with ⟨g, k, L, led, F, rfl, hk, _⟩ | ⟨rfl, _⟩
  · exact absurd hk (HNO.out k L led)
  · have HB2 := Lib.hid (HB1.out.trans (hb2.mono HB1.out.size))
    clear hb2 XR2
    go_wp2_with fail
    refine bodyPost_ret (by simp [results, Try.results55, go_sem, *]; try rfl) rfl ?_
    exact ⟨rfl, HB2.out⟩
set_option maxRecDepth 100000 in
set_option maxHeartbeats 4000000 in
theorem kjoin_kind (v v2 q : Value) (w : World) {k k2 : Nat} {L M : LL} {led led2 : Nat} (h : RdI .u8 w v (wrK k L led)) (hr : RightP k L led) (hbd : ∀ j, I64L (lvl L j)) (h2 : RdI .u8 w v2 (wrK k2 M led2)) (hr2 : RightP k2 M led2) (hbd2 : ∀ j, I64L (lvl M j)) (hne : k2 ≠ k) :
    Calls Try.prog 55 #[v, v2, q] w fun e w' => e = .returned (.tuple #[.slice none 0 0, .int .i64 3]) ∧ Below w.heap.size w w' := by
  have HR := Lib.hid (kread_own v w h hr hbd)
  have HR2 := Lib.hid (fun W (hW : Below w.heap.size w W) => kread_own v2 W (Rd.keep h2 hW) hr2 hbd2)
  clear h hr hbd h2 hr2 hbd2
  go_enter Try.func55, Try.ntmps55
  go_wp2_with fail
  refine (HR.out).mono ?_
  rintro e w1 ⟨g, F, rfl, hka, _, hb1⟩
  have HB1 := Lib.hid hb1
  have HKA := Lib.hid hka
  have XR2 := Lib.hid (HR2.out w1 hb1)
  clear hb1 hka HR HR2
  go_wp2_with fail
  refine (XR2.out).mono ?_
  rintro e w2 ⟨g2, F2, rfl, hka2, _, hb2⟩
  have HB2 := Lib.hid (HB1.out.trans (hb2.mono HB1.out.size))
  obtain ⟨lv, vs, hks⟩ := HKA.out.keep hb2
  obtain ⟨lv2, vs2, hks2⟩ := hka2
  have XT := Lib.hid (take_kind q w2 hks hks2 hne)
  clear hb2 XR2 hks hks2
  go_wp2_with fail
  refine (XT.out).mono ?_
  rintro e w3 ⟨rfl, n, rfl⟩
  go_wp2_with fail
  refine bodyPost_ret (by simp [results, Try.results55, go_sem, *]; try rfl) rfl ?_
  exact ⟨rfl, below_drewN HB2.out _⟩
set_option maxRecDepth 100000 in
set_option maxHeartbeats 4000000 in
theorem kjoin_yes (v v2 : Value) (W w : World) {k : Nat} {L M : LL} {led led2 cg r : Nat} {cv : Value} {B : List Int} (h : RdI .u8 w v (wrK k L led)) (hr : RightP k L led) (hbd : ∀ j, I64L (lvl L j)) (h2 : RdI .u8 w v2 (wrK k M led2)) (hr2 : RightP k M led2) (hbd2 : ∀ j, I64L (lvl M j))
    (hE : takeE L M = 0) (hb : Below W.heap.size W w) (hkc : KC w cg r cv B 0) (hrn : W.heap.size ≤ r) (hcl : cg < w.heap.size) (hrl : r < w.heap.size) (hcv : ∀ x, cv.ownBlock = some x → x < w.heap.size) :
    Calls Try.prog 55 #[v, v2, .pointer (some ⟨cg, 0, none⟩)] w fun e w' => ∃ (v' : Value) (b : Nat), W.heap.size ≤ b ∧ e = .returned (.tuple #[v', .int .i64 0]) ∧ OwnB b w' v' (wrK k (takeS k B (M, led2) (L, led, 0)).1 (takeS k B (M, led2) (L, led, 0)).2.1) ∧ Below W.heap.size W w' := by
  have HR := Lib.hid (kread_own v w h hr hbd)
  have HR2 := Lib.hid (fun W (hW : Below w.heap.size w W) => kread_own v2 W (Rd.keep h2 hW) hr2 hbd2)
  have h8 : 8 ≤ k := by have := hr.k8; omega
  have h4 : k ≤ 4096 := by have := hr.k4; omega
  have HF1 := Lib.hid hr.fit
  have HF2 := Lib.hid hr2.fit
  have HFT : Hid (Fit k (takeS k B (M, led2) (L, led, 0)).1 (takeS k B (M, led2) (L, led, 0)).2.1) := Lib.hid (takeS_fit (s := (L, led, 0)) (t := (M, led2)) hr.fit hr2.fit (by omega) h4)
  have HBD : Hid (∀ j, I64L (lvl (takeS k B (M, led2) (L, led, 0)).1 j)) := Lib.hid (takeS_bd hbd hbd2)
  have HB0 := Lib.hid hb
  have HKC := Lib.hid hkc
  have HCV := Lib.hid hcv
  have hE' : takeE ((L, led, 0) : KS).1 M = 0 := hE
  have HE := Lib.hid hE'
  have hWw := hb.size
  clear h hr hbd h2 hr2 hbd2 hb hkc hcv hE hE'
  go_enter Try.func55, Try.ntmps55
  go_wp2_with fail
  refine (HR.out).mono ?_
  rintro e w1 ⟨g, F, rfl, hka, hF, hb1⟩
  have HB1 := Lib.hid hb1
  have HKA := Lib.hid hka
  have HFN := Lib.hid hF
  have XR2 := Lib.hid (HR2.out w1 hb1)
  clear hb1 hka HR HR2 hF
  go_wp2_with fail
  refine (XR2.out).mono ?_
  rintro e w2 ⟨g2, F2, rfl, hka2, _, hb2⟩
  have HB2 := Lib.hid (HB1.out.trans (hb2.mono HB1.out.size))
  have hz2 := HB2.out.size
  have hlone : Lone W w2 F g k (L, led, 0) cg r cv B := by
    have hk2 := HKA.out.keep hb2
    refine ⟨HB0.out.trans (HB2.out.mono hWw), hk2, HKC.out.stay (HB2.out.block _ hcl) (HB2.out.block _ hrl) (fun k e => HB2.out.block _ (HCV.out k e)) HB2.out.size, ⟨fun e => ?_, fun e => ?_, fun x e => ⟨fun e2 => ?_, ?_⟩, by omega, by omega⟩, HF1.out, fun x hx => Nat.le_trans hWw (HFN.out x hx), hrn, hk2.low⟩
    · have := HFN.out _ e; omega
    · have := HFN.out _ e; omega
    · have := HFN.out _ e2; have := HCV.out x e; omega
    · have := HCV.out x e; omega
  have XT := Lib.hid (lone_take hlone hka2 HF2.out h8 h4)
  rw [HE.out] at XT
  clear hb2 XR2 hka2 hlone
  go_wp2_with fail
  refine (XT.out).mono ?_
  rintro e w3 ⟨rfl, F3, hl3⟩
  obtain ⟨lv3, vs3, hks3⟩ := hl3.ks
  have HB3 := Lib.hid hl3.below
  have hz13 := HB3.out.size
  have XW := Lib.hid (kwrite_any w3 hks3 HFT.out.ok HBD.out (by omega))
  clear hl3 hks3 XT
  go_wp2_with fail
  refine (XW.out).mono ?_
  rintro e w4 ⟨v4, rfl, o4, hb4⟩
  have O4 := Lib.hid o4
  have HB4 := Lib.hid (HB3.out.trans (hb4.mono HB3.out.size))
  clear o4 hb4 XW
  go_wp2_with fail
  refine bodyPost_ret (by simp [results, Try.results55, go_sem, *]; try rfl) rfl ?_
  exact ⟨_, w3.heap.size, hz13, rfl, O4.out, HB4.out⟩


theorem wrK_pos (k : Int) (L : LL) (led : Nat) : 0 < (wrK k L led).length := by
  have := leb_len k
  unfold wrK
  rw [List.length_append]; omega
theorem OwnB.pos {base : Nat} {w : World} {v : Value} {l : List Int} (h : OwnB base w v l) (h0 : 0 < l.length) : ∃ g c, v = .slice (some ⟨g, 0, none⟩) l.length c ∧ l.length ≤ c ∧ c ≤ 9223372036854775807 := by
  rcases h.2 with ⟨_, h2⟩ | ⟨g, cap, cur, rfl, e2, e3, e4, e5, _⟩
  · omega
  · exact ⟨g, cap, rfl, e4, by unfold maxLen at e5; omega⟩
theorem u16s_nil : U16s [] := fun x hx => by simp at hx
theorem byt_nil : Byt [] := ⟨by decide, fun x hx => by simp at hx⟩
theorem RC.new {w : World} {dv : Value} {B : List Int} (hr : RdE u8E w dv B) (hb : Byt B) (hl : ∀ x, dv.ownBlock = some x → x < w.heap.size) : RC (w.alloc (.cells #[dv, .int .i64 0] 44)) w.heap.size dv B 0 :=
  ⟨Blk.new _ _ _, hr.keep ((Below.refl _ _).alloc (Nat.le_refl _) _), fun e => by have := hl _ e; omega, Nat.zero_le _, hb⟩
set_option maxRecDepth 100000 in
set_option maxHeartbeats 8000000 in
theorem kjoins_like (k : Nat) (v1 v2 v3 v4 : Value) (B l mm n : List Int) (cut : Int) (w : World) (hk : k ≤ 65535) (hB : RdE u8E w v1 B) (hby : ∀ x ∈ B, 0 ≤ x ∧ x ≤ 255) (hown : ∀ x, v1.ownBlock = some x → x < w.heap.size) (hl : RdE i64E w v2 l) (hmm : RdE i64E w v3 mm) (hn : RdE u16E w v4 n) (hu : U16s n)
    (hbl : ∀ x ∈ l, -9223372036854775808 ≤ x ∧ x ≤ 9223372036854775807) (hbm : ∀ x ∈ mm, -9223372036854775808 ≤ x ∧ x ≤ 9223372036854775807) (ct0 : -9223372036854775808 ≤ cut) (ct1 : cut ≤ 9223372036854775807) :
    Calls Try.prog 16 #[.int .u16 k, v1, v2, v3, v4, .bool false, .int .i64 cut] w fun e w' => e = .returned (.bool true) ∧ Below w.heap.size w w' := by
  have HAL := Lib.hid (alive25_any w)
  obtain ⟨A1, c1, rfl, hB1, hB2, _⟩ := hB.form
  by_cases hlen : B.length ≤ 500
  case neg =>
    have hgt : (B.length : Int) > 500 := by omega
    clear hB hown hby hl hmm hn hu hbl hbm
    go_enter Try.func16, Try.ntmps16
    go_wp2_with fail
    refine (HAL.out).mono ?_
    rintro e w1 ⟨rfl, hb1⟩
    go_wp2_with fail
    refine bodyPost_ret (by simp [results, Try.results16, go_sem, *]; try rfl) rfl ?_
    exact ⟨rfl, hb1⟩
  have HBT : Hid (Byt B) := Lib.hid ⟨by omega, hby⟩
  have HBR := Lib.hid (fun W (hb : Below w.heap.size w W) => hB.keep hb)
  have HOWN := Lib.hid hown
  have HAD := Lib.hid (fun W (hb : Below w.heap.size w W) => added25_any k (.slice A1 B.length c1) v2 v4 B l n W hk (hB.keep hb) HBT.out (fun x e => Nat.lt_of_lt_of_le (hown x e) hb.size) (hl.keep hb) (hn.keep hb) hu)
  have hgt : ¬ (B.length : Int) > 500 := by omega
  have HAE := Lib.hid (fun W (hb : Below w.heap.size w W) => added25_any k (.slice none 0 0) v3 (.slice none 0 0) [] mm [] W hk (RdE.nil_ W) byt_nil (fun x e => by cases e) (hmm.keep hb) (RdE.nil_ W) u16s_nil)
  obtain ⟨k1, hk1⟩ : ∃ k1, 8 + k % 40 = k1 := ⟨_, rfl⟩
  have h18 : 8 ≤ k1 := by omega
  have h12 : k1 ≤ 47 := by omega
  rw [hk1] at HAD HAE
  have h28 := h18
  have h22 := h12
  have HRT1 := Lib.hid (fun L led a h => added_right (K := k1) (B := B) (l := l) (n := n) (L := L) (led := led) (a := a) h18 (by omega) h hbl)
  have HRT2 := Lib.hid (fun L led a h => added_right (K := k1) (B := []) (l := mm) (n := []) (L := L) (led := led) (a := a) h28 (by omega) h hbm)
  have W1 := (addedN_ok (K := k1) (B := B) (l := l) (n := n) h18 (by omega) (min l.length 120) (by omega)).2.1
  have W2 := (addedN_ok (K := k1) (B := []) (l := mm) (n := []) h28 (by omega) (min mm.length 120) (by omega)).2.1
  have W1' : wt (addedS k1 B l n).1 ≤ 1000 * (min l.length 120) := W1
  have W2' : wt (addedS k1 [] mm []).1 ≤ 1000 * (min mm.length 120) := W2
  clear hB hown hby hl hmm hn hu hbl hbm W1 W2
  obtain ⟨s, hs⟩ : ∃ s, addedS k1 B l n = s := ⟨_, rfl⟩
  obtain ⟨t, ht⟩ : ∃ t, addedS k1 [] mm [] = t := ⟨_, rfl⟩
  rw [hs] at HAD W1'
  rw [ht] at HAE W2'
  obtain ⟨L, led, a⟩ := s
  obtain ⟨M, led2, b⟩ := t
  obtain ⟨rp1, bd1⟩ := HRT1.out L led a hs
  obtain ⟨rp2, bd2⟩ := HRT2.out M led2 b ht
  have RP1 := Lib.hid rp1
  have BD1 := Lib.hid bd1
  have RP2 := Lib.hid rp2
  have BD2 := Lib.hid bd2
  have HW1 : wt L ≤ 120000 := by have : wt L ≤ 1000 * (min l.length 120) := W1'; omega
  have HW2 : wt M ≤ 120000 := by have : wt M ≤ 1000 * (min mm.length 120) := W2'; omega
  have HTE : Hid (takeE L M = 0) := Lib.hid (by unfold takeE; rw [if_neg (by omega)])
  clear hs ht rp1 bd1 rp2 bd2 HRT1 HRT2 W1' W2'
  go_enter Try.func16, Try.ntmps16
  go_wp2_with fail
  refine (HAL.out).mono ?_
  rintro e w1 ⟨rfl, hb1⟩
  have HB1 := Lib.hid hb1
  have XAD := Lib.hid (HAD.out w1 hb1)
  clear hb1 HAL HAD
  go_wp2_with fail
  refine (XAD.out).mono ?_
  rintro e w2 ⟨g1, g2, rfl, Ow, cg0, r0, dg0, cv0, ha⟩
  have HB2 : Hid (Below w.heap.size w w2) := Lib.hid (HB1.out.trans (ha.env.below.mono HB1.out.size))
  have HF1 : Hid (Fit k1 L led) := Lib.hid ha.fit
  have HK2 : Hid (KAt (Ow 0) w2 g1 k1 L led) := Lib.hid ha.ks
  have HR2 : Hid (RAt (Ow 1) w2 g2 k1 L led) := Lib.hid ha.rs
  have HNW : Hid (∀ x, Ow 1 x → w.heap.size ≤ x) := Lib.hid fun x hx => Nat.le_trans HB1.out.size (ha.env.new 1 x (by decide) hx)
  have XAE := Lib.hid (HAE.out w2 HB2.out)
  clear ha XAD HAE
  go_wp2_with fail
  refine (XAE.out).mono ?_
  rintro e w3 ⟨g3, g4, rfl, Ox, cg1, r1, dg1, cv1, ha⟩
  have HB23 : Hid (Below w2.heap.size w2 w3) := Lib.hid ha.env.below
  have HF2 : Hid (Fit k1 M led2) := Lib.hid ha.fit
  have HK3 : Hid (KAt (Ox 0) w3 g3 k1 M led2) := Lib.hid ha.ks
  have HR3 : Hid (RAt (Ox 1) w3 g4 k1 M led2) := Lib.hid ha.rs
  have HNX : Hid (∀ x, Ox 1 x → w2.heap.size ≤ x) := Lib.hid fun x hx => ha.env.new 1 x (by decide) hx
  clear ha XAE
  obtain ⟨lva, vsa, hka⟩ := HK2.out.keep HB23.out
  obtain ⟨lvb, vsb, hkb⟩ := HK3.out
  have XWA := Lib.hid (kwrite_any w3 hka HF1.out.ok BD1.out (by omega))
  have XWB := Lib.hid (fun W (hW : Below w3.heap.size w3 W) => kwrite_any W (hkb.keep hW) HF2.out.ok BD2.out (by omega))
  clear hka hkb
  go_wp2_with fail
  refine (XWA.out).mono ?_
  rintro e w4 ⟨va, rfl, oa, hb4⟩
  have O4 := Lib.hid oa
  have HB34 := Lib.hid hb4
  have XWB4 := Lib.hid (XWB.out w4 hb4)
  clear oa hb4 XWA XWB
  go_wp2_with fail
  refine (XWB4.out).mono ?_
  rintro e w5 ⟨vb, rfl, ob, hb5⟩
  obtain ⟨gB, cB, hvb, lB, mB⟩ := OwnB.pos ob (wrK_pos _ _ _)
  obtain ⟨nb, hnb⟩ : ∃ nb, (wrK (k1 : Int) M led2).length = nb := ⟨_, rfl⟩
  have NB := Lib.hid hnb
  rw [hnb] at hvb lB
  subst hvb
  have P5 := Lib.hid ob
  have HB35 := Lib.hid (HB34.out.trans (hb5.mono HB34.out.size))
  have HB05 : Hid (Below w.heap.size w w5) := Lib.hid ((HB2.out.trans (HB23.out.mono HB2.out.size)).trans (HB35.out.mono (Nat.le_trans HB2.out.size HB23.out.size)))
  have O5 := Lib.hid (OwnI.keep O4.out hb5)
  have XKN := Lib.hid (knew_any (.slice A1 B.length c1) B w5 (HBR.out w5 HB05.out) HBT.out)
  have hz23 := HB23.out.size
  have hz35 := HB35.out.size
  have hz02 := HB2.out.size
  have hz34 := HB34.out.size
  clear ob hb5 XWB4 hnb O4
  go_wp2_with fail
  refine (XKN.out).mono ?_
  rintro e w6 ⟨cg, r, cv, rfl, hcg, hr, hkc, hcv, hb6⟩
  have HB56 := Lib.hid hb6
  have HCV := Lib.hid hcv
  have hz56 := hb6.size
  have O6 := Lib.hid (OwnI.keep O5.out hb6)
  have P6 := Lib.hid (OwnI.keep P5.out hb6)
  have XJ := Lib.hid (kjoin_yes va (.slice (some ⟨gB, 0, none⟩) nb cB) w5 w6 (OwnI.rd O6.out) RP1.out BD1.out (OwnI.rd P6.out) RP2.out BD2.out HTE.out hb6 hkc hr hkc.blk.lt hkc.rd.blk.lt (fun x e => (hcv x e).2))
  have O5' := Lib.hid O5.out
  have P5' := Lib.hid P5.out
  clear hcg hr hkc hcv hb6 O5 P5
  go_wp2_with fail
  refine (XJ.out).mono ?_
  rintro e w7 ⟨vc, bc, hbc, rfl, oc, hb7⟩
  have HB57 := Lib.hid hb7
  have hz57 := hb7.size
  have OC := Lib.hid oc
  obtain ⟨ns, hns⟩ : ∃ ns, takeS k1 B (M, led2) (L, led, 0) = ns := ⟨_, rfl⟩
  have HFT : Hid (Fit k1 ns.1 ns.2.1) := Lib.hid (by rw [← hns]; exact takeS_fit (s := (L, led, 0)) (t := (M, led2)) HF1.out HF2.out (by omega) (by omega))
  have HBT2 : Hid (∀ j, I64L (lvl ns.1 j)) := Lib.hid (by rw [← hns]; exact takeS_bd BD1.out BD2.out)
  have HNS := Lib.hid hns
  rw [hns] at OC
  obtain ⟨S1, S2, S3⟩ := ns
  have OC' : Hid (OwnB bc w7 vc (wrK (k1 : Int) S1 S2)) := OC
  have HF7 : Hid (Fit k1 S1 S2) := HFT
  have HB7 : Hid (∀ j, I64L (lvl S1 j)) := HBT2
  clear hb7 oc XJ hns OC HFT HBT2
  have hb8 : Below w7.heap.size w7 (w7.alloc (.cells #[.slice A1 B.length c1, .int .i64 0] 44)) := (Below.refl _ _).alloc (Nat.le_refl _) _
  have HB07 : Hid (Below w.heap.size w w7) := Lib.hid (HB05.out.trans (HB57.out.mono (by omega)))
  have HB27 : Hid (Below w2.heap.size w2 w7) := Lib.hid ((HB23.out.trans (HB35.out.mono hz23)).trans (HB57.out.mono (by omega)))
  have HB37 : Hid (Below w3.heap.size w3 w7) := Lib.hid (HB35.out.trans (HB57.out.mono hz35))
  have O7 : Hid (OwnB w3.heap.size w7 va (wrK (k1 : Int) L led)) := Lib.hid (OwnI.keep O5'.out HB57.out)
  have P7 : Hid (OwnB w4.heap.size w7 (.slice (some ⟨gB, 0, none⟩) nb cB) (wrK (k1 : Int) M led2)) := Lib.hid (OwnI.keep P5'.out HB57.out)
  have hco : RC (w7.alloc (.cells #[.slice A1 B.length c1, .int .i64 0] 44)) w7.heap.size (.slice A1 B.length c1) B 0 := RC.new (HBR.out w7 HB07.out) HBT.out (fun x e => by have := HOWN.out x e; have := HB07.out.size; omega)
  obtain ⟨lvr, vsr, hrr⟩ := (HR2.out.keep HB27.out).keep hb8
  obtain ⟨lvq, vsq, hrq⟩ := (HR3.out.keep HB37.out).keep hb8
  have hfar : RoFar (Ow 1) (w7.alloc (.cells #[.slice A1 B.length c1, .int .i64 0] 44)) w7.heap.size (.slice A1 B.length c1) :=
    ⟨fun e => by have := HR2.out.low _ e; have := HB27.out.size; omega, fun x e => ⟨fun e2 => by have := HNW.out x e2; have := HOWN.out x e; omega, by have := HOWN.out x e; have := HB07.out.size; simp only [World.size_alloc]; omega⟩, by simp⟩
  have hc1 := HF1.out.cnt (by omega) (by omega)
  have hc2 := HF2.out.cnt (by omega) (by omega)
  have XTK := Lib.hid (rtake_yes (a := 0) (b := 0) _ hrr hrq hco hfar (HF1.out.pk) (HF2.out.pk) (by omega) (by omega) (by omega) (by omega))
  have EPK : Hid (packA k1 B (takeL L M, min (led + led2) 4611686018427387904, 0) = (S1, S2, S3)) := Lib.hid (by rw [← HNS.out]; unfold takeS; rw [if_pos (show takeE ((L, led, 0) : KS).1 (M, led2).1 = 0 from HTE.out)])
  rw [EPK.out] at XTK
  have hb8z := hb8.size
  have HB78 := Lib.hid hb8
  clear hrr hrq hco hfar hb8 HNS EPK
  go_wp2_with fail
  refine (XTK.out).mono ?_
  rintro e w9 ⟨rfl, F9, lv9, vs9, hrk⟩
  have RST : Hid (Rst F9 w9 g2 k1 S2 lv9 vs9 S1) := Lib.hid hrk.st
  have T9 := Lib.hid hrk.touch
  have HKP : Hid (∀ x, w3.heap.size ≤ x → x < w7.heap.size → w9.heap[x]? = w7.heap[x]?) := Lib.hid fun x h1 h2 => (T9.out.block x (by omega) (fun e => by
    rcases e with e | e
    · have := HR2.out.low x e; omega
    · have e : x = w7.heap.size := e; omega)).trans (HB78.out.block x h2)
  have A9 : Hid (OwnB w3.heap.size w9 va (wrK (k1 : Int) L led)) := Lib.hid (OwnI.stay O7.out fun x e => HKP.out x (OwnI.lt O7.out x e).1 (OwnI.lt O7.out x e).2)
  have B9 : Hid (OwnB w4.heap.size w9 (.slice (some ⟨gB, 0, none⟩) nb cB) (wrK (k1 : Int) M led2)) := Lib.hid (OwnI.stay P7.out fun x e => HKP.out x (by have := (OwnI.lt P7.out x e).1; omega) (OwnI.lt P7.out x e).2)
  have C9 : Hid (OwnB bc w9 vc (wrK (k1 : Int) S1 S2)) := Lib.hid (OwnI.stay OC'.out fun x e => HKP.out x (by have := (OwnI.lt OC'.out x e).1; omega) (OwnI.lt OC'.out x e).2)
  have HB9 : Hid (Below w.heap.size w w9) := Lib.hid ((HB07.out.trans (HB78.out.mono HB07.out.size)).trans (T9.out.below (B := w.heap.size) (fun i hi => by
    rcases hi with hi | hi
    · exact HNW.out i hi
    · have hi : i = w7.heap.size := hi; have := HB07.out.size; omega) (by have := HB07.out.size; omega)))
  obtain ⟨A9', c9', elv9, _, _, _⟩ := RST.out.form
  subst elv9
  have D0 := Lib.hid RST.out.cell0
  have D1 := Lib.hid RST.out.cell1
  have D2 := Lib.hid RST.out.cell2
  have hgl := RST.out.blk.lt
  have hled9 : S2 ≤ 4611686018427387904 := HF7.out.ok.led
  have hlen9 : S1.length ≤ 49 := HF7.out.ok.lenL
  have hcn9 := HF7.out.ok.cntL
  obtain ⟨Ac, cc, evc, _, _, _⟩ := (OwnI.rd C9.out).form
  obtain ⟨nc, hnc⟩ : ∃ nc, (wrK (k1 : Int) S1 S2).length = nc := ⟨_, rfl⟩
  rw [hnc] at evc
  subst evc
  clear hrk XTK T9 hnc HKP O7 P7 OC'
  go_wp2_with fail
  refine wp_region_plan (fun w' => Below w9.heap.size w9 w') [(0, true), (1, true), (2, true), (3, true), (4, true), (5, true), (6, true), (7, true), (8, true), (9, true), (10, true), (11, true), (12, true), (13, true), (14, true), (15, true), (16, true), (17, true), (18, true), (19, true), (20, true), (21, true), (22, true), (23, true), (24, true), (25, true), (26, true), (27, true), (28, true), (29, true), (30, true), (31, true), (32, true), (33, false), (34, false), (35, true), (36, true), (37, true), (38, true)] (by kernel_rfl) (by kernel_rfl) ((Below.refl _ _).drew) ?_
  iterate 3
    refine wpPlan_read (by rfl) (by rfl) (fun R hR => ?_)
    apply Exists.intro
    refine ⟨fun w' hS' => ?_, ?_⟩
    · have k0 := conv_B (RdI.keep (OwnI.rd C9.out) hS')
      have z0 := (hS'.cell (p := ⟨g2, 0, none⟩) hgl).trans D0.out
      have z1 := (hS'.cell (p := ⟨g2, 1, none⟩) hgl).trans D1.out
      have z2 := (hS'.cell (p := ⟨g2, 2, none⟩) hgl).trans D2.out
      go_simp
      exact ⟨rfl, rfl⟩
    go_simp
    refine hR _ ?_
    clear hR R
  refine wpPlan_skip (by rfl) (by rfl) ?_
  try go_simp
  refine wpPlan_skip (by rfl) (by rfl) ?_
  try go_simp
  refine wpPlan_skip (by rfl) (by rfl) ?_
  try go_simp
  refine wpPlan_skip (by rfl) (by rfl) ?_
  try go_simp
  refine wpPlan_skip (by rfl) (by rfl) ?_
  try go_simp
  refine wpPlan_skip (by rfl) (by rfl) ?_
  try go_simp
  refine wpPlan_skip (by rfl) (by rfl) ?_
  try go_simp
  refine wpPlan_skip (by rfl) (by rfl) ?_
  try go_simp
  iterate 22
    refine wpPlan_read (by rfl) (by rfl) (fun R hR => ?_)
    apply Exists.intro
    refine ⟨fun w' hS' => ?_, ?_⟩
    · have k0 := conv_B (RdI.keep (OwnI.rd C9.out) hS')
      have z0 := (hS'.cell (p := ⟨g2, 0, none⟩) hgl).trans D0.out
      have z1 := (hS'.cell (p := ⟨g2, 1, none⟩) hgl).trans D1.out
      have z2 := (hS'.cell (p := ⟨g2, 2, none⟩) hgl).trans D2.out
      go_simp
      exact ⟨rfl, rfl⟩
    go_simp
    refine hR _ ?_
    clear hR R
  refine wpPlan_do (by rfl) (by rfl) (fun K hK => ?_)
  go_simp
  refine (rwk_any (k1 : Int) _ S1 S2 w9.drew (RST.out.keep (Below.refl _ _).drew).llr (by omega) (by omega) (by omega) (by omega) (by omega) (fun j => ⟨HF7.out.ok.srt j, HB7.out j⟩)).mono ?_
  rintro e w8 ⟨v8, rfl, o8, hb8⟩
  have hbw8 : Below w9.heap.size w9 w8 := (Below.refl _ _).drew.trans hb8
  have hz8 := hbw8.size
  have cb := conv_B (OwnI.rd o8)
  clear o8
  refine hK _ _ (hbw8) ?_
  clear hK K
  refine wpPlan_do (by rfl) (by rfl) (fun K hK => ?_)
  go_simp
  refine hK _ _ (hbw8) ?_
  clear hK K
  iterate 4
    refine wpPlan_read (by rfl) (by rfl) (fun R hR => ?_)
    apply Exists.intro
    refine ⟨fun w' hS' => ?_, ?_⟩
    · have k0 := conv_B (RdI.keep (OwnI.rd C9.out) hS')
      have z0 := (hS'.cell (p := ⟨g2, 0, none⟩) hgl).trans D0.out
      have z1 := (hS'.cell (p := ⟨g2, 1, none⟩) hgl).trans D1.out
      have z2 := (hS'.cell (p := ⟨g2, 2, none⟩) hgl).trans D2.out
      go_simp
      exact ⟨rfl, rfl⟩
    go_simp
    refine hR _ ?_
    clear hR R
  refine wpPlan_nil ?_
  have HB8 : Hid (Below w.heap.size w w8) := Lib.hid (HB9.out.trans (hbw8.mono HB9.out.size))
  have A8 : Hid (OwnB w3.heap.size w8 va (wrK (k1 : Int) L led)) := Lib.hid (OwnI.keep A9.out hbw8)
  have B8 : Hid (OwnB w4.heap.size w8 (.slice (some ⟨gB, 0, none⟩) nb cB) (wrK (k1 : Int) M led2)) := Lib.hid (OwnI.keep B9.out hbw8)
  clear cb A9 B9 C9 D0 D1 D2 RST hbw8 hb8
  by_cases hcut : 0 ≤ cut ∧ cut < nb
  · obtain ⟨m, rfl⟩ := Int.eq_ofNat_of_zero_le hcut.1
    have hm : m < nb := by omega
    have hc0 : decide ((m : Int) < 0) = false := decide_eq_false (by omega)
    have hc1 : decide ((nb : Int) ≤ m) = false := decide_eq_false (by omega)
    have CUT : Hid (RdI .u8 w8 (.slice (some ⟨gB, 0, none⟩) m cB) ((wrK (k1 : Int) M led2).take m)) := Lib.hid (RdI.cut (by rw [NB.out]; exact OwnI.rd B8.out) (by rw [NB.out]; omega))
    have NIS : Hid (∀ k' L' led', ¬ IsK ((wrK (k1 : Int) M led2).take m) k' L' led') := Lib.hid (IsK.cut (⟨RP2.out, BD2.out, rfl⟩ : IsK (wrK (k1 : Int) M led2) k1 M led2) (by rw [NB.out]; exact hm))
    have BC : Hid (byL ((wrK (k1 : Int) M led2).take m)) := Lib.hid (fun b hb => RP2.out.by_ BD2.out b (List.mem_of_mem_take hb))
    have hlc : ((wrK (k1 : Int) M led2).take m).length ≤ 1000000000 := by have := RP2.out.len_; rw [List.length_take]; omega
    have IK : Hid (IsK (wrK (k1 : Int) L led) k1 L led) := Lib.hid ⟨RP1.out, BD1.out, rfl⟩
    clear hcut
    go_wp2_with fail
    refine (kjoin_no2 _ _ _ (wrK (k1 : Int) L led) ((wrK (k1 : Int) M led2).take m) w8 (OwnI.rd A8.out) IK.out CUT.out BC.out hlc NIS.out).mono ?_
    rintro e v1 ⟨rfl, bb1⟩
    have BB1 := Lib.hid bb1
    clear bb1
    go_wp2_with fail
    refine (kjoin_no1 _ _ _ ((wrK (k1 : Int) M led2).take m) v1 (RdI.keep CUT.out BB1.out) BC.out hlc NIS.out).mono ?_
    rintro e v2 ⟨rfl, bb2⟩
    have BB2 := Lib.hid (BB1.out.trans (bb2.mono BB1.out.size))
    clear bb2
    go_wp2_with fail
    refine bodyPost_ret (by simp [results, Try.results16, go_sem, *]; try rfl) rfl ?_
    exact ⟨rfl, HB8.out.trans (BB2.out.mono HB8.out.size)⟩
  · by_cases hcn : cut < 0
    · go_wp2_with fail
      refine bodyPost_ret (by simp [results, Try.results16, go_sem, *]; try rfl) rfl ?_
      exact ⟨rfl, HB8.out⟩
    · have hc0 : decide (cut < 0) = false := decide_eq_false hcn
      have hcc : (nb : Int) ≤ cut := by omega
      go_wp2_with fail
      refine bodyPost_ret (by simp [results, Try.results16, go_sem, *]; try rfl) rfl ?_
      exact ⟨rfl, HB8.out⟩
set_option maxRecDepth 100000 in
set_option maxHeartbeats 8000000 in
theorem kjoins_unlike (k : Nat) (v1 v2 v3 v4 : Value) (B l mm n : List Int) (cut : Int) (w : World) (hk : k ≤ 65535) (hB : RdE u8E w v1 B) (hby : ∀ x ∈ B, 0 ≤ x ∧ x ≤ 255) (hown : ∀ x, v1.ownBlock = some x → x < w.heap.size) (hl : RdE i64E w v2 l) (hmm : RdE i64E w v3 mm) (hn : RdE u16E w v4 n) (hu : U16s n)
    (hbl : ∀ x ∈ l, -9223372036854775808 ≤ x ∧ x ≤ 9223372036854775807) (hbm : ∀ x ∈ mm, -9223372036854775808 ≤ x ∧ x ≤ 9223372036854775807) (ct0 : -9223372036854775808 ≤ cut) (ct1 : cut ≤ 9223372036854775807) :
    Calls Try.prog 16 #[.int .u16 k, v1, v2, v3, v4, .bool true, .int .i64 cut] w fun e w' => e = .returned (.bool true) ∧ Below w.heap.size w w' := by
  have HAL := Lib.hid (alive25_any w)
  obtain ⟨A1, c1, rfl, hB1, hB2, _⟩ := hB.form
  by_cases hlen : B.length ≤ 500
  case neg =>
    have hgt : (B.length : Int) > 500 := by omega
    clear hB hown hby hl hmm hn hu hbl hbm
    go_enter Try.func16, Try.ntmps16
    go_wp2_with fail
    refine (HAL.out).mono ?_
    rintro e w1 ⟨rfl, hb1⟩
    go_wp2_with fail
    refine bodyPost_ret (by simp [results, Try.results16, go_sem, *]; try rfl) rfl ?_
    exact ⟨rfl, hb1⟩
  have HBT : Hid (Byt B) := Lib.hid ⟨by omega, hby⟩
  have HBR := Lib.hid (fun W (hb : Below w.heap.size w W) => hB.keep hb)
  have HOWN := Lib.hid hown
  have HAD := Lib.hid (fun W (hb : Below w.heap.size w W) => added25_any k (.slice A1 B.length c1) v2 v4 B l n W hk (hB.keep hb) HBT.out (fun x e => Nat.lt_of_lt_of_le (hown x e) hb.size) (hl.keep hb) (hn.keep hb) hu)
  have hgt : ¬ (B.length : Int) > 500 := by omega
  obtain ⟨k', hk', hkx, hkw, hkd⟩ : ∃ k' : Nat, k' ≤ 65535 ∧ IntKind.u16.wrap ((k : Int) + 1) = (k' : Int) ∧ True ∧ 8 + k' % 40 ≠ 8 + k % 40 := by
    by_cases h : k = 65535
    · subst h; exact ⟨0, by omega, by decide, trivial, by decide⟩
    · exact ⟨k + 1, by omega, by rw [IntWalk.u16_in _ (by omega)]; omega, trivial, by omega⟩
  have HAE := Lib.hid (fun W (hb : Below w.heap.size w W) => added25_any k' (.slice none 0 0) v3 (.slice none 0 0) [] mm [] W hk' (RdE.nil_ W) byt_nil (fun x e => by cases e) (hmm.keep hb) (RdE.nil_ W) u16s_nil)
  obtain ⟨k1, hk1⟩ : ∃ k1, 8 + k % 40 = k1 := ⟨_, rfl⟩
  have h18 : 8 ≤ k1 := by omega
  have h12 : k1 ≤ 47 := by omega
  rw [hk1] at HAD hkd
  obtain ⟨k2, hk2⟩ : ∃ k2, 8 + k' % 40 = k2 := ⟨_, rfl⟩
  have h28 : 8 ≤ k2 := by omega
  have h22 : k2 ≤ 47 := by omega
  rw [hk2] at HAE hkd
  have HX := Lib.hid hkx
  have HKD := Lib.hid hkd
  clear hkx hkw hkd
  have HRT1 := Lib.hid (fun L led a h => added_right (K := k1) (B := B) (l := l) (n := n) (L := L) (led := led) (a := a) h18 (by omega) h hbl)
  have HRT2 := Lib.hid (fun L led a h => added_right (K := k2) (B := []) (l := mm) (n := []) (L := L) (led := led) (a := a) h28 (by omega) h hbm)
  have W1 := (addedN_ok (K := k1) (B := B) (l := l) (n := n) h18 (by omega) (min l.length 120) (by omega)).2.1
  have W2 := (addedN_ok (K := k2) (B := []) (l := mm) (n := []) h28 (by omega) (min mm.length 120) (by omega)).2.1
  have W1' : wt (addedS k1 B l n).1 ≤ 1000 * (min l.length 120) := W1
  have W2' : wt (addedS k2 [] mm []).1 ≤ 1000 * (min mm.length 120) := W2
  clear hB hown hby hl hmm hn hu hbl hbm W1 W2
  obtain ⟨s, hs⟩ : ∃ s, addedS k1 B l n = s := ⟨_, rfl⟩
  obtain ⟨t, ht⟩ : ∃ t, addedS k2 [] mm [] = t := ⟨_, rfl⟩
  rw [hs] at HAD W1'
  rw [ht] at HAE W2'
  obtain ⟨L, led, a⟩ := s
  obtain ⟨M, led2, b⟩ := t
  obtain ⟨rp1, bd1⟩ := HRT1.out L led a hs
  obtain ⟨rp2, bd2⟩ := HRT2.out M led2 b ht
  have RP1 := Lib.hid rp1
  have BD1 := Lib.hid bd1
  have RP2 := Lib.hid rp2
  have BD2 := Lib.hid bd2
  have HW1 : wt L ≤ 120000 := by have : wt L ≤ 1000 * (min l.length 120) := W1'; omega
  have HW2 : wt M ≤ 120000 := by have : wt M ≤ 1000 * (min mm.length 120) := W2'; omega
  have HTE : Hid (takeE L M = 0) := Lib.hid (by unfold takeE; rw [if_neg (by omega)])
  clear hs ht rp1 bd1 rp2 bd2 HRT1 HRT2 W1' W2'
  go_enter Try.func16, Try.ntmps16
  go_wp2_with fail
  refine (HAL.out).mono ?_
  rintro e w1 ⟨rfl, hb1⟩
  have HB1 := Lib.hid hb1
  have XAD := Lib.hid (HAD.out w1 hb1)
  clear hb1 HAL HAD
  go_wp2_with fail
  refine (XAD.out).mono ?_
  rintro e w2 ⟨g1, g2, rfl, Ow, cg0, r0, dg0, cv0, ha⟩
  have HB2 : Hid (Below w.heap.size w w2) := Lib.hid (HB1.out.trans (ha.env.below.mono HB1.out.size))
  have HF1 : Hid (Fit k1 L led) := Lib.hid ha.fit
  have HK2 : Hid (KAt (Ow 0) w2 g1 k1 L led) := Lib.hid ha.ks
  have HR2 : Hid (RAt (Ow 1) w2 g2 k1 L led) := Lib.hid ha.rs
  have HNW : Hid (∀ x, Ow 1 x → w.heap.size ≤ x) := Lib.hid fun x hx => Nat.le_trans HB1.out.size (ha.env.new 1 x (by decide) hx)
  have XAE := Lib.hid (HAE.out w2 HB2.out)
  clear ha XAD HAE
  have hx := HX.out
  go_wp2_with fail
  refine (XAE.out).mono ?_
  rintro e w3 ⟨g3, g4, rfl, Ox, cg1, r1, dg1, cv1, ha⟩
  clear hx
  have HB23 : Hid (Below w2.heap.size w2 w3) := Lib.hid ha.env.below
  have HF2 : Hid (Fit k2 M led2) := Lib.hid ha.fit
  have HK3 : Hid (KAt (Ox 0) w3 g3 k2 M led2) := Lib.hid ha.ks
  have HR3 : Hid (RAt (Ox 1) w3 g4 k2 M led2) := Lib.hid ha.rs
  have HNX : Hid (∀ x, Ox 1 x → w2.heap.size ≤ x) := Lib.hid fun x hx => ha.env.new 1 x (by decide) hx
  clear ha XAE
  obtain ⟨lva, vsa, hka⟩ := HK2.out.keep HB23.out
  obtain ⟨lvb, vsb, hkb⟩ := HK3.out
  have XWA := Lib.hid (kwrite_any w3 hka HF1.out.ok BD1.out (by omega))
  have XWB := Lib.hid (fun W (hW : Below w3.heap.size w3 W) => kwrite_any W (hkb.keep hW) HF2.out.ok BD2.out (by omega))
  clear hka hkb
  go_wp2_with fail
  refine (XWA.out).mono ?_
  rintro e w4 ⟨va, rfl, oa, hb4⟩
  have O4 := Lib.hid oa
  have HB34 := Lib.hid hb4
  have XWB4 := Lib.hid (XWB.out w4 hb4)
  clear oa hb4 XWA XWB
  go_wp2_with fail
  refine (XWB4.out).mono ?_
  rintro e w5 ⟨vb, rfl, ob, hb5⟩
  obtain ⟨gB, cB, hvb, lB, mB⟩ := OwnB.pos ob (wrK_pos _ _ _)
  obtain ⟨nb, hnb⟩ : ∃ nb, (wrK (k2 : Int) M led2).length = nb := ⟨_, rfl⟩
  have NB := Lib.hid hnb
  rw [hnb] at hvb lB
  subst hvb
  have P5 := Lib.hid ob
  have HB35 := Lib.hid (HB34.out.trans (hb5.mono HB34.out.size))
  have HB05 : Hid (Below w.heap.size w w5) := Lib.hid ((HB2.out.trans (HB23.out.mono HB2.out.size)).trans (HB35.out.mono (Nat.le_trans HB2.out.size HB23.out.size)))
  have O5 := Lib.hid (OwnI.keep O4.out hb5)
  have XKN := Lib.hid (knew_any (.slice A1 B.length c1) B w5 (HBR.out w5 HB05.out) HBT.out)
  have hz23 := HB23.out.size
  have hz35 := HB35.out.size
  have hz02 := HB2.out.size
  have hz34 := HB34.out.size
  clear ob hb5 XWB4 hnb O4
  go_wp2_with fail
  refine (XKN.out).mono ?_
  rintro e w6 ⟨cg, r, cv, rfl, hcg, hr, hkc, hcv, hb6⟩
  have HB56 := Lib.hid hb6
  have HCV := Lib.hid hcv
  have hz56 := hb6.size
  have O6 := Lib.hid (OwnI.keep O5.out hb6)
  have P6 := Lib.hid (OwnI.keep P5.out hb6)
  have XJ := Lib.hid (kjoin_kind va (.slice (some ⟨gB, 0, none⟩) nb cB) (.pointer (some ⟨cg, 0, none⟩)) w6 (OwnI.rd O6.out) RP1.out BD1.out (OwnI.rd P6.out) RP2.out BD2.out HKD.out)
  clear hcg hr hkc hcv hb6 O5 P5
  go_wp2_with fail
  refine (XJ.out).mono ?_
  rintro e w7 ⟨rfl, hb7⟩
  have HB57 := Lib.hid (HB56.out.trans (hb7.mono hz56))
  have hz57 := HB57.out.size
  have hb8 : Below w7.heap.size w7 (w7.alloc (.cells #[.slice A1 B.length c1, .int .i64 0] 44)) := (Below.refl _ _).alloc (Nat.le_refl _) _
  have HB28 : Hid (Below w2.heap.size w2 (w7.alloc (.cells #[.slice A1 B.length c1, .int .i64 0] 44))) := Lib.hid (((HB23.out.trans (HB35.out.mono hz23)).trans (HB57.out.mono (by omega))).trans (hb8.mono (by omega)))
  have HB38 : Hid (Below w3.heap.size w3 (w7.alloc (.cells #[.slice A1 B.length c1, .int .i64 0] 44))) := Lib.hid ((HB35.out.trans (HB57.out.mono hz35)).trans (hb8.mono (by omega)))
  obtain ⟨lvr, vsr, hrr⟩ := HR2.out.keep HB28.out
  obtain ⟨lvq, vsq, hrq⟩ := HR3.out.keep HB38.out
  have XTK := Lib.hid (rtake_kind (.pointer (some ⟨w7.heap.size, 0, none⟩)) _ hrr hrq HKD.out)
  have O8 := Lib.hid (OwnI.keep (OwnI.keep O6.out hb7) hb8)
  have P8 := Lib.hid (OwnI.keep (OwnI.keep P6.out hb7) hb8)
  have HB08 : Hid (Below w.heap.size w (w7.alloc (.cells #[.slice A1 B.length c1, .int .i64 0] 44))) := Lib.hid (HB2.out.trans (HB28.out.mono hz02))
  clear hb7 XJ hrr hrq O6 P6 hb8
  go_wp2_with fail
  refine (XTK.out).mono ?_
  rintro e w9 ⟨rfl, q9, rfl⟩
  go_wp2_with fail
  go_quiet (fail)
  have hbq : Below (w7.alloc (.cells #[.slice A1 B.length c1, .int .i64 0] 44)).heap.size (w7.alloc (.cells #[.slice A1 B.length c1, .int .i64 0] 44)) ((w7.alloc (.cells #[.slice A1 B.length c1, .int .i64 0] 44)).drewN (q9 + nq)) := below_drewN (Below.refl _ _) _
  have HB8 := Lib.hid (HB08.out.trans (hbq.mono HB08.out.size))
  have A8 := Lib.hid (OwnI.keep O8.out hbq)
  have B8 := Lib.hid (OwnI.keep P8.out hbq)
  obtain ⟨w8, hw8⟩ : ∃ w8, (w7.alloc (.cells #[.slice A1 B.length c1, .int .i64 0] 44)).drewN (q9 + nq) = w8 := ⟨_, rfl⟩
  have HB8 : Hid (Below w.heap.size w w8) := Lib.hid (by rw [← hw8]; exact HB8.out)
  have A8 : Hid (OwnB w3.heap.size w8 va (wrK (k1 : Int) L led)) := Lib.hid (by rw [← hw8]; exact A8.out)
  have B8 : Hid (OwnB w4.heap.size w8 (.slice (some ⟨gB, 0, none⟩) nb cB) (wrK (k2 : Int) M led2)) := Lib.hid (by rw [← hw8]; exact B8.out)
  rw [drewN_add, hw8]
  clear hbq hw8 O8 P8
  by_cases hcut : 0 ≤ cut ∧ cut < nb
  · obtain ⟨m, rfl⟩ := Int.eq_ofNat_of_zero_le hcut.1
    have hm : m < nb := by omega
    have hc0 : decide ((m : Int) < 0) = false := decide_eq_false (by omega)
    have hc1 : decide ((nb : Int) ≤ m) = false := decide_eq_false (by omega)
    have CUT : Hid (RdI .u8 w8 (.slice (some ⟨gB, 0, none⟩) m cB) ((wrK (k2 : Int) M led2).take m)) := Lib.hid (RdI.cut (by rw [NB.out]; exact OwnI.rd B8.out) (by rw [NB.out]; omega))
    have NIS : Hid (∀ k' L' led', ¬ IsK ((wrK (k2 : Int) M led2).take m) k' L' led') := Lib.hid (IsK.cut (⟨RP2.out, BD2.out, rfl⟩ : IsK (wrK (k2 : Int) M led2) k2 M led2) (by rw [NB.out]; exact hm))
    have BC : Hid (byL ((wrK (k2 : Int) M led2).take m)) := Lib.hid (fun b hb => RP2.out.by_ BD2.out b (List.mem_of_mem_take hb))
    have hlc : ((wrK (k2 : Int) M led2).take m).length ≤ 1000000000 := by have := RP2.out.len_; rw [List.length_take]; omega
    have IK : Hid (IsK (wrK (k1 : Int) L led) k1 L led) := Lib.hid ⟨RP1.out, BD1.out, rfl⟩
    clear hcut
    go_wp2_with fail
    refine (kjoin_no2 _ _ _ (wrK (k1 : Int) L led) ((wrK (k2 : Int) M led2).take m) w8 (OwnI.rd A8.out) IK.out CUT.out BC.out hlc NIS.out).mono ?_
    rintro e v1 ⟨rfl, bb1⟩
    have BB1 := Lib.hid bb1
    clear bb1
    go_wp2_with fail
    refine (kjoin_no1 _ _ _ ((wrK (k2 : Int) M led2).take m) v1 (RdI.keep CUT.out BB1.out) BC.out hlc NIS.out).mono ?_
    rintro e v2 ⟨rfl, bb2⟩
    have BB2 := Lib.hid (BB1.out.trans (bb2.mono BB1.out.size))
    clear bb2
    go_wp2_with fail
    refine bodyPost_ret (by simp [results, Try.results16, go_sem, *]; try rfl) rfl ?_
    exact ⟨rfl, HB8.out.trans (BB2.out.mono HB8.out.size)⟩
  · by_cases hcn : cut < 0
    · go_wp2_with fail
      refine bodyPost_ret (by simp [results, Try.results16, go_sem, *]; try rfl) rfl ?_
      exact ⟨rfl, HB8.out⟩
    · have hc0 : decide (cut < 0) = false := decide_eq_false hcn
      have hcc : (nb : Int) ≤ cut := by omega
      go_wp2_with fail
      refine bodyPost_ret (by simp [results, Try.results16, go_sem, *]; try rfl) rfl ?_
      exact ⟨rfl, HB8.out⟩
end
open Go.ChangeShapes Go.WideShapes Go.ChangeAt Go.RowKit

theorem own_kllwireJoins : ownKnob Try.prog.godebug = none := by kernel_rfl
theorem laid_kllwireJoins : laidOutB Try.prog = true := by kernel_rfl
set_option maxRecDepth 100000 in
theorem lifted_kllwireJoins (os : Os) (started : os.Started) (H : Type) (enc : TypeId × Value → H) :
    ReturnsInHanded {} Try.checked os 16 .any (Rows.kllwireJoinsSpec.pre6 enc Try.prog Try.f16 Rows.kllwireJoinsRow.domain false) (Rows.kllwireJoinsSpec.post enc Try.prog Try.f16 false true false false) := by
  refine returnsInHanded_of_change (C := Try.checked) own_kllwireJoins started (by kernel_rfl) Try.func16
    (ChangeSpec.witness6 (enc := enc) (C := Try.checked) false ⟨#[], #[.int .u16 0, .slice none 0 0, .slice none 0 0, .slice none 0 0, .slice none 0 0, .bool false, .int .i64 0], []⟩ 8 (by kernel_rfl) (by kernel_rfl) (by kernel_rfl) (by kernel_rfl)) ?_
  intro W base args ds gs before hval0 hW hcnd _
  have hval : ∀ (j : Nat) t v, Try.f16.params[j]? = some t → args[j]? = some v → Value.okWide Try.prog W .any base t v := hval0
  have hW' := hW
  obtain ⟨p, q, hA0, hV, rfl, hfz, hnd⟩ := hW
  have hA : DataW.TrodAll enc Try.prog W 0 (fun _ => true) true Try.f16.params.toList args.toList ds p := hA0
  rw [Try.params16] at hA hval
  obtain ⟨v0, vs0, d0, ds0, p0, q0, hargs, rfl, rfl, h0, r0⟩ := trodAll_cons hA
  obtain ⟨v1, vs1, d1, ds1, p1, q1, rfl, rfl, rfl, h1, r1⟩ := trodAll_cons r0
  obtain ⟨v2, vs2, d2, ds2, p2, q2, rfl, rfl, rfl, h2, r2⟩ := trodAll_cons r1
  obtain ⟨v3, vs3, d3, ds3, p3, q3, rfl, rfl, rfl, h3, r3⟩ := trodAll_cons r2
  obtain ⟨v4, vs4, d4, ds4, p4, q4, rfl, rfl, rfl, h4, r4⟩ := trodAll_cons r3
  obtain ⟨v5, vs5, d5, ds5, p5, q5, rfl, rfl, rfl, h5, r5⟩ := trodAll_cons r4
  obtain ⟨v6, vs6, d6, ds6, p6, q6, rfl, rfl, rfl, h6, r6⟩ := trodAll_cons r5
  obtain ⟨rfl, rfl, rfl⟩ := trodAll_nil r6
  obtain rfl : args = #[v0, v1, v2, v3, v4, v5, v6] := by cases args; simp_all
  obtain ⟨rfl, rfl⟩ := trodVars_none hV
  obtain ⟨a0, rfl, rfl, rfl, w0⟩ := open_int Try.underlying22 (hval 0 22 v0 rfl rfl) h0
  obtain ⟨z1, R1, Z1⟩ := open_RdI (k := .u8) Try.underlying23 Try.underlying5 (by kernel_rfl) (hval 1 23 v1 rfl rfl) h1
  obtain ⟨z2, R2, Z2⟩ := open_RdI (k := .i64) Try.underlying24 Try.underlying2 (by kernel_rfl) (hval 2 24 v2 rfl rfl) h2
  obtain ⟨z3, R3, Z3⟩ := open_RdI (k := .i64) Try.underlying24 Try.underlying2 (by kernel_rfl) (hval 3 24 v3 rfl rfl) h3
  obtain ⟨z4, R4, Z4⟩ := open_RdI (k := .u16) Try.underlying25 Try.underlying22 (by kernel_rfl) (hval 4 25 v4 rfl rfl) h4
  obtain ⟨a5, rfl, rfl, rfl⟩ := open_bool Try.underlying4 (hval 5 4 v5 rfl rfl) h5
  obtain ⟨a6, rfl, rfl, rfl, w6⟩ := open_int Try.underlying3 (hval 6 3 v6 rfl rfl) h6
  clear hA0 hval0 hfz hnd hcnd
  have HC : Calls Try.prog 16 #[.int .u16 a0, v1, v2, v3, v4, .bool a5, .int .i64 a6] W fun e W' => e = .returned (.bool true) ∧ Below W.heap.size W W' := by
    have b0 := bounds_u16 w0
    have b6 := bounds_i64 w6
    have ho := own_lt_ok Try.underlying23 (hval 1 _ _ rfl rfl)
    obtain ⟨n0, hn0⟩ : ∃ n : Nat, a0 = n := ⟨a0.toNat, by omega⟩
    subst hn0
    cases a5
    · exact kjoins_like n0 v1 v2 v3 v4 z1 z2 z3 z4 a6 W (by omega) (rdE_u8 R1) (fun x hx => by have := bounds_u8 (Z1 x hx); omega) ho (rdE_i64 R2) (rdE_i64 R3) (rdE_u16 R4) (fun x hx => by have := bounds_u16 (Z4 x hx); omega) (fun x hx => by have := bounds_i64 (Z2 x hx); omega) (fun x hx => by have := bounds_i64 (Z3 x hx); omega) b6.1 b6.2
    · exact kjoins_unlike n0 v1 v2 v3 v4 z1 z2 z3 z4 a6 W (by omega) (rdE_u8 R1) (fun x hx => by have := bounds_u8 (Z1 x hx); omega) ho (rdE_i64 R2) (rdE_i64 R3) (rdE_u16 R4) (fun x hx => by have := bounds_u16 (Z4 x hx); omega) (fun x hx => by have := bounds_i64 (Z2 x hx); omega) (fun x hx => by have := bounds_i64 (Z3 x hx); omega) b6.1 b6.2
  refine HC.mono fun e W' ⟨he, hb⟩ => ?_
  subst he
  exact ⟨_, rfl, law_post laid_kllwireJoins (by kernel_rfl) rfl (by kernel_rfl) Try.underlying4 hW' rfl hb⟩
/-- The statement. -/
theorem proved_kllwireJoins : Rows.KllwireJoinsSaid :=
  OpenClaim.holds_of_wide 16 Try.f16 rfl rfl rfl rfl rfl rfl rfl ⟨rfl, rfl, rfl, rfl, rfl⟩ rfl rfl rfl rfl rfl (by kernel_rfl) Try.func16 (by kernel_rfl)
    (of_decide_eq_true (by kernel_rfl)) (by unfold Func.isWrapper; first | (rw [if_pos (by decide +kernel)]; kernel_rfl) | (rw [if_neg (by decide +kernel)]; exact ⟨rfl, rfl⟩))
    (fun os started H enc _ => lifted_kllwireJoins os started H enc)
end Go.Proofs.Ytigmncogjbbmhaa
