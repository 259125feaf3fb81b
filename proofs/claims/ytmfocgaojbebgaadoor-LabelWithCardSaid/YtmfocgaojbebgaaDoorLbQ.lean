/- cond: a condition's text. Condition: it has at most a million letters. -/
import Derived.Test.YtmfocgaojbebgaaDoorLbO
namespace Go.Proofs.YtmfocgaojbebgaaDoor
open Go.RowKit

theorem idx_t (s : Tx) (c : UInt8) (n : Int) (hn : n = (c.toNat : Int)) (w : World) : Calls Tryd.prog 51 #[.string (bsOf s), .int .u8 n] w fun e w' => e = .returned (.int .i64 (Lib.indexByte s c)) ∧ w = w' := by
  have h := Tryd.strings_IndexByte (bsOf s) n w
  rw [bsOf_data, hn, Int.toNat_natCast, show c.toNat.toUInt8 = c by simp] at h
  rw [hn]
  exact h.mono fun e w' he => ⟨he.1, he.2.symm⟩
def mI (a b : Int) : Int := if 0 ≤ b ∧ (a < 0 ∨ b < a) then b else a
/-- Where the operator stands, or -1. -/
def opI (s : Tx) : Int := mI (mI (Lib.indexByte s 61) (Lib.indexByte s 33)) (Lib.indexByte s 126)
theorem opI_at : ∀ s : Tx, opI s = if opAt s < s.length then (opAt s : Int) else -1
  | [] => by decide
  | x :: s => by
    have ih := opI_at s
    have g1 := Lib.indexByte_ge s 61
    have g2 := Lib.indexByte_ge s 33
    have g3 := Lib.indexByte_ge s 126
    unfold opI mI at *
    simp only [Lib.indexByte, opAt, isOp, List.length_cons]
    by_cases h1 : x = 61
    · subst h1
      simp
      (repeat' split) <;> omega
    by_cases h2 : x = 33
    · subst h2
      simp
      (repeat' split) <;> omega
    by_cases h3 : x = 126
    · subst h3
      simp
      (repeat' split) <;> omega
    · have e1 : (x == 61) = false := by simpa using h1
      have e2 : (x == 33) = false := by simpa using h2
      have e3 : (x == 126) = false := by simpa using h3
      simp only [e1, e2, e3, Bool.or_false, Bool.false_eq_true, if_false, beq_iff_eq]
      generalize Lib.indexByte s 61 = a at *
      generalize Lib.indexByte s 33 = b at *
      generalize Lib.indexByte s 126 = c at *
      generalize opAt s = k at *
      (repeat' split at ih) <;> (repeat' split) <;> omega
/-- What cond answers. -/
def CondP (s : Tx) (w : World) (e : Ending) (w' : World) : Prop := Below w.heap.size w w' ∧ match condT s with
  | some c => e = .returned (.tuple #[.agg #[.string (bsOf c.1), .string (bsOf c.2.1), .string (bsOf c.2.2)], .bool true])
  | none => ∃ a b c : Tx, e = .returned (.tuple #[.agg #[.string (bsOf a), .string (bsOf b), .string (bsOf c)], .bool false])
theorem CondP.no {s : Tx} {w w' : World} (h : condT s = none) (a b c : Tx) (hb : Below w.heap.size w w') : CondP s w (.returned (.tuple #[.agg #[.string (bsOf a), .string (bsOf b), .string (bsOf c)], .bool false])) w' := by
  unfold CondP
  rw [h]
  exact ⟨hb, a, b, c, rfl⟩
theorem CondP.yes {s : Tx} {w w' : World} {c : Cd} (h : condT s = some c) (hb : Below w.heap.size w w') : CondP s w (.returned (.tuple #[.agg #[.string (bsOf c.1), .string (bsOf c.2.1), .string (bsOf c.2.2)], .bool true])) w' := by
  unfold CondP
  rw [h]
  exact ⟨hb, rfl⟩
theorem cutp_yes (t sg : Tx) (w : World) (h : sg.isPrefixOf t = true) : Calls Tryd.prog 52 #[.string (bsOf t), .string (bsOf sg)] w fun e w' => e = .returned (.tuple #[.string (bsOf (t.drop sg.length)), .bool true]) ∧ w = w' := by
  have h1 := Tryd.strings_CutPrefix (bsOf t) (bsOf sg) w
  rw [bsOf_data, bsOf_data] at h1
  unfold Lib.trimPrefix Lib.hasPrefix at h1
  rw [h, if_pos rfl] at h1
  exact h1.mono fun e w' he => ⟨he.1, he.2.symm⟩
theorem cutp_no (t sg : Tx) (w : World) (h : sg.isPrefixOf t = false) : Calls Tryd.prog 52 #[.string (bsOf t), .string (bsOf sg)] w fun e w' => e = .returned (.tuple #[.string (bsOf t), .bool false]) ∧ w = w' := by
  have h1 := Tryd.strings_CutPrefix (bsOf t) (bsOf sg) w
  rw [bsOf_data, bsOf_data] at h1
  unfold Lib.trimPrefix Lib.hasPrefix at h1
  rw [h, if_neg (by simp)] at h1
  exact h1.mono fun e w' he => ⟨he.1, he.2.symm⟩
theorem cell_far (w : World) {R Y : Nat} (h : Y ≠ R) (i o : Nat) (v : Value) : (w.setCell ⟨R, o, none⟩ v).cell? ⟨Y, i, none⟩ = w.cell? ⟨Y, i, none⟩ := World.cell?_of_block (Below.heap_setCell w ⟨R, o, none⟩ v Y h)
theorem sign_hit : ∀ (t : Tx) (n : Nat) (hn : n < signs.length), signs[n].isPrefixOf t = true → signT t = some (signs[n], t.drop signs[n].length) := by
  intro t n hn h
  have hp : signs[n] <+: t := List.isPrefixOf_iff_prefix.1 h
  obtain ⟨v, rfl⟩ := hp
  have : n = 0 ∨ n = 1 ∨ n = 2 ∨ n = 3 := by simp [signs] at hn; omega
  rcases this with rfl | rfl | rfl | rfl <;> rfl
theorem sign_none (t : Tx) (h : ∀ n (hn : n < signs.length), signs[n].isPrefixOf t = false) : signT t = none := by
  have h0 := h 0 (by decide)
  have h1 := h 1 (by decide)
  have h2 := h 2 (by decide)
  have h3 := h 3 (by decide)
  simp only [signs, List.getElem_cons_zero, List.getElem_cons_succ] at h0 h1 h2 h3
  unfold signT
  split
  · simp at h0
  · simp at h1
  · simp at h2
  · simp at h3
  · rfl
set_option maxRecDepth 100000 in
set_option maxHeartbeats 8000000 in
theorem cond_t (s : Tx) (w : World) (_hs : s.length ≤ 1000000) : Calls Tryd.prog 35 #[.string (bsOf s)] w (CondP s w) := by
  have HO := Lib.hid (opI_at s)
  unfold opI at HO
  have g1 := Lib.indexByte_ge s 61
  have g2 := Lib.indexByte_ge s 33
  have g3 := Lib.indexByte_ge s 126
  have I1 := fun w => Lib.hid (idx_t s 61 61 rfl w)
  have I2 := fun w => Lib.hid (idx_t s 33 33 rfl w)
  have I3 := fun w => Lib.hid (idx_t s 126 126 rfl w)
  generalize Lib.indexByte s 61 = i1 at *
  generalize Lib.indexByte s 33 = i2 at *
  generalize Lib.indexByte s 126 = i3 at *
  go_enter Tryd.func35, Tryd.ntmps35
  go_wp2_with fail
  refine (I1 _).out.mono ?_
  rintro e w1 ⟨rfl, rfl⟩
  go_wp2_with fail
  refine (I2 _).out.mono ?_
  rintro e w1 ⟨rfl, rfl⟩
  go_upto_region 3 with fail
  obtain ⟨u, hu⟩ : ∃ u, w.alloc (.cells #[.string ⟨#[]⟩, .string ⟨#[]⟩, .string ⟨#[]⟩] 39) = u := ⟨_, rfl⟩
  rw [hu]
  have HU := Lib.hid hu
  clear hu
  go_cut [25] (fun b wr => b = .bool (decide (0 ≤ i2 ∧ (i1 < 0 ∨ i2 < i1))) ∧ u = wr)
  case first =>
    by_cases a1 : 0 ≤ i2 <;> by_cases a2 : i1 < 0 <;> by_cases a3 : i2 < i1
    all_goals first | (exfalso; omega) | skip
    all_goals
      go_wp2_with fail
      go_meet
      exact ⟨by simp [a1, a2, a3], rfl⟩
  case rest =>
    obtain ⟨rfl, rfl⟩ := hcut
    go_upto_if 25 with fail
    go_cut [4] (fun v wr => v = .int .i64 (mI i1 i2) ∧ u = wr)
    case first =>
      by_cases a1 : 0 ≤ i2 ∧ (i1 < 0 ∨ i2 < i1)
      · have hm : mI i1 i2 = i2 := if_pos a1
        have hd : decide (0 ≤ i2 ∧ (i1 < 0 ∨ i2 < i1)) = true := decide_eq_true a1
        have HM := Lib.hid hm
        have A1 := Lib.hid a1
        clear hm a1
        go_wp2_with fail
        all_goals first
          | (go_meet; exact ⟨by rw [HM.out], rfl⟩)
          | (exfalso; have := A1.out; omega)
      · have hm : mI i1 i2 = i1 := if_neg a1
        have hd : decide (0 ≤ i2 ∧ (i1 < 0 ∨ i2 < i1)) = false := decide_eq_false a1
        have HM := Lib.hid hm
        have A1 := Lib.hid a1
        clear hm a1
        go_wp2_with fail
        all_goals first
          | (go_meet; exact ⟨by rw [HM.out], rfl⟩)
          | (exfalso; have := A1.out; omega)
    case rest =>
      obtain ⟨rfl, rfl⟩ := hcut
      have gm : -1 ≤ mI i1 i2 := by unfold mI; split <;> omega
      generalize mI i1 i2 = i4 at *
      go_wp2_with fail
      refine (I3 _).out.mono ?_
      rintro e w1 ⟨rfl, rfl⟩
      go_upto_region 6 with fail
      go_cut [39] (fun b wr => b = .bool (decide (0 ≤ i3 ∧ (i4 < 0 ∨ i3 < i4))) ∧ u = wr)
      case first =>
        by_cases a1 : 0 ≤ i3 <;> by_cases a2 : i4 < 0 <;> by_cases a3 : i3 < i4
        all_goals first | (exfalso; omega) | skip
        all_goals
          go_wp2_with fail
          go_meet
          exact ⟨by simp [a1, a2, a3], rfl⟩
      case rest =>
        obtain ⟨rfl, rfl⟩ := hcut
        go_upto_if 39 with fail
        go_cut [4] (fun v wr => v = .int .i64 (mI i4 i3) ∧ u = wr)
        case first =>
          by_cases a1 : 0 ≤ i3 ∧ (i4 < 0 ∨ i3 < i4)
          · have hm : mI i4 i3 = i3 := if_pos a1
            have hd : decide (0 ≤ i3 ∧ (i4 < 0 ∨ i3 < i4)) = true := decide_eq_true a1
            have HM := Lib.hid hm
            have A1 := Lib.hid a1
            clear hm a1
            go_wp2_with fail
            all_goals first
              | (go_meet; exact ⟨by rw [HM.out], rfl⟩)
              | (exfalso; have := A1.out; omega)
          · have hm : mI i4 i3 = i4 := if_neg a1
            have hd : decide (0 ≤ i3 ∧ (i4 < 0 ∨ i3 < i4)) = false := decide_eq_false a1
            have HM := Lib.hid hm
            have A1 := Lib.hid a1
            clear hm a1
            go_wp2_with fail
            all_goals first
              | (go_meet; exact ⟨by rw [HM.out], rfl⟩)
              | (exfalso; have := A1.out; omega)
        case rest =>
          obtain ⟨rfl, rfl⟩ := hcut
          rw [HO.out]
          have hu := HU.out
          subst hu
          clear HU
          by_cases hk : opAt s < s.length
          · rw [if_pos hk]
            have hkk : (opAt s : Int) ≤ s.length := by omega
            have HCT : Hid (condT s = match signT (s.drop (opAt s)) with
              | none => none
              | some p => if nameB (s.take (opAt s)) && valueB p.2 then some (s.take (opAt s), p.1, p.2) else none) := Lib.hid rfl
            have et := bsOf_take s
            have ed := bsOf_drop s
            have sz := bsOf_size s
            clear HO hk
            generalize opAt s = k at *
            by_cases hn : nameB (s.take k) = true
            · have HNB := Lib.hid hn
              go_wp2_with fail
              refine (isName_t (s.take k) _).mono ?_
              rintro e w1 ⟨rfl, rfl⟩
              go_wp2_with fail
              refine (operators_t _).mono ?_
              rintro e w3 ⟨h1, h2, rfl, _, _, _, _, hb3⟩
              have hRc0 : (w.alloc (.cells #[.string ⟨#[]⟩, .string ⟨#[]⟩, .string ⟨#[]⟩] 39)).cell? ⟨w.heap.size, 0, none⟩ = some (.string ⟨#[]⟩) := (World.cell?_alloc_new ..).trans rfl
              have hRc1 : (w.alloc (.cells #[.string ⟨#[]⟩, .string ⟨#[]⟩, .string ⟨#[]⟩] 39)).cell? ⟨w.heap.size, 1, none⟩ = some (.string ⟨#[]⟩) := (World.cell?_alloc_new ..).trans rfl
              have hRc2 : (w.alloc (.cells #[.string ⟨#[]⟩, .string ⟨#[]⟩, .string ⟨#[]⟩] 39)).cell? ⟨w.heap.size, 2, none⟩ = some (.string ⟨#[]⟩) := (World.cell?_alloc_new ..).trans rfl
              have hRf : ∀ i, (w.alloc (.cells #[.string ⟨#[]⟩, .string ⟨#[]⟩, .string ⟨#[]⟩] 39)).frozen? ⟨w.heap.size, i, none⟩ = false := fun i => Blk.frozen (Blk.new w _ _) i
              have hsu : w.heap.size < (w.alloc (.cells #[.string ⟨#[]⟩, .string ⟨#[]⟩, .string ⟨#[]⟩] 39)).heap.size := by simp
              have hbu : Below w.heap.size w (w.alloc (.cells #[.string ⟨#[]⟩, .string ⟨#[]⟩, .string ⟨#[]⟩] 39)) := (Below.refl _ _).alloc (Nat.le_refl _) _
              generalize w.alloc (.cells #[.string ⟨#[]⟩, .string ⟨#[]⟩, .string ⟨#[]⟩] 39) = u at *
              have hz3 := hb3.size
              have HW3 : Hid (Below w.heap.size w w3) := Lib.hid (hbu.trans (hb3.mono (by omega)))
              have C0 := Lib.hid ((hb3.cell (p := ⟨w.heap.size, 0, none⟩) hsu).trans hRc0)
              have C1 := Lib.hid ((hb3.cell (p := ⟨w.heap.size, 1, none⟩) hsu).trans hRc1)
              have C2 := Lib.hid ((hb3.cell (p := ⟨w.heap.size, 2, none⟩) hsu).trans hRc2)
              have CF := Lib.hid (fun i => (hb3.frozen (p := ⟨w.heap.size, i, none⟩) hsu).trans (hRf i))
              have hR3 : w.heap.size < w3.heap.size := by omega
              clear hRc0 hRc1 hRc2 hRf hsu hbu hb3 hz3 hn
              go_wp2_with fail
              go_loopg [52] 4 (fun q i w4 => ∃ n : Nat, q = 4 - n ∧ n ≤ 4 ∧ i = .int .i64 n ∧ Hid (∀ m (h : m < signs.length), m < n → signs[m].isPrefixOf (s.drop k) = false) ∧ Hid (Below w3.heap.size w3 w4))
              case atStart => exact ⟨0, rfl, by omega, rfl, Lib.hid (fun m _ h => absurd h (by omega)), Lib.hid (Below.refl _ _)⟩
              case round =>
                obtain ⟨n, hnq, hn4, rfl, HM, HW⟩ := hrel
                have HNQ := Lib.hid hnq
                have hzw := HW.out.size
                clear hnq
                by_cases hn5 : n < 4
                · have HMN : Hid (∀ (hl : n < signs.length), signs[n].isPrefixOf (s.drop k) = false → ∀ m (h : m < signs.length), m < n + 1 → signs[m].isPrefixOf (s.drop k) = false) := Lib.hid (fun hl h0 m h hm => by
                    rcases Nat.lt_or_ge m n with h5 | h5
                    · exact HM.out m h h5
                    · obtain rfl : m = n := by omega
                      exact h0)
                  have hcase : n = 0 ∨ n = 1 ∨ n = 2 ∨ n = 3 := by omega
                  rcases hcase with rfl | rfl | rfl | rfl
                  · have hi := opsF_0 h1 h2
                    by_cases hp : ([33, 61] : Tx).isPrefixOf (s.drop k) = true
                    · obtain ⟨vv, hvv⟩ : ∃ vv, (s.drop k).drop ([33, 61] : Tx).length = vv := ⟨_, rfl⟩
                      have CP : ∀ w, Hid (Calls Tryd.prog 52 #[.string (bsOf (s.drop k)), .string (bsOf [33, 61])] w fun e w' => e = .returned (.tuple #[.string (bsOf vv), .bool true]) ∧ w = w') := fun w => Lib.hid (by rw [← hvv]; exact cutp_yes (s.drop k) [33, 61] w hp)
                      have HSG : Hid (signT (s.drop k) = some ([33, 61], vv)) := Lib.hid (by rw [← hvv]; exact sign_hit (s.drop k) 0 (by decide) hp)
                      have hYR : wr.heap.size ≠ w.heap.size := by omega
                      clear hp hvv
                      go_wp2_with fail
                      have bw : Below wr.heap.size wr (wr.alloc (.cells #[.string ⟨#[33, 61]⟩, .func (.func 54) #[] #[.pointer (some ⟨h1, 0, none⟩)]] 69)) := (Below.refl _ _).alloc (Nat.le_refl _) _
                      have f0 : (wr.alloc (.cells #[.string ⟨#[33, 61]⟩, .func (.func 54) #[] #[.pointer (some ⟨h1, 0, none⟩)]] 69)).cell? ⟨wr.heap.size, 0, none⟩ = some (.string ⟨#[33, 61]⟩) := (World.cell?_alloc_new ..).trans rfl
                      have hzf : wr.heap.size < (wr.alloc (.cells #[.string ⟨#[33, 61]⟩, .func (.func 54) #[] #[.pointer (some ⟨h1, 0, none⟩)]] 69)).heap.size := by simp
                      have HW5 : Hid (Below w3.heap.size w3 (wr.alloc (.cells #[.string ⟨#[33, 61]⟩, .func (.func 54) #[] #[.pointer (some ⟨h1, 0, none⟩)]] 69))) := Lib.hid (HW.out.trans (bw.mono hzw))
                      have FF := Lib.hid f0
                      clear f0 hi
                      generalize (wr.alloc (.cells #[.string ⟨#[33, 61]⟩, .func (.func 54) #[] #[.pointer (some ⟨h1, 0, none⟩)]] 69)) = w5 at *
                      generalize wr.heap.size = Y at *
                      clear bw HW
                      refine wp_region_plan (fun w' => Below w5.heap.size w5 w') [(0, true), (1, true), (2, true), (3, true), (4, true), (5, false), (6, true), (7, true), (8, true), (9, true), (10, true)] (by kernel_rfl) (by kernel_rfl) ((Below.refl _ _).drew) ?_
                      iterate 5
                        refine wpPlan_read (by rfl) (by rfl) (fun R hR => ?_)
                        apply Exists.intro
                        refine ⟨fun w' hS' => ?_, ?_⟩
                        · have kf := (hS'.cell (p := ⟨Y, 0, none⟩) hzf).trans FF.out
                          go_simp
                          exact ⟨rfl, rfl⟩
                        go_simp
                        refine hR _ ?_
                        clear hR R
                      refine wpPlan_do (by rfl) (by rfl) (fun K hK => ?_)
                      go_simp
                      refine (CP _).out.mono ?_
                      rintro e w6 ⟨rfl, hw6⟩
                      subst hw6
                      refine hK _ _ ((Below.refl _ _).drew) ?_
                      clear hK K
                      iterate 5
                        refine wpPlan_read (by rfl) (by rfl) (fun R hR => ?_)
                        apply Exists.intro
                        refine ⟨fun w' hS' => ?_, ?_⟩
                        · have kf := (hS'.cell (p := ⟨Y, 0, none⟩) hzf).trans FF.out
                          go_simp
                          exact ⟨rfl, rfl⟩
                        go_simp
                        refine hR _ ?_
                        clear hR R
                      refine wpPlan_nil ?_
                      clear CP
                      go_wp2_with fail
                      have HW8 : Hid (Below w3.heap.size w3 w5.drew) := Lib.hid HW5.out.drew
                      have FF8 : Hid (w5.drew.cell? ⟨Y, 0, none⟩ = some (.string ⟨#[33, 61]⟩)) := Lib.hid FF.out
                      clear HW5 FF hzf
                      generalize w5.drew = w8 at *
                      have d0 := Lib.hid ((HW8.out.cell (p := ⟨w.heap.size, 0, none⟩) hR3).trans C0.out)
                      have d1 := Lib.hid ((HW8.out.cell (p := ⟨w.heap.size, 1, none⟩) hR3).trans C1.out)
                      have d2 := Lib.hid ((HW8.out.cell (p := ⟨w.heap.size, 2, none⟩) hR3).trans C2.out)
                      have f0 := Lib.hid ((HW8.out.frozen (p := ⟨w.heap.size, 0, none⟩) hR3).trans (CF.out 0))
                      have f1 := Lib.hid ((HW8.out.frozen (p := ⟨w.heap.size, 1, none⟩) hR3).trans (CF.out 1))
                      have f2 := Lib.hid ((HW8.out.frozen (p := ⟨w.heap.size, 2, none⟩) hR3).trans (CF.out 2))
                      have HB8 : Hid (Below w.heap.size w w8) := Lib.hid (HW3.out.trans (HW8.out.mono (by have := HW3.out.size; omega)))
                      refine wp_region_plan (fun w' => w'.cell? ⟨Y, 0, none⟩ = some (.string ⟨#[33, 61]⟩)) [(0, true), (1, true), (2, true), (3, true), (4, true), (5, true), (6, true), (7, true), (8, false), (9, false), (10, true)] (by kernel_rfl) (by kernel_rfl) (FF8.out) ?_
                      iterate 8
                        refine wpPlan_read (by rfl) (by rfl) (fun R hR => ?_)
                        apply Exists.intro
                        refine ⟨fun w' hS' => ?_, ?_⟩
                        · have kf := hS'
                          go_simp
                          exact ⟨rfl, rfl⟩
                        go_simp
                        refine hR _ ?_
                        clear hR R
                      refine wpPlan_do (by rfl) (by rfl) (fun K hK => ?_)
                      go_simp
                      refine (isValue_t vv _).mono ?_
                      rintro e w9 ⟨rfl, hw9⟩
                      subst hw9
                      refine hK _ _ (FF8.out) ?_
                      clear hK K
                      refine wpPlan_do (by rfl) (by rfl) (fun K hK => ?_)
                      have c0 := d0.out
                      have c1 := d1.out
                      have c2 := d2.out
                      have g0 := f0.out
                      have g1' := f1.out
                      have g2' := f2.out
                      go_simp
                      refine hK _ _ (((cell_far _ hYR _ _ _).trans ((cell_far _ hYR _ _ _).trans (cell_far _ hYR _ _ _))).trans FF8.out) ?_
                      clear hK K
                      iterate 1
                        refine wpPlan_read (by rfl) (by rfl) (fun R hR => ?_)
                        apply Exists.intro
                        refine ⟨fun w' hS' => ?_, ?_⟩
                        · have kf := hS'
                          go_simp
                          exact ⟨rfl, rfl⟩
                        go_simp
                        refine hR _ ?_
                        clear hR R
                      refine wpPlan_nil ?_
                      go_wp2_with fail
                      refine bodyPost_ret (v := .tuple #[.agg #[.string (bsOf (s.take k)), .string ⟨#[33, 61]⟩, .string (bsOf vv)], .bool (valueB vv)]) (by simp [results, Tryd.results35, go_sem, c0, c1, c2]) rfl ?_
                      cases hv : valueB vv with
                      | true => exact CondP.yes (c := (s.take k, [33, 61], vv)) (by rw [HCT.out, HSG.out]; simp [HNB.out, hv]) ((((HB8.out.setCell (p := ⟨w.heap.size, 0, none⟩) (Nat.le_refl _) _).setCell (p := ⟨w.heap.size, 1, none⟩) (Nat.le_refl _) _).setCell (p := ⟨w.heap.size, 2, none⟩) (Nat.le_refl _) _).drew)
                      | false => exact CondP.no (by rw [HCT.out, HSG.out]; simp [hv]) (s.take k) [33, 61] vv ((((HB8.out.setCell (p := ⟨w.heap.size, 0, none⟩) (Nat.le_refl _) _).setCell (p := ⟨w.heap.size, 1, none⟩) (Nat.le_refl _) _).setCell (p := ⟨w.heap.size, 2, none⟩) (Nat.le_refl _) _).drew)
                    · have hp' : ([33, 61] : Tx).isPrefixOf (s.drop k) = false := by rw [Bool.not_eq_true] at hp; exact hp
                      have CP := fun w => Lib.hid (cutp_no (s.drop k) [33, 61] w hp')
                      have HN2 := Lib.hid (HMN.out (by decide) hp')
                      clear hp hp'
                      go_wp2_with fail
                      have bw : Below wr.heap.size wr (wr.alloc (.cells #[.string ⟨#[33, 61]⟩, .func (.func 54) #[] #[.pointer (some ⟨h1, 0, none⟩)]] 69)) := (Below.refl _ _).alloc (Nat.le_refl _) _
                      have f0 : (wr.alloc (.cells #[.string ⟨#[33, 61]⟩, .func (.func 54) #[] #[.pointer (some ⟨h1, 0, none⟩)]] 69)).cell? ⟨wr.heap.size, 0, none⟩ = some (.string ⟨#[33, 61]⟩) := (World.cell?_alloc_new ..).trans rfl
                      have hzf : wr.heap.size < (wr.alloc (.cells #[.string ⟨#[33, 61]⟩, .func (.func 54) #[] #[.pointer (some ⟨h1, 0, none⟩)]] 69)).heap.size := by simp
                      have HW5 : Hid (Below w3.heap.size w3 (wr.alloc (.cells #[.string ⟨#[33, 61]⟩, .func (.func 54) #[] #[.pointer (some ⟨h1, 0, none⟩)]] 69))) := Lib.hid (HW.out.trans (bw.mono hzw))
                      have FF := Lib.hid f0
                      clear f0 hi
                      generalize (wr.alloc (.cells #[.string ⟨#[33, 61]⟩, .func (.func 54) #[] #[.pointer (some ⟨h1, 0, none⟩)]] 69)) = w5 at *
                      generalize wr.heap.size = Y at *
                      clear bw HW
                      refine wp_region_plan (fun w' => Below w5.heap.size w5 w') [(0, true), (1, true), (2, true), (3, true), (4, true), (5, false), (6, true), (7, true), (8, true), (9, true), (10, true)] (by kernel_rfl) (by kernel_rfl) ((Below.refl _ _).drew) ?_
                      iterate 5
                        refine wpPlan_read (by rfl) (by rfl) (fun R hR => ?_)
                        apply Exists.intro
                        refine ⟨fun w' hS' => ?_, ?_⟩
                        · have kf := (hS'.cell (p := ⟨Y, 0, none⟩) hzf).trans FF.out
                          go_simp
                          exact ⟨rfl, rfl⟩
                        go_simp
                        refine hR _ ?_
                        clear hR R
                      refine wpPlan_do (by rfl) (by rfl) (fun K hK => ?_)
                      go_simp
                      refine (CP _).out.mono ?_
                      rintro e w6 ⟨rfl, hw6⟩
                      subst hw6
                      refine hK _ _ ((Below.refl _ _).drew) ?_
                      clear hK K
                      iterate 5
                        refine wpPlan_read (by rfl) (by rfl) (fun R hR => ?_)
                        apply Exists.intro
                        refine ⟨fun w' hS' => ?_, ?_⟩
                        · have kf := (hS'.cell (p := ⟨Y, 0, none⟩) hzf).trans FF.out
                          go_simp
                          exact ⟨rfl, rfl⟩
                        go_simp
                        refine hR _ ?_
                        clear hR R
                      refine wpPlan_nil ?_
                      clear CP
                      go_wp2_with fail
                      go_roundg (4 - (0 + 1))
                      case measure => have := HNQ.out; omega
                      case rel => exact ⟨0 + 1, rfl, by omega, by go_num, HN2, Lib.hid HW5.out.drew⟩
                  · have hi := opsF_1 h1 h2
                    by_cases hp : ([33, 126] : Tx).isPrefixOf (s.drop k) = true
                    · obtain ⟨vv, hvv⟩ : ∃ vv, (s.drop k).drop ([33, 126] : Tx).length = vv := ⟨_, rfl⟩
                      have CP : ∀ w, Hid (Calls Tryd.prog 52 #[.string (bsOf (s.drop k)), .string (bsOf [33, 126])] w fun e w' => e = .returned (.tuple #[.string (bsOf vv), .bool true]) ∧ w = w') := fun w => Lib.hid (by rw [← hvv]; exact cutp_yes (s.drop k) [33, 126] w hp)
                      have HSG : Hid (signT (s.drop k) = some ([33, 126], vv)) := Lib.hid (by rw [← hvv]; exact sign_hit (s.drop k) 1 (by decide) hp)
                      have hYR : wr.heap.size ≠ w.heap.size := by omega
                      clear hp hvv
                      go_wp2_with fail
                      have bw : Below wr.heap.size wr (wr.alloc (.cells #[.string ⟨#[33, 126]⟩, .func (.func 54) #[] #[.pointer (some ⟨h2, 0, none⟩)]] 69)) := (Below.refl _ _).alloc (Nat.le_refl _) _
                      have f0 : (wr.alloc (.cells #[.string ⟨#[33, 126]⟩, .func (.func 54) #[] #[.pointer (some ⟨h2, 0, none⟩)]] 69)).cell? ⟨wr.heap.size, 0, none⟩ = some (.string ⟨#[33, 126]⟩) := (World.cell?_alloc_new ..).trans rfl
                      have hzf : wr.heap.size < (wr.alloc (.cells #[.string ⟨#[33, 126]⟩, .func (.func 54) #[] #[.pointer (some ⟨h2, 0, none⟩)]] 69)).heap.size := by simp
                      have HW5 : Hid (Below w3.heap.size w3 (wr.alloc (.cells #[.string ⟨#[33, 126]⟩, .func (.func 54) #[] #[.pointer (some ⟨h2, 0, none⟩)]] 69))) := Lib.hid (HW.out.trans (bw.mono hzw))
                      have FF := Lib.hid f0
                      clear f0 hi
                      generalize (wr.alloc (.cells #[.string ⟨#[33, 126]⟩, .func (.func 54) #[] #[.pointer (some ⟨h2, 0, none⟩)]] 69)) = w5 at *
                      generalize wr.heap.size = Y at *
                      clear bw HW
                      refine wp_region_plan (fun w' => Below w5.heap.size w5 w') [(0, true), (1, true), (2, true), (3, true), (4, true), (5, false), (6, true), (7, true), (8, true), (9, true), (10, true)] (by kernel_rfl) (by kernel_rfl) ((Below.refl _ _).drew) ?_
                      iterate 5
                        refine wpPlan_read (by rfl) (by rfl) (fun R hR => ?_)
                        apply Exists.intro
                        refine ⟨fun w' hS' => ?_, ?_⟩
                        · have kf := (hS'.cell (p := ⟨Y, 0, none⟩) hzf).trans FF.out
                          go_simp
                          exact ⟨rfl, rfl⟩
                        go_simp
                        refine hR _ ?_
                        clear hR R
                      refine wpPlan_do (by rfl) (by rfl) (fun K hK => ?_)
                      go_simp
                      refine (CP _).out.mono ?_
                      rintro e w6 ⟨rfl, hw6⟩
                      subst hw6
                      refine hK _ _ ((Below.refl _ _).drew) ?_
                      clear hK K
                      iterate 5
                        refine wpPlan_read (by rfl) (by rfl) (fun R hR => ?_)
                        apply Exists.intro
                        refine ⟨fun w' hS' => ?_, ?_⟩
                        · have kf := (hS'.cell (p := ⟨Y, 0, none⟩) hzf).trans FF.out
                          go_simp
                          exact ⟨rfl, rfl⟩
                        go_simp
                        refine hR _ ?_
                        clear hR R
                      refine wpPlan_nil ?_
                      clear CP
                      go_wp2_with fail
                      have HW8 : Hid (Below w3.heap.size w3 w5.drew) := Lib.hid HW5.out.drew
                      have FF8 : Hid (w5.drew.cell? ⟨Y, 0, none⟩ = some (.string ⟨#[33, 126]⟩)) := Lib.hid FF.out
                      clear HW5 FF hzf
                      generalize w5.drew = w8 at *
                      have d0 := Lib.hid ((HW8.out.cell (p := ⟨w.heap.size, 0, none⟩) hR3).trans C0.out)
                      have d1 := Lib.hid ((HW8.out.cell (p := ⟨w.heap.size, 1, none⟩) hR3).trans C1.out)
                      have d2 := Lib.hid ((HW8.out.cell (p := ⟨w.heap.size, 2, none⟩) hR3).trans C2.out)
                      have f0 := Lib.hid ((HW8.out.frozen (p := ⟨w.heap.size, 0, none⟩) hR3).trans (CF.out 0))
                      have f1 := Lib.hid ((HW8.out.frozen (p := ⟨w.heap.size, 1, none⟩) hR3).trans (CF.out 1))
                      have f2 := Lib.hid ((HW8.out.frozen (p := ⟨w.heap.size, 2, none⟩) hR3).trans (CF.out 2))
                      have HB8 : Hid (Below w.heap.size w w8) := Lib.hid (HW3.out.trans (HW8.out.mono (by have := HW3.out.size; omega)))
                      refine wp_region_plan (fun w' => w'.cell? ⟨Y, 0, none⟩ = some (.string ⟨#[33, 126]⟩)) [(0, true), (1, true), (2, true), (3, true), (4, true), (5, true), (6, true), (7, true), (8, false), (9, false), (10, true)] (by kernel_rfl) (by kernel_rfl) (FF8.out) ?_
                      iterate 8
                        refine wpPlan_read (by rfl) (by rfl) (fun R hR => ?_)
                        apply Exists.intro
                        refine ⟨fun w' hS' => ?_, ?_⟩
                        · have kf := hS'
                          go_simp
                          exact ⟨rfl, rfl⟩
                        go_simp
                        refine hR _ ?_
                        clear hR R
                      refine wpPlan_do (by rfl) (by rfl) (fun K hK => ?_)
                      go_simp
                      refine (isValue_t vv _).mono ?_
                      rintro e w9 ⟨rfl, hw9⟩
                      subst hw9
                      refine hK _ _ (FF8.out) ?_
                      clear hK K
                      refine wpPlan_do (by rfl) (by rfl) (fun K hK => ?_)
                      have c0 := d0.out
                      have c1 := d1.out
                      have c2 := d2.out
                      have g0 := f0.out
                      have g1' := f1.out
                      have g2' := f2.out
                      go_simp
                      refine hK _ _ (((cell_far _ hYR _ _ _).trans ((cell_far _ hYR _ _ _).trans (cell_far _ hYR _ _ _))).trans FF8.out) ?_
                      clear hK K
                      iterate 1
                        refine wpPlan_read (by rfl) (by rfl) (fun R hR => ?_)
                        apply Exists.intro
                        refine ⟨fun w' hS' => ?_, ?_⟩
                        · have kf := hS'
                          go_simp
                          exact ⟨rfl, rfl⟩
                        go_simp
                        refine hR _ ?_
                        clear hR R
                      refine wpPlan_nil ?_
                      go_wp2_with fail
                      refine bodyPost_ret (v := .tuple #[.agg #[.string (bsOf (s.take k)), .string ⟨#[33, 126]⟩, .string (bsOf vv)], .bool (valueB vv)]) (by simp [results, Tryd.results35, go_sem, c0, c1, c2]) rfl ?_
                      cases hv : valueB vv with
                      | true => exact CondP.yes (c := (s.take k, [33, 126], vv)) (by rw [HCT.out, HSG.out]; simp [HNB.out, hv]) ((((HB8.out.setCell (p := ⟨w.heap.size, 0, none⟩) (Nat.le_refl _) _).setCell (p := ⟨w.heap.size, 1, none⟩) (Nat.le_refl _) _).setCell (p := ⟨w.heap.size, 2, none⟩) (Nat.le_refl _) _).drew)
                      | false => exact CondP.no (by rw [HCT.out, HSG.out]; simp [hv]) (s.take k) [33, 126] vv ((((HB8.out.setCell (p := ⟨w.heap.size, 0, none⟩) (Nat.le_refl _) _).setCell (p := ⟨w.heap.size, 1, none⟩) (Nat.le_refl _) _).setCell (p := ⟨w.heap.size, 2, none⟩) (Nat.le_refl _) _).drew)
                    · have hp' : ([33, 126] : Tx).isPrefixOf (s.drop k) = false := by rw [Bool.not_eq_true] at hp; exact hp
                      have CP := fun w => Lib.hid (cutp_no (s.drop k) [33, 126] w hp')
                      have HN2 := Lib.hid (HMN.out (by decide) hp')
                      clear hp hp'
                      go_wp2_with fail
                      have bw : Below wr.heap.size wr (wr.alloc (.cells #[.string ⟨#[33, 126]⟩, .func (.func 54) #[] #[.pointer (some ⟨h2, 0, none⟩)]] 69)) := (Below.refl _ _).alloc (Nat.le_refl _) _
                      have f0 : (wr.alloc (.cells #[.string ⟨#[33, 126]⟩, .func (.func 54) #[] #[.pointer (some ⟨h2, 0, none⟩)]] 69)).cell? ⟨wr.heap.size, 0, none⟩ = some (.string ⟨#[33, 126]⟩) := (World.cell?_alloc_new ..).trans rfl
                      have hzf : wr.heap.size < (wr.alloc (.cells #[.string ⟨#[33, 126]⟩, .func (.func 54) #[] #[.pointer (some ⟨h2, 0, none⟩)]] 69)).heap.size := by simp
                      have HW5 : Hid (Below w3.heap.size w3 (wr.alloc (.cells #[.string ⟨#[33, 126]⟩, .func (.func 54) #[] #[.pointer (some ⟨h2, 0, none⟩)]] 69))) := Lib.hid (HW.out.trans (bw.mono hzw))
                      have FF := Lib.hid f0
                      clear f0 hi
                      generalize (wr.alloc (.cells #[.string ⟨#[33, 126]⟩, .func (.func 54) #[] #[.pointer (some ⟨h2, 0, none⟩)]] 69)) = w5 at *
                      generalize wr.heap.size = Y at *
                      clear bw HW
                      refine wp_region_plan (fun w' => Below w5.heap.size w5 w') [(0, true), (1, true), (2, true), (3, true), (4, true), (5, false), (6, true), (7, true), (8, true), (9, true), (10, true)] (by kernel_rfl) (by kernel_rfl) ((Below.refl _ _).drew) ?_
                      iterate 5
                        refine wpPlan_read (by rfl) (by rfl) (fun R hR => ?_)
                        apply Exists.intro
                        refine ⟨fun w' hS' => ?_, ?_⟩
                        · have kf := (hS'.cell (p := ⟨Y, 0, none⟩) hzf).trans FF.out
                          go_simp
                          exact ⟨rfl, rfl⟩
                        go_simp
                        refine hR _ ?_
                        clear hR R
                      refine wpPlan_do (by rfl) (by rfl) (fun K hK => ?_)
                      go_simp
                      refine (CP _).out.mono ?_
                      rintro e w6 ⟨rfl, hw6⟩
                      subst hw6
                      refine hK _ _ ((Below.refl _ _).drew) ?_
                      clear hK K
                      iterate 5
                        refine wpPlan_read (by rfl) (by rfl) (fun R hR => ?_)
                        apply Exists.intro
                        refine ⟨fun w' hS' => ?_, ?_⟩
                        · have kf := (hS'.cell (p := ⟨Y, 0, none⟩) hzf).trans FF.out
                          go_simp
                          exact ⟨rfl, rfl⟩
                        go_simp
                        refine hR _ ?_
                        clear hR R
                      refine wpPlan_nil ?_
                      clear CP
                      go_wp2_with fail
                      go_roundg (4 - (1 + 1))
                      case measure => have := HNQ.out; omega
                      case rel => exact ⟨1 + 1, rfl, by omega, by go_num, HN2, Lib.hid HW5.out.drew⟩
                  · have hi := opsF_2 h1 h2
                    by_cases hp : ([61] : Tx).isPrefixOf (s.drop k) = true
                    · obtain ⟨vv, hvv⟩ : ∃ vv, (s.drop k).drop ([61] : Tx).length = vv := ⟨_, rfl⟩
                      have CP : ∀ w, Hid (Calls Tryd.prog 52 #[.string (bsOf (s.drop k)), .string (bsOf [61])] w fun e w' => e = .returned (.tuple #[.string (bsOf vv), .bool true]) ∧ w = w') := fun w => Lib.hid (by rw [← hvv]; exact cutp_yes (s.drop k) [61] w hp)
                      have HSG : Hid (signT (s.drop k) = some ([61], vv)) := Lib.hid (by rw [← hvv]; exact sign_hit (s.drop k) 2 (by decide) hp)
                      have hYR : wr.heap.size ≠ w.heap.size := by omega
                      clear hp hvv
                      go_wp2_with fail
                      have bw : Below wr.heap.size wr (wr.alloc (.cells #[.string ⟨#[61]⟩, .func (.func 55) #[] #[]] 69)) := (Below.refl _ _).alloc (Nat.le_refl _) _
                      have f0 : (wr.alloc (.cells #[.string ⟨#[61]⟩, .func (.func 55) #[] #[]] 69)).cell? ⟨wr.heap.size, 0, none⟩ = some (.string ⟨#[61]⟩) := (World.cell?_alloc_new ..).trans rfl
                      have hzf : wr.heap.size < (wr.alloc (.cells #[.string ⟨#[61]⟩, .func (.func 55) #[] #[]] 69)).heap.size := by simp
                      have HW5 : Hid (Below w3.heap.size w3 (wr.alloc (.cells #[.string ⟨#[61]⟩, .func (.func 55) #[] #[]] 69))) := Lib.hid (HW.out.trans (bw.mono hzw))
                      have FF := Lib.hid f0
                      clear f0 hi
                      generalize (wr.alloc (.cells #[.string ⟨#[61]⟩, .func (.func 55) #[] #[]] 69)) = w5 at *
                      generalize wr.heap.size = Y at *
                      clear bw HW
                      refine wp_region_plan (fun w' => Below w5.heap.size w5 w') [(0, true), (1, true), (2, true), (3, true), (4, true), (5, false), (6, true), (7, true), (8, true), (9, true), (10, true)] (by kernel_rfl) (by kernel_rfl) ((Below.refl _ _).drew) ?_
                      iterate 5
                        refine wpPlan_read (by rfl) (by rfl) (fun R hR => ?_)
                        apply Exists.intro
                        refine ⟨fun w' hS' => ?_, ?_⟩
                        · have kf := (hS'.cell (p := ⟨Y, 0, none⟩) hzf).trans FF.out
                          go_simp
                          exact ⟨rfl, rfl⟩
                        go_simp
                        refine hR _ ?_
                        clear hR R
                      refine wpPlan_do (by rfl) (by rfl) (fun K hK => ?_)
                      go_simp
                      refine (CP _).out.mono ?_
                      rintro e w6 ⟨rfl, hw6⟩
                      subst hw6
                      refine hK _ _ ((Below.refl _ _).drew) ?_
                      clear hK K
                      iterate 5
                        refine wpPlan_read (by rfl) (by rfl) (fun R hR => ?_)
                        apply Exists.intro
                        refine ⟨fun w' hS' => ?_, ?_⟩
                        · have kf := (hS'.cell (p := ⟨Y, 0, none⟩) hzf).trans FF.out
                          go_simp
                          exact ⟨rfl, rfl⟩
                        go_simp
                        refine hR _ ?_
                        clear hR R
                      refine wpPlan_nil ?_
                      clear CP
                      go_wp2_with fail
                      have HW8 : Hid (Below w3.heap.size w3 w5.drew) := Lib.hid HW5.out.drew
                      have FF8 : Hid (w5.drew.cell? ⟨Y, 0, none⟩ = some (.string ⟨#[61]⟩)) := Lib.hid FF.out
                      clear HW5 FF hzf
                      generalize w5.drew = w8 at *
                      have d0 := Lib.hid ((HW8.out.cell (p := ⟨w.heap.size, 0, none⟩) hR3).trans C0.out)
                      have d1 := Lib.hid ((HW8.out.cell (p := ⟨w.heap.size, 1, none⟩) hR3).trans C1.out)
                      have d2 := Lib.hid ((HW8.out.cell (p := ⟨w.heap.size, 2, none⟩) hR3).trans C2.out)
                      have f0 := Lib.hid ((HW8.out.frozen (p := ⟨w.heap.size, 0, none⟩) hR3).trans (CF.out 0))
                      have f1 := Lib.hid ((HW8.out.frozen (p := ⟨w.heap.size, 1, none⟩) hR3).trans (CF.out 1))
                      have f2 := Lib.hid ((HW8.out.frozen (p := ⟨w.heap.size, 2, none⟩) hR3).trans (CF.out 2))
                      have HB8 : Hid (Below w.heap.size w w8) := Lib.hid (HW3.out.trans (HW8.out.mono (by have := HW3.out.size; omega)))
                      refine wp_region_plan (fun w' => w'.cell? ⟨Y, 0, none⟩ = some (.string ⟨#[61]⟩)) [(0, true), (1, true), (2, true), (3, true), (4, true), (5, true), (6, true), (7, true), (8, false), (9, false), (10, true)] (by kernel_rfl) (by kernel_rfl) (FF8.out) ?_
                      iterate 8
                        refine wpPlan_read (by rfl) (by rfl) (fun R hR => ?_)
                        apply Exists.intro
                        refine ⟨fun w' hS' => ?_, ?_⟩
                        · have kf := hS'
                          go_simp
                          exact ⟨rfl, rfl⟩
                        go_simp
                        refine hR _ ?_
                        clear hR R
                      refine wpPlan_do (by rfl) (by rfl) (fun K hK => ?_)
                      go_simp
                      refine (isValue_t vv _).mono ?_
                      rintro e w9 ⟨rfl, hw9⟩
                      subst hw9
                      refine hK _ _ (FF8.out) ?_
                      clear hK K
                      refine wpPlan_do (by rfl) (by rfl) (fun K hK => ?_)
                      have c0 := d0.out
                      have c1 := d1.out
                      have c2 := d2.out
                      have g0 := f0.out
                      have g1' := f1.out
                      have g2' := f2.out
                      go_simp
                      refine hK _ _ (((cell_far _ hYR _ _ _).trans ((cell_far _ hYR _ _ _).trans (cell_far _ hYR _ _ _))).trans FF8.out) ?_
                      clear hK K
                      iterate 1
                        refine wpPlan_read (by rfl) (by rfl) (fun R hR => ?_)
                        apply Exists.intro
                        refine ⟨fun w' hS' => ?_, ?_⟩
                        · have kf := hS'
                          go_simp
                          exact ⟨rfl, rfl⟩
                        go_simp
                        refine hR _ ?_
                        clear hR R
                      refine wpPlan_nil ?_
                      go_wp2_with fail
                      refine bodyPost_ret (v := .tuple #[.agg #[.string (bsOf (s.take k)), .string ⟨#[61]⟩, .string (bsOf vv)], .bool (valueB vv)]) (by simp [results, Tryd.results35, go_sem, c0, c1, c2]) rfl ?_
                      cases hv : valueB vv with
                      | true => exact CondP.yes (c := (s.take k, [61], vv)) (by rw [HCT.out, HSG.out]; simp [HNB.out, hv]) ((((HB8.out.setCell (p := ⟨w.heap.size, 0, none⟩) (Nat.le_refl _) _).setCell (p := ⟨w.heap.size, 1, none⟩) (Nat.le_refl _) _).setCell (p := ⟨w.heap.size, 2, none⟩) (Nat.le_refl _) _).drew)
                      | false => exact CondP.no (by rw [HCT.out, HSG.out]; simp [hv]) (s.take k) [61] vv ((((HB8.out.setCell (p := ⟨w.heap.size, 0, none⟩) (Nat.le_refl _) _).setCell (p := ⟨w.heap.size, 1, none⟩) (Nat.le_refl _) _).setCell (p := ⟨w.heap.size, 2, none⟩) (Nat.le_refl _) _).drew)
                    · have hp' : ([61] : Tx).isPrefixOf (s.drop k) = false := by rw [Bool.not_eq_true] at hp; exact hp
                      have CP := fun w => Lib.hid (cutp_no (s.drop k) [61] w hp')
                      have HN2 := Lib.hid (HMN.out (by decide) hp')
                      clear hp hp'
                      go_wp2_with fail
                      have bw : Below wr.heap.size wr (wr.alloc (.cells #[.string ⟨#[61]⟩, .func (.func 55) #[] #[]] 69)) := (Below.refl _ _).alloc (Nat.le_refl _) _
                      have f0 : (wr.alloc (.cells #[.string ⟨#[61]⟩, .func (.func 55) #[] #[]] 69)).cell? ⟨wr.heap.size, 0, none⟩ = some (.string ⟨#[61]⟩) := (World.cell?_alloc_new ..).trans rfl
                      have hzf : wr.heap.size < (wr.alloc (.cells #[.string ⟨#[61]⟩, .func (.func 55) #[] #[]] 69)).heap.size := by simp
                      have HW5 : Hid (Below w3.heap.size w3 (wr.alloc (.cells #[.string ⟨#[61]⟩, .func (.func 55) #[] #[]] 69))) := Lib.hid (HW.out.trans (bw.mono hzw))
                      have FF := Lib.hid f0
                      clear f0 hi
                      generalize (wr.alloc (.cells #[.string ⟨#[61]⟩, .func (.func 55) #[] #[]] 69)) = w5 at *
                      generalize wr.heap.size = Y at *
                      clear bw HW
                      refine wp_region_plan (fun w' => Below w5.heap.size w5 w') [(0, true), (1, true), (2, true), (3, true), (4, true), (5, false), (6, true), (7, true), (8, true), (9, true), (10, true)] (by kernel_rfl) (by kernel_rfl) ((Below.refl _ _).drew) ?_
                      iterate 5
                        refine wpPlan_read (by rfl) (by rfl) (fun R hR => ?_)
                        apply Exists.intro
                        refine ⟨fun w' hS' => ?_, ?_⟩
                        · have kf := (hS'.cell (p := ⟨Y, 0, none⟩) hzf).trans FF.out
                          go_simp
                          exact ⟨rfl, rfl⟩
                        go_simp
                        refine hR _ ?_
                        clear hR R
                      refine wpPlan_do (by rfl) (by rfl) (fun K hK => ?_)
                      go_simp
                      refine (CP _).out.mono ?_
                      rintro e w6 ⟨rfl, hw6⟩
                      subst hw6
                      refine hK _ _ ((Below.refl _ _).drew) ?_
                      clear hK K
                      iterate 5
                        refine wpPlan_read (by rfl) (by rfl) (fun R hR => ?_)
                        apply Exists.intro
                        refine ⟨fun w' hS' => ?_, ?_⟩
                        · have kf := (hS'.cell (p := ⟨Y, 0, none⟩) hzf).trans FF.out
                          go_simp
                          exact ⟨rfl, rfl⟩
                        go_simp
                        refine hR _ ?_
                        clear hR R
                      refine wpPlan_nil ?_
                      clear CP
                      go_wp2_with fail
                      go_roundg (4 - (2 + 1))
                      case measure => have := HNQ.out; omega
                      case rel => exact ⟨2 + 1, rfl, by omega, by go_num, HN2, Lib.hid HW5.out.drew⟩
                  · have hi := opsF_3 h1 h2
                    by_cases hp : ([126] : Tx).isPrefixOf (s.drop k) = true
                    · obtain ⟨vv, hvv⟩ : ∃ vv, (s.drop k).drop ([126] : Tx).length = vv := ⟨_, rfl⟩
                      have CP : ∀ w, Hid (Calls Tryd.prog 52 #[.string (bsOf (s.drop k)), .string (bsOf [126])] w fun e w' => e = .returned (.tuple #[.string (bsOf vv), .bool true]) ∧ w = w') := fun w => Lib.hid (by rw [← hvv]; exact cutp_yes (s.drop k) [126] w hp)
                      have HSG : Hid (signT (s.drop k) = some ([126], vv)) := Lib.hid (by rw [← hvv]; exact sign_hit (s.drop k) 3 (by decide) hp)
                      have hYR : wr.heap.size ≠ w.heap.size := by omega
                      clear hp hvv
                      go_wp2_with fail
                      have bw : Below wr.heap.size wr (wr.alloc (.cells #[.string ⟨#[126]⟩, .func (.func 56) #[] #[]] 69)) := (Below.refl _ _).alloc (Nat.le_refl _) _
                      have f0 : (wr.alloc (.cells #[.string ⟨#[126]⟩, .func (.func 56) #[] #[]] 69)).cell? ⟨wr.heap.size, 0, none⟩ = some (.string ⟨#[126]⟩) := (World.cell?_alloc_new ..).trans rfl
                      have hzf : wr.heap.size < (wr.alloc (.cells #[.string ⟨#[126]⟩, .func (.func 56) #[] #[]] 69)).heap.size := by simp
                      have HW5 : Hid (Below w3.heap.size w3 (wr.alloc (.cells #[.string ⟨#[126]⟩, .func (.func 56) #[] #[]] 69))) := Lib.hid (HW.out.trans (bw.mono hzw))
                      have FF := Lib.hid f0
                      clear f0 hi
                      generalize (wr.alloc (.cells #[.string ⟨#[126]⟩, .func (.func 56) #[] #[]] 69)) = w5 at *
                      generalize wr.heap.size = Y at *
                      clear bw HW
                      refine wp_region_plan (fun w' => Below w5.heap.size w5 w') [(0, true), (1, true), (2, true), (3, true), (4, true), (5, false), (6, true), (7, true), (8, true), (9, true), (10, true)] (by kernel_rfl) (by kernel_rfl) ((Below.refl _ _).drew) ?_
                      iterate 5
                        refine wpPlan_read (by rfl) (by rfl) (fun R hR => ?_)
                        apply Exists.intro
                        refine ⟨fun w' hS' => ?_, ?_⟩
                        · have kf := (hS'.cell (p := ⟨Y, 0, none⟩) hzf).trans FF.out
                          go_simp
                          exact ⟨rfl, rfl⟩
                        go_simp
                        refine hR _ ?_
                        clear hR R
                      refine wpPlan_do (by rfl) (by rfl) (fun K hK => ?_)
                      go_simp
                      refine (CP _).out.mono ?_
                      rintro e w6 ⟨rfl, hw6⟩
                      subst hw6
                      refine hK _ _ ((Below.refl _ _).drew) ?_
                      clear hK K
                      iterate 5
                        refine wpPlan_read (by rfl) (by rfl) (fun R hR => ?_)
                        apply Exists.intro
                        refine ⟨fun w' hS' => ?_, ?_⟩
                        · have kf := (hS'.cell (p := ⟨Y, 0, none⟩) hzf).trans FF.out
                          go_simp
                          exact ⟨rfl, rfl⟩
                        go_simp
                        refine hR _ ?_
                        clear hR R
                      refine wpPlan_nil ?_
                      clear CP
                      go_wp2_with fail
                      have HW8 : Hid (Below w3.heap.size w3 w5.drew) := Lib.hid HW5.out.drew
                      have FF8 : Hid (w5.drew.cell? ⟨Y, 0, none⟩ = some (.string ⟨#[126]⟩)) := Lib.hid FF.out
                      clear HW5 FF hzf
                      generalize w5.drew = w8 at *
                      have d0 := Lib.hid ((HW8.out.cell (p := ⟨w.heap.size, 0, none⟩) hR3).trans C0.out)
                      have d1 := Lib.hid ((HW8.out.cell (p := ⟨w.heap.size, 1, none⟩) hR3).trans C1.out)
                      have d2 := Lib.hid ((HW8.out.cell (p := ⟨w.heap.size, 2, none⟩) hR3).trans C2.out)
                      have f0 := Lib.hid ((HW8.out.frozen (p := ⟨w.heap.size, 0, none⟩) hR3).trans (CF.out 0))
                      have f1 := Lib.hid ((HW8.out.frozen (p := ⟨w.heap.size, 1, none⟩) hR3).trans (CF.out 1))
                      have f2 := Lib.hid ((HW8.out.frozen (p := ⟨w.heap.size, 2, none⟩) hR3).trans (CF.out 2))
                      have HB8 : Hid (Below w.heap.size w w8) := Lib.hid (HW3.out.trans (HW8.out.mono (by have := HW3.out.size; omega)))
                      refine wp_region_plan (fun w' => w'.cell? ⟨Y, 0, none⟩ = some (.string ⟨#[126]⟩)) [(0, true), (1, true), (2, true), (3, true), (4, true), (5, true), (6, true), (7, true), (8, false), (9, false), (10, true)] (by kernel_rfl) (by kernel_rfl) (FF8.out) ?_
                      iterate 8
                        refine wpPlan_read (by rfl) (by rfl) (fun R hR => ?_)
                        apply Exists.intro
                        refine ⟨fun w' hS' => ?_, ?_⟩
                        · have kf := hS'
                          go_simp
                          exact ⟨rfl, rfl⟩
                        go_simp
                        refine hR _ ?_
                        clear hR R
                      refine wpPlan_do (by rfl) (by rfl) (fun K hK => ?_)
                      go_simp
                      refine (isValue_t vv _).mono ?_
                      rintro e w9 ⟨rfl, hw9⟩
                      subst hw9
                      refine hK _ _ (FF8.out) ?_
                      clear hK K
                      refine wpPlan_do (by rfl) (by rfl) (fun K hK => ?_)
                      have c0 := d0.out
                      have c1 := d1.out
                      have c2 := d2.out
                      have g0 := f0.out
                      have g1' := f1.out
                      have g2' := f2.out
                      go_simp
                      refine hK _ _ (((cell_far _ hYR _ _ _).trans ((cell_far _ hYR _ _ _).trans (cell_far _ hYR _ _ _))).trans FF8.out) ?_
                      clear hK K
                      iterate 1
                        refine wpPlan_read (by rfl) (by rfl) (fun R hR => ?_)
                        apply Exists.intro
                        refine ⟨fun w' hS' => ?_, ?_⟩
                        · have kf := hS'
                          go_simp
                          exact ⟨rfl, rfl⟩
                        go_simp
                        refine hR _ ?_
                        clear hR R
                      refine wpPlan_nil ?_
                      go_wp2_with fail
                      refine bodyPost_ret (v := .tuple #[.agg #[.string (bsOf (s.take k)), .string ⟨#[126]⟩, .string (bsOf vv)], .bool (valueB vv)]) (by simp [results, Tryd.results35, go_sem, c0, c1, c2]) rfl ?_
                      cases hv : valueB vv with
                      | true => exact CondP.yes (c := (s.take k, [126], vv)) (by rw [HCT.out, HSG.out]; simp [HNB.out, hv]) ((((HB8.out.setCell (p := ⟨w.heap.size, 0, none⟩) (Nat.le_refl _) _).setCell (p := ⟨w.heap.size, 1, none⟩) (Nat.le_refl _) _).setCell (p := ⟨w.heap.size, 2, none⟩) (Nat.le_refl _) _).drew)
                      | false => exact CondP.no (by rw [HCT.out, HSG.out]; simp [hv]) (s.take k) [126] vv ((((HB8.out.setCell (p := ⟨w.heap.size, 0, none⟩) (Nat.le_refl _) _).setCell (p := ⟨w.heap.size, 1, none⟩) (Nat.le_refl _) _).setCell (p := ⟨w.heap.size, 2, none⟩) (Nat.le_refl _) _).drew)
                    · have hp' : ([126] : Tx).isPrefixOf (s.drop k) = false := by rw [Bool.not_eq_true] at hp; exact hp
                      have CP := fun w => Lib.hid (cutp_no (s.drop k) [126] w hp')
                      have HN2 := Lib.hid (HMN.out (by decide) hp')
                      clear hp hp'
                      go_wp2_with fail
                      have bw : Below wr.heap.size wr (wr.alloc (.cells #[.string ⟨#[126]⟩, .func (.func 56) #[] #[]] 69)) := (Below.refl _ _).alloc (Nat.le_refl _) _
                      have f0 : (wr.alloc (.cells #[.string ⟨#[126]⟩, .func (.func 56) #[] #[]] 69)).cell? ⟨wr.heap.size, 0, none⟩ = some (.string ⟨#[126]⟩) := (World.cell?_alloc_new ..).trans rfl
                      have hzf : wr.heap.size < (wr.alloc (.cells #[.string ⟨#[126]⟩, .func (.func 56) #[] #[]] 69)).heap.size := by simp
                      have HW5 : Hid (Below w3.heap.size w3 (wr.alloc (.cells #[.string ⟨#[126]⟩, .func (.func 56) #[] #[]] 69))) := Lib.hid (HW.out.trans (bw.mono hzw))
                      have FF := Lib.hid f0
                      clear f0 hi
                      generalize (wr.alloc (.cells #[.string ⟨#[126]⟩, .func (.func 56) #[] #[]] 69)) = w5 at *
                      generalize wr.heap.size = Y at *
                      clear bw HW
                      refine wp_region_plan (fun w' => Below w5.heap.size w5 w') [(0, true), (1, true), (2, true), (3, true), (4, true), (5, false), (6, true), (7, true), (8, true), (9, true), (10, true)] (by kernel_rfl) (by kernel_rfl) ((Below.refl _ _).drew) ?_
                      iterate 5
                        refine wpPlan_read (by rfl) (by rfl) (fun R hR => ?_)
                        apply Exists.intro
                        refine ⟨fun w' hS' => ?_, ?_⟩
                        · have kf := (hS'.cell (p := ⟨Y, 0, none⟩) hzf).trans FF.out
                          go_simp
                          exact ⟨rfl, rfl⟩
                        go_simp
                        refine hR _ ?_
                        clear hR R
                      refine wpPlan_do (by rfl) (by rfl) (fun K hK => ?_)
                      go_simp
                      refine (CP _).out.mono ?_
                      rintro e w6 ⟨rfl, hw6⟩
                      subst hw6
                      refine hK _ _ ((Below.refl _ _).drew) ?_
                      clear hK K
                      iterate 5
                        refine wpPlan_read (by rfl) (by rfl) (fun R hR => ?_)
                        apply Exists.intro
                        refine ⟨fun w' hS' => ?_, ?_⟩
                        · have kf := (hS'.cell (p := ⟨Y, 0, none⟩) hzf).trans FF.out
                          go_simp
                          exact ⟨rfl, rfl⟩
                        go_simp
                        refine hR _ ?_
                        clear hR R
                      refine wpPlan_nil ?_
                      clear CP
                      go_wp2_with fail
                      go_roundg (4 - (3 + 1))
                      case measure => have := HNQ.out; omega
                      case rel => exact ⟨3 + 1, rfl, by omega, by go_num, HN2, Lib.hid HW5.out.drew⟩
                · have HNO : Hid (condT s = none) := Lib.hid (by
                    rw [HCT.out, sign_none _ (fun m h => HM.out m h (by simp [signs] at h; omega))])
                  have hn6 : n = 4 := by omega
                  subst hn6
                  have c0 := (HW.out.cell (p := ⟨w.heap.size, 0, none⟩) hR3).trans C0.out
                  have c1 := (HW.out.cell (p := ⟨w.heap.size, 1, none⟩) hR3).trans C1.out
                  have c2 := (HW.out.cell (p := ⟨w.heap.size, 2, none⟩) hR3).trans C2.out
                  have f0 := (HW.out.frozen (p := ⟨w.heap.size, 0, none⟩) hR3).trans (CF.out 0)
                  have f1 := (HW.out.frozen (p := ⟨w.heap.size, 1, none⟩) hR3).trans (CF.out 1)
                  have f2 := (HW.out.frozen (p := ⟨w.heap.size, 2, none⟩) hR3).trans (CF.out 2)
                  go_wp2_with fail
                  refine bodyPost_ret (v := .tuple #[.agg #[.string ⟨#[]⟩, .string ⟨#[]⟩, .string ⟨#[]⟩], .bool false]) (by simp [results, Tryd.results35, go_sem, c0, c1, c2]) rfl ?_
                  refine CondP.no HNO.out [] [] [] ?_
                  exact (((HW3.out.trans (HW.out.mono (by have := HW3.out.size; omega))).setCell (p := ⟨w.heap.size, 0, none⟩) (Nat.le_refl _) _).setCell (p := ⟨w.heap.size, 1, none⟩) (Nat.le_refl _) _).setCell (p := ⟨w.heap.size, 2, none⟩) (Nat.le_refl _) _
            · have hn' : nameB (s.take k) = false := by simpa using hn
              have HN : Hid (condT s = none) := Lib.hid (by rw [HCT.out, hn']; split <;> rfl)
              clear hn
              go_wp2_with fail
              refine (isName_t (s.take k) _).mono ?_
              rintro e w1 ⟨rfl, rfl⟩
              go_wp2_with fail
              refine bodyPost_ret (v := .tuple #[.agg #[.string ⟨#[]⟩, .string ⟨#[]⟩, .string ⟨#[]⟩], .bool false]) (by simp [results, Tryd.results35, go_sem]) rfl ?_
              exact CondP.no HN.out [] [] [] (by (repeat' (first | (with_reducible exact Below.refl _ _) | (with_reducible refine Below.alloc ?_ ?_ _) | (with_reducible refine Below.drew ?_) | (with_reducible refine below_drewN ?_ _) | (with_reducible refine Below.setCell ?_ ?_ _) | (with_reducible refine below_of (by assumption) ?_ ?_) | go_size)))
          · rw [if_neg hk]
            have HN : Hid (condT s = none) := Lib.hid (by unfold condT; rw [List.drop_of_length_le (by omega)]; rfl)
            clear hk HO
            go_wp2_with fail
            refine bodyPost_ret (v := .tuple #[.agg #[.string ⟨#[]⟩, .string ⟨#[]⟩, .string ⟨#[]⟩], .bool false]) (by simp [results, Tryd.results35, go_sem]) rfl ?_
            exact CondP.no HN.out [] [] [] (by (repeat' (first | (with_reducible exact Below.refl _ _) | (with_reducible refine Below.alloc ?_ ?_ _) | (with_reducible refine Below.drew ?_) | (with_reducible refine below_drewN ?_ _) | (with_reducible refine Below.setCell ?_ ?_ _) | (with_reducible refine below_of (by assumption) ?_ ?_) | go_size)))
end Go.Proofs.YtmfocgaojbebgaaDoor
