/- DigestPlain's walk. -/
import Derived.Test.YtedhpkfbobgkgaaDigR
namespace Go.Proofs.Ytedhpkfbobgkgaa
open Go.RowKit Go.Lib

theorem given_ones (l : List Int) (k : Nat) : ∀ m ∈ given l [] k, m.2 = 1 := by
  intro m hm
  obtain ⟨i, _, rfl⟩ := List.mem_map.1 hm
  rfl
theorem sOf_few (l : List Int) : ∀ k : Nat, k ≤ l.length → k ≤ 9 → (sOf 40 l [] k).L = [] ∧ (sOf 40 l [] k).W = given l [] k
  | 0, _, _ => ⟨rfl, rfl⟩
  | k + 1, h, h9 => by
    obtain ⟨h1, h2⟩ := sOf_few l k (by omega) (by omega)
    have hlen := given_length l [] k
    rw [sOf_succ 40 l [] k (by omega), given_succ l [] k (by omega)]
    unfold St.add addL addW
    simp only
    rw [h1, h2, hlen, if_neg (by omega), if_neg (by omega)]
    exact ⟨rfl, rfl⟩
theorem few_list (l : List Int) (h : l.length ≤ 9) : (sOf 40 l [] l.length).L ++ (sOf 40 l [] l.length).W = given l [] l.length := by
  obtain ⟨h1, h2⟩ := sOf_few l l.length (Nat.le_refl _) h
  rw [h1, h2]; rfl
theorem few_prs (l : List Int) (h : l.length ≤ 9) : prs 40 (given l [] l.length) = srt (given l [] l.length) := prs_few (given_ones l _) (by rw [given_length]; exact h)
theorem few_tot (l : List Int) : tot (given l [] l.length) = l.length := by rw [tot_ones _ (given_ones l _), given_length]
theorem ask_mid (l : List Int) (h : l.length ≤ 9) (i : Nat) (hi : i < (srt (given l [] l.length)).length) : askI 40 (sOf 40 l [] l.length) (2 * (i : Int) + 1) (2 * (l.length : Int)) = ((srt (given l [] l.length))[i].1, 0) := by
  have hn : (srt (given l [] l.length)).length = l.length := by rw [srt_length, given_length]
  have e0 : spotI (2 * (i : Int) + 1) (2 * (l.length : Int)) (l.length : Int) = (2 * (i : Int) + 1, 0) := by
    unfold spotI
    rw [if_neg (by omega), if_neg (by omega), if_neg (by omega)]
    have : 2 * (l.length : Int) * (2 * (i : Int) + 1) / (2 * (l.length : Int)) = 2 * (i : Int) + 1 := by
      rw [Int.mul_comm]
      exact Int.mul_ediv_cancel _ (by omega)
    rw [this]
  unfold askI
  rw [few_list l h, few_prs l h, few_tot, e0]
  simp only [if_true]
  congr 1
  unfold atI
  have h1 : ∀ m ∈ srt (given l [] l.length), m.2 = 1 := fun m hm => given_ones l _ m ((mem_srt _ m).1 hm)
  have := walkA_mid (sOf 40 l [] l.length).hi (tot (srt (given l [] l.length))) (srt (given l [] l.length)) 0 ((sOf 40 l [] l.length).lo, 0) i hi h1 (by simp) (by omega)
  rw [Int.zero_add] at this
  exact this

set_option maxRecDepth 100000 in
set_option maxHeartbeats 4000000 in
theorem plain_any (vl : Value) (l : List Int) (w : World) (hl : RdI .i64 w vl l) (bl : ∀ x ∈ l, -9223372036854775808 ≤ x ∧ x ≤ 9223372036854775807) :
    Calls Try.prog 4 #[vl] w fun e w' => e = .returned (.bool true) ∧ Below w.heap.size w w' := by
  obtain ⟨A, ca, rfl, na, ma, fa⟩ := hl.form
  have FA := Lib.hid fa
  have BL := Lib.hid bl
  have hN := l.length
  clear hl fa hN
  by_cases h0 : l.length = 0
  · have hlb : ((l.length : Int) == 0) = true := beq_iff_eq.2 (by omega)
    clear h0
    go_enter Try.func4, Try.ntmps4
    go_wp2_with fail
    refine (alive_any w).mono ?_
    rintro e' w1 ⟨rfl, hb1⟩
    go_wp2_with fail
    go_ret
    exact ⟨rfl, hb1⟩
  · have hlb : ((l.length : Int) == 0) = false := beq_eq_false_iff_ne.2 (by omega)
    have hl0 : 0 < l.length := by omega
    clear h0
    by_cases h9 : 9 < l.length
    · go_enter Try.func4, Try.ntmps4
      go_wp2_with fail
      refine (alive_any w).mono ?_
      rintro e' w1 ⟨rfl, hb1⟩
      go_wp2_with fail
      go_ret
      exact ⟨rfl, hb1⟩
    · have hl9 : l.length ≤ 9 := by omega
      clear h9
      have FT := fun k => sOf_fit (d := 40) (l := l) (n := []) (k := k) bl
      have FT' := Lib.hid FT
      clear FT bl
      go_enter Try.func4, Try.ntmps4
      go_wp2_with fail
      refine (alive_any w).mono ?_
      rintro e' w1 ⟨rfl, hb1⟩
      have hz1 := hb1.size
      go_wp2_with fail
      refine (new_yes 40 w1 (by omega) (by omega)).mono ?_
      rintro e' w2 ⟨g, rfl, hg, hd, hb2⟩
      have hz2 := hb2.size
      have hbw2 : Below w.heap.size w w2 := hb1.trans (hb2.mono hz1)
      have D2 : Hid (DgS w2 g (fun k => k = g) 40 (sOf 40 l [] 0)) := Lib.hid hd
      have hgw : w.heap.size ≤ g := by omega
      clear hd
      go_wp2_with fail
      go_loopg [5, 6] l.length (fun q va i wr => ∃ (j : Nat) (F : Nat → Prop), q = l.length - j ∧ j ≤ l.length ∧ i = .int .i64 j ∧ DgS wr g F 40 (sOf 40 l [] j) ∧ OwnM w.heap.size wr va (given l [] j) ∧ (∀ k, va.ownBlock = some k → ¬ F k) ∧ (∀ k, F k → w.heap.size ≤ k) ∧ Below w.heap.size w wr)
      case atStart => exact ⟨0, _, rfl, Nat.zero_le _, rfl, D2.out, OwnM.nil_ _ _, (fun k e => by cases e), (fun k e => by omega), hbw2⟩
      case round =>
        obtain ⟨j, F, hk, hj, rfl, dg, own, hap, hF, hb⟩ := hrel
        have HK := Lib.hid hk
        have DG := Lib.hid dg
        have OW := Lib.hid own
        have HAP := Lib.hid hap
        have HFF := Lib.hid hF
        have hz := hb.size
        clear hk dg own hap hF
        by_cases hlt : j < l.length
        · obtain ⟨gA, oA, rfl, hgA, e0⟩ := FA.out.at_ hlt
          have hx := BL.out l[j] (List.getElem_mem hlt)
          have HS := Lib.hid (sOf_succ 40 l [] j hlt)
          have HG := Lib.hid (given_succ l [] j hlt)
          have hgl := given_length l [] j
          have FTj := Lib.hid (FT'.out j (by omega) (by omega) (by omega))
          have ht : tot ((sOf 40 l [] j).L ++ (sOf 40 l [] j).W) ≤ 80000 := by rw [sOf_n]; have := (given_tot l [] j).2; omega
          obtain ⟨x, hxe⟩ : ∃ x, l[j] = x := ⟨_, rfl⟩
          rw [hxe] at e0 hx HS HG
          have G0 := Lib.hid e0
          clear hxe e0
          have e1 := (hb.cell (p := ⟨gA, oA + j, none⟩) hgA).trans G0.out
          have HGL : (given l [] j).length + 1 ≤ 1099511627776 := by omega
          clear hgl
          go_wp2_with fail
          refine (addS_any x 1 wr DG.out FTj.out (by omega) hx.1 hx.2 (by omega) (by omega)).mono ?_
          rintro e' w5 ⟨rfl, F', b1, b2, b3⟩
          have hz5 := b3.size
          have hb5 : Below w.heap.size w w5 := hb.trans (b3.base HFF.out hz)
          have e5 := (hb5.cell (p := ⟨gA, oA + j, none⟩) hgA).trans G0.out
          have OW5 := Lib.hid (OW.out.stay fun k e => b3.block k (OW.out.lt k e).2 (HAP.out k e))
          have HAP5 : Hid (∀ k, u5.ownBlock = some k → ¬ F' k) := fun k e h => by
            rcases b1 k h with h1 | h1
            · exact HAP.out k e h1
            · have := (OW.out.lt k e).2; omega
          have HF5 := Lib.hid (sub_base HFF.out b1 hz)
          have DG5 := Lib.hid b2
          clear b1 b2 b3 e1
          go_wp2_with (first
            | (at_builtin
               go_must (refine append_M rfl (.tmp 40) (.tmp 46) rfl w.heap.size u5 (given l [] j) rfl (OW5.out.alloc _) _ [(x, 1)] rfl (RdM.one _ (x, 1)) HGL (by simp only [World.size_alloc]; omega) ?_)
               intro v6 w6 o6 g6 a6
               have hb6 : Below w.heap.size w w6 := (hb5.alloc (by omega) _).grown g6 (by simp only [World.size_alloc]; omega) (fun k hk => (OW5.out.lt k hk).1)
               have O6 := Lib.hid o6
               have DG6 : Hid (DgS w6 g F' 40 (sOf 40 l [] (j + 1))) := by
                 show DgS w6 g F' 40 (sOf 40 l [] (j + 1))
                 rw [HS.out]
                 refine Dg.stay (Dg.keep DG5.out ((Below.refl _ _).alloc (Nat.le_refl _) _)) (fun k hk => g6.block k (by simp only [World.size_alloc]; have := Dg.low DG5.out k hk; omega) (fun e => HAP5.out k e.symm hk)) g6.size
               have HAP6 : Hid (∀ k, v6.ownBlock = some k → ¬ F' k) := fun k e h => by
                 rcases a6 with a | a
                 · exact HAP5.out k (by rw [← a]; exact e) h
                 · rw [a] at e; simp only [World.size_alloc, Option.some.injEq] at e; have := Dg.low DG5.out k h; omega
               clear o6 g6 a6))
          go_roundg (l.length - (j + 1))
          case measure => have := HK.out; omega
          case rel => exact ⟨j + 1, F', rfl, by omega, by go_num, DG6.out, by rw [HG.out]; exact O6.out, HAP6.out, HF5.out, hb6⟩
        · have hjl : j = l.length := by omega
          subst hjl
          obtain ⟨AA, cc, rfl, nn, mm, _⟩ := OW.out.form
          have hgl := given_length l [] l.length
          have hgt := few_tot l
          have HPR : Hid (prs 40 (given l [] l.length) = srt (given l [] l.length)) := few_prs l hl9
          have hok : okL (given l [] l.length) := given_ok BL.out
          have HOK := Lib.hid hok
          have hgl9 : (given l [] l.length).length ≤ 1000000000 := by omega
          have hgt9 : tot (given l [] l.length) ≤ 281474976710656 := by omega
          have HAM := Lib.hid (ask_mid l hl9)
          have HSL := Lib.hid (show (srt (given l [] l.length)).length = l.length by rw [srt_length, given_length])
          have FTl := Lib.hid (FT'.out l.length (by omega) (by omega) (by omega))
          clear hgl hgt hok hlt hj nn
          go_wp2_with fail
          refine (rpressed_any 40 _ (given l [] l.length) wr OW.out.rd HOK.out hgl9 hgt9 (by omega) (by omega)).mono ?_
          rintro e' w5 ⟨v5, rfl, o5, hb5⟩
          have hz5 := hb5.size
          rw [HPR.out] at o5
          have DG5 := Lib.hid (Dg.keep DG.out hb5)
          have hbw5 : Below w.heap.size w w5 := hb.trans (hb5.mono hz)
          generalize srt (given l [] l.length) = T at *
          obtain ⟨A5, c5, rfl, n5, m5, f5⟩ := o5.form
          have F5 := Lib.hid f5
          have hTl : (l.length : Int) = (T.length : Int) := by have := HSL.out; omega
          have hTn : ((T.length : Int) != (l.length : Int)) = false := by simp; omega
          clear o5 f5 hTl
          go_wp2_with fail
          go_loopg [8] l.length (fun q i wr2 => ∃ j : Nat, q = l.length - j ∧ j ≤ l.length ∧ i = .int .i64 j ∧ Below w5.heap.size w5 wr2)
          case atStart => exact ⟨0, rfl, Nat.zero_le _, rfl, Below.refl _ _⟩
          case round =>
            obtain ⟨j, hk, hj, rfl, hb6⟩ := hrel
            have HK := Lib.hid hk
            have hz6 := hb6.size
            clear hk
            by_cases hlt : j < l.length
            · obtain ⟨g7, o7, rfl, hg7, e7, _⟩ := F5.out.at_ (j := j) (by have := HSL.out; omega)
              have C0 := Lib.hid (HAM.out j (by have := HSL.out; omega))
              have hjT : (j : Int) < (T.length : Int) := by have := HSL.out; omega
              obtain ⟨y, hy⟩ : ∃ y, (T[j]'(by have := HSL.out; omega)).1 = y := ⟨_, rfl⟩
              have C0' : Hid (askI 40 (sOf 40 l [] l.length) (2 * (j : Int) + 1) (2 * (l.length : Int)) = (y, 0)) := by rw [← hy]; exact C0.out
              rw [hy] at e7
              have E7 := Lib.hid e7
              clear hy e7 C0
              go_wp2_with fail
              have C1 := at_any (2 * (j : Int) + 1) (2 * (l.length : Int)) wr (Dg.keep DG5.out hb6) FTl.out (by omega) (by omega) (by omega) (by omega)
              rw [C0'.out] at C1
              refine C1.mono ?_
              rintro e' w8 ⟨rfl, hb8⟩
              have hz8 := hb8.size
              have e8 := (hb8.cell (p := ⟨g7, o7 + j * 2, none⟩) (by show g7 < _; omega)).trans ((hb6.cell (p := ⟨g7, o7 + j * 2, none⟩) hg7).trans E7.out)
              clear C1
              go_wp2_with fail
              go_roundg (l.length - (j + 1))
              case measure => have := HK.out; omega
              case rel => exact ⟨j + 1, rfl, by omega, by go_num, hb6.trans (hb8.mono (by omega))⟩
            · go_wp2_with fail
              go_ret
              exact ⟨rfl, hbw5.trans (hb6.mono (by omega))⟩
end Go.Proofs.Ytedhpkfbobgkgaa
