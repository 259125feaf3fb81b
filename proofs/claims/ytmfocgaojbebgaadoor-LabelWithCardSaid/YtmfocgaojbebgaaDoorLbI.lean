/- Parse of the program. Condition: the text is shorter than the model's bound on a search. -/
import Derived.Test.YtmfocgaojbebgaaDoorLbH
namespace Go.Proofs.YtmfocgaojbebgaaDoor
open Go.RowKit

theorem lbInfo : (Tryd.prog.info? 50).map (fun i => (i.zero, i.size, i.bytes)) = some (some (.agg #[.string ⟨#[]⟩, .string ⟨#[]⟩]), 2, 32) := by kernel_rfl
theorem cutL_snoc {ps : List Tx} {j : Nat} (hj : j < ps.length) {acc : List Lb} {x : Lb} (h : cutL (ps.take j) = some acc) (hx : cutE ps[j] = some x) : cutL (ps.take (j + 1)) = some (acc ++ [x]) := by
  unfold cutL at *
  rw [List.take_succ_eq_append_getElem hj, List.mapM_append, h]
  simp [hx]
theorem cutL_bad {ps : List Tx} : ∀ {j : Nat} (_ : j < ps.length), cutE ps[j] = none → cutL ps = none := by
  induction ps with
  | nil => intro j hj; exact absurd hj (by simp)
  | cons p ps ih =>
    intro j hj h
    unfold cutL at *
    rw [List.mapM_cons]
    cases j with
    | zero =>
      have h' : cutE p = none := h
      rw [h']; rfl
    | succ j =>
      have := ih (j := j) (by simpa using hj) h
      rw [this]
      cases cutE p <;> rfl
theorem mapM_len {α β : Type} {f : α → Option β} : ∀ {l : List α} {r : List β}, l.mapM f = some r → r.length = l.length
  | [], r, h => by simp at h; subst h; rfl
  | x :: l, r, h => by
    rw [List.mapM_cons] at h
    cases hx : f x with
    | none => rw [hx] at h; cases h
    | some y =>
      cases hl : l.mapM f with
      | none => rw [hx, hl] at h; cases h
      | some t =>
        rw [hx, hl] at h
        simp only [Option.bind_eq_bind, Option.bind_some, Option.pure_def, Option.some.injEq] at h
        subst h
        simp [mapM_len hl]
theorem cutL_len {ps : List Tx} {l : List Lb} (h : cutL ps = some l) : l.length = ps.length := mapM_len h
/-- What Parse answers. -/
def ParseP (s : Tx) (w : World) (e : Ending) (w' : World) : Prop := Below w.heap.size w w' ∧ match parseT s with
  | some l => ∃ v, e = .returned (.tuple #[v, .int .i64 0]) ∧ OwnE lbE w.heap.size w' v l
  | none => e = .returned (.tuple #[.slice none 0 0, .int .i64 1])
theorem ParseP.no {s : Tx} {w w' : World} (h : parseT s = none) (hb : Below w.heap.size w w') : ParseP s w (.returned (.tuple #[.slice none 0 0, .int .i64 1])) w' := by
  unfold ParseP
  rw [h]
  exact ⟨hb, rfl⟩
theorem ParseP.yes {s : Tx} {w w' : World} {v : Value} {l : List Lb} (h : parseT s = some l) (hb : Below w.heap.size w w') (ho : OwnE lbE w.heap.size w' v l) : ParseP s w (.returned (.tuple #[v, .int .i64 0])) w' := by
  unfold ParseP
  rw [h]
  exact ⟨hb, v, rfl, ho⟩
theorem spl_short {c : UInt8} : ∀ {s p : Tx}, p ∈ spl c s → p.length ≤ s.length
  | [], p, h => by simp [spl] at h; subst h; simp
  | x :: s, p, h => by
    unfold spl at h
    split at h
    · rcases List.mem_cons.1 h with rfl | h
      · simp
      · have := spl_short h; simp only [List.length_cons]; omega
    · split at h
      · simp at h; subst h; simp
      · rename_i q r hq
        rcases List.mem_cons.1 h with rfl | h
        · have := spl_short (s := s) (p := q) (by rw [hq]; simp)
          simp only [List.length_cons]; omega
        · have := spl_short (s := s) (p := p) (by rw [hq]; simp [h])
          simp only [List.length_cons]; omega
theorem part_short {s p : Tx} (h : p ∈ partsT s) : p.length ≤ s.length := by
  unfold partsT at h
  split at h
  · cases h
  · exact spl_short h
theorem cut_t (p : Tx) (w : World) (hM : MaxAt w) (hp : p.length < 4294967281) : Calls Tryd.prog 28 #[.string (bsOf p), .string ⟨#[61]⟩] w fun e w' =>
    (match cutE p with | some x => e = .returned (.tuple #[.string (bsOf x.1), .string (bsOf x.2), .bool true]) | none => e = .returned (.tuple #[.string (bsOf p), .string (bsOf []), .bool false])) ∧ ∃ n, w' = w.drewN n := by
  obtain ⟨m, hm⟩ := hM
  have h := Tryd.strings_Cut (bsOf p) ⟨#[61]⟩ m w (by rw [bsOf_size]; exact hp) hm
  rw [bsOf_data, show (ByteArray.mk #[61]).data.toList = [61] from rfl, lib_cut] at h
  cases hc : cutE p with
  | some x => rw [hc] at h; exact h
  | none => rw [hc] at h; exact h

set_option maxRecDepth 100000 in
set_option maxHeartbeats 4000000 in
theorem Parse_t (s : Tx) (w : World) (hM : MaxAt w) (hs : s.length ≤ 1000000) : Calls Tryd.prog 9 #[.string (bsOf s)] w (ParseP s w) := by
  obtain ⟨i0, hi0, hiz, his, hib⟩ := info_parts lbInfo
  have HM := Lib.hid hM
  have HI := Lib.hid hi0
  have HZ := Lib.hid hiz
  have HSZ := Lib.hid his
  have HBY := Lib.hid hib
  clear hM hi0 hiz his hib
  go_enter Tryd.func9, Tryd.ntmps9
  go_wp2_with fail
  refine (parts_t s w HM.out (by omega)).mono ?_
  rintro e w1 ⟨v, rfl, rd, hb1⟩
  obtain ⟨A, c, rfl, hn, hc, hp⟩ := rd.form
  have hz1 := hb1.size
  have HP := Lib.hid hp
  have HSH := Lib.hid (fun p (h : p ∈ partsT s) => part_short h)
  have HPT : Hid (∀ l, cutL (partsT s) = some l → (partsT s).length ≤ 8 → parseT s = if rightL (srtT l) then some (srtT l) else none) := Lib.hid (fun l h1 h2 => by
    unfold parseT
    rw [if_neg (by omega), h1])
  have HPN : Hid ((cutL (partsT s) = none ∨ 8 < (partsT s).length) → parseT s = none) := Lib.hid (fun h => by
    unfold parseT
    split
    · rfl
    · rcases h with h | h
      · rw [h]
      · omega)
  clear rd hp
  generalize partsT s = ps at *
  have M1 := Lib.hid (HM.out.keep hb1)
  have HB1 := Lib.hid hb1
  go_wp2_with fail
  go_loopg [4, 13] ps.length (fun q v i wr => ∃ (j : Nat) (acc : List Lb), q = ps.length - j ∧ j ≤ ps.length ∧ i = .int .i64 j ∧ Hid (cutL (ps.take j) = some acc) ∧ acc.length = j ∧ j ≤ 8 ∧ Hid (OwnE lbE w1.heap.size wr v acc) ∧ Hid (Below w1.heap.size w1 wr))
  case atStart => exact ⟨0, [], rfl, Nat.zero_le _, rfl, Lib.hid rfl, rfl, by omega, Lib.hid (OwnE.nil_ _ _), Lib.hid (Below.refl _ _)⟩
  case round =>
    rename_i v0
    obtain ⟨j, acc, hk, hj, rfl, HC, hacc, hj8, HO, HBr⟩ := hrel
    have HK := Lib.hid hk
    have HA := Lib.hid hacc
    have hz := HBr.out.size
    have HB : Hid (Below w.heap.size w wr) := Lib.hid (HB1.out.trans (HBr.out.mono hz1))
    have HF : Hid (EForm txE wr A ps) := Lib.hid (HP.out.keep HBr.out)
    have HMX : Hid (MaxAt wr) := Lib.hid (M1.out.keep HBr.out)
    clear hk hacc
    obtain ⟨a4, c4, rfl, hn4, hc4, _⟩ := HO.out.form
    by_cases hlt : j < ps.length
    · obtain ⟨g, off, rfl, hg, c0⟩ := HF.out.tx hlt
      have hpl := HSH.out ps[j] (List.getElem_mem hlt)
      have HCJ : Hid (∀ x, cutE ps[j] = some x → cutL (ps.take (j + 1)) = some (acc ++ [x])) := Lib.hid (fun x h => cutL_snoc hlt HC.out h)
      have HCN : Hid (cutE ps[j] = none → cutL ps = none) := Lib.hid (fun h => cutL_bad hlt h)
      obtain ⟨p, hpp⟩ : ∃ p, ps[j] = p := ⟨_, rfl⟩
      rw [hpp] at c0 hpl HCJ HCN
      clear hpp
      have CT := Lib.hid (cut_t p wr HMX.out (by omega))
      go_wp2_with fail
      refine CT.out.mono ?_
      rintro e w5 ⟨he, n5, rfl⟩
      clear CT
      have hb5 : Below wr.heap.size wr (wr.drewN n5) := below_drewN (Below.refl _ _) _
      cases hce : cutE p with
      | none =>
        rw [hce] at he
        subst he
        have HNO := Lib.hid (HPN.out (.inl (HCN.out hce)))
        clear hce
        go_wp2_with fail
        go_ret2
        exact ParseP.no HNO.out (below_drewN HB.out _)
      | some x =>
        rw [hce] at he
        subst he
        have HX := Lib.hid (HCJ.out x hce)
        clear hce
        by_cases h8 : j = 8
        · have hq : ((acc.length : Int) == 8) = true := beq_iff_eq.2 (by have := HA.out; omega)
          have HNO := Lib.hid (HPN.out (.inr (by omega)))
          clear h8
          go_wp2_with fail
          go_ret2
          exact ParseP.no HNO.out (below_drewN HB.out _)
        · have hq : ((acc.length : Int) == 8) = false := beq_eq_false_iff_ne.2 (by have := HA.out; omega)
          have HO5 : Hid (OwnE lbE w1.heap.size (wr.drewN n5) (.slice a4 acc.length c4) acc) := Lib.hid (HO.out.drewN n5)
          have HBr5 : Hid (Below w1.heap.size w1 (wr.drewN n5)) := Lib.hid (below_drewN HBr.out _)
          have hz5 : w1.heap.size ≤ (wr.drewN n5).heap.size := HBr5.out.size
          have hal : acc.length ≤ 8 := by have := HA.out; omega
          clear hb5 HB HF HMX HBr HO c0
          generalize wr.drewN n5 = w5 at *
          go_wp2_with (at_builtin; refine wpList_append_E lbE (ts := 23) i0 _ 32 Tryd.underlying23 HI.out HZ.out HSZ.out HBY.out rfl (by decide) (by decide) rfl (.tmp 30) (.tmp 34) rfl w1.heap.size _ acc rfl (HO5.out.alloc _) _ [x] rfl (RdE.one_at (E := lbE) w5 x _ rfl _ rfl _ rfl) (by simp; omega) (by simp; omega) ?_; intro v1 w7 o1 g1 a1)
          have HB7 : Hid (Below w1.heap.size w1 w7) := Lib.hid ((HBr5.out.alloc hz5 _).grown g1 (by simp; omega) (fun k hk => (HO5.out.lt k hk).1))
          have O7 := Lib.hid o1
          clear o1 g1 a1 hq
          obtain ⟨a8, c8, rfl, _, _, _⟩ := O7.out.form
          go_wp2_with fail
          go_roundg (ps.length - (j + 1))
          case measure => have := HK.out; omega
          case rel => exact ⟨j + 1, acc ++ [x], rfl, by omega, by go_num, HX, by rw [List.length_append, HA.out]; rfl, by omega, O7, HB7⟩
    · have HE : Hid (cutL ps = some acc) := Lib.hid (by have := HC.out; rwa [List.take_of_length_le (by omega)] at this)
      have HPJ := Lib.hid (HPT.out acc HE.out (by omega))
      have hal : acc.length ≤ 8 := by have := HA.out; omega
      have SS := Lib.hid (sortStable_any _ w1.heap.size acc wr HO.out hal)
      unfold fnN at SS
      go_wp2_with fail
      refine SS.out.mono ?_
      rintro e w6 ⟨rfl, o6, t6⟩
      clear SS
      have HB6 : Hid (Below w1.heap.size w1 w6) := Lib.hid (HBr.out.trans (t6.below (fun k hk => (HO.out.lt k hk).1) hz))
      have hz6 := HB6.out.size
      have O6 := Lib.hid o6
      clear o6 t6
      go_wp2_with fail
      refine (Right_any _ (srtT acc) w6 O6.out.rd).mono ?_
      rintro e w7 ⟨rfl, hb7⟩
      have O7 := Lib.hid (O6.out.keep hb7)
      have HB7 : Hid (Below w.heap.size w w7) := Lib.hid (HB1.out.trans ((HB6.out.trans (hb7.mono hz6)).mono hz1))
      by_cases hr : rightL (srtT acc) = true
      · have HY : Hid (parseT s = some (srtT acc)) := Lib.hid (by rw [HPJ.out, if_pos hr])
        go_wp2_with fail
        go_ret2
        exact ParseP.yes HY.out HB7.out (O7.out.more hz1)
      · have hr' : rightL (srtT acc) = false := by simpa using hr
        have HY : Hid (parseT s = none) := Lib.hid (by rw [HPJ.out, if_neg hr])
        clear hr
        go_wp2_with fail
        go_ret2
        exact ParseP.no HY.out HB7.out
end Go.Proofs.YtmfocgaojbebgaaDoor
