/- Select: which texts are selectors. Condition: the text has at most a million letters. -/
import Derived.Test.YtmfocgaojbebgaaDoorLbQ
namespace Go.Proofs.YtmfocgaojbebgaaDoor
open Go.RowKit

theorem cdInfo : (Tryd.prog.info? 39).map (fun i => (i.zero, i.size, i.bytes)) = some (some (.agg #[.string ⟨#[]⟩, .string ⟨#[]⟩, .string ⟨#[]⟩]), 3, 48) := by kernel_rfl
theorem mapM_snoc {α β : Type} {f : α → Option β} {ps : List α} {j : Nat} (hj : j < ps.length) {acc : List β} {x : β} (h : (ps.take j).mapM f = some acc) (hx : f ps[j] = some x) : (ps.take (j + 1)).mapM f = some (acc ++ [x]) := by
  rw [List.take_succ_eq_append_getElem hj, List.mapM_append, h]
  simp [hx]
theorem mapM_bad {α β : Type} {f : α → Option β} {ps : List α} : ∀ {j : Nat} (_ : j < ps.length), f ps[j] = none → ps.mapM f = none := by
  induction ps with
  | nil => intro j hj; exact absurd hj (by simp)
  | cons p ps ih =>
    intro j hj h
    rw [List.mapM_cons]
    cases j with
    | zero =>
      have h' : f p = none := h
      rw [h']; rfl
    | succ j =>
      have := ih (j := j) (by simpa using hj) h
      rw [this]
      cases f p <;> rfl
def SelP (s : Tx) (w : World) (e : Ending) (w' : World) : Prop := Below w.heap.size w w' ∧ match selT s with
  | some l => ∃ v, e = .returned (.tuple #[v, .int .i64 0]) ∧ OwnE cdE w.heap.size w' v l
  | none => e = .returned (.tuple #[.slice none 0 0, .int .i64 1])
theorem SelP.no {s : Tx} {w w' : World} (h : selT s = none) (hb : Below w.heap.size w w') : SelP s w (.returned (.tuple #[.slice none 0 0, .int .i64 1])) w' := by
  unfold SelP
  rw [h]
  exact ⟨hb, rfl⟩
theorem SelP.yes {s : Tx} {w w' : World} {v : Value} {l : List Cd} (h : selT s = some l) (hb : Below w.heap.size w w') (ho : OwnE cdE w.heap.size w' v l) : SelP s w (.returned (.tuple #[v, .int .i64 0])) w' := by
  unfold SelP
  rw [h]
  exact ⟨hb, v, rfl, ho⟩
set_option maxRecDepth 100000 in
set_option maxHeartbeats 4000000 in
theorem Select_t (s : Tx) (w : World) (hM : MaxAt w) (hs : s.length ≤ 1000000) : Calls Tryd.prog 15 #[.string (bsOf s)] w (SelP s w) := by
  obtain ⟨i0, hi0, hiz, his, hib⟩ := info_parts cdInfo
  have HM := Lib.hid hM
  have HI := Lib.hid hi0
  have HZ := Lib.hid hiz
  have HSZ := Lib.hid his
  have HBY := Lib.hid hib
  clear hM hi0 hiz his hib
  go_enter Tryd.func15, Tryd.ntmps15
  go_wp2_with fail
  refine (parts_t s w HM.out (by omega)).mono ?_
  rintro e w1 ⟨v, rfl, rd, hb1⟩
  obtain ⟨A, c, rfl, hn, hc, hp⟩ := rd.form
  have hz1 := hb1.size
  have HP := Lib.hid hp
  have HSH := Lib.hid (fun p (h : p ∈ partsT s) => part_short h)
  have HPT : Hid (∀ l, (partsT s).mapM condT = some l → (partsT s).length ≤ 8 → selT s = some l) := Lib.hid (fun l h1 h2 => by
    unfold selT
    rw [if_neg (by omega), h1])
  have HPN : Hid (((partsT s).mapM condT = none ∨ 8 < (partsT s).length) → selT s = none) := Lib.hid (fun h => by
    unfold selT
    split
    · rfl
    · rcases h with h | h
      · rw [h]
      · omega)
  clear rd hp
  generalize partsT s = ps at *
  have HB1 := Lib.hid hb1
  go_wp2_with fail
  go_loopg [4, 12] ps.length (fun q v i wr => ∃ (j : Nat) (acc : List Cd), q = ps.length - j ∧ j ≤ ps.length ∧ i = .int .i64 j ∧ Hid ((ps.take j).mapM condT = some acc) ∧ acc.length = j ∧ j ≤ 8 ∧ Hid (OwnE cdE w1.heap.size wr v acc) ∧ Hid (Below w1.heap.size w1 wr))
  case atStart => exact ⟨0, [], rfl, Nat.zero_le _, rfl, Lib.hid rfl, rfl, by omega, Lib.hid (OwnE.nil_ _ _), Lib.hid (Below.refl _ _)⟩
  case round =>
    rename_i v0
    obtain ⟨j, acc, hk, hj, rfl, HC, hacc, hj8, HO, HBr⟩ := hrel
    have HK := Lib.hid hk
    have HA := Lib.hid hacc
    have hz := HBr.out.size
    have HB : Hid (Below w.heap.size w wr) := Lib.hid (HB1.out.trans (HBr.out.mono hz1))
    have HF : Hid (EForm txE wr A ps) := Lib.hid (HP.out.keep HBr.out)
    clear hk hacc
    obtain ⟨a4, c4, rfl, hn4, hc4, _⟩ := HO.out.form
    by_cases hlt : j < ps.length
    · obtain ⟨g, off, rfl, hg, c0⟩ := HF.out.tx hlt
      have hpl := HSH.out ps[j] (List.getElem_mem hlt)
      have HCJ : Hid (∀ x, condT ps[j] = some x → (ps.take (j + 1)).mapM condT = some (acc ++ [x])) := Lib.hid (fun x h => mapM_snoc hlt HC.out h)
      have HCN : Hid (condT ps[j] = none → ps.mapM condT = none) := Lib.hid (fun h => mapM_bad hlt h)
      obtain ⟨p, hpp⟩ : ∃ p, ps[j] = p := ⟨_, rfl⟩
      rw [hpp] at c0 hpl HCJ HCN
      clear hpp
      have CT := Lib.hid (cond_t p wr (by omega))
      go_wp2_with fail
      refine CT.out.mono ?_
      rintro e w5 he
      clear CT
      unfold CondP at he
      obtain ⟨hb5, he⟩ := he
      have hz5 := hb5.size
      have HBr5 : Hid (Below w1.heap.size w1 w5) := Lib.hid (HBr.out.trans (hb5.mono hz))
      have HB5 : Hid (Below w.heap.size w w5) := Lib.hid (HB1.out.trans (HBr5.out.mono hz1))
      cases hce : condT p with
      | none =>
        rw [hce] at he
        obtain ⟨x1, x2, x3, rfl⟩ := he
        have HNO := Lib.hid (HPN.out (.inl (HCN.out hce)))
        clear hce
        go_wp2_with fail
        go_ret2
        exact SelP.no HNO.out (HB5.out.alloc (by omega) _)
      | some x =>
        rw [hce] at he
        subst he
        have HX := Lib.hid (HCJ.out x hce)
        clear hce
        by_cases h8 : j = 8
        · have hq : ((acc.length : Int) == 8) = true := beq_iff_eq.2 (by have := HA.out; omega)
          have HNO := Lib.hid (HPN.out (.inr (by omega)))
          clear h8
          go_wp2_with fail
          go_ret2
          exact SelP.no HNO.out (HB5.out.alloc (by omega) _)
        · have hq : ((acc.length : Int) == 8) = false := beq_eq_false_iff_ne.2 (by have := HA.out; omega)
          have HO5 : Hid (OwnE cdE w1.heap.size w5 (.slice a4 acc.length c4) acc) := Lib.hid (HO.out.keep hb5)
          have hzz5 : w1.heap.size ≤ w5.heap.size := by omega
          have hal : acc.length ≤ 8 := by have := HA.out; omega
          clear hb5 HB HF HBr HO c0
          go_wp2_with (at_builtin; refine wpList_append_E cdE (ts := 33) i0 _ 48 Tryd.underlying33 HI.out HZ.out HSZ.out HBY.out rfl (by decide) (by decide) rfl (.tmp 28) (.tmp 30) rfl w1.heap.size _ acc rfl ((HO5.out.alloc _).alloc _) _ [x] rfl (RdE.one_at (E := cdE) _ x _ rfl _ rfl _ (by simp)) (by simp; omega) (by simp; omega) ?_; intro v1 w7 o1 g1 a1)
          have HB7 : Hid (Below w1.heap.size w1 w7) := Lib.hid (((HBr5.out.alloc hzz5 _).alloc (by simp; omega) _).grown g1 (by simp; omega) (fun k hk => (HO5.out.lt k hk).1))
          have O7 := Lib.hid o1
          clear o1 g1 a1 hq
          obtain ⟨a8, c8, rfl, _, _, _⟩ := O7.out.form
          go_wp2_with fail
          go_roundg (ps.length - (j + 1))
          case measure => have := HK.out; omega
          case rel => exact ⟨j + 1, acc ++ [x], rfl, by omega, by go_num, HX, by rw [List.length_append, HA.out]; rfl, by omega, O7, HB7⟩
    · have HE : Hid (ps.mapM condT = some acc) := Lib.hid (by have := HC.out; rwa [List.take_of_length_le (by omega)] at this)
      have HPJ := Lib.hid (HPT.out acc HE.out (by omega))
      go_wp2_with fail
      go_ret2
      exact SelP.yes HPJ.out HB.out (HO.out.more hz1)
end Go.Proofs.YtmfocgaojbebgaaDoor
