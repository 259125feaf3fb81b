/- Split of the reference. Condition: the text has at most a million letters. -/
import Derived.Test.YtmfocgaojbebgaaDoorLbI
namespace Go.Proofs.YtmfocgaojbebgaaDoor
open Go.RowKit

theorem txInfo : (Tryd.prog.info? 9).map (fun i => (i.zero, i.size, i.bytes)) = some (some (.string ⟨#[]⟩), 1, 16) := by kernel_rfl
theorem ba_cut (b : ByteArray) (f i : Nat) : b.extract f i = bsOf ((b.data.toList.drop f).take (i - f)) := ba_ext (by
  rw [Lib.extract_data, bsOf_data])
theorem ba_rest (b : ByteArray) (f : Nat) : b.extract f b.size = bsOf (b.data.toList.drop f) := ba_ext (by rw [Lib.extract_to_end, bsOf_data])
/-- So far: pieces, and a beginning without a comma. -/
structure SplAt (s : Tx) (acc : List Tx) (f i : Nat) : Prop where
  fi : f ≤ i
  is : i ≤ s.length
  eq : spl 44 s = acc ++ spl 44 (s.drop f)
  no : (44 : UInt8) ∉ (s.drop f).take (i - f)
  len : acc.length ≤ f
theorem SplAt.skip {s : Tx} {acc : List Tx} {f i : Nat} (h : SplAt s acc f i) (hi : i < s.length) (hc : s[i] ≠ 44) : SplAt s acc f (i + 1) := by
  have h1 := h.fi
  refine ⟨by omega, hi, h.eq, ?_, h.len⟩
  have hl : i - f < (s.drop f).length := by rw [List.length_drop]; omega
  rw [show i + 1 - f = (i - f) + 1 by omega, List.take_succ_eq_append_getElem hl]
  intro hm
  rcases List.mem_append.1 hm with hm | hm
  · exact h.no hm
  · rw [List.mem_singleton, List.getElem_drop] at hm
    have e : f + (i - f) = i := by omega
    simp only [e] at hm
    exact hc hm.symm
theorem SplAt.take {s : Tx} {acc : List Tx} {f i : Nat} (h : SplAt s acc f i) (hi : i < s.length) (hc : s[i] = 44) : SplAt s (acc ++ [(s.drop f).take (i - f)]) (i + 1) (i + 1) := by
  have h1 := h.fi
  refine ⟨Nat.le_refl _, hi, ?_, by rw [Nat.sub_self]; simp, by have := h.len; simp; omega⟩
  have e : s.drop f = (s.drop f).take (i - f) ++ 44 :: s.drop (i + 1) := by
    conv => lhs; rw [← List.take_append_drop (i - f) (s.drop f)]
    rw [List.drop_drop, show f + (i - f) = i by omega, List.drop_eq_getElem_cons hi, hc]
  rw [h.eq]
  conv => lhs; rw [e, spl_some _ h.no]
  simp
theorem SplAt.last {s : Tx} {acc : List Tx} {f : Nat} (h : SplAt s acc f s.length) : spl 44 s = acc ++ [s.drop f] := by
  have h1 := h.no
  rw [List.take_of_length_le (by rw [List.length_drop]; omega)] at h1
  rw [h.eq, spl_none h1]

set_option maxRecDepth 100000 in
set_option maxHeartbeats 4000000 in
theorem rSplit_b (b : ByteArray) (w : World) (hs : b.size ≤ 1000000) : Calls Tryd.prog 16 #[.string b] w fun e w' => ∃ v, e = .returned v ∧ OwnE txE w.heap.size w' v (partsT b.data.toList) ∧ Below w.heap.size w w' := by
  obtain ⟨i0, hi0, hiz, his, hib⟩ := info_parts txInfo
  have HI := Lib.hid hi0
  have HZ := Lib.hid hiz
  have HSZ := Lib.hid his
  have HBY := Lib.hid hib
  clear hi0 hiz his hib
  have hbl := ba_len b
  have ht : b.toList = b.data.toList := ByteArray.toList_eq b
  obtain ⟨s, hss⟩ : ∃ s, b.data.toList = s := ⟨_, rfl⟩
  rw [hss] at ht hbl ⊢
  have HBL := Lib.hid hbl
  have HSS := Lib.hid hss
  clear hbl hss
  by_cases h0 : s = []
  · subst h0
    have HP : Hid (partsT [] = []) := Lib.hid rfl
    go_enter Tryd.func16, Tryd.ntmps16
    go_wp2_with fail
    go_ret
    exact ⟨_, rfl, by rw [HP.out]; exact OwnE.nil_ _ _, Below.refl _ _⟩
  · have hE : s.isEmpty = false := by simpa using h0
    have HP : Hid (partsT s = spl 44 s) := Lib.hid (by unfold partsT; rw [hE]; rfl)
    have hE2 : (s == []) = false := by simpa using h0
    clear h0
    go_enter Tryd.func16, Tryd.ntmps16
    go_wp2_with fail
    clear hE hE2 ht
    go_loopg [3, 4, 5] b.size (fun q v fr i wr => ∃ (j f : Nat) (acc : List Tx), q = b.size - j ∧ j ≤ b.size ∧ f ≤ j ∧ fr = .int .i64 f ∧ i = .int .i64 j ∧ Hid (SplAt s acc f j) ∧ Hid (OwnE txE w.heap.size wr v acc) ∧ Hid (Below w.heap.size w wr))
    case atStart => exact ⟨0, 0, [], rfl, Nat.zero_le _, Nat.le_refl _, rfl, rfl, Lib.hid ⟨Nat.le_refl _, Nat.zero_le _, by simp, by simp, by simp⟩, Lib.hid (OwnE.nil_ _ _), Lib.hid (Below.refl _ _)⟩
    case round =>
      obtain ⟨j, f, acc, hk, hj, hf, rfl, rfl, HS, HO, HB⟩ := hrel
      have HK := Lib.hid hk
      have hz := HB.out.size
      have hal := HS.out.len
      clear hk
      obtain ⟨a4, c4, rfl, hn4, hc4, _⟩ := HO.out.form
      by_cases hlt : j < b.size
      · have hlt' : j < s.length := by rw [HBL.out]; exact hlt
        have HG : Hid (s[j] = b[j]) := Lib.hid (by have := ba_get b j hlt; rw [this]; simp only [HSS.out])
        by_cases hc : b[j].toNat = 44
        · have hq : (((b[j].toNat : Nat) : Int) == 44) = true := by rw [hc]; rfl
          have HT := Lib.hid (HS.out.take hlt' (by rw [HG.out]; exact UInt8.toNat_inj.1 hc))
          clear hc
          go_wp2_with (at_builtin; refine wpList_append_E txE (ts := 36) i0 _ 16 Tryd.underlying36 HI.out HZ.out HSZ.out HBY.out rfl (by decide) (by decide) rfl (.tmp 18) (.tmp 23) rfl w.heap.size _ acc rfl (HO.out.alloc _) _ [(s.drop f).take (j - f)] rfl (RdE.one_at (E := txE) wr ((s.drop f).take (j - f)) _ rfl _ (by rw [ba_cut, HSS.out]; rfl) _ rfl) (by simp; omega) (by simp; omega) ?_; intro v1 w7 o1 g1 a1)
          have HB7 : Hid (Below w.heap.size w w7) := Lib.hid ((HB.out.alloc hz _).grown g1 (by simp; omega) (fun k hk => (HO.out.lt k hk).1))
          have O7 := Lib.hid o1
          clear o1 g1 a1 hq
          go_wp2_with fail
          go_roundg (b.size - (j + 1))
          case measure => have := HK.out; omega
          case rel => exact ⟨j + 1, j + 1, _, rfl, by omega, by omega, by go_num, by go_num, HT, O7, HB7⟩
        · have hq : (((b[j].toNat : Nat) : Int) == 44) = false := by rw [beq_eq_false_iff_ne]; omega
          have HT := Lib.hid (HS.out.skip hlt' (by rw [HG.out]; intro h; exact hc (by rw [h]; rfl)))
          clear hc
          go_wp2_with fail
          go_roundg (b.size - (j + 1))
          case measure => have := HK.out; omega
          case rel => exact ⟨j + 1, f, acc, rfl, by omega, by omega, rfl, by go_num, HT, HO, HB⟩
      · have hjs : j = s.length := by rw [HBL.out]; omega
        have HL : Hid (partsT s = acc ++ [s.drop f]) := Lib.hid (by rw [HP.out]; have := HS.out; rw [hjs] at this; exact this.last)
        clear hjs
        go_wp2_with (at_builtin; refine wpList_append_E txE (ts := 36) i0 _ 16 Tryd.underlying36 HI.out HZ.out HSZ.out HBY.out rfl (by decide) (by decide) rfl (.tmp 27) (.tmp 31) rfl w.heap.size _ acc rfl (HO.out.alloc _) _ [s.drop f] rfl (RdE.one_at (E := txE) wr (s.drop f) _ rfl _ (by rw [ba_rest, HSS.out]; rfl) _ rfl) (by simp; omega) (by simp; omega) ?_; intro v1 w7 o1 g1 a1)
        have HB7 : Hid (Below w.heap.size w w7) := Lib.hid ((HB.out.alloc hz _).grown g1 (by simp; omega) (fun k hk => (HO.out.lt k hk).1))
        have O7 := Lib.hid o1
        clear o1 g1 a1
        go_wp2_with fail
        go_ret
        exact ⟨_, rfl, by rw [HL.out]; exact O7.out, HB7.out⟩
theorem rSplit_t (s : Tx) (w : World) (hs : s.length ≤ 1000000) : Calls Tryd.prog 16 #[.string (bsOf s)] w fun e w' => ∃ v, e = .returned v ∧ OwnE txE w.heap.size w' v (partsT s) ∧ Below w.heap.size w w' := by
  have := rSplit_b (bsOf s) w (by rw [bsOf_size]; exact hs)
  rwa [bsOf_data] at this
end Go.Proofs.YtmfocgaojbebgaaDoor
