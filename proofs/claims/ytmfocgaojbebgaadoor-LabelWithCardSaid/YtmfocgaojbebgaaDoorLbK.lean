/- Parse of the reference. Condition: the text has at most a million letters. -/
import Derived.Test.YtmfocgaojbebgaaDoorLbJ
namespace Go.Proofs.YtmfocgaojbebgaaDoor
open Go.RowKit

/-- So much of a set, an element put in where it belongs. -/
def insN (x : Lb) (A : List Lb) : List Lb := if A.any (fun y => lessT x.1 y.1) then insT x A else A
theorem insT_any {x y : Lb} : ∀ {A : List Lb}, A.any (fun y => lessT x.1 y.1) = true → insT x (A ++ [y]) = insT x A ++ [y]
  | [], h => by simp at h
  | z :: A, h => by
    rw [List.any_cons] at h
    rw [List.cons_append]
    unfold insT
    by_cases hz : lessT x.1 z.1 = true
    · rw [if_pos hz, if_pos hz]; rfl
    · rw [if_neg hz, if_neg hz, insT_any (by simpa [hz] using h)]; rfl
theorem insT_none {x : Lb} : ∀ {A : List Lb} (B : List Lb), A.any (fun y => lessT x.1 y.1) = false → insT x (A ++ B) = A ++ insT x B
  | [], B, _ => rfl
  | z :: A, B, h => by
    rw [List.any_cons, Bool.or_eq_false_iff] at h
    rw [List.cons_append, insT, if_neg (by simp [h.1]), insT_none B h.2]; rfl
theorem insN_done {x y : Lb} {A : List Lb} (h : A.any (fun y => lessT x.1 y.1) = true) : insN x (A ++ [y]) = insN x A ++ [y] ∧ (A ++ [y]).any (fun y => lessT x.1 y.1) = true := by
  have h2 : (A ++ [y]).any (fun y => lessT x.1 y.1) = true := by rw [List.any_append, h]; rfl
  unfold insN
  rw [if_pos h2, if_pos h, insT_any h]
  exact ⟨rfl, h2⟩
theorem insN_new {x y : Lb} {A : List Lb} (h : A.any (fun y => lessT x.1 y.1) = false) (hy : lessT x.1 y.1 = true) : insN x (A ++ [y]) = (insN x A ++ [x]) ++ [y] ∧ (A ++ [y]).any (fun y => lessT x.1 y.1) = true := by
  have h2 : (A ++ [y]).any (fun y => lessT x.1 y.1) = true := by rw [List.any_append]; simp [hy]
  unfold insN
  rw [if_pos h2, if_neg (by simp [h]), insT_none _ h]
  refine ⟨?_, h2⟩
  simp [insT, hy]
theorem insN_not {x y : Lb} {A : List Lb} (h : A.any (fun y => lessT x.1 y.1) = false) (hy : lessT x.1 y.1 = false) : insN x (A ++ [y]) = insN x A ++ [y] ∧ (A ++ [y]).any (fun y => lessT x.1 y.1) = false := by
  have h2 : (A ++ [y]).any (fun y => lessT x.1 y.1) = false := by rw [List.any_append, h]; simp [hy]
  unfold insN
  rw [if_neg (by simp [h2]), if_neg (by simp [h])]
  exact ⟨rfl, h2⟩
theorem insN_end {x : Lb} {A : List Lb} : insT x A = if A.any (fun y => lessT x.1 y.1) then insN x A else insN x A ++ [x] := by
  unfold insN
  cases h : A.any (fun y => lessT x.1 y.1)
  · have := insT_none (x := x) [] h
    rw [List.append_nil] at this
    simp [this, insT]
  · simp
theorem cutE_len : ∀ {p : Tx} {x : Lb}, cutE p = some x → x.1.length ≤ p.length ∧ x.2.length ≤ p.length
  | [], _, h => by cases h
  | c :: p, x, h => by
    unfold cutE at h
    split at h
    · simp only [Option.some.injEq] at h; subst h; simp
    · cases hc : cutE p with
      | none => rw [hc] at h; cases h
      | some y =>
        rw [hc] at h
        simp only [Option.map_some, Option.some.injEq] at h
        subst h
        have := cutE_len hc
        simp only [List.length_cons]
        omega
/-- The first equals sign. -/
theorem cutE_at {p : Tx} {k : Nat} (hk : k < p.length) (h0 : ∀ m (h : m < p.length), m < k → p[m] ≠ 61) (h : p[k] = 61) : cutE p = some (p.take k, p.drop (k + 1)) := by
  have e : p = p.take k ++ 61 :: p.drop (k + 1) := by
    conv => lhs; rw [← List.take_append_drop k p]
    rw [List.drop_eq_getElem_cons hk, h]
  conv => lhs; rw [e]
  refine cutE_some _ fun hm => ?_
  obtain ⟨m, hm1, hm2⟩ := List.getElem_of_mem hm
  rw [List.length_take] at hm1
  rw [List.getElem_take] at hm2
  exact h0 m (by omega) (by omega) hm2
theorem cutE_out {p : Tx} (h0 : ∀ m (h : m < p.length), p[m] ≠ 61) : cutE p = none := cutE_none fun hm => by
  obtain ⟨m, hm1, hm2⟩ := List.getElem_of_mem hm
  exact h0 m hm1 hm2
theorem okLb_srt {l : List Lb} (h : okLb l) : okLb (srtT l) := by
  have key : ∀ (l o : List Lb), okLb l → okLb o → okLb (l.foldl (fun o x => insT x o) o) := by
    intro l
    induction l with
    | nil => intro o _ h; exact h
    | cons x l ih =>
      intro o hl ho
      refine ih _ (fun z hz => hl z (List.mem_cons_of_mem _ hz)) fun z hz => ?_
      rcases mem_insT hz with rfl | hz
      · exact hl _ (by simp)
      · exact ho z hz
  exact key l [] h (fun z hz => by cases hz)
def RParseP (s : Tx) (w : World) (e : Ending) (w' : World) : Prop := Below w.heap.size w w' ∧
  if 8 < (partsT s).length then e = .returned (.tuple #[.slice none 0 0, .bool false]) else match cutL (partsT s) with
  | some l => ∃ v, e = .returned (.tuple #[v, .bool (rightL (srtT l))]) ∧ OwnE lbE w.heap.size w' v (srtT l)
  | none => e = .returned (.tuple #[.slice none 0 0, .bool false])

set_option maxRecDepth 100000 in
set_option maxHeartbeats 8000000 in
theorem rParse_t (s : Tx) (w : World) (hs : s.length ≤ 1000000) : Calls Tryd.prog 10 #[.string (bsOf s)] w (RParseP s w) := by
  obtain ⟨i0, hi0, hiz, his, hib⟩ := info_parts lbInfo
  have HI := Lib.hid hi0
  have HZ := Lib.hid hiz
  have HSZ := Lib.hid his
  have HBY := Lib.hid hib
  clear hi0 hiz his hib
  go_enter Tryd.func10, Tryd.ntmps10
  go_wp2_with fail
  refine (rSplit_t s w hs).mono ?_
  rintro e w1 ⟨v, rfl, ro, hb1⟩
  obtain ⟨A, c, rfl, hn, hc, hp⟩ := ro.form
  have hz1 := hb1.size
  have HP := Lib.hid hp
  have HSH := Lib.hid (fun p (h : p ∈ partsT s) => part_short h)
  have HRP : Hid (∀ e w', (Below w.heap.size w w' ∧ if 8 < (partsT s).length then e = .returned (.tuple #[.slice none 0 0, .bool false]) else match cutL (partsT s) with
    | some l => ∃ v, e = .returned (.tuple #[v, .bool (rightL (srtT l))]) ∧ OwnE lbE w.heap.size w' v (srtT l)
    | none => e = .returned (.tuple #[.slice none 0 0, .bool false])) → RParseP s w e w') := Lib.hid (fun _ _ h => h)
  clear ro hp
  generalize partsT s = ps at *
  have HB1 := Lib.hid hb1
  by_cases h8 : 8 < ps.length
  · have h8' : (ps.length : Int) > 8 := by omega
    go_wp2_with fail
    go_ret2
    exact HRP.out _ _ ⟨hb1, by rw [if_pos h8]; rfl⟩
  have h8' : ¬ (ps.length : Int) > 8 := by omega
  go_wp2_with fail
  go_loopg [5, 6] ps.length (fun q v i wr => ∃ (j : Nat) (acc : List Lb), q = ps.length - j ∧ j ≤ ps.length ∧ i = .int .i64 j ∧ Hid (cutL (ps.take j) = some acc) ∧ acc.length = j ∧ Hid (okLb acc) ∧ Hid (OwnE lbE w1.heap.size wr v (srtT acc)) ∧ Hid (Below w1.heap.size w1 wr))
  case atStart => exact ⟨0, [], rfl, Nat.zero_le _, rfl, Lib.hid rfl, rfl, Lib.hid (fun z hz => by cases hz), Lib.hid (OwnE.nil_ _ _), Lib.hid (Below.refl _ _)⟩
  case round =>
    rename_i v0
    obtain ⟨j, acc, hk, hj, rfl, HC, hacc, HOK, HO, HBr⟩ := hrel
    have HK := Lib.hid hk
    have HA := Lib.hid hacc
    have hz := HBr.out.size
    have HF : Hid (EForm txE wr A ps) := Lib.hid (HP.out.keep HBr.out)
    clear hk hacc
    obtain ⟨a4, c4, rfl, hn4, hc4, _⟩ := HO.out.form
    by_cases hlt : j < ps.length
    · obtain ⟨g, off, rfl, hg, c0⟩ := HF.out.tx hlt
      have hpl := HSH.out ps[j] (List.getElem_mem hlt)
      have HCJ : Hid (∀ x, cutE ps[j] = some x → cutL (ps.take (j + 1)) = some (acc ++ [x])) := Lib.hid (fun x h => cutL_snoc hlt HC.out h)
      have HCN : Hid (cutE ps[j] = none → cutL ps = none) := Lib.hid (fun h => cutL_bad hlt h)
      obtain ⟨p, hpp⟩ : ∃ p, ps[j] = p := ⟨_, rfl⟩
      rw [hpp] at c0 hpl HCJ HCN
      clear hpp
      obtain ⟨b, hb⟩ : ∃ b, bsOf p = b := ⟨_, rfl⟩
      have HBS : Hid (b.size = p.length) := Lib.hid (by rw [← hb, bsOf_size])
      have HBD : Hid (b.data.toList = p) := Lib.hid (by rw [← hb, bsOf_data])
      rw [hb] at c0
      have HB := Lib.hid hb
      have hbs : b.size ≤ 1000000 := by have := HBS.out; omega
      have C0 := Lib.hid c0
      clear hb c0
      have c0 := C0.out
      go_wp2_with fail
      obtain ⟨wo, rfl⟩ : ∃ wo : World, wo = wr := ⟨_, rfl⟩
      go_loopg [7] b.size (fun q kk wr => ∃ k : Nat, q = b.size - k ∧ k ≤ b.size ∧ kk = .int .i64 k ∧ Hid (∀ m (h : m < b.size), m < k → b[m].toNat ≠ 61) ∧ wr = wo)
      case atStart => exact ⟨0, rfl, Nat.zero_le _, rfl, Lib.hid (fun m _ h => absurd h (by omega)), rfl⟩
      case round =>
        obtain ⟨k, hq, hkb, rfl, HN, rfl⟩ := hrel
        have HQ := Lib.hid hq
        clear hq
        by_cases hkl : k < b.size
        · by_cases he : b[k].toNat = 61
          · have hq : (((b[k].toNat : Nat) : Int) != 61) = false := by rw [he]; rfl
            have hq2 : ((k : Int) == (b.size : Int)) = false := by rw [beq_eq_false_iff_ne]; omega
            have hkp : k < p.length := by rw [← HBS.out]; exact hkl
            have hcut : cutE p = some (p.take k, p.drop (k + 1)) := cutE_at hkp (fun m h hm e => by
              have h' : m < b.size := by rw [HBS.out]; exact h
              refine HN.out m h' hm ?_
              rw [ba_get b m h']
              simp only [HBD.out]
              rw [e]; rfl) (by
              have := ba_get b k hkl
              simp only [HBD.out] at this
              rw [← this]; exact UInt8.toNat_inj.1 he)
            have HX := Lib.hid (HCJ.out _ hcut)
            have hxl := cutE_len hcut
            have HE1 : Hid (b.extract 0 k = bsOf (p.take k)) := Lib.hid (by rw [ba_cut, HBD.out]; rfl)
            have HE2 : Hid (b.extract (k + 1) b.size = bsOf (p.drop (k + 1))) := Lib.hid (by rw [ba_rest, HBD.out])
            generalize p.take k = xn at *
            generalize p.drop (k + 1) = xv at *
            have HXL := Lib.hid hxl
            have EW := Lib.hid (IntWalk.i64_in ((k : Int) + 1) (by omega))
            have hk1 : 0 ≤ (k : Int) + 1 ∧ (k : Int) + 1 ≤ b.size := by omega
            clear hcut he hxl hkp
            go_wp2_with fail
            refine wp_region_plan (fun w' => Below wr.heap.size wr w') [(0, true), (1, true), (2, true), (3, true), (4, true), (5, true), (6, true), (7, true), (8, true), (9, true), (10, true), (11, true), (12, true), (13, true), (14, false), (15, false)] (by kernel_rfl) (by kernel_rfl) ((Below.refl _ _).drew) ?_
            iterate 14
              refine wpPlan_read (by rfl) (by rfl) (fun R hR => ?_)
              apply Exists.intro
              refine ⟨fun w' hS' => ?_, ?_⟩
              · have k0 := (hS'.cell (p := ⟨g, off + j, none⟩) hg).trans C0.out
                have ew := EW.out
                have e1 := HE1.out
                have e2 := HE2.out
                go_simp
                exact ⟨rfl, rfl⟩
              go_simp
              refine hR _ ?_
              clear hR R
            refine wpPlan_do (by rfl) (by rfl) (fun K hK => ?_)
            go_simp
            refine hK _ _ (((Below.refl _ _).alloc (Nat.le_refl _) _).drew) ?_
            clear hK K
            refine wpPlan_do (by rfl) (by rfl) (fun K hK => ?_)
            go_simp
            refine hK _ _ (((Below.refl _ _).alloc (Nat.le_refl _) _).drew) ?_
            clear hK K
            refine wpPlan_nil ?_
            obtain ⟨x, hxe⟩ : ∃ x : Lb, x = (xn, xv) := ⟨_, rfl⟩
            have hx1 : x.1 = xn := by rw [hxe]
            have hx2 : x.2 = xv := by rw [hxe]
            rw [← hxe] at HX
            clear hxe
            subst hx1
            subst hx2
            have HOX : Hid (okLb (acc ++ [x])) := Lib.hid (fun z hz => by
              rcases List.mem_append.1 hz with h | h
              · exact HOK.out z h
              · rw [List.mem_singleton] at h
                subst h
                have := HXL.out
                omega)
            have HSX : Hid (srtT (acc ++ [x]) = insT x (srtT acc)) := Lib.hid (srtT_snoc acc x)
            have hSl : (srtT acc).length ≤ 8 := by rw [srtT_length]; have := HA.out; omega
            have hbu : Below wr.heap.size wr (wr.alloc (.cells #[.string (bsOf x.1), .string (bsOf x.2)] 50)).drew := ((Below.refl _ _).alloc (Nat.le_refl _) _).drew
            have b0 : (wr.alloc (.cells #[.string (bsOf x.1), .string (bsOf x.2)] 50)).drew.cell? ⟨wr.heap.size, 0, none⟩ = some (.string (bsOf x.1)) := (World.cell?_alloc_new ..).trans rfl
            have b1 : (wr.alloc (.cells #[.string (bsOf x.1), .string (bsOf x.2)] 50)).drew.cell? ⟨wr.heap.size, 1, none⟩ = some (.string (bsOf x.2)) := (World.cell?_alloc_new ..).trans rfl
            have hsu : (wr.alloc (.cells #[.string (bsOf x.1), .string (bsOf x.2)] 50)).drew.heap.size = wr.heap.size + 1 := by show (wr.alloc _).heap.size = _; simp
            have HLF : Hid (EForm lbE wr a4 (srtT acc)) := Lib.hid (by
              obtain ⟨A', c', hv, _, _, h⟩ := HO.out.form
              simp only [Value.slice.injEq, true_and] at hv
              obtain ⟨rfl, rfl⟩ := hv
              exact h)
            go_wp2_with fail
            have B0 := Lib.hid b0
            have B1 := Lib.hid b1
            have HU : Hid (Below w1.heap.size w1 (wr.alloc (.cells #[.string (bsOf x.1), .string (bsOf x.2)] 50)).drew) := Lib.hid (HBr.out.trans (hbu.mono hz))
            have HLU : Hid (EForm lbE (wr.alloc (.cells #[.string (bsOf x.1), .string (bsOf x.2)] 50)).drew a4 (srtT acc)) := Lib.hid (HLF.out.keep hbu)
            clear b0 b1 hbu HN HCJ HCN HO HLF
            have hXu : wr.heap.size < (wr.alloc (.cells #[.string (bsOf x.1), .string (bsOf x.2)] 50)).drew.heap.size := by rw [hsu]; omega
            have hzu := HU.out.size
            clear hsu
            generalize srtT acc = S at *
            generalize (wr.alloc (.cells #[.string (bsOf x.1), .string (bsOf x.2)] 50)).drew = u at *
            generalize wr.heap.size = X at *
            go_loopg [9, 10, 11] S.length (fun q v dn i w2 => ∃ n : Nat, q = S.length - n ∧ n ≤ S.length ∧ i = .int .i64 n ∧ dn = .bool ((S.take n).any (fun y => lessT x.1 y.1)) ∧ Hid (OwnE lbE u.heap.size w2 v (insN x (S.take n))) ∧ Hid (Below u.heap.size u w2))
            case atStart => exact ⟨0, rfl, Nat.zero_le _, rfl, rfl, Lib.hid (OwnE.nil_ _ _), Lib.hid (Below.refl _ _)⟩
            case round =>
              rename_i v9
              obtain ⟨n, hnq, hnl, rfl, rfl, HON, HBN⟩ := hrel
              have HNQ := Lib.hid hnq
              have hzn := HBN.out.size
              clear hnq
              have HLN : Hid (EForm lbE wr a4 S) := Lib.hid (HLU.out.keep HBN.out)
              have x0 := (HBN.out.cell (p := ⟨X, 0, none⟩) hXu).trans B0.out
              have x1 := (HBN.out.cell (p := ⟨X, 1, none⟩) hXu).trans B1.out
              have hXw : X < wr.heap.size := by omega
              have hnl2 : (insN x (S.take n)).length ≤ 10 := by
                have h1 : (S.take n).length ≤ 8 := by rw [List.length_take]; omega
                unfold insN
                split
                · rw [insT_length]; omega
                · omega
              obtain ⟨a9, c9, rfl, hn9, hc9, _⟩ := HON.out.form
              by_cases hnlt : n < S.length
              · obtain ⟨g2, off2, rfl, hg2, y0, y1⟩ := HLN.out.lb hnlt
                have HTK : Hid (S.take (n + 1) = S.take n ++ [S[n]]) := Lib.hid (List.take_succ_eq_append_getElem hnlt)
                obtain ⟨y, hy⟩ : ∃ y, S[n] = y := ⟨_, rfl⟩
                rw [hy] at y0 y1 HTK
                have HY := Lib.hid hy
                clear hy
                have Y0 := Lib.hid y0
                have Y1 := Lib.hid y1
                have X0 := Lib.hid x0
                have X1 := Lib.hid x1
                cases hany : (S.take n).any (fun y => lessT x.1 y.1) with
                | true =>
                  have HNX := Lib.hid (insN_done (y := y) hany)
                  clear hany x0 x1 y0 y1
                  go_wp2_with fail
                  refine wp_region_plan (fun w' => Below wr.heap.size wr w') [(0, true), (1, true), (2, true), (3, true), (4, true), (5, true), (6, true), (7, true), (8, true), (9, true), (10, true), (11, true)] (by kernel_rfl) (by kernel_rfl) ((Below.refl _ _).drew) ?_
                  iterate 3
                    refine wpPlan_read (by rfl) (by rfl) (fun R hR => ?_)
                    apply Exists.intro
                    refine ⟨fun w' hS' => ?_, ?_⟩
                    · go_simp
                      exact ⟨rfl, rfl⟩
                    go_simp
                    refine hR _ ?_
                    clear hR R
                  refine wpPlan_skip (by rfl) (by rfl) ?_
                  try go_simp
                  refine wpPlan_skip (by rfl) (by rfl) ?_
                  try go_simp
                  refine wpPlan_skip (by rfl) (by rfl) ?_
                  try go_simp
                  refine wpPlan_skip (by rfl) (by rfl) ?_
                  try go_simp
                  refine wpPlan_skip (by rfl) (by rfl) ?_
                  try go_simp
                  refine wpPlan_skip (by rfl) (by rfl) ?_
                  try go_simp
                  refine wpPlan_skip (by rfl) (by rfl) ?_
                  try go_simp
                  refine wpPlan_skip (by rfl) (by rfl) ?_
                  try go_simp
                  iterate 1
                    refine wpPlan_read (by rfl) (by rfl) (fun R hR => ?_)
                    apply Exists.intro
                    refine ⟨fun w' hS' => ?_, ?_⟩
                    · go_simp
                      exact ⟨rfl, rfl⟩
                    go_simp
                    refine hR _ ?_
                    clear hR R
                  refine wpPlan_nil ?_
                  have HD : Hid (OwnE lbE u.heap.size wr.drew (.slice a9 (insN x (S.take n)).length c9) (insN x (S.take n))) := Lib.hid HON.out.drew
                  have HBD2 : Hid (Below u.heap.size u wr.drew) := Lib.hid HBN.out.drew
                  have hzd : u.heap.size ≤ wr.drew.heap.size := HBD2.out.size
                  have y0 : wr.drew.cell? ⟨g2, off2 + n * 2, none⟩ = some (.string (bsOf y.1)) := Y0.out
                  have y1 : wr.drew.cell? ⟨g2, off2 + n * 2 + 1, none⟩ = some (.string (bsOf y.2)) := Y1.out
                  generalize wr.drew = wd at *
                  go_wp2_with (at_builtin; refine wpList_append_E lbE (ts := 23) i0 _ 32 Tryd.underlying23 HI.out HZ.out HSZ.out HBY.out rfl (by decide) (by decide) rfl (.tmp 84) (.tmp 89) rfl u.heap.size _ (insN x (S.take n)) rfl (HD.out.alloc _) _ [y] rfl (RdE.one_at (E := lbE) wd y _ rfl _ rfl _ rfl) (by simp; omega) (by simp; omega) ?_; intro v1 w7 o1 g1 a1)
                  have HB7 : Hid (Below u.heap.size u w7) := Lib.hid ((HBD2.out.alloc hzd _).grown g1 (by simp; omega) (fun k hk => (HD.out.lt k hk).1))
                  have O7 := Lib.hid o1
                  clear o1 g1 a1 y0 y1
                  go_wp2_with fail
                  go_roundg (S.length - (n + 1))
                  case measure => have := HNQ.out; omega
                  case rel => exact ⟨n + 1, rfl, by omega, by go_num, by rw [HTK.out, HNX.out.2], by rw [HTK.out, HNX.out.1]; exact O7, HB7⟩
                | false =>
                  clear x0 x1 y0 y1
                  by_cases hless : lessT x.1 y.1 = true
                  · have HNX := Lib.hid (insN_new (y := y) hany hless)
                    have hcmp : Op.bytesLess (bsOf x.1).toList (bsOf y.1).toList = true := by rw [bsOf_toList, bsOf_toList]; exact hless
                    clear hany hless
                    go_wp2_with fail
                    refine wp_region_plan (fun w' => Below wr.heap.size wr w') [(0, true), (1, true), (2, true), (3, true), (4, true), (5, true), (6, true), (7, true), (8, true), (9, true), (10, true), (11, true)] (by kernel_rfl) (by kernel_rfl) ((Below.refl _ _).drew) ?_
                    iterate 12
                      refine wpPlan_read (by rfl) (by rfl) (fun R hR => ?_)
                      apply Exists.intro
                      refine ⟨fun w' hS' => ?_, ?_⟩
                      · have k0 := (hS'.cell (p := ⟨X, 0, none⟩) hXw).trans X0.out
                        have k1 := (hS'.cell (p := ⟨g2, off2 + n * 2, none⟩) hg2).trans Y0.out
                        go_simp
                        exact ⟨rfl, rfl⟩
                      go_simp
                      refine hR _ ?_
                      clear hR R
                    refine wpPlan_nil ?_
                    have HD : Hid (OwnE lbE u.heap.size wr.drew (.slice a9 (insN x (S.take n)).length c9) (insN x (S.take n))) := Lib.hid HON.out.drew
                    have HBD2 : Hid (Below u.heap.size u wr.drew) := Lib.hid HBN.out.drew
                    have hzd : u.heap.size ≤ wr.drew.heap.size := HBD2.out.size
                    have HLD : Hid (EForm lbE wr.drew (some ⟨g2, off2, none⟩) S) := Lib.hid (HLN.out.keep (Below.refl _ _).drew)
                    have y0 : wr.drew.cell? ⟨g2, off2 + n * 2, none⟩ = some (.string (bsOf y.1)) := Y0.out
                    have y1 : wr.drew.cell? ⟨g2, off2 + n * 2 + 1, none⟩ = some (.string (bsOf y.2)) := Y1.out
                    have x0 : wr.drew.cell? ⟨X, 0, none⟩ = some (.string (bsOf x.1)) := X0.out
                    have x1 : wr.drew.cell? ⟨X, 1, none⟩ = some (.string (bsOf x.2)) := X1.out
                    have hg2d : g2 < wr.drew.heap.size := hg2
                    have HUY : Hid (u.cell? ⟨g2, off2 + n * 2, none⟩ = some (.string (bsOf y.1)) ∧ u.cell? ⟨g2, off2 + n * 2 + 1, none⟩ = some (.string (bsOf y.2)) ∧ g2 < u.heap.size) := Lib.hid (by
                      obtain ⟨g3, off3, e3, h3, h4, h5⟩ := HLU.out.lb hnlt
                      simp only [Option.some.injEq, Addr.mk.injEq, and_true] at e3
                      obtain ⟨rfl, rfl⟩ := e3
                      rw [HY.out] at h4 h5
                      exact ⟨h4, h5, h3⟩)
                    generalize wr.drew = wd at *
                    clear hcmp
                    go_upto_region 22 with (at_builtin; refine wpList_append_E lbE (ts := 23) i0 _ 32 Tryd.underlying23 HI.out HZ.out HSZ.out HBY.out rfl (by decide) (by decide) rfl (.tmp 80) (.tmp 82) rfl u.heap.size _ (insN x (S.take n)) rfl (HD.out.alloc _) _ [x] rfl (RdE.one_at (E := lbE) wd x _ rfl _ rfl _ rfl) (by simp; omega) (by simp; omega) ?_; intro v5 w5 o5 g5 a5)
                    have O5 := Lib.hid o5
                    have HB5 : Hid (Below u.heap.size u w5) := Lib.hid ((HBD2.out.alloc hzd _).grown g5 (by simp; omega) (fun k hk => (HD.out.lt k hk).1))
                    have hz5 := HB5.out.size
                    have c5 := (HB5.out.cell (p := ⟨g2, off2 + n * 2, none⟩) HUY.out.2.2).trans HUY.out.1
                    have d5 := (HB5.out.cell (p := ⟨g2, off2 + n * 2 + 1, none⟩) HUY.out.2.2).trans HUY.out.2.1
                    obtain ⟨a5', c5', rfl, _, _, _⟩ := O5.out.form
                    clear o5 g5 a5 y0 y1 x0 x1
                    have y0 := c5; have y1 := d5
                    go_wp2_with (at_builtin; refine wpList_append_E lbE (ts := 23) i0 _ 32 Tryd.underlying23 HI.out HZ.out HSZ.out HBY.out rfl (by decide) (by decide) rfl (.tmp 84) (.tmp 89) rfl u.heap.size _ (insN x (S.take n) ++ [x]) rfl (O5.out.alloc _) _ [y] rfl (RdE.one_at (E := lbE) w5 y _ rfl _ rfl _ rfl) (by simp; omega) (by simp; omega) ?_; intro v1 w7 o1 g1 a1)
                    have HB7 : Hid (Below u.heap.size u w7) := Lib.hid ((HB5.out.alloc hz5 _).grown g1 (by simp; omega) (fun k hk => (O5.out.lt k hk).1))
                    have O7 := Lib.hid o1
                    clear o1 g1 a1 y0 y1 c5 d5
                    go_wp2_with fail
                    go_roundg (S.length - (n + 1))
                    case measure => have := HNQ.out; omega
                    case rel => exact ⟨n + 1, rfl, by omega, by go_num, by rw [HTK.out, HNX.out.2], by rw [HTK.out, HNX.out.1]; exact O7, HB7⟩
                  · have hless' : lessT x.1 y.1 = false := by simpa using hless
                    have HNX := Lib.hid (insN_not (y := y) hany hless')
                    have hcmp : Op.bytesLess (bsOf x.1).toList (bsOf y.1).toList = false := by rw [bsOf_toList, bsOf_toList]; exact hless'
                    clear hany hless hless'
                    go_wp2_with fail
                    refine wp_region_plan (fun w' => Below wr.heap.size wr w') [(0, true), (1, true), (2, true), (3, true), (4, true), (5, true), (6, true), (7, true), (8, true), (9, true), (10, true), (11, true)] (by kernel_rfl) (by kernel_rfl) ((Below.refl _ _).drew) ?_
                    iterate 12
                      refine wpPlan_read (by rfl) (by rfl) (fun R hR => ?_)
                      apply Exists.intro
                      refine ⟨fun w' hS' => ?_, ?_⟩
                      · have k0 := (hS'.cell (p := ⟨X, 0, none⟩) hXw).trans X0.out
                        have k1 := (hS'.cell (p := ⟨g2, off2 + n * 2, none⟩) hg2).trans Y0.out
                        go_simp
                        exact ⟨rfl, rfl⟩
                      go_simp
                      refine hR _ ?_
                      clear hR R
                    refine wpPlan_nil ?_
                    have HD : Hid (OwnE lbE u.heap.size wr.drew (.slice a9 (insN x (S.take n)).length c9) (insN x (S.take n))) := Lib.hid HON.out.drew
                    have HBD2 : Hid (Below u.heap.size u wr.drew) := Lib.hid HBN.out.drew
                    have hzd : u.heap.size ≤ wr.drew.heap.size := HBD2.out.size
                    have HLD : Hid (EForm lbE wr.drew (some ⟨g2, off2, none⟩) S) := Lib.hid (HLN.out.keep (Below.refl _ _).drew)
                    have y0 : wr.drew.cell? ⟨g2, off2 + n * 2, none⟩ = some (.string (bsOf y.1)) := Y0.out
                    have y1 : wr.drew.cell? ⟨g2, off2 + n * 2 + 1, none⟩ = some (.string (bsOf y.2)) := Y1.out
                    have x0 : wr.drew.cell? ⟨X, 0, none⟩ = some (.string (bsOf x.1)) := X0.out
                    have x1 : wr.drew.cell? ⟨X, 1, none⟩ = some (.string (bsOf x.2)) := X1.out
                    have hg2d : g2 < wr.drew.heap.size := hg2
                    have HUY : Hid (u.cell? ⟨g2, off2 + n * 2, none⟩ = some (.string (bsOf y.1)) ∧ u.cell? ⟨g2, off2 + n * 2 + 1, none⟩ = some (.string (bsOf y.2)) ∧ g2 < u.heap.size) := Lib.hid (by
                      obtain ⟨g3, off3, e3, h3, h4, h5⟩ := HLU.out.lb hnlt
                      simp only [Option.some.injEq, Addr.mk.injEq, and_true] at e3
                      obtain ⟨rfl, rfl⟩ := e3
                      rw [HY.out] at h4 h5
                      exact ⟨h4, h5, h3⟩)
                    generalize wr.drew = wd at *
                    clear hcmp x0 x1
                    go_wp2_with (at_builtin; refine wpList_append_E lbE (ts := 23) i0 _ 32 Tryd.underlying23 HI.out HZ.out HSZ.out HBY.out rfl (by decide) (by decide) rfl (.tmp 84) (.tmp 89) rfl u.heap.size _ (insN x (S.take n)) rfl (HD.out.alloc _) _ [y] rfl (RdE.one_at (E := lbE) wd y _ rfl _ rfl _ rfl) (by simp; omega) (by simp; omega) ?_; intro v1 w7 o1 g1 a1)
                    have HB7 : Hid (Below u.heap.size u w7) := Lib.hid ((HBD2.out.alloc hzd _).grown g1 (by simp; omega) (fun k hk => (HD.out.lt k hk).1))
                    have O7 := Lib.hid o1
                    clear o1 g1 a1 y0 y1
                    go_wp2_with fail
                    go_roundg (S.length - (n + 1))
                    case measure => have := HNQ.out; omega
                    case rel => exact ⟨n + 1, rfl, by omega, by go_num, by rw [HTK.out, HNX.out.2], by rw [HTK.out, HNX.out.1]; exact O7, HB7⟩
              · have hTE : S.take n = S := List.take_of_length_le (by omega)
                have HEN := Lib.hid (insN_end (x := x) (A := S))
                have HON' : Hid (OwnE lbE u.heap.size wr (.slice a9 (insN x S).length c9) (insN x S)) := Lib.hid (by have h := HON.out; rw [hTE] at h; exact h)
                have hnl3 : (insN x S).length ≤ 10 := by rw [← hTE]; exact hnl2
                rw [hTE]
                clear HON hnl2
                cases hany : S.any (fun y => lessT x.1 y.1) with
                | true =>
                  rw [hany] at HEN
                  have HIN : Hid (insT x S = insN x S) := Lib.hid (by rw [HEN.out]; rfl)
                  clear hany hTE x0 x1
                  go_wp2_with fail
                  go_roundg (ps.length - (j + 1))
                  case measure => have := HK.out; omega
                  case rel => exact ⟨j + 1, acc ++ [x], rfl, by omega, by go_num, HX, by rw [List.length_append, HA.out]; rfl, HOX, Lib.hid (by rw [HSX.out, HIN.out]; exact HON'.out.more hzu), Lib.hid (HU.out.trans (HBN.out.mono hzu))⟩
                | false =>
                  rw [hany] at HEN
                  have HIN : Hid (insT x S = insN x S ++ [x]) := Lib.hid (by rw [HEN.out]; rfl)
                  clear hany hTE
                  go_wp2_with (at_builtin; refine wpList_append_E lbE (ts := 23) i0 _ 32 Tryd.underlying23 HI.out HZ.out HSZ.out HBY.out rfl (by decide) (by decide) rfl (.tmp 93) (.tmp 95) rfl u.heap.size _ (insN x S) rfl (HON'.out.alloc _) _ [x] rfl (RdE.one_at (E := lbE) wr x _ rfl _ rfl _ rfl) (by simp; omega) (by simp; omega) ?_; intro v1 w7 o1 g1 a1)
                  have HB7 : Hid (Below u.heap.size u w7) := Lib.hid ((HBN.out.alloc hzn _).grown g1 (by simp; omega) (fun k hk => (HON'.out.lt k hk).1))
                  have O7 := Lib.hid o1
                  clear o1 g1 a1 x0 x1
                  go_wp2_with fail
                  go_roundg (ps.length - (j + 1))
                  case measure => have := HK.out; omega
                  case rel => exact ⟨j + 1, acc ++ [x], rfl, by omega, by go_num, HX, by rw [List.length_append, HA.out]; rfl, HOX, Lib.hid (by rw [HSX.out, HIN.out]; exact O7.out.more hzu), Lib.hid (HU.out.trans (HB7.out.mono hzu))⟩
          · have hq : (((b[k].toNat : Nat) : Int) != 61) = true := by rw [bne_iff_ne]; omega
            have HN2 : Hid (∀ m (h : m < b.size), m < k + 1 → b[m].toNat ≠ 61) := Lib.hid (fun m h hm => by
              rcases Nat.lt_or_ge m k with h1 | h1
              · exact HN.out m h h1
              · obtain rfl : m = k := by omega
                exact he)
            clear he
            go_wp2_with fail
            go_roundg (b.size - (k + 1))
            case measure => have := HQ.out; omega
            case rel => exact ⟨k + 1, rfl, by omega, by go_num, HN2, rfl⟩
        · have hq : ((k : Int) == (b.size : Int)) = true := by rw [beq_iff_eq]; omega
          have HNN : Hid (cutL ps = none) := Lib.hid (HCN.out (cutE_out fun m h e => by
            have h' : m < b.size := by rw [HBS.out]; exact h
            refine HN.out m h' (by omega) ?_
            rw [ba_get b m h']
            simp only [HBD.out]
            rw [e]; rfl))
          go_wp2_with fail
          go_ret2
          exact HRP.out _ _ ⟨HB1.out.trans (HBr.out.mono hz1), by rw [if_neg h8, HNN.out]; rfl⟩
    · have HE : Hid (cutL ps = some acc) := Lib.hid (by have := HC.out; rwa [List.take_of_length_le (by omega)] at this)
      go_wp2_with fail
      refine (rRight_any _ (srtT acc) wr HO.out.rd (okLb_srt HOK.out)).mono ?_
      rintro e w7 ⟨rfl, hb7⟩
      have O7 := Lib.hid (HO.out.keep hb7)
      have HB7 : Hid (Below w.heap.size w w7) := Lib.hid (HB1.out.trans ((HBr.out.trans (hb7.mono hz)).mono hz1))
      go_wp2_with fail
      go_ret2
      exact HRP.out _ _ ⟨HB7.out, by rw [if_neg h8, HE.out]; exact ⟨_, rfl, O7.out.more hz1⟩⟩
end Go.Proofs.YtmfocgaojbebgaaDoor
