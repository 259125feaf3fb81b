/- put of the reference: a value into a level. Conditions: lengths. -/
import Derived.Test.YtigmncogjbbmhaaKlC
namespace Go.Proofs.Ytigmncogjbbmhaa
open Go.RowKit

theorem Rst.lvs {F : Nat → Prop} {w : World} {g k led : Nat} {lv : Value} {vs : List Sv} {L : LL} (h : Rst F w g k led lv vs L) (hL : 0 < L.length) : ∃ gl c, lv = .slice (some ⟨gl, 0, none⟩) L.length c ∧ gl < w.heap.size ∧ gl ≠ g ∧ F gl := by
  have hl : 0 < vs.length := by rw [h.lev.len]; exact hL
  obtain ⟨gl, c, e, _, hg, _, _⟩ := h.lev.row.pos hl
  rw [h.lev.len] at e
  refine ⟨gl, c, e, hg, fun e2 => h.g1 ?_, h.lev.fl gl ?_⟩
  · rw [e, e2]; rfl
  · rw [e]; rfl
set_option maxRecDepth 100000 in
set_option maxHeartbeats 8000000 in
theorem rput_any {F : Nat → Prop} {g k led : Nat} {lv : Value} {vs : List Sv} {L : LL} (h : Nat) (x : Int) (w : World) (hs : Rst F w g k led lv vs L) (hh : h ≤ 100) (hL : L.length ≤ 1000) (hl : (lvl L h).length ≤ 1000000000) :
    Calls Try.prog 71 #[.pointer (some ⟨g, 0, none⟩), .int .i64 h, .int .i64 x] w fun e w' => e = .returned (.tuple #[]) ∧ ∃ F' lv' vs', (∀ k, F' k → F k ∨ w.heap.size ≤ k) ∧ (∀ k, F k → F' k) ∧ Rst F' w' g k led lv' vs' (putL L h [x]) ∧ Touch F w w' := by
  obtain ⟨i1, hi0, hiz, his, hib⟩ := info_parts slI
  have JI := Lib.hid hi0
  have JZ := Lib.hid hiz
  have JSZ := Lib.hid his
  have JBY := Lib.hid hib
  clear hi0 hiz his hib
  have HS := Lib.hid hs
  have hgw := hs.blk.lt
  clear hs
  go_enter Try.func71, Try.ntmps71
  go_wp2_with fail
  go_loopg [6] (h + 1 - L.length) (fun q _ wr => ∃ (j : Nat) (F1 : Nat → Prop) (lv1 : Value) (vs1 : List Sv), q = h + 1 - L.length - j ∧ (j = 0 ∨ L.length + j ≤ h + 1) ∧ Hid ((∀ k, F1 k → F k ∨ w.heap.size ≤ k) ∧ (∀ k, F k → F1 k) ∧ Rst F1 wr g k led lv1 vs1 (L ++ List.replicate j []) ∧ Touch F w wr))
  case atStart => exact ⟨0, F, lv, vs, rfl, .inl rfl, Lib.hid ⟨fun k hk => .inl hk, fun k hk => hk, by rw [List.replicate_zero, List.append_nil]; exact HS.out, Touch.refl _ _⟩⟩
  case round =>
    obtain ⟨j, F1, lv1, vs1, hq, hj, HX⟩ := hrel
    have HQ := Lib.hid hq
    clear hq
    have hx := HX.out
    have hw1 := hx.2.2.2.size
    have hst := hx.2.2.1
    obtain ⟨A1, c1, rfl, hc1, hc2, _⟩ := hst.form
    have k1 := hst.cell1
    have f1 := hst.blk.frozen 1
    have hgr := hst.blk.lt
    have hll : (L ++ List.replicate j ([] : List Int)).length = L.length + j := by simp
    rw [hll] at k1 hc1 hst
    by_cases hle : L.length + j ≤ h
    · have hle' : ((L.length + j : Nat) : Int) ≤ (h : Int) := by omega
      have hrow := hst.lev.row
      have HROW := Lib.hid hrow
      have HST := Lib.hid hst
      have hfl : ∀ kk, (Value.slice A1 (L.length + j) c1).ownBlock = some kk → F1 kk := fun kk e => hst.lev.fl kk e
      have hg1 : (Value.slice A1 (L.length + j) c1).ownBlock ≠ some g := hst.g1
      have HFL := Lib.hid hfl
      have HG1 := Lib.hid hg1
      have hvl : vs1.length = L.length + j := by rw [hst.lev.len, hll]
      clear hrow hst hx hfl hg1 hll
      go_wp2_with (at_builtin; refine wpList_append_E slE (ts := 48) i1 _ 24 Try.underlying48 JI.out JZ.out JSZ.out JBY.out rfl (by decide) (by decide) rfl (.tmp 17) (.tmp 18) rfl 0 (.slice A1 (L.length + j) c1) vs1 rfl (HROW.out.alloc _) _ [(none, 0, 0)] rfl (RdE.one_at (E := slE) wr (none, 0, 0) _ rfl _ rfl _ rfl) (by simp; omega) (by omega) ?_; intro v7 w7 o7 g7 a7; have b7 := (g7.block g (by simp; omega) (fun e => HG1.out e.symm)).trans (Blk.alloc HST.out.blk _); have k7 := Blk.cell b7 1; have f7 := Blk.frozen b7 1; simp only [List.getElem?_toArray, List.getElem?_cons_succ, List.getElem?_cons_zero] at k7; have O7 := Lib.hid o7; have G7 := Lib.hid g7; have A7 := Lib.hid a7; obtain ⟨A8, c8, rfl, _, _, _⟩ := o7.form; clear o7 g7 a7 b7; go_simp)
      have e8 : (vs1 ++ [((none, 0, 0) : Sv)]).length = L.length + j + 1 := by rw [List.length_append, hvl]; rfl
      have o7 := O7.out
      have a7 := A7.out
      have g7 := G7.out
      rw [e8] at o7 a7
      have hmore := StG.more (HST.out.keep ((Below.refl _ _).alloc (Nat.le_refl _) (.cells #[.slice none 0 0] 24))) o7 g7 a7
      go_roundg (h + 1 - L.length - (j + 1))
      case measure => have := HQ.out; omega
      case rel =>
        refine ⟨j + 1, _, _, _, rfl, .inr (by omega), Lib.hid ⟨?_, ?_, by rw [ext_succ]; exact hmore, ?_⟩⟩
        · intro kk hkk
          rcases hkk with hkk | hkk
          · exact HX.out.1 kk hkk
          · rcases a7 with e9 | e9
            · rw [e9] at hkk; exact HX.out.1 kk (HFL.out kk hkk)
            · rw [e9] at hkk
              injection hkk with hkk
              rw [← hkk]
              refine .inr ?_
              simp; omega
        · exact fun kk hkk => .inl (HX.out.2.1 kk hkk)
        · refine Touch.setCell (Touch.grown (Touch.alloc HX.out.2.2.2 _) g7 fun kk hkk => ?_) ?_ _
          · exact HX.out.1 kk (HFL.out kk hkk)
          · exact .inl HS.out.fg
    · have hlx : ext L h = L ++ List.replicate j [] := by
        unfold ext
        congr 2
        omega
      rw [← hlx] at hst
      have hhl : h < (ext L h).length := by rw [ext_length]; omega
      have hlen : (ext L h).length = L.length + j := by rw [hlx, hll]
      obtain ⟨gl, cl, elv, hgl, hglg, hFgl⟩ := Rst.lvs hst (by omega)
      rw [hlen] at elv
      injection elv with elv e2 e3
      subst elv; subst e3
      have hv : h < vs1.length := by rw [hst.lev.len]; exact hhl
      have ol := hst.lev.each h hv
      rw [lvl_ext] at ol
      have cl2 := hst.lev.row.cellAt hv 0 (by decide)
      rw [show h * slE.k + 0 = h by show h * 1 + 0 = h; omega] at cl2
      have fl2 := hst.lev.row.frozenAt h
      have HST := Lib.hid hst
      have hfT := HX.out.2.2.2
      have HFT := Lib.hid hfT
      have HFX := Lib.hid HX.out.1
      have HFY := Lib.hid HX.out.2.1
      obtain ⟨s, hs⟩ : ∃ s, vs1[h] = s := ⟨_, rfl⟩
      rw [hs] at ol cl2
      obtain ⟨sA, sn, sc⟩ := s
      obtain ⟨_, _, es, _, _, _⟩ := ol.form
      injection es with es1 es2 es3
      subst es2
      have OL := Lib.hid ol.rd
      have C1 := Lib.hid k1
      have C2 : Hid (wr.cell? ⟨gl, h, none⟩ = some (.slice sA (lvl L h).length sc)) := Lib.hid (cl2.trans rfl)
      have FL2 := Lib.hid fl2
      clear hx HX hst cl2 fl2 f1 ol hs es1 es3 hfT hll hlx
      have hhi : h < L.length + j := by omega
      go_upto_region 2 with fail
      clear k1
      refine wp_region_planS (fun w' => Below wr.heap.size wr w') 15 [(0, 1), (1, 1), (2, 1), (3, 1), (4, 1), (5, 1), (6, 1), (7, 1), (8, 1), (9, 1), (10, 1), (11, 1), (12, 1), (13, 0), (14, 1), (15, 0)] (by kernel_rfl) (by kernel_rfl) ((Below.refl _ _).drew) ?_
      iterate 13
        refine wpPlanS_read (by rfl) (by rfl) (fun R hR => ?_)
        apply Exists.intro
        refine ⟨fun w' hS' => ?_, ?_⟩
        · have k1 := (hS'.cell (p := ⟨g, 1, none⟩) hgr).trans C1.out
          have k2 := (hS'.cell (p := ⟨gl, h, none⟩) hgl).trans C2.out
          go_simp
          exact ⟨rfl, rfl⟩
        go_simp
        refine hR _ ?_
        clear hR R
      refine wpPlanS_do (by rfl) (by rfl) (by rfl) (fun K hK => ?_)
      go_simp
      refine (into_any (.slice sA (lvl L h).length sc) (lvl L h) x _ (OL.out.keep (Below.refl _ _).drew) hl).mono ?_
      rintro e w7 ⟨⟨s7, n7, c7⟩, rfl, o7, hb7⟩
      have B7 : Below wr.heap.size wr w7 := ((Below.refl _ _).drew).trans hb7
      obtain ⟨_, _, es, _, _, _⟩ := o7.form
      injection es with es1 es2 es3
      subst es2
      have O7 := Lib.hid o7
      clear o7 hb7 es1 es3
      unfold svV
      refine hK _ _ (B7) ?_
      clear hK K
      iterate 1
        refine wpPlanS_read (by rfl) (by rfl) (fun R hR => ?_)
        apply Exists.intro
        refine ⟨fun w' hS' => ?_, ?_⟩
        · have k1 := (hS'.cell (p := ⟨g, 1, none⟩) hgr).trans C1.out
          have k2 := (hS'.cell (p := ⟨gl, h, none⟩) hgl).trans C2.out
          go_simp
          exact ⟨rfl, rfl⟩
        go_simp
        refine hR _ ?_
        clear hR R
      refine wpPlanS_end (by rfl) (by rfl) (by rfl) (fun K hK => ?_)
      have k2 := (B7.cell (p := ⟨gl, h, none⟩) hgl).trans C2.out
      have f2 := (B7.frozen (p := ⟨gl, h, none⟩) hgl).trans FL2.out
      go_simp
      refine hK _ _ ?_
      clear hK K
      refine wpPlanS_nil ?_
      clear k2 f2
      have lev := StG.level (s' := (s7, (ins x (lvl L h)).length, c7)) (l' := ins x (lvl L h)) HST.out hhl rfl (O7.out.more (Nat.zero_le _)) (fun kk h1 _ => B7.block kk h1) B7.size (.inr fun kk e => (O7.out.lt kk e).1)
      have TT : Touch F w w7 := HFT.out.trans (Touch.of_below (F := fun _ => False) B7 (Nat.le_refl _)) fun kk hk => hk.elim
      have T8 := Lib.hid (TT.setCell (p := ⟨gl, h, none⟩) (HFX.out gl hFgl) (svV (s7, (ins x (lvl L h)).length, c7)))
      have HLEV := Lib.hid lev
      have hzw : w.heap.size ≤ wr.heap.size := HFT.out.size
      have HOWN := Lib.hid (fun kk e => (O7.out.lt kk e).1)
      clear lev TT B7 HST OL C1 C2 FL2
      go_wp2_with fail
      go_end0
      refine ⟨rfl, _, ?_, ?_, ⟨_, _, HLEV.out⟩, T8.out⟩
      · intro kk hk
        rcases hk with hk | hk
        · exact HFX.out kk hk
        · exact .inr (Nat.le_trans hzw (HOWN.out kk hk))
      · exact fun kk hk => .inl (HFY.out kk hk)
end Go.Proofs.Ytigmncogjbbmhaa
