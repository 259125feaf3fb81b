/- The text of labels. No condition. -/
import Derived.Test.YtmfocgaojbebgaaDoorLbE
namespace Go.Proofs.YtmfocgaojbebgaaDoor
open Go.RowKit

theorem bu_keep {B b : Nat} {p : Value} {bs : List Value} {w w' : World} (h : Lib.BuilderAt 60 5 B b p bs w) (hb : Below w.heap.size w w') : Lib.BuilderAt 60 5 B b p bs w' := by
  have hlt := h.lt
  obtain ⟨hB, v, h1, h2, h3⟩ := h
  refine ⟨hB, v, (hb.block b hlt).trans h1, ?_, h3⟩
  obtain ⟨o1, o2⟩ := h2
  refine ⟨o1, ?_⟩
  rcases o2 with o2 | ⟨g, cap, cur, rfl, e2, e3, r⟩
  · exact .inl o2
  · exact .inr ⟨g, cap, cur, rfl, e2, (hb.block g (Array.getElem?_eq_some_iff.1 e3).1).trans e3, r⟩
theorem BuAt.keep {B b : Nat} {l : Tx} {w w' : World} (h : BuAt B b l w) (hb : Below w.heap.size w w') : BuAt B b l w' := by
  rcases h with h | h
  · exact .inl (bu_keep h hb)
  · exact .inr (bu_keep h hb)
theorem BuAt.fresh (w : World) : BuAt w.heap.size w.heap.size [] (w.alloc (.cells #[.pointer none, .slice none 0 0] 60)) := Lib.fresh_isBuilder _ _ w
theorem wbyte_t (B b : Nat) (l : Tx) (c : UInt8) (w : World) (h : BuAt B b l w) (hlen : l.length ≤ 1099511627776) (hBw : B ≤ w.heap.size) :
    Calls Tryd.prog 31 #[.pointer (some ⟨b, 0, none⟩), .int .u8 c.toNat] w fun e w' => e = .returned .nilIface ∧ BuAt B b (l ++ [c]) w' ∧ Below B w w' ∧ ∀ (q : Nat) (cs : Array Value) (T : TypeId) (fr : Nat × Nat), w.heap[q]? = some (.cells cs T fr) → T ≠ 5 → q ≠ b → w'.heap[q]? = some (.cells cs T fr) := by
  refine (WriteByte_any B b (Lib.byteCells l) c.toNat w h (by rw [Lib.byteCells_length]; omega) hBw).mono ?_
  rintro e w' ⟨he, ⟨h1, h2⟩, h3⟩
  refine ⟨he, .inr ?_, h2, h3⟩
  rw [Lib.byteCells_append]
  exact h1
theorem wstr_t (B b : Nat) (l s : Tx) (w : World) (h : BuAt B b l w) (hlen : l.length + s.length ≤ 1099511627776) (hBw : B ≤ w.heap.size) :
    Calls Tryd.prog 32 #[.pointer (some ⟨b, 0, none⟩), .string (bsOf s)] w fun e w' => (∃ n : Int, e = .returned (.tuple #[.int .i64 n, .nilIface])) ∧ BuAt B b (l ++ s) w' ∧ Below B w w' := by
  refine (WriteString_any B b (Lib.byteCells l) (bsOf s) w h (by rw [Lib.byteCells_length, bsOf_size]; omega) hBw).mono ?_
  rintro e w' ⟨he, h1, h2⟩
  refine ⟨⟨_, he⟩, .inr ?_, h2⟩
  rw [Lib.byteCells_append]
  rw [Lib.strCells_eq, bsOf_data] at h1
  exact h1
theorem bstring_t (B b : Nat) (l : Tx) (w : World) (h : BuAt B b l w) (hBw : B ≤ w.heap.size) :
    Calls Tryd.prog 33 #[.pointer (some ⟨b, 0, none⟩)] w fun e w' => e = .returned (.string (bsOf l)) ∧ Below B w w' := Tryd.Builder_String_any B b l w h hBw

/-- The text of a set; of what is none, nothing. -/
def textR (l : List Lb) : Tx := if rightL l then textT l else []
set_option maxRecDepth 100000 in
set_option maxHeartbeats 2000000 in
theorem Text_any (v : Value) (l : List Lb) (w : World) (h : RdE lbE w v l) : Calls Tryd.prog 11 #[v] w fun e w' => e = .returned (.string (bsOf (textR l))) ∧ Below w.heap.size w w' := by
  have HR := Lib.hid h
  obtain ⟨A, c, rfl, hn, hc, hp⟩ := h.form
  have HP := Lib.hid hp
  clear hp h
  by_cases hr : rightL l = true
  · have HT : Hid (textR l = textT l) := Lib.hid (by unfold textR; rw [if_pos hr])
    have hr' := hr
    unfold rightL at hr'
    simp only [Bool.and_eq_true, decide_eq_true_eq] at hr'
    have HA := Lib.hid hr'.1.1
    have h8 := hr'.2
    clear hr'
    go_enter Tryd.func11, Tryd.ntmps11
    go_wp2_with fail
    refine (Right_any _ l w HR.out).mono ?_
    rintro e w1 ⟨rfl, hb1⟩
    have hz1 := hb1.size
    go_wp2_with fail
    clear hr
    have hbB : Below w.heap.size w (w1.alloc (.cells #[.pointer none, .slice none 0 0] 60)) := hb1.alloc hz1 _
    have BU := Lib.hid (BuAt.fresh w1)
    have hzB : w1.heap.size < (w1.alloc (.cells #[.pointer none, .slice none 0 0] 60)).heap.size := by simp
    generalize w1.alloc (.cells #[.pointer none, .slice none 0 0] 60) = w2 at *
    clear hb1
    generalize w1.heap.size = B at *
    go_loopg [11] l.length (fun q i wr => ∃ j : Nat, q = l.length - j ∧ j ≤ l.length ∧ i = .int .i64 j ∧ Hid (BuAt B B (textT (l.take j)) wr) ∧ Below w.heap.size w wr ∧ B < wr.heap.size)
    case atStart => exact ⟨0, rfl, by omega, rfl, BU, hbB, hzB⟩
    case round =>
      obtain ⟨j, hk, hj, rfl, BT, hb, hBr⟩ := hrel
      have HK := Lib.hid hk
      have hz := hb.size
      clear hk
      by_cases hlt : j < l.length
      · obtain ⟨g, off, rfl, hg, c0, c1⟩ := (HP.out.keep hb).lb hlt
        have hlen := text_len HA.out j (by omega)
        have hx := lab_len (List.all_eq_true.1 HA.out _ (List.getElem_mem hlt))
        have HTT := Lib.hid (text_take hlt)
        have HTE : Hid (j = 0 → textT (l.take j) = []) := Lib.hid (fun h => by subst h; rfl)
        obtain ⟨x, hxx⟩ : ∃ x, l[j] = x := ⟨_, rfl⟩
        rw [hxx] at c0 c1 hx HTT
        have ap := bsOf_append
        have sz := bsOf_size
        have e61 : (⟨#[61]⟩ : ByteArray) = bsOf [61] := rfl
        obtain ⟨t, ht⟩ : ∃ t, textT (l.take j) = t := ⟨_, rfl⟩
        rw [ht] at hlen HTT HTE BT
        obtain ⟨h1, h2⟩ := hx
        clear hxx ht
        have hal : Below wr.heap.size wr (wr.alloc (.cells #[.string (bsOf x.1), .string (bsOf x.2)] 50)) := (Below.refl _ _).alloc (Nat.le_refl _) _
        have BT2 : Hid (BuAt B B t (wr.alloc (.cells #[.string (bsOf x.1), .string (bsOf x.2)] 50))) := Lib.hid (BuAt.keep BT.out hal)
        have hza : (wr.alloc (.cells #[.string (bsOf x.1), .string (bsOf x.2)] 50)).heap.size = wr.heap.size + 1 := by simp
        have hbu : Below w.heap.size w (wr.alloc (.cells #[.string (bsOf x.1), .string (bsOf x.2)] 50)) := hb.trans (hal.mono hz)
        have HBK := Lib.hid (heap_alloc_new wr (.cells #[.string (bsOf x.1), .string (bsOf x.2)] 50))
        by_cases h0 : 0 < j
        · go_wp2_with fail
          clear c0 c1 hal
          generalize wr.alloc (.cells #[.string (bsOf x.1), .string (bsOf x.2)] 50) = u at *
          have WB := Lib.hid (wbyte_t B B t 44 u BT2.out (by omega) (by omega))
          refine (WB.out).mono ?_
          clear WB
          rintro e w5 ⟨rfl, bt5, hb5, hq5⟩
          have hz5 := hb5.size
          have h5 := hq5 _ _ _ _ HBK.out (by decide) (by omega)
          have k0 : w5.cell? ⟨wr.heap.size, 0, none⟩ = some (.string (bsOf x.1)) := by rw [Lib.cell_of_heap h5]; rfl
          have k1 : w5.cell? ⟨wr.heap.size, 1, none⟩ = some (.string (bsOf x.2)) := by rw [Lib.cell_of_heap h5]; rfl
          have BT5 := Lib.hid bt5
          clear bt5 hq5 h5
          go_wp2_with fail
          have WS := Lib.hid (wstr_t B B (t ++ [44]) (x.1 ++ ([61] ++ x.2)) w5 BT5.out (by simp; omega) (by omega))
          refine (WS.out).mono ?_
          clear WS
          rintro e w6 ⟨⟨n6, rfl⟩, bt6, hb6⟩
          have hz6 := hb6.size
          have BT6 := Lib.hid bt6
          clear bt6 ap sz e61 k0 k1
          go_wp2_with fail
          go_roundg (l.length - (j + 1))
          case measure => have := HK.out; omega
          case rel => exact ⟨j + 1, rfl, by omega, by go_num, Lib.hid (by rw [HTT.out, if_pos h0]; exact BT6.out), hbu.trans ((hb5.mono (by omega)).trans (hb6.mono (by omega))), by omega⟩
        · have h0' : ¬ (j : Int) > 0 := by omega
          have hj0 : Hid (j = 0) := Lib.hid (by omega)
          go_wp2_with fail
          clear c0 c1 hal
          generalize wr.alloc (.cells #[.string (bsOf x.1), .string (bsOf x.2)] 50) = u at *
          have WS := Lib.hid (wstr_t B B t (x.1 ++ ([61] ++ x.2)) u BT2.out (by simp; omega) (by omega))
          refine (WS.out).mono ?_
          clear WS
          rintro e w6 ⟨⟨n6, rfl⟩, bt6, hb6⟩
          have hz6 := hb6.size
          have BT6 := Lib.hid bt6
          clear bt6 ap sz e61
          go_wp2_with fail
          go_roundg (l.length - (j + 1))
          case measure => have := HK.out; omega
          case rel => exact ⟨j + 1, rfl, by omega, by go_num, Lib.hid (by rw [HTT.out, if_neg h0]; have := BT6.out; rw [HTE.out hj0.out] at this; exact this), hbu.trans (hb6.mono (by omega)), by omega⟩
      · have HE : Hid (textR l = textT (l.take j)) := Lib.hid (by rw [HT.out, List.take_of_length_le (by omega)])
        go_wp2_with fail
        refine (bstring_t B B _ wr BT.out (by omega)).mono ?_
        rintro e w3 ⟨rfl, hb3⟩
        go_wp2_with fail
        go_ret
        exact ⟨ret_str HE.out.symm, hb.trans (hb3.mono (by omega))⟩
  · have HT : Hid (textR l = []) := Lib.hid (by unfold textR; rw [if_neg hr])
    have hr' : rightL l = false := by simpa using hr
    clear hr
    go_enter Tryd.func11, Tryd.ntmps11
    go_wp2_with fail
    refine (Right_any _ l w HR.out).mono ?_
    rintro e w1 ⟨rfl, hb1⟩
    go_wp2_with fail
    go_ret
    exact ⟨ret_str HT.out.symm, hb1⟩
end Go.Proofs.YtmfocgaojbebgaaDoor
