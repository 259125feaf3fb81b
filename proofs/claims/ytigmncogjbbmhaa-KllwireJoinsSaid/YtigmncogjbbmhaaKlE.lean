/- Coins, of the program and of the reference. Condition: a coin's bytes are few. -/
import Derived.Test.YtigmncogjbbmhaaKlD
namespace Go.Proofs.Ytigmncogjbbmhaa
open Go.RowKit

def u8E : Lie Int where
  k := 1
  t := 5
  enc x := [.int .u8 x]
  len _ := rfl
  one x u hu := by
    simp only [List.mem_cons, List.not_mem_nil, or_false] at hu
    subst hu; rfl
theorem EForm.u8 {w : World} {A : Option Addr} {l : List Int} (h : EForm u8E w A l) {j : Nat} (hj : j < l.length) :
    ∃ g off, A = some ⟨g, off, none⟩ ∧ g < w.heap.size ∧ w.cell? ⟨g, off + j, none⟩ = some (.int .u8 l[j]) := by
  obtain ⟨g, off, hA, hg, hc⟩ := h (by omega)
  refine ⟨g, off, hA, hg, ?_⟩
  have := hc j hj 0 (by decide)
  rw [show off + j * u8E.k + 0 = off + j by show off + j * 1 + 0 = _; omega] at this
  exact this
theorem RdE.stay {α : Type} {E : Lie α} {w w' : World} {v : Value} {l : List α} (h : RdE E w v l) (hk : ∀ k, v.ownBlock = some k → w'.heap[k]? = w.heap[k]?) (hz : w.heap.size ≤ w'.heap.size) : RdE E w' v l := by
  obtain ⟨A, c, rfl, h1, h2, h3⟩ := h.form
  refine RdE.of_form h1 h2 fun h0 => ?_
  obtain ⟨g, off, rfl, hg, hc⟩ := h3 h0
  exact ⟨g, off, rfl, by omega, fun j hj i hi => (World.cell?_of_block (hk g rfl)).trans (hc j hj i hi)⟩
/-- Bytes. -/
def Byt (B : List Int) : Prop := B.length ≤ 1000000 ∧ ∀ x ∈ B, 0 ≤ x ∧ x ≤ 255
/-- A reader of bits at block g. -/
structure RCt (t : TypeId) (w : World) (g : Nat) (v : Value) (B : List Int) (a : Nat) : Prop where
  blk : Blk w g t #[v, .int .i64 a]
  rd : RdE u8E w v B
  ne : v.ownBlock ≠ some g
  at_ : a ≤ 8 * B.length
  byt : Byt B
theorem RCt.stay {t : TypeId} {w w' : World} {g : Nat} {v : Value} {B : List Int} {a : Nat} (h : RCt t w g v B a) (hg : w'.heap[g]? = w.heap[g]?) (hk : ∀ k, v.ownBlock = some k → w'.heap[k]? = w.heap[k]?) (hz : w.heap.size ≤ w'.heap.size) : RCt t w' g v B a :=
  ⟨hg.trans h.blk, h.rd.stay hk hz, h.ne, h.at_, h.byt⟩
theorem RCt.drewN {t : TypeId} {w : World} {g : Nat} {v : Value} {B : List Int} {a : Nat} (h : RCt t w g v B a) (n : Nat) : RCt t (w.drewN n) g v B a := h.stay rfl (fun _ _ => rfl) (Nat.le_refl _)
theorem RCt.step {t : TypeId} {w : World} {g : Nat} {v : Value} {B : List Int} {a : Nat} (h : RCt t w g v B a) (ha : a < 8 * B.length) : RCt t (w.setCell ⟨g, 1, none⟩ (.int .i64 (a + 1 : Nat))) g v B (a + 1) := by
  have hk : ∀ k, k ≠ g → (w.setCell ⟨g, 1, none⟩ (.int .i64 (a + 1 : Nat))).heap[k]? = w.heap[k]? := fun k hk => Below.heap_setCell w ⟨g, 1, none⟩ _ k hk
  refine ⟨?_, h.rd.stay (fun k e => hk k fun e2 => h.ne (by rw [e, e2])) (by simp), h.ne, ha, h.byt⟩
  have := h.blk.set_ 1 (.int .i64 (a + 1 : Nat))
  simpa using this
/-- The reference's coins. -/
abbrev RC := RCt 44
/-- The program's reader of bits. -/
abbrev BR := RCt 141
theorem wrap_byte {y : Int} (h : 0 ≤ y ∧ y ≤ 255) : wrap64 y = y := by unfold wrap64; omega
set_option maxRecDepth 100000 in
set_option maxHeartbeats 4000000 in
theorem rnext_any (g : Nat) (v : Value) (B : List Int) (a : Nat) (w : World) (h : RC w g v B a) :
    Calls Try.prog 25 #[.pointer (some ⟨g, 0, none⟩)] w fun e w' => e = .returned (.int .i64 (coinAt B a : Nat)) ∧ RC w' g v B (coinNx B a) ∧ Touch (fun k => k = g) w w' := by
  have HH := Lib.hid h
  obtain ⟨A, c, rfl, hc1, hc2, hf⟩ := h.rd.form
  have hgw := h.blk.lt
  have c0 := h.blk.cell 0
  have c1 := h.blk.cell 1
  have f1 := h.blk.frozen 1
  have hb1 := h.byt.1
  have hat := h.at_
  simp only [List.getElem?_toArray, List.getElem?_cons_succ, List.getElem?_cons_zero] at c0 c1
  have HF := Lib.hid hf
  clear h hf
  by_cases hlt : a < 8 * B.length
  · have hl8 : a / 8 < B.length := by omega
    obtain ⟨gb, off, rfl, hgb, cb⟩ := HF.out.u8 hl8
    have hx := HH.out.byt.2 _ (List.getElem_mem hl8)
    obtain ⟨x, hxe⟩ : ∃ x, B[a / 8] = x := ⟨_, rfl⟩
    rw [hxe] at cb hx
    have HX := Lib.hid hxe
    clear hxe
    have hge : ¬ (a : Int) ≥ 8 * (B.length : Int) := by omega
    go_enter Try.func25, Try.ntmps25
    go_wp2_with fail
    go_quiet (fail)
    go_wp2_with fail
    go_quiet (fail)
    have hy : 0 ≤ x / 2 ^ (a % 8) ∧ x / 2 ^ (a % 8) ≤ 255 := by
      have hp : (0 : Int) < 2 ^ (a % 8) := Int.pow_pos (by decide)
      exact ⟨Int.ediv_nonneg hx.1 (by omega), Int.le_trans (Int.ediv_le_self _ hx.1) hx.2⟩
    have HC : Hid (x / 2 ^ (a % 8) % 2 = ((coinAt B a : Nat) : Int)) := Lib.hid (by
      unfold coinAt
      rw [if_pos hlt]
      simp only [List.getD]
      rw [List.getElem?_eq_getElem hl8, Option.getD_some, HX.out]
      omega)
    have hT : (wrap64 (x / 2 ^ (a % 8))).tmod 2 = ((coinAt B a : Nat) : Int) := by
      rw [wrap_byte hy, Int.tmod_eq_emod_of_nonneg hy.1]
      exact HC.out
    rw [hT]
    clear hT HC hy
    have hc2 : coinNx B a = a + 1 := by unfold coinNx; rw [if_pos hlt]
    have HC2 := Lib.hid hc2
    clear hc2
    obtain ⟨y, hy⟩ : ∃ y, coinAt B a = y := ⟨_, rfl⟩
    rw [hy]
    have HY := Lib.hid hy
    clear hy
    go_wp2_with fail
    refine bodyPost_ret (by simp [results, Try.results25, go_sem, *]; try rfl) rfl ?_
    refine ⟨by rw [HY.out], ?_, ?_⟩
    · rw [HC2.out]
      exact (HH.out.drewN _).step hlt
    · exact Touch.setCell (F := fun k => k = g) (Touch.drewN (Touch.refl _ _) _) (.inl rfl) _
  · have hge : (a : Int) ≥ 8 * (B.length : Int) := by omega
    go_enter Try.func25, Try.ntmps25
    go_wp2_with fail
    go_quiet (fail)
    go_wp2_with fail
    refine bodyPost_ret (by simp [results, Try.results25, go_sem, *]; try rfl) rfl ?_
    have h1 : coinNx B a = a := by unfold coinNx; rw [if_neg hlt]
    have h2 : coinAt B a = 0 := by unfold coinAt; rw [if_neg hlt]
    rw [h1, h2]
    exact ⟨rfl, HH.out.stay rfl (fun _ _ => rfl) (Nat.le_refl _), Touch.drewN (Touch.refl _ _) _⟩
end Go.Proofs.Ytigmncogjbbmhaa
