/- Parse. Condition: the text is shorter than the model's bound on a search. -/
import Derived.Test.YtmfocgaojbebgaaDoorLbG
namespace Go.Proofs.YtmfocgaojbebgaaDoor
open Go.RowKit

/-! ### The library's sort, whole -/
set_option maxHeartbeats 400000 in
theorem insertion_none (v : Value) (w : World) : Calls Tryd.prog 63 #[v, .int .i64 0, .int .i64 0, fnN] w fun e w' => e = .returned (.tuple #[]) ∧ w = w' := by
  unfold fnN
  go_enter Tryd.func63, Tryd.ntmps63
  go_wp2_with fail
  go_loop [8] (fun i => i = .int .i64 1) (fun _ => 0)
  case atStart => rfl
  case round =>
    obtain rfl := hrel
    go_wp2_with fail
    go_end0
    exact ⟨rfl, rfl⟩
theorem OwnE.nil_of {base : Nat} {w : World} {v : Value} (h : OwnE lbE base w v []) : OwnE lbE base w v (srtT []) := h
set_option maxHeartbeats 1000000 in
theorem stable_any (v : Value) (base : Nat) (l : List Lb) (w : World) (h : OwnE lbE base w v l) (hl : l.length ≤ 8) :
    Calls Tryd.prog 47 #[v, .int .i64 l.length, fnN] w fun e w' => e = .returned (.tuple #[]) ∧ OwnE lbE base w' v (srtT l) ∧ Touch (fun k => v.ownBlock = some k) w w' := by
  have key : Hid (Calls Tryd.prog 63 #[v, .int .i64 0, .int .i64 l.length, fnN] w fun e w' => e = .returned (.tuple #[]) ∧ OwnE lbE base w' v (srtT l) ∧ Touch (fun k => v.ownBlock = some k) w w') := by
    show Calls Tryd.prog 63 _ _ _
    rcases Nat.eq_zero_or_pos l.length with h0 | h0
    · have e : l = [] := List.eq_nil_of_length_eq_zero h0
      subst e
      refine (insertion_none v w).mono ?_
      rintro e w' ⟨rfl, rfl⟩
      exact ⟨rfl, h, Touch.refl _ _⟩
    · obtain ⟨g, c, rfl, hg1, hg2, hc1, hc2⟩ := h.pos h0
      refine (insertion_any g c base l w h hl hg2 hc1 hc2).mono ?_
      rintro e w' ⟨rfl, h1, h2⟩
      exact ⟨rfl, h1, h2.mono fun i hi => by subst hi; rfl⟩
  clear h
  obtain ⟨n, hn⟩ : ∃ n, l.length = n := ⟨_, rfl⟩
  rw [hn] at key hl
  have HN := Lib.hid hn
  clear hn
  rw [HN.out]
  go_enter Tryd.func47, Tryd.ntmps47
  unfold fnN at key ⊢
  go_wp2_with fail
  go_loop [7, 8] (fun a b => a = .int .i64 0 ∧ b = .int .i64 20) (fun _ _ => 0)
  case atStart => exact ⟨rfl, rfl⟩
  case round =>
    obtain ⟨rfl, rfl⟩ := hrel
    have h1 : ¬ (20 : Int) ≤ n := by omega
    have h2 : ¬ (20 : Int) < n := by omega
    go_wp2_with fail
    refine key.out.mono ?_
    rintro e w1 ⟨rfl, o1, t1⟩
    have O1 := Lib.hid o1
    clear o1
    go_wp2_with fail
    go_loopw [6] (fun b wr => b = .int .i64 20 ∧ wr = w1) (fun _ _ => 0)
    case atStart => exact ⟨rfl, rfl⟩
    case round =>
      obtain ⟨rfl, rfl⟩ := hrel
      go_wp2_with fail
      go_end0
      exact ⟨rfl, O1.out, t1⟩
set_option maxHeartbeats 1000000 in
theorem sortStable_any (v : Value) (base : Nat) (l : List Lb) (w : World) (h : OwnE lbE base w v l) (hl : l.length ≤ 8) :
    Calls Tryd.prog 29 #[v, fnN] w fun e w' => e = .returned (.tuple #[]) ∧ OwnE lbE base w' v (srtT l) ∧ Touch (fun k => v.ownBlock = some k) w w' := by
  have HC := Lib.hid (stable_any v base l w h hl)
  obtain ⟨A, c, rfl, _, _, _⟩ := h.form
  clear h
  unfold fnN at HC ⊢
  go_enter Tryd.func29, Tryd.ntmps29
  go_wp2_with fail
  refine HC.out.mono ?_
  rintro e w1 ⟨rfl, o1, t1⟩
  have O1 := Lib.hid o1
  clear o1
  go_wp2_with fail
  go_end0
  exact ⟨rfl, O1.out, t1⟩

/-! ### Parts -/
/-- The library's variable that a search reads holds some int. -/
def MaxAt (w : World) : Prop := ∃ m : Int, w.cell? ⟨0, 0, none⟩ = some (.int .i64 m)
theorem MaxAt.keep {w w' : World} (h : MaxAt w) (hb : Below w.heap.size w w') : MaxAt w' := by
  obtain ⟨m, hm⟩ := h
  exact ⟨m, (hb.cell (p := ⟨0, 0, none⟩) (World.block_lt_of_cell? _ _ hm)).trans hm⟩
def txE : Lie Tx where
  k := 1
  t := 9
  enc x := [.string (bsOf x)]
  len _ := rfl
  one x u hu := by
    simp only [List.mem_cons, List.not_mem_nil, or_false] at hu
    subst hu; rfl
theorem EForm.tx {w : World} {A : Option Addr} {l : List Tx} (h : EForm txE w A l) {j : Nat} (hj : j < l.length) :
    ∃ g off, A = some ⟨g, off, none⟩ ∧ g < w.heap.size ∧ w.cell? ⟨g, off + j, none⟩ = some (.string (bsOf l[j])) := by
  obtain ⟨g, off, hA, hg, hc⟩ := h (by omega)
  refine ⟨g, off, hA, hg, ?_⟩
  have := hc j hj 0 (by decide)
  rw [show off + j * txE.k + 0 = off + j by show off + j * 1 + 0 = _; omega] at this
  exact this
theorem cells_tx : ∀ l : List Tx, cellsE txE l = (l.map bsOf).map Value.string
  | [] => rfl
  | x :: l => by rw [cellsE_cons, cells_tx l]; rfl
set_option maxHeartbeats 400000 in
theorem parts_t (s : Tx) (w : World) (hM : MaxAt w) (hs : s.length < 4294967281) :
    Calls Tryd.prog 27 #[.string (bsOf s)] w fun e w' => ∃ v, e = .returned v ∧ RdE txE w' v (partsT s) ∧ Below w.heap.size w w' := by
  obtain ⟨m, hm⟩ := hM
  have HM := Lib.hid hm
  clear hm
  have ht := bsOf_toList s
  by_cases h0 : s = []
  · subst h0
    have HP : Hid (partsT [] = []) := Lib.hid rfl
    go_enter Tryd.func27, Tryd.ntmps27
    go_wp2_with fail
    go_ret
    exact ⟨_, rfl, by rw [HP.out]; exact RdE.nil_ _, Below.refl _ _⟩
  · have hE : s.isEmpty = false := by simpa using h0
    have hE2 : (s == []) = false := by simpa using h0
    have HP : Hid (partsT s = spl 44 s) := Lib.hid (by unfold partsT; rw [hE]; rfl)
    have HS := Lib.hid (Tryd.strings_Split (bsOf s) (bsOf [44]) m w (by rw [bsOf_size]; exact hs) HM.out (by rw [bsOf_size]; decide))
    clear h0
    go_enter Tryd.func27, Tryd.ntmps27
    go_wp2_with fail
    refine HS.out.mono ?_
    rintro e w' ⟨rfl, rfl⟩
    clear HS
    go_wp2_with fail
    go_ret
    refine ⟨_, rfl, ?_, by (repeat' (first | (with_reducible exact Below.refl _ _) | (with_reducible refine Below.alloc ?_ ?_ _) | (with_reducible refine Below.drew ?_) | (with_reducible refine below_drewN ?_ _) | (with_reducible refine Below.setCell ?_ ?_ _) | (with_reducible refine below_of (by assumption) ?_ ?_) | go_size))⟩
    rw [HP.out]
    obtain ⟨h1, h2⟩ := splitB_spl (bsOf s) 44
    rw [bsOf_data] at h1 h2
    rw [h1, h2]
    refine (OwnE.lit (E := txE) w (spl 44 s) _ rfl _ (by rw [cells_tx]) ?_).rd
    have := spl_len 44 s
    omega
end Go.Proofs.YtmfocgaojbebgaaDoor
