/- What TdwireJoins' walks lean on. -/
import Derived.Test.YtedhpkfbobgkgaaTeX
import Derived.Test.YtedhpkfbobgkgaaTeH
import Derived.Test.YtedhpkfbobgkgaaOpsX
namespace Go.Proofs.Ytedhpkfbobgkgaa
open Go.RowKit Go.Lib

theorem RdI.cut {k : IntKind} {w : World} {g off c n : Nat} {l : List Int} (h : RdI k w (.slice (some ⟨g, off, none⟩) l.length c) l) (hn : n ≤ l.length) : RdI k w (.slice (some ⟨g, off, none⟩) n c) (l.take n) := by
  obtain ⟨hl, A, c', hv, hn', hc, hd⟩ := h
  simp only [Value.slice.injEq, true_and] at hv
  obtain ⟨rfl, rfl⟩ := hv
  unfold RdI
  rw [show (l.take n).length = n by rw [List.length_take]; omega]
  refine ⟨by rw [List.length_map, List.length_take]; omega, _, _, rfl, by omega, hc, fun h0 => ?_⟩
  obtain ⟨g', off', hA, hg, hj⟩ := hd (by omega)
  simp only [Option.some.injEq, Addr.mk.injEq] at hA
  obtain ⟨rfl, rfl, -⟩ := hA
  refine ⟨_, _, rfl, hg, fun j h => (hj j (by omega)).trans ?_⟩
  rw [List.map_take, List.getElem?_take, if_pos (by omega)]

set_option maxRecDepth 100000 in
theorem rtake_kind {g gt : Nat} {F Ft : Nat → Prop} {d d' : Int} {s t : St} (w : World) (h : RDgS w g F d s) (ht : RDgS w gt Ft d' t) (hd : d' ≠ d) :
    Calls Try.prog 53 #[.pointer (some ⟨g, 0, none⟩), .pointer (some ⟨gt, 0, none⟩)] w fun e w' => e = .returned (.int .i64 3) ∧ Below w.heap.size w w' := by
  obtain ⟨slv, swv, sb, _⟩ := h
  obtain ⟨tlv, twv, tb, _⟩ := ht
  have x0 := sb.cell 0
  have y0 := tb.cell 0
  simp only [List.getElem?_toArray, List.getElem?_cons_zero] at x0 y0
  have hdd : (d' != d) = true := by simpa using hd
  clear sb tb hd
  go_enter Try.func53, Try.ntmps53
  go_wp2_with fail
  go_quiet (fail)
  go_wp2_with fail
  go_ret
  exact ⟨rfl, below_drewN (Below.refl _ _) _⟩

theorem prO_tot (pr : Bool) (d : Int) (s : St) : tot ((prO pr d s).L ++ (prO pr d s).W) = tot (s.L ++ s.W) := by
  unfold prO
  split
  · exact St.press_n d s
  · rfl
theorem take_fit {d : Int} {s t : St} {k kt : Nat} (h : Fit d s k) (ht : Fit d t kt) (hs : tot (s.L ++ s.W) + tot (t.L ++ t.W) ≤ 281474976710656) : ∃ k' : Nat, Fit d (s.take d t) k' ∧ k' ≤ k + 200000 := by
  have d0 := h.d0
  have d1 := h.d1
  have k1 := h.k1
  by_cases hz : tot (t.L ++ t.W) = 0
  · have : s.take d t = s := by unfold St.take; rw [if_pos hz]
    exact ⟨k, by rw [this]; exact h, by omega⟩
  · obtain ⟨k', h1, h2, h3⟩ := h.ok.take ht.ok (by omega) hz (by omega)
    exact ⟨k', ⟨h2, by omega, by omega, d0, d1⟩, by omega⟩

theorem wrD_pos {d : Int} {L W : List Mn} {lo hi : Int} : 0 < (wrD d L W lo hi).length := by
  unfold wrD
  rw [List.length_append]
  have := leb_len d
  omega
theorem OwnB.pos {base : Nat} {w : World} {v : Value} {l : List Int} (h : OwnB base w v l) (h0 : 0 < l.length) : ∃ g c, v = .slice (some ⟨g, 0, none⟩) l.length c ∧ l.length ≤ c ∧ c ≤ 9223372036854775807 := by
  obtain ⟨A, c, rfl, h1, h2, h3⟩ := (OwnI.rd h).form
  obtain ⟨h4, h5⟩ := h
  rcases h5 with ⟨-, h5⟩ | ⟨g, cap, cur, e1, e2, r⟩
  · exfalso
    omega
  · simp only [Value.slice.injEq] at e1
    obtain ⟨rfl, -, rfl⟩ := e1
    exact ⟨g, c, rfl, h1, h2⟩

end Go.Proofs.Ytedhpkfbobgkgaa
