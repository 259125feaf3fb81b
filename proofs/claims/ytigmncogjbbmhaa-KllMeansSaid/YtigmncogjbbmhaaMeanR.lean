/- The reference of layer 10: Add, Mean; slices of numbers that a call made. Conditions: sums of 128 bits; weights are positive and together at most 2^48. -/
import Derived.Test.YtigmncogjbbmhaaMnP
import Derived.Test.YtigmncogjbbmhaaRefTen
import Derived.Test.YtigmncogjbbmhaaLaw
namespace Go.Proofs.Ytigmncogjbbmhaa
open Go.RowKit Go.Lib

/-- A slice of numbers that is the call's own. -/
def OwnI (t : TypeId) (k : IntKind) (base : Nat) (w : World) (v : Value) (l : List Int) : Prop := w.ownsRow base t 1 v l.length (l.map (Value.int k))
section
variable {t : TypeId} {k : IntKind} {base : Nat} {w w' : World} {v : Value} {l : List Int}
theorem OwnI.rd (h : OwnI t k base w v l) : RdI k w v l := Rd.of_own h
theorem OwnI.alloc (h : OwnI t k base w v l) (o : Obj) : OwnI t k base (w.alloc o) v l := World.ownsRow.alloc h o
theorem OwnI.drewN (h : OwnI t k base w v l) (n : Nat) : OwnI t k base (w.drewN n) v l := h
theorem OwnI.drew (h : OwnI t k base w v l) : OwnI t k base w.drew v l := h
theorem OwnI.lt (h : OwnI t k base w v l) : ∀ g, v.ownBlock = some g → base ≤ g ∧ g < w.heap.size := World.ownsRow.lt h
theorem OwnI.stay (h : OwnI t k base w v l) (hk : ∀ g, v.ownBlock = some g → w'.heap[g]? = w.heap[g]?) : OwnI t k base w' v l := by
  obtain ⟨h1, h2⟩ := h
  refine ⟨h1, ?_⟩
  rcases h2 with h2 | ⟨g, cap, cur, rfl, e2, e3, r⟩
  · exact .inl h2
  · exact .inr ⟨g, cap, cur, rfl, e2, (hk g rfl).trans e3, r⟩
theorem OwnI.keep (h : OwnI t k base w v l) (hb : Below w.heap.size w w') : OwnI t k base w' v l := h.stay fun g hg => hb.block g (h.lt g hg).2
theorem OwnI.nil_ (t : TypeId) (k : IntKind) (base : Nat) (w : World) : OwnI t k base w (.slice none 0 0) [] := ⟨rfl, .inl ⟨rfl, rfl⟩⟩
theorem OwnI.one (t : TypeId) (k : IntKind) (w : World) (x : Int) : OwnI t k w.heap.size (w.alloc (.cells #[.int k x] t)) (.slice (some ⟨w.heap.size, 0, none⟩) 1 1) [x] :=
  ⟨rfl, .inr ⟨w.heap.size, 1, _, rfl, Nat.le_refl _, heap_alloc_new _ _, by simp, by unfold maxLen; omega, rfl, by simp⟩⟩
theorem RdI.one_at (t : TypeId) (k : IntKind) (w : World) (x : Int) (H : Nat) (h : w.heap.size = H) : RdI k (w.alloc (.cells #[.int k x] t)) (.slice (some ⟨H, 0, none⟩) 1 1) [x] := by
  subst h; exact (OwnI.one t k w x).rd
end
theorem infoU : (Try.prog.info? 26).map (fun i => (i.zero, i.size, i.bytes)) = some (some (.int .u64 0), 1, 8) := by kernel_rfl
theorem infoS : (Try.prog.info? 2).map (fun i => (i.zero, i.size, i.bytes)) = some (some (.int .i64 0), 1, 8) := by kernel_rfl
theorem int_one (k : IntKind) (l : List Int) : ∀ u ∈ l.map (Value.int k), u.oneCell' = true := fun u hu => by
  obtain ⟨x, _, rfl⟩ := List.mem_map.1 hu
  rfl
theorem append_I {ts t : TypeId} {k : IntKind} (ht : Try.prog.underlying ts = some (.slice t)) (hinfo : (Try.prog.info? t).map (fun i => (i.zero, i.size, i.bytes)) = some (some (.int k 0), 1, 8))
    {w : World} {ops : Array Oper} {rest : List Oper} {o : Oper} {a : Act} {Q : Exit → Act → World → Prop} (hgd : o.guard = none) (s x : Operand)
    (ho : o.op = .call { callee := .builtin .append, args := #[s, x], argTypes := #[ts, ts] })
    (base : Nat) (v : Value) (xs : List Int) (hs : a.eval s = v) (hown : OwnI t k base w v xs)
    (u : Value) (news : List Int) (hx : a.eval x = u) (hr : RdI k w u news)
    (hlen : xs.length + news.length ≤ 1099511627776) (hbase : base ≤ w.heap.size)
    (h : ∀ v' w', OwnI t k base w' v' (xs ++ news) → w.grownBy w' v.ownBlock → (v'.ownBlock = v.ownBlock ∨ v'.ownBlock = some w.heap.size) → wpList Try.prog ops Q rest (a.put o.dst v') w') : wpList Try.prog ops Q (o :: rest) a w := by
  obtain ⟨i0, hi, hz0, hz1, hz2⟩ := info_parts hinfo
  obtain ⟨A, c, rfl, _, _, _⟩ := hr.form
  refine wpList_append_rd w hgd s x ts ho base t i0 _ 1 8 ht hi hz0 hz1 hz2 rfl (by omega) v xs.length (xs.map (Value.int k)) hs hown A news.length c (news.map (Value.int k)) hx hr (int_one k _)
    (by unfold maxLen; omega) (by omega) hbase fun v' w' h1 h2 h3 => h v' w' ?_ h2 h3
  unfold OwnI
  rw [List.length_append, List.map_append]
  exact h1

/-! ### Digits -/
theorem digs_snoc (k : Nat) : ∀ n, digs (k + 1) n = digs k n ++ [dig n k] := by
  induction k with
  | zero => intro n; simp [digs, dig_zero]
  | succ k ih => intro n; rw [digs, ih]; simp only [digs, List.cons_append, dig_succ]
/-- What is carried into digit i of a sum. -/
def car (X Y : Int) (i : Nat) : Int := (X + Y) / 65536 ^ i - X / 65536 ^ i - Y / 65536 ^ i
theorem car_zero (X Y : Int) : car X Y 0 = 0 := by simp [car]; omega
theorem div_pow_succ (X : Int) (i : Nat) : X / 65536 ^ (i + 1) = X / 65536 ^ i / 65536 := by rw [Int.pow_succ, Int.ediv_ediv_of_nonneg (by have := pow_pos' i; omega)]
theorem car_succ (X Y : Int) (i : Nat) (h : 0 ≤ car X Y i ∧ car X Y i ≤ 1) : (dig X i + dig Y i + car X Y i) % 65536 = dig (X + Y) i ∧ (dig X i + dig Y i + car X Y i) / 65536 = car X Y (i + 1) ∧ 0 ≤ car X Y (i + 1) ∧ car X Y (i + 1) ≤ 1 := by
  unfold car dig at *
  rw [div_pow_succ, div_pow_succ, div_pow_succ]
  generalize (X + Y) / 65536 ^ i = s at *
  generalize X / 65536 ^ i = x at *
  generalize Y / 65536 ^ i = y at *
  omega
theorem car_fin {X Y : Int} (x0 : 0 ≤ X) (y0 : 0 ≤ Y) (hs : X + Y < 340282366920938463463374607431768211456) : car X Y 8 = 0 := by
  unfold car
  rw [Int.ediv_eq_zero_of_lt x0 (by omega), Int.ediv_eq_zero_of_lt y0 (by omega), Int.ediv_eq_zero_of_lt (by omega) (by omega)]
  rfl
/-- A slice that reads as the eight digits of a number. -/
def IsR (w : World) (v : Value) (X : Int) : Prop := ∃ g off c, v = .slice (some ⟨g, off, none⟩) 8 c ∧ 8 ≤ c ∧ c ≤ 9223372036854775807 ∧ g < w.heap.size ∧ ∀ j, j < 8 → w.cell? ⟨g, off + j, none⟩ = some (.int .u64 (dig X j))
theorem IsR.keep {w w' : World} {v : Value} {X : Int} (h : IsR w v X) (hb : Below w.heap.size w w') : IsR w' v X := by
  obtain ⟨g, off, c, hv, h1, h2, hg, hc⟩ := h
  exact ⟨g, off, c, hv, h1, h2, Nat.lt_of_lt_of_le hg hb.size, fun j hj => (hb.cell (p := ⟨g, off + j, none⟩) hg).trans (hc j hj)⟩
theorem IsR.of_D {w : World} {v : Value} {X : Int} (h : IsD w v 8 X) : IsR w v X := by
  obtain ⟨g, hv, hg⟩ := h
  refine ⟨g, 0, 8, hv, Nat.le_refl _, by omega, hg.lt, fun j hj => ?_⟩
  rw [Nat.zero_add, hg.cell (by rw [digs_length]; exact hj), digs_getD _ _ _ hj]
theorem IsR.of_own {t : TypeId} {base : Nat} {w : World} {v : Value} {X : Int} (h : OwnI t .u64 base w v (digs 8 X)) : IsR w v X := by
  obtain ⟨A, c, hv, h1, h2, h3⟩ := h.rd.form
  rw [digs_length] at hv h1
  obtain ⟨g, off, rfl, hg, hc⟩ := h3 (by rw [digs_length]; omega)
  refine ⟨g, off, c, hv, h1, h2, hg, fun j hj => ?_⟩
  rw [hc j (by rw [digs_length]; exact hj)]
  have h := digs_get 8 X j hj
  rw [List.getElem?_eq_getElem (by rw [digs_length]; exact hj)] at h
  injection h with h
  rw [h]

set_option maxRecDepth 100000 in
set_option maxHeartbeats 1000000 in
theorem radd_any (u v : Value) (X Y : Int) (w : World) (hx : IsR w u X) (hy : IsR w v Y) (x0 : 0 ≤ X) (y0 : 0 ≤ Y) (hs : X + Y < 340282366920938463463374607431768211456) :
    Calls Try.prog 74 #[u, v] w fun e w' => ∃ v, e = .returned (.tuple #[v, .bool true]) ∧ IsR w' v (X + Y) ∧ Below w.heap.size w w' := by
  obtain ⟨gx, ox, cx, rfl, _, bx, lx, fx⟩ := hx
  obtain ⟨gy, oy, cy, rfl, _, by_, ly, fy⟩ := hy
  have FX := Lib.hid fx
  have FY := Lib.hid fy
  have HC := Lib.hid (car_fin x0 y0 hs)
  clear fx fy
  go_enter Try.func74, Try.ntmps74
  go_wp2_with fail
  go_loopg [6, 7, 8] 8 (fun k o cr i wr => ∃ j : Nat, k = 8 - j ∧ j ≤ 8 ∧ i = .int .i64 j ∧ cr = .int .u64 (car X Y j) ∧ (0 ≤ car X Y j ∧ car X Y j ≤ 1) ∧ OwnI 26 .u64 w.heap.size wr o (digs j (X + Y)) ∧ Below w.heap.size w wr)
  case atStart => exact ⟨0, rfl, by omega, rfl, by rw [car_zero], by rw [car_zero]; omega, OwnI.nil_ _ _ _ _, Below.refl _ _⟩
  case round =>
    obtain ⟨j, hk, hj, rfl, rfl, hc, ho, hb⟩ := hrel
    have HK := Lib.hid hk
    have HO := Lib.hid ho
    have hz := hb.size
    obtain ⟨c0, c1⟩ := hc
    clear hk ho
    by_cases hlt : j < 8
    · have q1 := (hb.cell (p := ⟨gx, ox + j, none⟩) lx).trans (FX.out j hlt)
      have q2 := (hb.cell (p := ⟨gy, oy + j, none⟩) ly).trans (FY.out j hlt)
      obtain ⟨n1, n2, n3, n4⟩ := car_succ X Y j ⟨c0, c1⟩
      have b1 := dig_bd X j
      have b2 := dig_bd Y j
      have HS := Lib.hid (digs_snoc j (X + Y))
      have HN1 := Lib.hid n1
      have HN2 := Lib.hid n2
      have hl := digs_length j (X + Y)
      have hl2 : (digs j (X + Y)).length + 1 ≤ 1099511627776 := by omega
      have hi : (j : Int) < 8 := by omega
      generalize dig X j = a at *
      generalize dig Y j = b at *
      generalize car X Y j = c at *
      clear n1 n2 hl
      go_wp2_with fail
      go_quiet (fail)
      go_wp2_with (first
        | (at_builtin
           refine append_I Try.underlying78 infoU rfl (.tmp 25) (.tmp 28) rfl w.heap.size u6 (digs j (X + Y)) rfl ((HO.out.drewN _).alloc _) _ [(a + b + c) % 65536] rfl (RdI.one_at _ _ _ _ _ rfl) hl2 (by simp only [World.size_alloc, size_drewN]; omega) ?_
           intro v1 w1 o1 g1 a1
           have hb1 : Below w.heap.size w w1 := ((below_drewN hb _).alloc (by simp only [size_drewN]; omega) _).grown g1 (by simp only [World.size_alloc, size_drewN]; omega) (fun k hk => (HO.out.lt k hk).1)
           have O1 := Lib.hid o1
           clear o1 g1 a1))
      go_roundg (8 - (j + 1))
      case measure => have := HK.out; omega
      case rel => exact ⟨j + 1, rfl, by omega, by go_num, by rw [HN2.out], ⟨n3, n4⟩, by rw [HS.out, ← HN1.out]; exact O1.out, hb1⟩
    · have hE : j = 8 := by omega
      subst hE
      rw [HC.out]
      go_wp2_with fail
      go_ret2
      exact ⟨_, rfl, IsR.of_own HO.out, hb⟩

set_option maxRecDepth 100000 in
set_option maxHeartbeats 1000000 in
/-- Div, of a slice that reads as eight digits. -/
theorem rdivR_any (v : Value) (X d : Int) (w : World) (hx : IsR w v X) (x0 : 0 ≤ X) (x1 : X < 340282366920938463463374607431768211456) (d0 : 0 < d) (d1 : d < 18446744073709551616) :
    Calls Try.prog 76 #[v, .int .u64 d] w fun e w' => ∃ v, e = .returned (.tuple #[v, .int .u64 (X % d)]) ∧ IsD w' v 8 (X / d) ∧ Below w.heap.size w w' := by
  have hmk : ∀ W : World, (Instr.makeSlice 78 (.int .i64 8) (.int .i64 8)).run Try.prog W = .ok (.slice (some ⟨W.heap.size, 0, none⟩) 8 8) (W.alloc (.cells ((digs 8 0).map (Value.int .u64)).toArray 26)) := fun _ => by kernel_rfl
  obtain ⟨L0, hL0⟩ : ∃ L, digs 8 0 = L := ⟨_, rfl⟩
  rw [hL0] at hmk
  have HL := Lib.hid hL0
  clear hL0
  obtain ⟨gx, ox, cx0, rfl, _, bx0, lx, fx⟩ := hx
  have FX := Lib.hid fx
  clear fx
  go_enter Try.func76, Try.ntmps76
  go_wp2_with fail
  go_loopg [7, 8] 128 (fun k lv i wr => ∃ (q left : Int), k ≤ 128 ∧ lv = .int .u64 left ∧ i = .int .i64 ((k : Int) - 1) ∧ DivAt X d k q left ∧ IBlk wr w.heap.size 26 .u64 (digs 8 (q * 2 ^ k)) ∧ Below w.heap.size w wr)
  case atStart => exact ⟨0, 0, by omega, rfl, rfl, DivAt.start X d x0 x1 d0, by rw [Int.zero_mul, HL.out]; exact Blk.new _ _ _, by (repeat' (first | (with_reducible exact Below.refl _ _) | (with_reducible refine Below.alloc ?_ ?_ _) | (with_reducible refine Below.drew ?_) | (with_reducible refine below_drewN ?_ _) | (with_reducible refine Below.setCell ?_ ?_ _) | (with_reducible refine below_of (by assumption) ?_ ?_) | go_size))⟩
  case round =>
    obtain ⟨q, left, hk, rfl, rfl, hd, hi, hb⟩ := hrel
    have hl0 := hd.l0
    have hl1 := hd.l1
    rcases Nat.eq_zero_or_pos gk with h0 | h0
    · subst h0
      have HI := Lib.hid hi
      have HF := Lib.hid hd.fin
      clear hi hd
      go_wp2_with fail
      go_ret2
      refine ⟨_, by rw [← HF.out.2]; rfl, ⟨w.heap.size, rfl, ?_⟩, hb⟩
      rw [← HF.out.1]
      simpa using HI.out
    · obtain ⟨j, rfl⟩ : ∃ j, gk = j + 1 := ⟨gk - 1, by omega⟩
      have ej : (((j + 1 : Nat) : Int) - 1) = (j : Int) := by omega
      rw [ej]
      have hj8 : j / 16 < 8 := by omega
      have cx := (hb.cell (p := ⟨gx, ox + j / 16, none⟩) lx).trans (FX.out (j / 16) hj8)
      have bx := dig_bd X (j / 16)
      have p := pow2_pos (j % 16)
      have bit := dig_bit X j
      have bit0 : 0 ≤ X / 2 ^ j % 2 ∧ X / 2 ^ j % 2 ≤ 1 := by omega
      have sh0 : 0 ≤ dig X (j / 16) / 2 ^ (j % 16) := Int.ediv_nonneg bx.1 (by omega)
      have hj : (j : Int) < 128 := by omega
      obtain ⟨sm1, sm2⟩ := hd.small x0 x1 d0
      have q0 := hd.q0
      have cl := hi.cell (j := j / 16) (by rw [digs_length]; omega)
      rw [digs_getD _ _ _ (by omega)] at cl
      have fl := hi.frozen (j / 16)
      have bl := dig_bd (q * 2 ^ (j + 1)) (j / 16)
      have HI := Lib.hid hi
      have HD := Lib.hid hd
      have HQ : Hid (2 * q * 2 ^ j = q * 2 ^ (j + 1)) := by show _ = _; rw [Int.pow_succ, Int.mul_comm 2 q, Int.mul_assoc, Int.mul_comm 2]
      have HQ1 : Hid ((2 * q + 1) * 2 ^ j = q * 2 ^ (j + 1) + 2 ^ j) := by show _ = _; rw [Int.add_mul, Int.one_mul, HQ.out]
      clear hi hd
      by_cases hge : d ≤ 2 * left + X / 2 ^ j % 2
      · have hy := HD.out.yes hge
        have hs := hy.small x0 x1 d0
        obtain ⟨hp1, hp2⟩ := digs_put q j (by omega) q0 (by rw [HQ1.out] at hs; exact hs.2)
        have HY := Lib.hid hy
        have HP := Lib.hid hp1
        have eL : IntKind.u64.wrap (IntKind.u64.wrap (IntKind.u64.wrap (2 * left) + X / 2 ^ j % 2) - d) = 2 * left + X / 2 ^ j % 2 - d := by simp only [u64w]; omega
        have HE := Lib.hid eL
        clear eL hy hs hp1 bit
        by_cases hh : 9223372036854775808 ≤ left
        · have bit := dig_bit X j
          go_wp2_with fail
          go_roundg j
          case measure => omega
          case rel => exact ⟨2 * q + 1, _, by omega, congrArg (Value.int IntKind.u64) HE.out, rfl, HY.out, by rw [HQ1.out, ← HP.out]; exact HI.out.set_ _ _, by (repeat' (first | (with_reducible exact Below.refl _ _) | (with_reducible refine Below.alloc ?_ ?_ _) | (with_reducible refine Below.drew ?_) | (with_reducible refine below_drewN ?_ _) | (with_reducible refine Below.setCell ?_ ?_ _) | (with_reducible refine below_of (by assumption) ?_ ?_) | go_size))⟩
        · have bit := dig_bit X j
          go_wp2_with fail
          go_roundg j
          case measure => omega
          case rel => exact ⟨2 * q + 1, _, by omega, rfl, rfl, HY.out, by rw [HQ1.out, ← HP.out]; exact HI.out.set_ _ _, by (repeat' (first | (with_reducible exact Below.refl _ _) | (with_reducible refine Below.alloc ?_ ?_ _) | (with_reducible refine Below.drew ?_) | (with_reducible refine below_drewN ?_ _) | (with_reducible refine Below.setCell ?_ ?_ _) | (with_reducible refine below_of (by assumption) ?_ ?_) | go_size))⟩
      · have hn := HD.out.no (by omega)
        have HN := Lib.hid hn
        clear hn
        go_wp2_with fail
        go_roundg j
        case measure => omega
        case rel => exact ⟨2 * q, _, by omega, rfl, rfl, HN.out, by rw [HQ.out]; exact HI.out, by (repeat' (first | (with_reducible exact Below.refl _ _) | (with_reducible refine Below.alloc ?_ ?_ _) | (with_reducible refine Below.drew ?_) | (with_reducible refine below_drewN ?_ _) | (with_reducible refine Below.setCell ?_ ?_ _) | (with_reducible refine below_of (by assumption) ?_ ?_) | go_size))⟩
end Go.Proofs.Ytigmncogjbbmhaa
