/- Parts of a proof: what its theorem reaches, words cut short. No condition of its own. -/
import Derived.Test.YtingnldfpokckaaGreatPm30
import Derived.Test.YtingnldfpokckaaGreatPm26
import Derived.Shelf.SlSortCmp.NoneTotal
set_option maxRecDepth 100000
set_option maxHeartbeats 16000000
set_option linter.unusedVariables false
set_option linter.unusedSimpArgs false
namespace Go.Proofs.YtingnldfpokckaaGreat.K
open Go.RowKit
def i64E:Lie Int where
 k:=1
 t:=2
 enc x:=[.int .i64 x]
 len _:=rfl
 one x u hu:=by
  simp only[List.mem_cons,List.not_mem_nil,or_false] at hu
  subst hu;rfl
abbrev Sv:=Option Addr × Nat × Nat
def svV(s:Sv):Value:=.slice s.1 s.2.1 s.2.2
def slE:Lie Sv where
 k:=1
 t:=143
 enc s:=[svV s]
 len _:=rfl
 one x u hu:=by
  simp only[List.mem_cons,List.not_mem_nil,or_false] at hu
  subst hu;rfl
theorem _root_.Go.Proofs.YtingnldfpokckaaGreat.EForm.i64{w:World}{A:Option Addr}{l:List Int}(h:EForm i64E w A l){j:Nat}(hj:j<l.length) :
 ∃g off,A=some ⟨g,off,none⟩/\g<w.heap.size/\w.cell? ⟨g,off+j,none⟩=some (.int .i64 l[j]):=by
 obtain⟨g,off,hA,hg,hc⟩:=h (by omega)
 refine⟨g,off,hA,hg,?_⟩
 have:=hc j hj 0 (by decide)
 rw[show off+j * i64E.k+0=off+j by show off+j * 1+0=_;omega] at this
 exact this
theorem _root_.Go.Proofs.YtingnldfpokckaaGreat.EForm.sl{w:World}{A:Option Addr}{l:List Sv}(h:EForm slE w A l){j:Nat}(hj:j<l.length) :
 ∃g off,A=some ⟨g,off,none⟩/\g<w.heap.size/\w.cell? ⟨g,off+j,none⟩=some (svV l[j]):=by
 obtain⟨g,off,hA,hg,hc⟩:=h (by omega)
 refine⟨g,off,hA,hg,?_⟩
 have:=hc j hj 0 (by decide)
 rw[show off+j * slE.k+0=off+j by show off+j * 1+0=_;omega] at this
 exact this
theorem cells_i64:∀l:List Int,cellsE i64E l=l.map (Value.int .i64)
 | []=>rfl
 | x::l=>by rw[cellsE_cons,cells_i64 l];rfl
structure LvAt(F:Nat->Prop)(w:World)(lv:Value)(vs:List Sv)(L:LL):Prop where
 row:OwnE slE 0 w lv vs
 len:vs.length=L.length
 each:∀i (h:i<vs.length),OwnE i64E 0 w (svV vs[i]) (lvl L i)
 apart:∀i (h:i<vs.length) k,(svV vs[i]).ownBlock=some k->lv.ownBlock≠some k
 diff:∀i j (hi:i<vs.length) (hj:j<vs.length),i≠j->∀k,(svV vs[i]).ownBlock=some k->(svV vs[j]).ownBlock≠some k
 fl:∀k,lv.ownBlock=some k->F k
 fv:∀i (h:i<vs.length) k,(svV vs[i]).ownBlock=some k->F k
section
variable {F : Nat -> Prop} {w w' : World} {lv : Value} {vs : List Sv} {L : LL}
theorem LvAt.stay(h:LvAt F w lv vs L)(hk:∀k,F k->w'.heap[k]?=w.heap[k]?):LvAt F w' lv vs L:=
 ⟨h.row.stay fun k e=>hk k (h.fl k e),h.len,fun i hi=>(h.each i hi).stay fun k e=>hk k (h.fv i hi k e),h.apart,h.diff,h.fl,h.fv⟩
theorem LvAt.lt(h:LvAt F w lv vs L){i:Nat}(hi:i<vs.length):∀k,(svV vs[i]).ownBlock=some k->k<w.heap.size:=fun k e=>((h.each i hi).lt k e).2
theorem LvAt.mono{G:Nat->Prop}(h:LvAt F w lv vs L)(hG:∀k,F k->G k):LvAt G w lv vs L:=⟨h.row,h.len,h.each,h.apart,h.diff,fun k e=>hG k (h.fl k e),fun i hi k e=>hG k (h.fv i hi k e)⟩
end
structure StG(t:TypeId)(a:Value)(rest:List Value)(F:Nat->Prop)(w:World)(g:Nat)(lv:Value)(vs:List Sv)(L:LL):Prop where
 blk:Blk w g t (a::lv::rest).toArray
 lev:LvAt F w lv vs L
 fg:F g
 g1:lv.ownBlock≠some g
 g2:∀i (h:i<vs.length),(svV vs[i]).ownBlock≠some g
 low:∀k,F k->k<w.heap.size
section
variable {t : TypeId} {a : Value} {rest : List Value} {F : Nat -> Prop} {w w' : World} {g : Nat} {lv : Value} {vs : List Sv} {L : LL}
theorem StG.stay(h:StG t a rest F w g lv vs L)(hk:∀k,F k->w'.heap[k]?=w.heap[k]?)(hz:w.heap.size<=w'.heap.size):StG t a rest F w' g lv vs L:=
 ⟨(hk g h.fg).trans h.blk,h.lev.stay hk,h.fg,h.g1,h.g2,fun k hf=>Nat.lt_of_lt_of_le (h.low k hf) hz⟩
theorem StG.keep(h:StG t a rest F w g lv vs L)(hb:Below w.heap.size w w'):StG t a rest F w' g lv vs L:=h.stay (fun k hk=>hb.block k (h.low k hk)) hb.size
theorem StG.cell0(h:StG t a rest F w g lv vs L):w.cell? ⟨g,0,none⟩=some a:=by rw[h.blk.cell 0];simp
theorem StG.cell1(h:StG t a rest F w g lv vs L):w.cell? ⟨g,1,none⟩=some lv:=by rw[h.blk.cell 1];simp
theorem StG.cell2{b:Value}{r:List Value}(h:StG t a (b::r) F w g lv vs L):w.cell? ⟨g,2,none⟩=some b:=by rw[h.blk.cell 2];simp
theorem StG.cell3{b c:Value}{r:List Value}(h:StG t a (b::c::r) F w g lv vs L):w.cell? ⟨g,3,none⟩=some c:=by rw[h.blk.cell 3];simp
theorem StG.form(h:StG t a rest F w g lv vs L):∃A c,lv=.slice A L.length c/\L.length<=c/\c<=9223372036854775807/\EForm slE w A vs:=by
 obtain⟨A,c,e,h1,h2,h3⟩:=h.lev.row.form
 rw[h.lev.len] at e h1
 exact⟨A,c,e,h1,h2,h3⟩
theorem StG.put2{b:Value}{r:List Value}(h:StG t a (b::r) F w g lv vs L)(u:Value):StG t a (u::r) F (w.setCell ⟨g,2,none⟩ u) g lv vs L:=by
 have hk:∀k,k≠g->(w.setCell ⟨g,2,none⟩ u).heap[k]?=w.heap[k]?:=fun k hk=>Below.heap_setCell w ⟨g,2,none⟩ u k hk
 refine⟨?_,⟨h.lev.row.stay fun k e=>hk k (fun e2=>h.g1 (by rw[e,e2])),h.lev.len,fun i hi=>(h.lev.each i hi).stay fun k e=>hk k (fun e2=>h.g2 i hi (by rw[e,e2])),h.lev.apart,h.lev.diff,h.lev.fl,h.lev.fv⟩,h.fg,h.g1,h.g2,fun k hf=>by have:=h.low k hf;simpa using this⟩
 have:=h.blk.set_ 2 u
 simpa using this
theorem StG.put3{b c:Value}{r:List Value}(h:StG t a (b::c::r) F w g lv vs L)(u:Value):StG t a (b::u::r) F (w.setCell ⟨g,3,none⟩ u) g lv vs L:=by
 have hk:∀k,k≠g->(w.setCell ⟨g,3,none⟩ u).heap[k]?=w.heap[k]?:=fun k hk=>Below.heap_setCell w ⟨g,3,none⟩ u k hk
 refine⟨?_,⟨h.lev.row.stay fun k e=>hk k (fun e2=>h.g1 (by rw[e,e2])),h.lev.len,fun i hi=>(h.lev.each i hi).stay fun k e=>hk k (fun e2=>h.g2 i hi (by rw[e,e2])),h.lev.apart,h.lev.diff,h.lev.fl,h.lev.fv⟩,h.fg,h.g1,h.g2,fun k hf=>by have:=h.low k hf;simpa using this⟩
 have:=h.blk.set_ 3 u
 simpa using this
theorem StG.more{lv':Value}{w1:World}(h:StG t a rest F w g lv vs L)(ho:OwnE slE 0 w1 lv' (vs++[(none,0,0)]))(hg:w.grownBy w1 lv.ownBlock)(hn:lv'.ownBlock=lv.ownBlock\/lv'.ownBlock=some w.heap.size) :
 StG t a rest (fun k=>F k\/lv'.ownBlock=some k) (w1.setCell ⟨g,1,none⟩ lv') g lv' (vs++[(none,0,0)]) (L++[[]]):=by
 have hgl:=h.blk.lt
 have hz:w.heap.size<=w1.heap.size:=hg.size
 have hg':lv'.ownBlock≠some g:=by
  rcases hn with e|e
  ·rw[e];exact h.g1
  ·rw[e];intro e2;injection e2 with e2;omega
 have hblk:∀k,k<w.heap.size->lv.ownBlock≠some k->k≠g->(w1.setCell ⟨g,1,none⟩ lv').heap[k]?=w.heap[k]?:=fun k h1 h2 h3=>
  (Below.heap_setCell w1 ⟨g,1,none⟩ lv' k h3).trans (hg.block k h1 (fun e=>h2 e.symm))
 have hone:∀i (hi:i<(vs++[((none,0,0):Sv)]).length),∀k,(svV ((vs++[((none,0,0):Sv)])[i])).ownBlock=some k->∃hi':i<vs.length,(svV vs[i]).ownBlock=some k:=fun i hi k e=>by
  rcases Nat.lt_or_ge i vs.length with h1|h1
  ·rw[List.getElem_append_left h1] at e;exact⟨h1,e⟩
  ·rw[List.getElem_append_right h1] at e
   simp[svV,Value.ownBlock] at e
 have hfar:∀i (hi:i<vs.length) k,(svV vs[i]).ownBlock=some k->lv'.ownBlock≠some k:=fun i hi k e=>by
  rcases hn with e2|e2
  ·rw[e2];exact h.lev.apart i hi k e
  ·rw[e2];intro e3;injection e3 with e3;have:=h.lev.lt hi k e;omega
 refine⟨?_,⟨?_,by rw[List.length_append,List.length_append,h.lev.len];rfl,fun i hi=>?_,fun i hi k e=>?_,fun i j hi hj hij k e e2=>?_,fun k e=>.inr e,fun i hi k e=>?_⟩,.inl h.fg,hg',fun i hi e=>?_,fun k hk=>?_⟩
 ·have h1:Blk w1 g t (a::lv::rest).toArray:=(hg.block g hgl (fun e=>h.g1 e.symm)).trans h.blk
  have:=h1.set_ 1 lv'
  simpa using this
 ·exact ho.far hg' lv'
 ·rcases Nat.lt_or_ge i vs.length with h1|h1
  ·rw[List.getElem_append_left h1]
   have e:lvl (L++[[]]) i=lvl L i:=by
    unfold lvl
    simp only[List.getD]
    rw[List.getElem?_append_left (by rw[<-h.lev.len];exact h1)]
   rw[e]
   exact(h.lev.each i h1).stay fun k e=>hblk k (h.lev.lt h1 k e) (h.lev.apart i h1 k e) (fun e2=>h.g2 i h1 (by rw[e,e2]))
  ·have hi':i=vs.length:=by rw[List.length_append] at hi;simp only[List.length_singleton] at hi;omega
   subst hi'
   have e:lvl (L++[[]]) vs.length=[]:=by
    unfold lvl
    simp only[List.getD]
    rw[h.lev.len,List.getElem?_append_right (Nat.le_refl _)];simp
   rw[e]
   simp only[List.getElem_append_right (Nat.le_refl _),Nat.sub_self,List.getElem_cons_zero]
   exact OwnE.nil_ _ _
 ·obtain⟨h1,h2⟩:=hone i hi k e
  exact hfar i h1 k h2
 ·obtain⟨h1,h2⟩:=hone i hi k e
  obtain⟨h3,h4⟩:=hone j hj k e2
  exact h.lev.diff i j h1 h3 hij k h2 h4
 ·obtain⟨h1,h2⟩:=hone i hi k e
  exact .inl (h.lev.fv i h1 k h2)
 ·obtain⟨h1,h2⟩:=hone i hi g e
  exact h.g2 i h1 h2
 ·rcases hk with hk|hk
  ·have:=h.low k hk;simp;omega
  ·have:=(ho.lt k hk).2;simpa using this
theorem StG.level{w1:World}{s':Sv}{l':List Int}{j:Nat}(h:StG t a rest F w g lv vs L)(hj:j<L.length){gl cl n:Nat}(hlv:lv=.slice (some ⟨gl,0,none⟩) n cl)
 (ho:OwnE i64E 0 w1 (svV s') l') (hk:∀k,k<w.heap.size->(svV (vs[j]'(by rw[h.lev.len];exact hj))).ownBlock≠some k->w1.heap[k]?=w.heap[k]?) (hz:w.heap.size<=w1.heap.size)
 (hn:(svV s').ownBlock=(svV (vs[j]'(by rw[h.lev.len];exact hj))).ownBlock\/∀k,(svV s').ownBlock=some k->w.heap.size<=k) :
 StG t a rest (fun k=>F k\/(svV s').ownBlock=some k) (w1.setCell ⟨gl,j,none⟩ (svV s')) g lv (vs.set j s') (L.set j l'):=by
 have hj':j<vs.length:=by rw[h.lev.len];exact hj
 have hlvb:lv.ownBlock=some gl:=by rw[hlv];rfl
 have hgl:gl<w.heap.size:=(h.lev.row.lt gl hlvb).2
 have hfj:∀k,(svV vs[j]).ownBlock=some k->k≠gl:=fun k e e2=>h.lev.apart j hj' k e (by rw[hlvb,e2])
 have hs':∀k,(svV s').ownBlock=some k->(k<w.heap.size->(svV vs[j]).ownBlock=some k):=fun k e hlt=>by
  rcases hn with e2|e2
  ·rw[<-e2];exact e
  ·have:=e2 k e;omega
 have hs1:(svV s').ownBlock≠some gl:=fun e=>h.lev.apart j hj' gl (hs' gl e hgl) hlvb
 have hs2:(svV s').ownBlock≠some g:=fun e=>h.g2 j hj' (hs' g e h.blk.lt)
 have hblk:∀k,k<w.heap.size->(svV vs[j]).ownBlock≠some k->k≠gl->(w1.setCell ⟨gl,j,none⟩ (svV s')).heap[k]?=w.heap[k]?:=fun k h1 h2 h3=>
  (Below.heap_setCell w1 ⟨gl,j,none⟩ _ k h3).trans (hk k h1 h2)
 have hother:∀i (hi:i<vs.length),i≠j->OwnE i64E 0 (w1.setCell ⟨gl,j,none⟩ (svV s')) (svV vs[i]) (lvl L i):=fun i hi hij=>
  (h.lev.each i hi).stay fun k e=>hblk k (h.lev.lt hi k e) (h.lev.diff i j hi hj' hij k e) (fun e2=>h.lev.apart i hi k e (by rw[hlvb,e2]))
 have hrow:OwnE slE 0 (w1.setCell ⟨gl,j,none⟩ (svV s')) lv (vs.set j s'):=by
  have h1:OwnE slE 0 w1 lv vs:=h.lev.row.stay fun k e=>by
   rw[hlvb] at e;injection e with e;subst e
   exact hk _ hgl (fun e2=>hfj _ e2 rfl)
  have:=h1
  rw[hlv] at this |-
  have:=this.set_ j hj' s'
  rw[show j * slE.k=j by show j * 1=j;omega] at this
  exact this
 have hget:∀i (hi:i<(vs.set j s').length),(vs.set j s')[i]=if i=j then s' else vs[i]'(by rw[List.length_set] at hi;exact hi):=fun i hi=>by
  rw[List.getElem_set]
  by_cases e:j=i
  ·subst e;simp
  ·rw[if_neg e,if_neg (fun e'=>e e'.symm)]
 refine⟨?_,⟨hrow,by rw[List.length_set,List.length_set,h.lev.len],fun i hi=>?_,fun i hi k e=>?_,fun i i2 hi hi2 hne k e e2=>?_,fun k e=>.inl (h.lev.fl k e),fun i hi k e=>?_⟩,.inl h.fg,h.g1,fun i hi e=>?_,fun k hk'=>?_⟩
 ·exact(hblk g h.blk.lt (h.g2 j hj') (fun e=>h.g1 (by rw[hlvb,e]))).trans h.blk
 ·have hi':i<vs.length:=by rw[List.length_set] at hi;exact hi
  rw[hget i hi,lvl_set _ _ _ _ hj]
  by_cases e:i=j
  ·rw[if_pos e,if_pos e]
   exact ho.far hs1 _
  ·rw[if_neg e,if_neg e]
   exact hother i hi' e
 ·have hi':i<vs.length:=by rw[List.length_set] at hi;exact hi
  rw[hget i hi] at e
  by_cases ei:i=j
  ·rw[if_pos ei] at e
   intro e2
   rw[hlvb] at e2;injection e2 with e2;subst e2
   exact hs1 e
  ·rw[if_neg ei] at e;exact h.lev.apart i hi' k e
 ·have hi':i<vs.length:=by rw[List.length_set] at hi;exact hi
  have hi2':i2<vs.length:=by rw[List.length_set] at hi2;exact hi2
  rw[hget i hi] at e
  rw[hget i2 hi2] at e2
  by_cases ei:i=j
  ·rw[if_pos ei] at e
   rw[if_neg (fun e'=>hne (by omega))] at e2
   have hlt:=h.lev.lt hi2' k e2
   exact h.lev.diff j i2 hj' hi2' (by omega) k (hs' k e hlt) e2
  ·rw[if_neg ei] at e
   by_cases ei2:i2=j
   ·rw[if_pos ei2] at e2
    have hlt:=h.lev.lt hi' k e
    exact h.lev.diff i j hi' hj' ei k e (hs' k e2 hlt)
   ·rw[if_neg ei2] at e2
    exact h.lev.diff i i2 hi' hi2' hne k e e2
 ·have hi':i<vs.length:=by rw[List.length_set] at hi;exact hi
  rw[hget i hi] at e
  by_cases ei:i=j
  ·rw[if_pos ei] at e;exact .inr e
  ·rw[if_neg ei] at e;exact .inl (h.lev.fv i hi' k e)
 ·have hi':i<vs.length:=by rw[List.length_set] at hi;exact hi
  rw[hget i hi] at e
  by_cases ei:i=j
  ·rw[if_pos ei] at e;exact hs2 e
  ·rw[if_neg ei] at e;exact h.g2 i hi' e
 ·rcases hk' with hk'|hk'
  ·have:=h.low k hk';simp;omega
  ·have:=(ho.lt k hk').2;simpa using this
theorem StG.turn{l':List Int}{j:Nat}(h:StG t a rest F w g lv vs L)(hj:j<L.length)(ho:OwnE i64E 0 w' (svV (vs[j]'(by rw[h.lev.len];exact hj))) l')
 (hk:∀k,k<w.heap.size->(svV (vs[j]'(by rw[h.lev.len];exact hj))).ownBlock≠some k->w'.heap[k]?=w.heap[k]?) (hz:w.heap.size<=w'.heap.size):StG t a rest F w' g lv vs (L.set j l'):=by
 have hj':j<vs.length:=by rw[h.lev.len];exact hj
 refine⟨(hk g h.blk.lt (h.g2 j hj')).trans h.blk,⟨h.lev.row.stay fun k e=>hk k (h.lev.row.lt k e).2 (fun e2=>h.lev.apart j hj' k e2 e),by rw[List.length_set];exact h.lev.len,fun i hi=>?_,h.lev.apart,h.lev.diff,h.lev.fl,h.lev.fv⟩,h.fg,h.g1,h.g2,fun k hf=>Nat.lt_of_lt_of_le (h.low k hf) hz⟩
 rw[lvl_set _ _ _ _ hj]
 by_cases e:i=j
 ·subst e;rw[if_pos rfl];exact ho
 ·rw[if_neg e]
  exact(h.lev.each i hi).stay fun k e2=>hk k (h.lev.lt hi k e2) (h.lev.diff i j hi hj' e k e2)
end
open Go.RowKit Go.Sort
theorem heap_putRow_far(w:World)(blk off k:Nat)(d:Array Int)(h:k≠blk):(putRow (Value.int .i64) w blk off d).heap[k]?=w.heap[k]?:=by
 unfold putRow mapBlock
 rw[Array.getElem?_modify,if_neg (fun e=>h e.symm)]
theorem heap_putRow_at(w:World)(blk off:Nat)(d:Array Int)(cur:Array Value)(t:TypeId)(f:Nat × Nat)(h:w.heap[blk]?=some (.cells cur t f)):(putRow (Value.int .i64) w blk off d).heap[blk]?=some (.cells (putCells (Value.int .i64) off d cur) t f):=by
 unfold putRow mapBlock
 rw[Array.getElem?_modify,if_pos rfl,h];rfl
theorem putCells_take(d:List Int)(cur:Array Value)(h:d.length<=cur.size):(putCells (Value.int .i64) 0 d.toArray cur).toList.take d.length=d.map (Value.int .i64):=by
 refine List.ext_getElem? fun i=>?_
 rw[List.getElem?_take]
 rcases Nat.lt_or_ge i d.length with h1|h1
 ·rw[if_pos h1,List.getElem?_map,List.getElem?_eq_getElem h1,Array.getElem?_toList]
  have h2:i<(putCells (Value.int .i64) 0 d.toArray cur).size:=by unfold putCells;rw[Array.size_mapIdx];omega
  rw[Array.getElem?_eq_getElem h2]
  simp[putCells,h1]
 ·rw[if_neg (by omega),List.getElem?_eq_none (by simpa using h1)]
theorem sort_own(v:Value)(base:Nat)(l:List Int)(w:World)(h:OwnE i64E base w v l)(hl:l.length<=1099511627776) :
 Calls Tryz.prog 148 #[v] w fun e w'=>e=.returned (.tuple #[])/\OwnE i64E base w' v (l.mergeSort fun x y=>decide (x<=y))/\Touch (fun k=>v.ownBlock=some k) w w':=by
 obtain⟨hxs,h⟩:=h
 rw[cells_i64] at hxs h
 rcases h with⟨rfl,h0⟩|⟨g,cap,cur,rfl,hbg,hg,hnc,hcm,hcs,htk⟩
 ·have e:l=[]:=List.eq_nil_of_length_eq_zero h0
  subst e
  refine(AnyM.slices_Sort_int_none Tryz.sortM none 0 w).mono ?_
  rintro e w' ⟨rfl,rfl⟩
  exact⟨rfl,by rw[List.mergeSort_nil];exact OwnE.nil_ _ _,Touch.refl _ _⟩
 ·have hk:i64E.k=1:=rfl
  rw[hk,Nat.mul_one] at hcs htk
  have hgl:g<w.heap.size:=by
   rcases Nat.lt_or_ge g w.heap.size with hlt|hge
   ·exact hlt
   ·rw[Array.getElem?_eq_none hge] at hg;cases hg
  have hH:Holds (Value.int .i64) w g 0 l.toArray:=fun j hj=>by
   have hj':j<l.length:=by simpa using hj
   refine⟨?_,?_⟩
   ·rw[Nat.zero_add,cell_of_row w g j cur _ (0,0) hg]
    have e:=congrArg (fun x=>x[j]?) htk
    simp only[List.getElem?_take,if_pos hj',List.getElem?_map,List.getElem?_eq_getElem hj',Option.map_some] at e
    rw[show cur[j]?=cur.toList[j]? by simp,e]
    simp[hj']
   ·simp[World.frozen?,hg]
  refine(AnyM.slices_Sort_int Tryz.sortM g 0 cap l w hH hgl (by omega)).mono ?_
  rintro e w' ⟨rfl,n,os,rfl⟩
  have hlen:(l.mergeSort fun x y=>decide (x<=y)).length=l.length:=(List.mergeSort_perm _ _).length_eq
  refine⟨rfl,⟨by rw[cells_i64,List.length_map,hk,Nat.mul_one],.inr ⟨g,cap,putCells (Value.int .i64) 0 (l.mergeSort fun x y=>decide (x<=y)).toArray cur,by rw[hlen],hbg,?_,by rw[hlen];exact hnc,hcm,?_,?_⟩⟩,rfl,rfl,rfl,?_,fun k hk' hne=>?_⟩
  ·rw[heap_grow_old _ _ (by unfold putRow mapBlock;simpa using hgl)]
   exact heap_putRow_at _ g 0 _ cur _ _ hg
  ·unfold putCells;rw[Array.size_mapIdx,hk,Nat.mul_one];exact hcs
  ·rw[hk,Nat.mul_one,cells_i64]
   refine putCells_take _ cur (by rw[hlen];omega)
  ·rw[size_grow];unfold putRow mapBlock;simp
  ·have hkg:k≠g:=fun e=>hne (by rw[e];rfl)
   rw[heap_grow_old _ _ (by unfold putRow mapBlock;simpa using hk')]
   exact heap_putRow_far _ g 0 k _ hkg
theorem i64I:(Tryz.prog.info? 2).map (fun i=>(i.zero,i.size,i.bytes))=some (some (.int .i64 0),1,8):=by kernel_rfl
theorem slI:(Tryz.prog.info? 143).map (fun i=>(i.zero,i.size,i.bytes))=some (some (.slice none 0 0),1,24):=by kernel_rfl
theorem clone_i64(v:Value)(l:List Int)(w:World)(h:RdE i64E w v l)(hlen:l.length<=1000000000000) :
 Calls Tryz.prog 147 #[v] w fun e w'=>∃s:Sv,e=.returned (svV s)/\OwnE i64E w.heap.size w' (svV s) l/\Below w.heap.size w w':=by
 obtain⟨i0,hi0,hiz,his,hib⟩:=info_parts i64I
 have HI:=Lib.hid hi0
 have HZ:=Lib.hid hiz
 have HSZ:=Lib.hid his
 have HBY:=Lib.hid hib
 clear hi0 hiz his hib
 obtain⟨A,c,rfl,hn,hc,hp⟩:=h.form
 have HR:=Lib.hid h
 clear h
 by_cases hnil:A=none
 ·subst hnil
  have h0:l=[]:=by
   rcases Nat.eq_zero_or_pos l.length with h0|h0
   ·exact List.eq_nil_of_length_eq_zero h0
   ·obtain⟨g,off,e,_⟩:=hp h0;cases e
  subst h0
  clear hp
  have he:(binOp .eql 143 (.slice none 0 c) (.slice none 0 0)).run Tryz.prog w=.ok (.bool true) w:=Lib.run_eql_slice_nil w _ _ _ _ _ _ _ Tryz.underlying143
  go_enter Tryz.func147,Tryz.ntmps147
  go_wp2_with fail
  go_ret
  exact⟨(none,0,0),rfl,OwnE.nil_ _ _,by(repeat' (first|(with_reducible exact Below.refl _ _)|(with_reducible refine Below.alloc ?_ ?_ _)|(with_reducible refine Below.drew ?_)|(with_reducible refine below_drewN ?_ _)|(with_reducible refine Below.setCell ?_ ?_ _)|(with_reducible refine below_of (by assumption) ?_ ?_)|go_size))⟩
 ·obtain⟨a,rfl⟩:∃a,A=some a:=by
   cases A with
   | none=>exact absurd rfl hnil
   | some a=>exact⟨a,rfl⟩
  clear hnil hp
  have he:(binOp .eql 143 (.slice (some a) l.length c) (.slice none 0 0)).run Tryz.prog w=.ok (.bool false) w:=Lib.run_eql_slice_nil w _ _ _ _ _ _ _ Tryz.underlying143
  go_enter Tryz.func147,Tryz.ntmps147
  go_wp2_with (at_builtin;refine wpList_append_E i64E (ts:=143) i0 _ 8 Tryz.underlying143 HI.out HZ.out HSZ.out HBY.out rfl (by decide) (by decide) rfl (.tmp 5) (.tmp 6) rfl w.heap.size _ [] rfl (OwnE.lit (E:=i64E) w [] _ rfl _ rfl (by decide)) _ l rfl (HR.out.keep (by(repeat' (first|(with_reducible exact Below.refl _ _)|(with_reducible refine Below.alloc ?_ ?_ _)|(with_reducible refine Below.drew ?_)|(with_reducible refine below_drewN ?_ _)|(with_reducible refine Below.setCell ?_ ?_ _)|(with_reducible refine below_of (by assumption) ?_ ?_)|go_size)))) (by simp;omega) (by simp) ?_;intro v1 w7 o1 g1 a1)
  have HB7:Below w.heap.size w w7:=(Below.alloc (Below.refl _ _) (Nat.le_refl _) _).grown g1 (by simp) (fun k hk=>by have:=Option.some.inj (show some w.heap.size=some k from hk);omega)
  simp only[List.nil_append] at o1
  obtain⟨A1,c1,rfl,_,_,_⟩:=o1.form
  go_wp2_with fail
  go_ret
  exact⟨(A1,_,c1),rfl,o1,HB7⟩
theorem roomN_succ':∀(j c:Nat),roomN (j+1) c=thin (roomN j c)
 | 0,_=>rfl
 | j+1,c=>by rw[roomN,roomN_succ' j (thin c)];rfl
abbrev Kst(F:Nat->Prop)(w:World)(g k n led:Nat)(lv:Value)(vs:List Sv)(L:LL):Prop:=StG 132 (.int .i64 k) [.int .u64 n,.int .u64 led] F w g lv vs L
abbrev Rst(F:Nat->Prop)(w:World)(g k led:Nat)(lv:Value)(vs:List Sv)(L:LL):Prop:=StG 95 (.int .i64 k) [.int .u64 led] F w g lv vs L
theorem room_any{F:Nat->Prop}{g k n led:Nat}{lv:Value}{vs:List Sv}{L:LL}(h:Nat)(w:World)(hs:Kst F w g k n led lv vs L)(h2:2<=k)(hk:k<=1000000)(hl:L.length<=1000000000)(hh:h<=1000000000) :
 Calls Tryz.prog 239 #[.pointer (some ⟨g,0,none⟩),.int .i64 h] w fun e w'=>e=.returned (.int .i64 (room k L.length h:Nat))/\w=w':=by
 obtain⟨A,c,rfl,_,_,_⟩:=hs.form
 have c0:=hs.cell0
 have c1:=hs.cell1
 clear hs
 generalize L.length=len at *
 by_cases hlt:h<len
 ·have HRO:Hid (room k len h=max (roomN (len - 1 - h) k) 2):=Lib.hid (by unfold room;rw[if_pos hlt])
  have HLE:=Lib.hid (fun j=>roomN_le j k h2)
  have hlt2:¬len<=h:=by omega
  have hlt3:¬(h:Int)<0:=by omega
  go_enter Tryz.func239,Tryz.ntmps239
  go_wp2_with fail
  go_loopg [5,29] (len - 1 - h) (fun q c i wr=>(∃j:Nat,q=len - 1 - h - j/\j<=len - 1 - h/\i=.int .i64 (j:Int)/\c=.int .i64 ((roomN j k:Nat):Int))/\w=wr)
  case atStart=>exact⟨⟨0,by omega,by omega,rfl,rfl⟩,rfl⟩
  case round=>
   obtain⟨⟨j,hq,hj,rfl,rfl⟩,rfl⟩:=hrel
   have HQ:=Lib.hid hq
   have hb:=HLE.out j
   have HS:=Lib.hid (roomN_succ' j k)
   obtain⟨c,hc⟩:∃c,roomN j k=c:=⟨_,rfl⟩
   rw[hc] at hb HS
   rw[hc]
   have HC:=Lib.hid hc
   clear hq hc
   by_cases hjl:j<len - 1 - h
   ·have HT:Hid (thin c=(2 * c+2) / 3):=Lib.hid rfl
    go_wp2_with fail
    go_roundg (len - 1 - h - (j+1))
    case measure=>have:=HQ.out;omega
    case rel=>exact⟨⟨j+1,rfl,by omega,by go_num,by rw[HS.out,HT.out];go_num⟩,rfl⟩
   ·have HE:Hid (room k len h=c):=Lib.hid (by
     have e:j=len - 1 - h:=by omega
     rw[HRO.out,<-e,HC.out];omega)
    have hc2:¬(c:Int)<2:=by omega
    go_wp2_with fail
    refine bodyPost_ret (by simp[results,Tryz.results239,go_sem, *];try rfl) rfl ?_
    exact⟨by rw[HE.out];simp;omega,rfl⟩
 ·have HRO:Hid (room k len h=0):=Lib.hid (by unfold room;rw[if_neg hlt])
  go_enter Tryz.func239,Tryz.ntmps239
  go_wp2_with fail
  go_ret
  exact⟨by rw[HRO.out];rfl,rfl⟩
end Go.Proofs.YtingnldfpokckaaGreat.K
namespace Go.Proofs.YtingnldfpokckaaGreat.D
open Go.RowKit Go.Sort Go.Shelf
abbrev KeyP:={p:Pr // 0<=p.1/\p.1<=16777216}
instance:Inhabited KeyP:=⟨⟨(0,0),by decide⟩⟩
def kpE(x:KeyP):List Value:=[.int .i64 x.1.1,.int .u64 x.1.2]
def kpC(x y:KeyP):Int:=x.1.1 - y.1.1
theorem kp_lt(x y:KeyP):ltOf kpC x y=decide (x.1.1<y.1.1):=by unfold ltOf kpC;congr 1;exact propext ⟨fun h=>by omega,fun h=>by omega⟩
theorem kpO:SWO (ltOf kpC):=⟨fun x=>by rw[kp_lt];simp,fun x y z=>by simp only[kp_lt,decide_eq_true_eq];omega,fun x y z=>by simp only[kp_lt,decide_eq_false_iff_not];omega⟩
theorem flat_pr(d:List KeyP):flatK kpE 2 d.toArray=(cellsE prE (d.map Subtype.val)).toArray:=by
 have hl:(cellsE prE (d.map Subtype.val)).length=d.length * 2:=by rw[cellsE_length,List.length_map];rfl
 refine ext_get! (by simp[hl]) fun t ht=>?_
 have ht':t<d.length * 2:=by simpa using ht
 rw[get_flatK _ _ _ t (by simpa using ht')]
 have hj:t / 2<d.length:=by omega
 have e:=cellsE_get prE (d.map Subtype.val) (t / 2) (by simpa using hj) (t % 2) (Nat.mod_lt _ (by decide))
 rw[show t / 2 * prE.k+t % 2=t by show t / 2 * 2+t % 2=t;omega] at e
 have e2:(d.toArray)[t / 2]! = d[t / 2]:=by rw[getElem!_pos _ _ (by simpa using hj)];simp
 have ht2:t<(cellsE prE (d.map Subtype.val)).toArray.size:=by simpa[hl] using ht'
 rw[e2,getElem!_pos (cellsE prE (d.map Subtype.val)).toArray t ht2]
 rw[List.getElem?_eq_getElem (by rw[hl];exact ht')] at e
 have hm:t % 2<(kpE d[t / 2]).length:=Nat.mod_lt _ (by decide)
 rw[getElem!_pos (kpE d[t / 2]) (t % 2) hm]
 simp only[List.getElem_map] at e
 have e3:(prE.enc d[t / 2].1)[t % 2]?=some ((kpE d[t / 2])[t % 2]):=List.getElem?_eq_getElem hm
 rw[e3] at e
 simpa using (Option.some.inj e).symm
theorem pairs1_any(x y:KeyP)(w:World):Calls Tryz.prog 139 #[.agg (kpE x).toArray,.agg (kpE y).toArray] w fun e w'=>e=.returned (.int .i64 (kpC x y))/\∃q os,w'=grow (w.drewN q) os:=by
 obtain⟨⟨a,n⟩,ha,ha2⟩:=x
 obtain⟨⟨b,k⟩,hb,hb2⟩:=y
 simp only at ha ha2 hb hb2
 show Calls Tryz.prog 139 #[.agg #[.int .i64 a,.int .u64 n],.agg #[.int .i64 b,.int .u64 k]] w fun e w'=>e=.returned (.int .i64 (a - b))/\∃q os,w'=grow (w.drewN q) os
 go_enter Tryz.func139,Tryz.ntmps139
 go_wp2_with fail
 go_ret
 exact⟨rfl,0,_,by rw[alloc_eq_grow,alloc_eq_grow,grow_grow];rfl⟩
theorem heap_putId_far(w:World)(blk off k:Nat)(d:Array Value)(h:k≠blk):(putRow id w blk off d).heap[k]?=w.heap[k]?:=by
 unfold putRow mapBlock
 rw[Array.getElem?_modify,if_neg (fun e=>h e.symm)]
theorem heap_putId_at(w:World)(blk off:Nat)(d:Array Value)(cur:Array Value)(t:TypeId)(f:Nat × Nat)(h:w.heap[blk]?=some (.cells cur t f)):(putRow id w blk off d).heap[blk]?=some (.cells (putCells id off d cur) t f):=by
 unfold putRow mapBlock
 rw[Array.getElem?_modify,if_pos rfl,h];rfl
theorem putId_take(d:List Value)(cur:Array Value)(h:d.length<=cur.size):(putCells id 0 d.toArray cur).toList.take d.length=d:=by
 refine List.ext_getElem? fun i=>?_
 rw[List.getElem?_take]
 rcases Nat.lt_or_ge i d.length with h1|h1
 ·rw[if_pos h1,List.getElem?_eq_getElem h1,Array.getElem?_toList]
  have h2:i<(putCells id 0 d.toArray cur).size:=by unfold putCells;rw[Array.size_mapIdx];omega
  rw[Array.getElem?_eq_getElem h2]
  simp[putCells,h1]
 ·rw[if_neg (by omega),List.getElem?_eq_none (by simpa using h1)]
theorem sortP_own(v:Value)(base:Nat)(out l:List Pr)(w:World)(h:OwnE prE base w v out)(hs:SrtP l)(hp:PosP l)(hperm:out.Perm l)(hb:∀p∈l,0<=p.1/\p.1<=16777216)(hl:l.length<=1099511627776) :
 Calls Tryz.prog 138 #[v,.func (.func 139) #[] #[]] w fun e w'=>e=.returned (.tuple #[])/\OwnE prE base w' v l/\Touch (fun k=>v.ownBlock=some k) w w':=by
 have hlen:=hperm.length_eq
 obtain⟨hxs,h⟩:=h
 rcases h with⟨rfl,h0⟩|⟨g,cap,cur,rfl,hbg,hg,hnc,hcm,hcs,htk⟩
 ·have e:l=[]:=List.eq_nil_of_length_eq_zero (by omega)
  subst e
  have e:out=[]:=List.eq_nil_of_length_eq_zero h0
  subst e
  refine(AnyF.slices_SortFunc_none Tryz.sortF none 0 _ w).mono ?_
  rintro e w' ⟨rfl,rfl⟩
  exact⟨rfl,OwnE.nil_ _ _,Touch.refl _ _⟩
 ·have hk:prE.k=2:=rfl
  rw[hk] at hcs htk
  have hgl:g<w.heap.size:=by
   rcases Nat.lt_or_ge g w.heap.size with hlt|hge
   ·exact hlt
   ·rw[Array.getElem?_eq_none hge] at hg;cases hg
  have hbo:∀p∈out,0<=p.1/\p.1<=16777216:=fun p hp=>hb p (hperm.mem_iff.1 hp)
  obtain⟨d,hd⟩:∃d:List KeyP,d.map Subtype.val=out:=⟨out.attach.map (fun x=>⟨x.1,hbo x.1 x.2⟩),by rw[List.map_map];exact List.attach_map_subtype_val out⟩
  have hdl:d.length=out.length:=by rw[<-hd,List.length_map]
  have hH:HoldsK kpE 2 w g 0 d.toArray:=fun j hj=>by
   rw[flat_pr,hd] at hj |-
   have hj':j<(cellsE prE out).length:=by simpa using hj
   have hj2:j<out.length * 2:=by rw[cellsE_length] at hj';exact hj'
   refine⟨?_,?_⟩
   ·rw[Nat.zero_add,cell_of_row w g j cur _ (0,0) hg]
    have e:=congrArg (fun x=>x[j]?) htk
    simp only[List.getElem?_take,if_pos hj2] at e
    rw[show cur[j]?=cur.toList[j]? by simp,e,List.getElem?_eq_getElem hj']
    simp[hj']
   ·simp[World.frozen?,hg]
  have hsz:d.toArray.size=out.length:=by simpa using hdl
  have C:=AnyQ.slices_SortFunc Tryz.sortF 2 (by intro w;kernel_rfl) (by intro w;kernel_rfl) kpE (fun x=>rfl) (fun x v hv=>by simp[kpE] at hv;rcases hv with rfl|rfl<;>rfl) kpC kpO 139 #[] g 0 cap d.toArray w (fun args w=>rfl) (fun m os dk _ x y=>by simpa using pairs1_any x y _) hH hgl (by rw[hsz];omega)
  rw[hsz] at C
  refine C.mono ?_
  rintro e w' ⟨rfl,d',n,os,hpm,hst,rfl⟩
  have hpd:d'.toList.Perm d:=by
   have h3:=hpm.2.2
   rw[Array.extract_eq_self_of_le (by rw[hpm.1];simp[hdl]),Array.extract_eq_self_of_le (by simp[hdl])] at h3
   simpa using h3
  have hl2:d'.toList.map Subtype.val=l:=by
   refine sorted_is hs hp ((hpd.map _).trans (by rw[hd];exact hperm)) ?_
   rw[List.pairwise_map,List.pairwise_iff_getElem]
   intro i j hi hj hij
   have hj2:j<out.length:=by have:=hpd.length_eq;omega
   have:=hst i j (Nat.zero_le _) hij hj2
   rw[kp_lt] at this
   rw[getElem!_pos d' i (by simpa using hi),getElem!_pos d' j (by simpa using hj)] at this
   simp at this
   simpa using this
  have hfl:flatK kpE 2 d'=(cellsE prE l).toArray:=by rw[<-hl2,<-flat_pr]
  have hcl:(cellsE prE l).length=l.length * 2:=by rw[cellsE_length];rfl
  have hsw:∀k,k<w.heap.size->(sortWorldK kpE 2 w g 0 n d' os).heap[k]?=(putRow id w g 0 (cellsE prE l).toArray).heap[k]?:=fun k hk'=>by
   unfold sortWorldK putRowK
   rw[hfl,heap_grow_old _ _ (by unfold putRow mapBlock;simpa using hk')]
   rfl
  refine⟨rfl,⟨by rw[hcl,hk],.inr ⟨g,cap,putCells id 0 (cellsE prE l).toArray cur,by rw[hlen],hbg,?_,by omega,hcm,?_,?_⟩⟩,rfl,rfl,rfl,?_,fun k hk' hne=>?_⟩
  ·rw[hsw g hgl]
   exact heap_putId_at w g 0 _ cur _ _ hg
  ·unfold putCells;rw[Array.size_mapIdx,hk];exact hcs
  ·rw[hk,<-hcl]
   refine putId_take _ cur (by rw[hcl];omega)
  ·unfold sortWorldK
   rw[size_grow];unfold putRowK putRow mapBlock;simp
  ·have hkg:k≠g:=fun e=>hne (by rw[e];rfl)
   rw[hsw k hk']
   exact heap_putId_far _ g 0 k _ hkg
end Go.Proofs.YtingnldfpokckaaGreat.D
