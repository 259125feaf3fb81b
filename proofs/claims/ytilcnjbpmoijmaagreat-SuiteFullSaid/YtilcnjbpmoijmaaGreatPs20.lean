/- Parts of a proof: what its theorem reaches, words cut short. No condition of its own. -/
import Derived.Test.YtilcnjbpmoijmaaGreatPs06
import Derived.Test.YtilcnjbpmoijmaaGreatPs19
set_option maxRecDepth 100000
set_option maxHeartbeats 16000000
set_option linter.unusedVariables false
set_option linter.unusedSimpArgs false
namespace Go.Proofs.YtilcnjbpmoijmaaGreat.K
open Go.RowKit
def i64E:Lie Int where
 k:=1
 t:=2
 enc x:=[.int .i64 x]
 len _:=rfl
 one x u hu:=by
  simp only[List.mem_cons,List.not_mem_nil,or_false] at hu
  subst hu;rfl
abbrev Sv:=Option Addr × Nat × Nat
def svV(s:Sv):Value:=.slice s.1 s.2.1 s.2.2
def slE:Lie Sv where
 k:=1
 t:=182
 enc s:=[svV s]
 len _:=rfl
 one x u hu:=by
  simp only[List.mem_cons,List.not_mem_nil,or_false] at hu
  subst hu;rfl
theorem _root_.Go.Proofs.YtilcnjbpmoijmaaGreat.EForm.i64{w:World}{A:Option Addr}{l:List Int}(h:EForm i64E w A l){j:Nat}(hj:j<l.length) :
 ∃g off,A=some ⟨g,off,none⟩/\g<w.heap.size/\w.cell? ⟨g,off+j,none⟩=some (.int .i64 l[j]):=by
 obtain⟨g,off,hA,hg,hc⟩:=h (by omega)
 refine⟨g,off,hA,hg,?_⟩
 have:=hc j hj 0 (by decide)
 rw[show off+j * i64E.k+0=off+j by show off+j * 1+0=_;omega] at this
 exact this
theorem _root_.Go.Proofs.YtilcnjbpmoijmaaGreat.EForm.sl{w:World}{A:Option Addr}{l:List Sv}(h:EForm slE w A l){j:Nat}(hj:j<l.length) :
 ∃g off,A=some ⟨g,off,none⟩/\g<w.heap.size/\w.cell? ⟨g,off+j,none⟩=some (svV l[j]):=by
 obtain⟨g,off,hA,hg,hc⟩:=h (by omega)
 refine⟨g,off,hA,hg,?_⟩
 have:=hc j hj 0 (by decide)
 rw[show off+j * slE.k+0=off+j by show off+j * 1+0=_;omega] at this
 exact this
theorem cells_i64:∀l:List Int,cellsE i64E l=l.map (Value.int .i64)
 | []=>rfl
 | x::l=>by rw[cellsE_cons,cells_i64 l];rfl
structure LvAt(F:Nat->Prop)(w:World)(lv:Value)(vs:List Sv)(L:LL):Prop where
 row:OwnE slE 0 w lv vs
 len:vs.length=L.length
 each:∀i (h:i<vs.length),OwnE i64E 0 w (svV vs[i]) (lvl L i)
 apart:∀i (h:i<vs.length) k,(svV vs[i]).ownBlock=some k->lv.ownBlock≠some k
 diff:∀i j (hi:i<vs.length) (hj:j<vs.length),i≠j->∀k,(svV vs[i]).ownBlock=some k->(svV vs[j]).ownBlock≠some k
 fl:∀k,lv.ownBlock=some k->F k
 fv:∀i (h:i<vs.length) k,(svV vs[i]).ownBlock=some k->F k
section
variable {F : Nat -> Prop} {w w' : World} {lv : Value} {vs : List Sv} {L : LL}
theorem LvAt.stay(h:LvAt F w lv vs L)(hk:∀k,F k->w'.heap[k]?=w.heap[k]?):LvAt F w' lv vs L:=
 ⟨h.row.stay fun k e=>hk k (h.fl k e),h.len,fun i hi=>(h.each i hi).stay fun k e=>hk k (h.fv i hi k e),h.apart,h.diff,h.fl,h.fv⟩
theorem LvAt.lt(h:LvAt F w lv vs L){i:Nat}(hi:i<vs.length):∀k,(svV vs[i]).ownBlock=some k->k<w.heap.size:=fun k e=>((h.each i hi).lt k e).2
end
structure StG(t:TypeId)(a:Value)(rest:List Value)(F:Nat->Prop)(w:World)(g:Nat)(lv:Value)(vs:List Sv)(L:LL):Prop where
 blk:Blk w g t (a::lv::rest).toArray
 lev:LvAt F w lv vs L
 fg:F g
 g1:lv.ownBlock≠some g
 g2:∀i (h:i<vs.length),(svV vs[i]).ownBlock≠some g
 low:∀k,F k->k<w.heap.size
section
variable {t : TypeId} {a : Value} {rest : List Value} {F : Nat -> Prop} {w w' : World} {g : Nat} {lv : Value} {vs : List Sv} {L : LL}
theorem StG.stay(h:StG t a rest F w g lv vs L)(hk:∀k,F k->w'.heap[k]?=w.heap[k]?)(hz:w.heap.size<=w'.heap.size):StG t a rest F w' g lv vs L:=
 ⟨(hk g h.fg).trans h.blk,h.lev.stay hk,h.fg,h.g1,h.g2,fun k hf=>Nat.lt_of_lt_of_le (h.low k hf) hz⟩
theorem StG.keep(h:StG t a rest F w g lv vs L)(hb:Below w.heap.size w w'):StG t a rest F w' g lv vs L:=h.stay (fun k hk=>hb.block k (h.low k hk)) hb.size
theorem StG.cell0(h:StG t a rest F w g lv vs L):w.cell? ⟨g,0,none⟩=some a:=by rw[h.blk.cell 0];simp
theorem StG.cell1(h:StG t a rest F w g lv vs L):w.cell? ⟨g,1,none⟩=some lv:=by rw[h.blk.cell 1];simp
theorem StG.cell2{b:Value}{r:List Value}(h:StG t a (b::r) F w g lv vs L):w.cell? ⟨g,2,none⟩=some b:=by rw[h.blk.cell 2];simp
theorem StG.cell3{b c:Value}{r:List Value}(h:StG t a (b::c::r) F w g lv vs L):w.cell? ⟨g,3,none⟩=some c:=by rw[h.blk.cell 3];simp
theorem StG.form(h:StG t a rest F w g lv vs L):∃A c,lv=.slice A L.length c/\L.length<=c/\c<=9223372036854775807/\EForm slE w A vs:=by
 obtain⟨A,c,e,h1,h2,h3⟩:=h.lev.row.form
 rw[h.lev.len] at e h1
 exact⟨A,c,e,h1,h2,h3⟩
theorem StG.put2{b:Value}{r:List Value}(h:StG t a (b::r) F w g lv vs L)(u:Value):StG t a (u::r) F (w.setCell ⟨g,2,none⟩ u) g lv vs L:=by
 have hk:∀k,k≠g->(w.setCell ⟨g,2,none⟩ u).heap[k]?=w.heap[k]?:=fun k hk=>Below.heap_setCell w ⟨g,2,none⟩ u k hk
 refine⟨?_,⟨h.lev.row.stay fun k e=>hk k (fun e2=>h.g1 (by rw[e,e2])),h.lev.len,fun i hi=>(h.lev.each i hi).stay fun k e=>hk k (fun e2=>h.g2 i hi (by rw[e,e2])),h.lev.apart,h.lev.diff,h.lev.fl,h.lev.fv⟩,h.fg,h.g1,h.g2,fun k hf=>by have:=h.low k hf;simpa using this⟩
 have:=h.blk.set_ 2 u
 simpa using this
theorem StG.more{lv':Value}{w1:World}(h:StG t a rest F w g lv vs L)(ho:OwnE slE 0 w1 lv' (vs++[(none,0,0)]))(hg:w.grownBy w1 lv.ownBlock)(hn:lv'.ownBlock=lv.ownBlock\/lv'.ownBlock=some w.heap.size) :
 StG t a rest (fun k=>F k\/lv'.ownBlock=some k) (w1.setCell ⟨g,1,none⟩ lv') g lv' (vs++[(none,0,0)]) (L++[[]]):=by
 have hgl:=h.blk.lt
 have hz:w.heap.size<=w1.heap.size:=hg.size
 have hg':lv'.ownBlock≠some g:=by
  rcases hn with e|e
  ·rw[e];exact h.g1
  ·rw[e];intro e2;injection e2 with e2;omega
 have hblk:∀k,k<w.heap.size->lv.ownBlock≠some k->k≠g->(w1.setCell ⟨g,1,none⟩ lv').heap[k]?=w.heap[k]?:=fun k h1 h2 h3=>
  (Below.heap_setCell w1 ⟨g,1,none⟩ lv' k h3).trans (hg.block k h1 (fun e=>h2 e.symm))
 have hone:∀i (hi:i<(vs++[((none,0,0):Sv)]).length),∀k,(svV ((vs++[((none,0,0):Sv)])[i])).ownBlock=some k->∃hi':i<vs.length,(svV vs[i]).ownBlock=some k:=fun i hi k e=>by
  rcases Nat.lt_or_ge i vs.length with h1|h1
  ·rw[List.getElem_append_left h1] at e;exact⟨h1,e⟩
  ·rw[List.getElem_append_right h1] at e
   simp[svV,Value.ownBlock] at e
 have hfar:∀i (hi:i<vs.length) k,(svV vs[i]).ownBlock=some k->lv'.ownBlock≠some k:=fun i hi k e=>by
  rcases hn with e2|e2
  ·rw[e2];exact h.lev.apart i hi k e
  ·rw[e2];intro e3;injection e3 with e3;have:=h.lev.lt hi k e;omega
 refine⟨?_,⟨?_,by rw[List.length_append,List.length_append,h.lev.len];rfl,fun i hi=>?_,fun i hi k e=>?_,fun i j hi hj hij k e e2=>?_,fun k e=>.inr e,fun i hi k e=>?_⟩,.inl h.fg,hg',fun i hi e=>?_,fun k hk=>?_⟩
 ·have h1:Blk w1 g t (a::lv::rest).toArray:=(hg.block g hgl (fun e=>h.g1 e.symm)).trans h.blk
  have:=h1.set_ 1 lv'
  simpa using this
 ·exact ho.far hg' lv'
 ·rcases Nat.lt_or_ge i vs.length with h1|h1
  ·rw[List.getElem_append_left h1]
   have e:lvl (L++[[]]) i=lvl L i:=by
    unfold lvl
    simp only[List.getD]
    rw[List.getElem?_append_left (by rw[<-h.lev.len];exact h1)]
   rw[e]
   exact(h.lev.each i h1).stay fun k e=>hblk k (h.lev.lt h1 k e) (h.lev.apart i h1 k e) (fun e2=>h.g2 i h1 (by rw[e,e2]))
  ·have hi':i=vs.length:=by rw[List.length_append] at hi;simp only[List.length_singleton] at hi;omega
   subst hi'
   have e:lvl (L++[[]]) vs.length=[]:=by
    unfold lvl
    simp only[List.getD]
    rw[h.lev.len,List.getElem?_append_right (Nat.le_refl _)];simp
   rw[e]
   simp only[List.getElem_append_right (Nat.le_refl _),Nat.sub_self,List.getElem_cons_zero]
   exact OwnE.nil_ _ _
 ·obtain⟨h1,h2⟩:=hone i hi k e
  exact hfar i h1 k h2
 ·obtain⟨h1,h2⟩:=hone i hi k e
  obtain⟨h3,h4⟩:=hone j hj k e2
  exact h.lev.diff i j h1 h3 hij k h2 h4
 ·obtain⟨h1,h2⟩:=hone i hi k e
  exact .inl (h.lev.fv i h1 k h2)
 ·obtain⟨h1,h2⟩:=hone i hi g e
  exact h.g2 i h1 h2
 ·rcases hk with hk|hk
  ·have:=h.low k hk;simp;omega
  ·have:=(ho.lt k hk).2;simpa using this
theorem StG.level{w1:World}{s':Sv}{l':List Int}{j:Nat}(h:StG t a rest F w g lv vs L)(hj:j<L.length){gl cl n:Nat}(hlv:lv=.slice (some ⟨gl,0,none⟩) n cl)
 (ho:OwnE i64E 0 w1 (svV s') l') (hk:∀k,k<w.heap.size->(svV (vs[j]'(by rw[h.lev.len];exact hj))).ownBlock≠some k->w1.heap[k]?=w.heap[k]?) (hz:w.heap.size<=w1.heap.size)
 (hn:(svV s').ownBlock=(svV (vs[j]'(by rw[h.lev.len];exact hj))).ownBlock\/∀k,(svV s').ownBlock=some k->w.heap.size<=k) :
 StG t a rest (fun k=>F k\/(svV s').ownBlock=some k) (w1.setCell ⟨gl,j,none⟩ (svV s')) g lv (vs.set j s') (L.set j l'):=by
 have hj':j<vs.length:=by rw[h.lev.len];exact hj
 have hlvb:lv.ownBlock=some gl:=by rw[hlv];rfl
 have hgl:gl<w.heap.size:=(h.lev.row.lt gl hlvb).2
 have hfj:∀k,(svV vs[j]).ownBlock=some k->k≠gl:=fun k e e2=>h.lev.apart j hj' k e (by rw[hlvb,e2])
 have hs':∀k,(svV s').ownBlock=some k->(k<w.heap.size->(svV vs[j]).ownBlock=some k):=fun k e hlt=>by
  rcases hn with e2|e2
  ·rw[<-e2];exact e
  ·have:=e2 k e;omega
 have hs1:(svV s').ownBlock≠some gl:=fun e=>h.lev.apart j hj' gl (hs' gl e hgl) hlvb
 have hs2:(svV s').ownBlock≠some g:=fun e=>h.g2 j hj' (hs' g e h.blk.lt)
 have hblk:∀k,k<w.heap.size->(svV vs[j]).ownBlock≠some k->k≠gl->(w1.setCell ⟨gl,j,none⟩ (svV s')).heap[k]?=w.heap[k]?:=fun k h1 h2 h3=>
  (Below.heap_setCell w1 ⟨gl,j,none⟩ _ k h3).trans (hk k h1 h2)
 have hother:∀i (hi:i<vs.length),i≠j->OwnE i64E 0 (w1.setCell ⟨gl,j,none⟩ (svV s')) (svV vs[i]) (lvl L i):=fun i hi hij=>
  (h.lev.each i hi).stay fun k e=>hblk k (h.lev.lt hi k e) (h.lev.diff i j hi hj' hij k e) (fun e2=>h.lev.apart i hi k e (by rw[hlvb,e2]))
 have hrow:OwnE slE 0 (w1.setCell ⟨gl,j,none⟩ (svV s')) lv (vs.set j s'):=by
  have h1:OwnE slE 0 w1 lv vs:=h.lev.row.stay fun k e=>by
   rw[hlvb] at e;injection e with e;subst e
   exact hk _ hgl (fun e2=>hfj _ e2 rfl)
  have:=h1
  rw[hlv] at this |-
  have:=this.set_ j hj' s'
  rw[show j * slE.k=j by show j * 1=j;omega] at this
  exact this
 have hget:∀i (hi:i<(vs.set j s').length),(vs.set j s')[i]=if i=j then s' else vs[i]'(by rw[List.length_set] at hi;exact hi):=fun i hi=>by
  rw[List.getElem_set]
  by_cases e:j=i
  ·subst e;simp
  ·rw[if_neg e,if_neg (fun e'=>e e'.symm)]
 refine⟨?_,⟨hrow,by rw[List.length_set,List.length_set,h.lev.len],fun i hi=>?_,fun i hi k e=>?_,fun i i2 hi hi2 hne k e e2=>?_,fun k e=>.inl (h.lev.fl k e),fun i hi k e=>?_⟩,.inl h.fg,h.g1,fun i hi e=>?_,fun k hk'=>?_⟩
 ·exact(hblk g h.blk.lt (h.g2 j hj') (fun e=>h.g1 (by rw[hlvb,e]))).trans h.blk
 ·have hi':i<vs.length:=by rw[List.length_set] at hi;exact hi
  rw[hget i hi,lvl_set _ _ _ _ hj]
  by_cases e:i=j
  ·rw[if_pos e,if_pos e]
   exact ho.far hs1 _
  ·rw[if_neg e,if_neg e]
   exact hother i hi' e
 ·have hi':i<vs.length:=by rw[List.length_set] at hi;exact hi
  rw[hget i hi] at e
  by_cases ei:i=j
  ·rw[if_pos ei] at e
   intro e2
   rw[hlvb] at e2;injection e2 with e2;subst e2
   exact hs1 e
  ·rw[if_neg ei] at e;exact h.lev.apart i hi' k e
 ·have hi':i<vs.length:=by rw[List.length_set] at hi;exact hi
  have hi2':i2<vs.length:=by rw[List.length_set] at hi2;exact hi2
  rw[hget i hi] at e
  rw[hget i2 hi2] at e2
  by_cases ei:i=j
  ·rw[if_pos ei] at e
   rw[if_neg (fun e'=>hne (by omega))] at e2
   have hlt:=h.lev.lt hi2' k e2
   exact h.lev.diff j i2 hj' hi2' (by omega) k (hs' k e hlt) e2
  ·rw[if_neg ei] at e
   by_cases ei2:i2=j
   ·rw[if_pos ei2] at e2
    have hlt:=h.lev.lt hi' k e
    exact h.lev.diff i j hi' hj' ei k e (hs' k e2 hlt)
   ·rw[if_neg ei2] at e2
    exact h.lev.diff i i2 hi' hi2' hne k e e2
 ·have hi':i<vs.length:=by rw[List.length_set] at hi;exact hi
  rw[hget i hi] at e
  by_cases ei:i=j
  ·rw[if_pos ei] at e;exact .inr e
  ·rw[if_neg ei] at e;exact .inl (h.lev.fv i hi' k e)
 ·have hi':i<vs.length:=by rw[List.length_set] at hi;exact hi
  rw[hget i hi] at e
  by_cases ei:i=j
  ·rw[if_pos ei] at e;exact hs2 e
  ·rw[if_neg ei] at e;exact h.g2 i hi' e
 ·rcases hk' with hk'|hk'
  ·have:=h.low k hk';simp;omega
  ·have:=(ho.lt k hk').2;simpa using this
theorem StG.turn{l':List Int}{j:Nat}(h:StG t a rest F w g lv vs L)(hj:j<L.length)(ho:OwnE i64E 0 w' (svV (vs[j]'(by rw[h.lev.len];exact hj))) l')
 (hk:∀k,k<w.heap.size->(svV (vs[j]'(by rw[h.lev.len];exact hj))).ownBlock≠some k->w'.heap[k]?=w.heap[k]?) (hz:w.heap.size<=w'.heap.size):StG t a rest F w' g lv vs (L.set j l'):=by
 have hj':j<vs.length:=by rw[h.lev.len];exact hj
 refine⟨(hk g h.blk.lt (h.g2 j hj')).trans h.blk,⟨h.lev.row.stay fun k e=>hk k (h.lev.row.lt k e).2 (fun e2=>h.lev.apart j hj' k e2 e),by rw[List.length_set];exact h.lev.len,fun i hi=>?_,h.lev.apart,h.lev.diff,h.lev.fl,h.lev.fv⟩,h.fg,h.g1,h.g2,fun k hf=>Nat.lt_of_lt_of_le (h.low k hf) hz⟩
 rw[lvl_set _ _ _ _ hj]
 by_cases e:i=j
 ·subst e;rw[if_pos rfl];exact ho
 ·rw[if_neg e]
  exact(h.lev.each i hi).stay fun k e2=>hk k (h.lev.lt hi k e2) (h.lev.diff i j hi hj' e k e2)
end
end Go.Proofs.YtilcnjbpmoijmaaGreat.K
