/- Parts. No condition. -/
import Derived.Test.YtdicblkhpcphfaaGreatPA17
import Derived.Shelf.SlSortCmp.NoneTotal
set_option maxRecDepth 100000
set_option maxHeartbeats 0
set_option linter.all false
namespace Go.Proofs.YtdicblkhpcphfaaGreat
open Tryz Go.RowKit
open _root_.List renaming length→ao
open _root_.Go renaming Calls→ar
open Tryz renaming prog→Oe
namespace K
variable{w:World}{A:Option Addr}{j:Nat}
def ig:uJ Int where
 k:=1
 t:=2
 enc x:=[.int .i64 x]
 len _:=rfl
 one x u hu:=by
  simp only[aS,cQ,or_false] at hu;subst hu;rfl
abbrev Sv:=Option Addr × Nat × Nat
def iW(s:Sv):Value:=.slice s.1 s.2.1 s.2.2
def qV:uJ Sv where
 k:=1
 t:=196
 enc s:=[iW s]
 len _:=rfl
 one x u hu:=by
  simp only[aS,cQ,or_false] at hu;subst hu;rfl
def _root_.Go.Proofs.YtdicblkhpcphfaaGreat.jQ.i64{l:List Int}(h:jQ ig w A l)(u:j<ao l) :
 ∃g z,A=some ⟨g,z,none⟩/\g<w.heap.size/\w.cell? ⟨g,z+j,none⟩=some (.int .i64 l[j]):=by
 obtain⟨g,z,y,v,x⟩:=h aa
 refine⟨g,z,y,v,?_⟩
 have:=x j u 0 ab
 rw[show z+j * ig.k+0=z+j by show z+j * 1+0=_;omega] at this
 exact this
def _root_.Go.Proofs.YtdicblkhpcphfaaGreat.jQ.sl{l:List Sv}(h:jQ qV w A l)(u:j<ao l) :
 ∃g z,A=some ⟨g,z,none⟩/\g<w.heap.size/\w.cell? ⟨g,z+j,none⟩=some (iW l[j]):=by
 obtain⟨g,z,y,v,x⟩:=h aa
 refine⟨g,z,y,v,?_⟩
 have:=x j u 0 ab
 rw[show z+j * qV.k+0=z+j by show z+j * 1+0=_;omega] at this
 exact this
def nM:∀l:List Int,cellsE ig l=l.map (Value.int .i64)
 | []=>rfl
 | x::l=>by rw[ja,nM l];rfl
structure yQ(F:Nat->Prop)(w:World)(lv:Value)(vs:List Sv)(L:LL):Prop where
 row:gO qV 0 w lv vs
 len:ao vs=ao L
 each:∀i (h:i<ao vs),gO ig 0 w (iW vs[i]) (lvl L i)
 apart:∀i (h:i<ao vs) k,(iW vs[i]).ownBlock=some k->lv.ownBlock≠some k
 diff:∀i j (hi:i<ao vs) (hj:j<ao vs),i≠j->∀k,(iW vs[i]).ownBlock=some k->(iW vs[j]).ownBlock≠some k
 fl:∀k,lv.ownBlock=some k->F k
 fv:∀i (h:i<ao vs) k,(iW vs[i]).ownBlock=some k->F k
section
variable {F : Nat -> Prop} {w w' : World} {lv : Value} {vs : List Sv} {L : LL}
def yQ.stay(h:yQ F w lv vs L)(y:∀k,F k->w'.heap[k]?=w.heap[k]?):yQ F w' lv vs L:=
 ⟨h.row.stay λk e=>y k (h.fl k e),h.len,λi z=>(h.each i z).stay λk e=>y k (h.fv i z k e),h.apart,h.diff,h.fl,h.fv⟩
def yQ.lt(h:yQ F w lv vs L){i:Nat}(z:i<ao vs):∀k,(iW vs[i]).ownBlock=some k->k<w.heap.size:=λk e=>((h.each i z).lt k e).2
def yQ.mono{G:Nat->Prop}(h:yQ F w lv vs L)(z:∀k,F k->G k):yQ G w lv vs L:=⟨h.row,h.len,h.each,h.apart,h.diff,λk e=>z k (h.fl k e),λi y k e=>z k (h.fv i y k e)⟩
end
structure l6(t:TypeId)(a:Value)(rest:List Value)(F:Nat->Prop)(w:World)(g:Nat)(lv:Value)(vs:List Sv)(L:LL):Prop where
 blk:gN w g t (a::lv::rest).toArray
 iC:yQ F w lv vs L
 fg:F g
 g1:lv.ownBlock≠some g
 g2:∀i (h:i<ao vs),(iW vs[i]).ownBlock≠some g
 low:∀k,F k->k<w.heap.size
section
variable {t : TypeId} {a : Value} {rest : List Value} {F : Nat -> Prop} {w w' : World} {g : Nat} {lv : Value} {vs : List Sv} {L : LL}
variable{b c:Value}{r:List Value}{w1:World}{l':List Int}{j:Nat}
def l6.stay(h:l6 t a rest F w g lv vs L)(z:∀k,F k->w'.heap[k]?=w.heap[k]?)(x:w.heap.size<=w'.heap.size):l6 t a rest F w' g lv vs L:=
 ⟨(z g h.fg).trans h.blk,h.iC.stay z,h.fg,h.g1,h.g2,λk y=>aR (h.low k y) x⟩
def l6.keep(h:l6 t a rest F w g lv vs L)(z:aq w w'):l6 t a rest F w' g lv vs L:=h.stay (λk y=>z.block k (h.low k y)) z.size
def l6.cell0(h:l6 t a rest F w g lv vs L):w.cell? ⟨g,0,none⟩=some a:=by rw[h.blk.cell 0];simp
def l6.cell1(h:l6 t a rest F w g lv vs L):w.cell? ⟨g,1,none⟩=some lv:=by rw[h.blk.cell 1];simp
def l6.cell2(h:l6 t a (b::r) F w g lv vs L):w.cell? ⟨g,2,none⟩=some b:=by rw[h.blk.cell 2];simp
def l6.u'(h:l6 t a (b::c::r) F w g lv vs L):w.cell? ⟨g,3,none⟩=some c:=by rw[h.blk.cell 3];simp
def l6.form(h:l6 t a rest F w g lv vs L):∃A c,lv=.slice A (ao L) c/\ao L<=c/\c<=9223372036854775807/\jQ qV w A vs:=by
 obtain⟨A,c,e,z,y,x⟩:=h.iC.row.form;rw[h.iC.len] at e z;exact⟨A,c,e,z,y,x⟩
def l6.Dj(h:l6 t a (b::r) F w g lv vs L)(u:Value):l6 t a (u::r) F (w.setCell ⟨g,2,none⟩ u) g lv vs L:=by
 have z:∀k,k≠g->(w.setCell ⟨g,2,none⟩ u).heap[k]?=w.heap[k]?:=λk z=>bl w ⟨g,2,none⟩ u k z
 refine⟨?_,⟨h.iC.row.stay λk e=>z k (λy=>h.g1 (by rw[e,y])),h.iC.len,λi x=>(h.iC.each i x).stay λk e=>z k (λy=>h.g2 i x (by rw[e,y])),h.iC.apart,h.iC.diff,h.iC.fl,h.iC.fv⟩,h.fg,h.g1,h.g2,λk y=>by have:=h.low k y;simpa using this⟩
 have:=h.blk.gR 2 u
 simpa using this
def l6.PL(h:l6 t a (b::c::r) F w g lv vs L)(u:Value):l6 t a (b::u::r) F (w.setCell ⟨g,3,none⟩ u) g lv vs L:=by
 have z:∀k,k≠g->(w.setCell ⟨g,3,none⟩ u).heap[k]?=w.heap[k]?:=λk z=>bl w ⟨g,3,none⟩ u k z
 refine⟨?_,⟨h.iC.row.stay λk e=>z k (λy=>h.g1 (by rw[e,y])),h.iC.len,λi x=>(h.iC.each i x).stay λk e=>z k (λy=>h.g2 i x (by rw[e,y])),h.iC.apart,h.iC.diff,h.iC.fl,h.iC.fv⟩,h.fg,h.g1,h.g2,λk y=>by have:=h.low k y;simpa using this⟩
 have:=h.blk.gR 3 u
 simpa using this
def l6.more{Dk:Value}(h:l6 t a rest F w g lv vs L)(c:gO qV 0 w1 Dk (vs++[(none,0,0)]))(q:w.grownBy w1 lv.ownBlock)(d:Dk.ownBlock=lv.ownBlock\/Dk.ownBlock=some w.heap.size) :
 l6 t a rest (λk=>F k\/Dk.ownBlock=some k) (w1.setCell ⟨g,1,none⟩ Dk) g Dk (vs++[(none,0,0)]) (L++[[]]):=by
 have V:=h.blk.lt;have S:w.heap.size<=w1.heap.size:=q.size;have p:Dk.ownBlock≠some g:=by
  rcases d with e|e
  ·rw[e];exact h.g1
  ·rw[e];intro x;injection x with x;omega
 have Y:∀k,k<w.heap.size->lv.ownBlock≠some k->k≠g->(w1.setCell ⟨g,1,none⟩ Dk).heap[k]?=w.heap[k]?:=λk z v r=>
  (bl w1 ⟨g,1,none⟩ Dk k r).trans (q.block k z (λe=>v e.symm))
 have s:∀i (y:i<ao (vs++[((none,0,0):Sv)])),∀k,(iW ((vs++[((none,0,0):Sv)])[i])).ownBlock=some k->∃f:i<ao vs,(iW vs[i]).ownBlock=some k:=λi y k e=>by
  rcases bg i (ao vs) with z|z
  ·rw[dY z] at e;exact⟨z,e⟩
  ·rw[dF z] at e
   simp[iW,Value.ownBlock] at e
 have X:∀i (y:i<ao vs) k,(iW vs[i]).ownBlock=some k->Dk.ownBlock≠some k:=λi y k e=>by
  rcases d with x|x
  ·rw[x];exact h.iC.apart i y k e
  ·rw[x];intro u;injection u with u;have:=h.iC.lt y k e;omega
 refine⟨?_,⟨?_,by rw[aE,aE,h.iC.len];rfl,λi y=>?_,λi y k e=>?_,λi j y T U k e x=>?_,λk e=>.inr e,λi y k e=>?_⟩,.inl h.fg,p,λi y e=>?_,λk u=>?_⟩
 ·have z:gN w1 g t (a::lv::rest).toArray:=(q.block g V (λe=>h.g1 e.symm)).trans h.blk
  have:=z.gR 1 Dk
  simpa using this
 ·exact c.far p Dk
 ·rcases bg i (ao vs) with z|z
  ·rw[dY z]
   have e:lvl (L++[[]]) i=lvl L i:=by
    unfold lvl;simp only[List.getD];rw[cO (by rw[<-h.iC.len];exact z)]
   rw[e];exact(h.iC.each i z).stay λk e=>Y k (h.iC.lt z k e) (h.iC.apart i z k e) (λx=>h.g2 i z (by rw[e,x]))
  ·have f:i=ao vs:=by rw[aE] at y;simp only[bu] at y;omega
   subst f;have e:lvl (L++[[]]) (ao vs)=[]:=by
    unfold lvl;simp only[List.getD];rw[h.iC.len,cU (aD _)];simp
   rw[e];simp only[dF (aD _),eN,bn];exact gO.nil_ _ _
 ·obtain⟨z,v⟩:=s i y k e
  exact X i z k v
 ·obtain⟨z,v⟩:=s i y k e
  obtain⟨r,b⟩:=s j T k x;exact h.iC.diff i j z r U k v b
 ·obtain⟨z,v⟩:=s i y k e
  exact .inl (h.iC.fv i z k v)
 ·obtain⟨z,v⟩:=s i y g e
  exact h.g2 i z v
 ·rcases u with u|u
  ·have:=h.low k u;simp;omega
  ·have:=(c.lt k u).2;simpa using this
def l6.level{s':Sv}(h:l6 t a rest F w g lv vs L)(f:j<ao L){gl cl n:Nat}(R:lv=.slice (some ⟨gl,0,none⟩) n cl)
 (P:gO ig 0 w1 (iW s') l') (S:∀k,k<w.heap.size->(iW (vs[j]'(by rw[h.iC.len];exact f))).ownBlock≠some k->w1.heap[k]?=w.heap[k]?) (D:w.heap.size<=w1.heap.size)
 (I:(iW s').ownBlock=(iW (vs[j]'(by rw[h.iC.len];exact f))).ownBlock\/∀k,(iW s').ownBlock=some k->w.heap.size<=k) :
 l6 t a rest (λk=>F k\/(iW s').ownBlock=some k) (w1.setCell ⟨gl,j,none⟩ (iW s')) g lv (vs.set j s') (L.set j l'):=by
 have u:j<ao vs:=by rw[h.iC.len];exact f
 have s:lv.ownBlock=some gl:=by rw[R];rfl
 have T:gl<w.heap.size:=(h.iC.row.lt gl s).2;have K:∀k,(iW vs[j]).ownBlock=some k->k≠gl:=λk e y=>h.iC.apart j u k e (by rw[s,y])
 have c:∀k,(iW s').ownBlock=some k->(k<w.heap.size->(iW vs[j]).ownBlock=some k):=λk e d=>by
  rcases I with y|y
  ·rw[<-y];exact e
  ·have:=y k e;omega
 have O:(iW s').ownBlock≠some gl:=λe=>h.iC.apart j u gl (c gl e T) s
 have E:(iW s').ownBlock≠some g:=λe=>h.g2 j u (c g e h.blk.lt)
 have U:∀k,k<w.heap.size->(iW vs[j]).ownBlock≠some k->k≠gl->(w1.setCell ⟨gl,j,none⟩ (iW s')).heap[k]?=w.heap[k]?:=λk b N M=>
  (bl w1 ⟨gl,j,none⟩ _ k M).trans (S k b N)
 have H:∀i (z:i<ao vs),i≠j->gO ig 0 (w1.setCell ⟨gl,j,none⟩ (iW s')) (iW vs[i]) (lvl L i):=λi z J=>
  (h.iC.each i z).stay λk e=>U k (h.iC.lt z k e) (h.iC.diff i j z u J k e) (λy=>h.iC.apart i z k e (by rw[s,y]))
 have G:gO qV 0 (w1.setCell ⟨gl,j,none⟩ (iW s')) lv (vs.set j s'):=by
  have b:gO qV 0 w1 lv vs:=h.iC.row.stay λk e=>by
   rw[s] at e;injection e with e;subst e;exact S _ T (λy=>K _ y rfl)
  have:=b;rw[R] at this |-;have:=this.gR j u s';rw[show j * qV.k=j by show j * 1=j;omega] at this
  exact this
 have r:∀i (z:i<ao (vs.set j s')),(vs.set j s')[i]=if i=j then s' else vs[i]'(by rw[bD] at z;exact z):=λi z=>by
  rw[fU]
  by_cases e:j=i
  ·subst e;simp
  ·rw[aG e,aG (λV=>e V.symm)]
 refine⟨?_,⟨G,by rw[bD,bD,h.iC.len],λi z=>?_,λi z k e=>?_,λi p z Y Q k e y=>?_,λk e=>.inl (h.iC.fl k e),λi z k e=>?_⟩,.inl h.fg,h.g1,λi z e=>?_,λk q=>?_⟩
 ·exact(U g h.blk.lt (h.g2 j u) (λe=>h.g1 (by rw[s,e]))).trans h.blk
 ·have v:i<ao vs:=by rw[bD] at z;exact z
  rw[r i z,mn _ _ _ _ f]
  by_cases e:i=j
  ·rw[aH e,aH e]
   exact P.far O _
  ·rw[aG e,aG e]
   exact H i v e
 ·have v:i<ao vs:=by rw[bD] at z;exact z
  rw[r i z] at e
  by_cases x:i=j
  ·rw[aH x] at e
   intro y;rw[s] at y;injection y with y;subst y;exact O e
  ·rw[aG x] at e;exact h.iC.apart i v k e
 ·have v:i<ao vs:=by rw[bD] at z;exact z
  have X:p<ao vs:=by rw[bD] at Y;exact Y
  rw[r i z] at e;rw[r p Y] at y
  by_cases x:i=j
  ·rw[aH x] at e
   rw[aG (λV=>Q aa)] at y
   have d:=h.iC.lt X k y;exact h.iC.diff j p u X aa k (c k e d) y
  ·rw[aG x] at e
   by_cases Y:p=j
   ·rw[aH Y] at y
    have d:=h.iC.lt v k e;exact h.iC.diff i j v u x k e (c k y d)
   ·rw[aG Y] at y
    exact h.iC.diff i p v X Q k e y
 ·have v:i<ao vs:=by rw[bD] at z;exact z
  rw[r i z] at e
  by_cases x:i=j
  ·rw[aH x] at e;exact .inr e
  ·rw[aG x] at e;exact .inl (h.iC.fv i v k e)
 ·have v:i<ao vs:=by rw[bD] at z;exact z
  rw[r i z] at e
  by_cases x:i=j
  ·rw[aH x] at e;exact E e
  ·rw[aG x] at e;exact h.g2 i v e
 ·rcases q with q|q
  ·have:=h.low k q;simp;omega
  ·have:=(P.lt k q).2;simpa using this
def l6.turn(h:l6 t a rest F w g lv vs L)(y:j<ao L)(r:gO ig 0 w' (iW (vs[j]'(by rw[h.iC.len];exact y))) l')
 (u:∀k,k<w.heap.size->(iW (vs[j]'(by rw[h.iC.len];exact y))).ownBlock≠some k->w'.heap[k]?=w.heap[k]?) (q:w.heap.size<=w'.heap.size):l6 t a rest F w' g lv vs (L.set j l'):=by
 have v:j<ao vs:=by rw[h.iC.len];exact y
 refine⟨(u g h.blk.lt (h.g2 j v)).trans h.blk,⟨h.iC.row.stay λk e=>u k (h.iC.row.lt k e).2 (λz=>h.iC.apart j v k z e),by rw[bD];exact h.iC.len,λi x=>?_,h.iC.apart,h.iC.diff,h.iC.fl,h.iC.fv⟩,h.fg,h.g1,h.g2,λk s=>aR (h.low k s) q⟩
 rw[mn _ _ _ _ y]
 by_cases e:i=j
 ·subst e;rw[aH rfl];exact r
 ·rw[aG e]
  exact(h.iC.each i x).stay λk z=>u k (h.iC.lt x k z) (h.iC.diff i j x v e k z)
end
open Go.RowKit Go.Sort
variable{l o:List Int}{v:Int}{j:Nat}
def tm(w:World)(z y k:Nat)(d:Array Int)(h:k≠z):(putRow (Value.int .i64) w z y d).heap[k]?=w.heap[k]?:=by
 unfold putRow mapBlock;rw[dP,aG (λe=>h e.symm)]
def vd(w:World)(z x:Nat)(d:Array Int)(y:Array Value)(t:TypeId)(f:Nat × Nat)(h:w.heap[z]?=some (.cells y t f)):(putRow (Value.int .i64) w z x d).heap[z]?=some (.cells (putCells (Value.int .i64) x d y) t f):=by
 unfold putRow mapBlock;rw[dP,aH rfl,h];rfl
def wz(d:List Int)(y:Array Value)(h:ao d<=y.size):(putCells (Value.int .i64) 0 d.toArray y).toList.take (ao d)=d.map (Value.int .i64):=by
 refine fR λi=>?_
 rw[dr]
 rcases bg i (ao d) with z|z
 ·rw[aH z,eR,aQ z,gh]
  have x:i<(putCells (Value.int .i64) 0 d.toArray y).size:=by unfold putCells;rw[eT];omega
  rw[fT x];simp[putCells,z]
 ·rw[aG aa,dm (by simpa using z)]
def AQ(v:Value)(q:Nat)(l:List Int)(w:World)(h:gO ig q w v l)(R:ao l<=1099511627776) :
 ar Oe 226 #[v] w λe s=>e=.returned (.tuple #[])/\gO ig q s v (l.mergeSort λx y=>decide (x<=y))/\Touch (λk=>v.ownBlock=some k) w s:=by
 obtain⟨S,h⟩:=h;rw[nM] at S h
 rcases h with⟨rfl,b⟩|⟨g,p,z,rfl,Y,u,U,X,f,c⟩
 ·have e:l=[]:=aN b
  subst e;refine(AnyM.slices_Sort_int_none Tryz.sortM none 0 w).mono ?_
  rintro e s ⟨rfl,rfl⟩;exact⟨rfl,by rw[List.mergeSort_nil];exact gO.nil_ _ _,Touch.refl _ _⟩
 ·have t:ig.k=1:=rfl
  rw[t,c_] at f c;have d:g<w.heap.size:=by
   rcases bg g w.heap.size with a|r
   ·exact a
   ·rw[dd r] at u;cases u
  have a:Holds (Value.int .i64) w g 0 l.toArray:=λj V=>by
   have r:j<ao l:=by simpa using V
   refine⟨?_,?_⟩
   ·rw[cJ,cell_of_row w g j z _ (0,0) u]
    have e:=bq (λx=>x[j]?) c
    simp only[dr,aH r,eR,aQ r,ee] at e;rw[show z[j]?=z.toList[j]? by simp,e]
    simp[r]
   ·simp[World.frozen?,u]
  refine(AnyM.slices_Sort_int Tryz.sortM g 0 p l w a d aa).mono ?_
  rintro e s ⟨rfl,n,Q,rfl⟩;have r:ao (l.mergeSort λx y=>decide (x<=y))=ao l:=(fE _ _).length_eq
  refine⟨rfl,⟨by rw[nM,dj,t,c_],.inr ⟨g,p,putCells (Value.int .i64) 0 (l.mergeSort λx y=>decide (x<=y)).toArray z,by rw[r],Y,?_,by rw[r];exact U,X,?_,?_⟩⟩,rfl,rfl,rfl,?_,λk y T=>?_⟩
  ·rw[heap_grow_old _ _ (by unfold putRow mapBlock;simpa using d)]
   exact vd _ g 0 _ z _ _ u
  ·unfold putCells;rw[eT,t,c_];exact f
  ·rw[t,c_,nM]
   refine wz _ z (by rw[r];omega)
  ·rw[size_grow];unfold putRow mapBlock;simp
  ·have x:k≠g:=λe=>T (by rw[e];rfl)
   rw[heap_grow_old _ _ (by unfold putRow mapBlock;simpa using y)]
   exact tm _ g 0 k _ x
def Dl:(prog.info? 2).map (λi=>(i.zero,i.size,i.bytes))=some (some (.int .i64 0),1,8):=by kernel_rfl
def QH:(prog.info? 196).map (λi=>(i.zero,i.size,i.bytes))=some (some (.slice none 0 0),1,24):=by kernel_rfl
def sx(v:Value)(l:List Int)(w:World)(h:iA ig w v l)(S:ao l<=1000000000000) :
 ar Oe 260 #[v] w λe t=>∃s:Sv,e=.returned (iW s)/\gO ig w.heap.size t (iW s) l/\aq w t:=by
 obtain⟨X,z,u,x,y⟩:=cx Dl;have q:=ay z;have d:=ay u;have f:=ay x;have r:=ay y;clear z u x y;obtain⟨A,c,rfl,R,T,x⟩:=h.form;have p:=ay h;clear h
 by_cases y:A=none
 ·subst y
  have z:l=[]:=by
   rcases bh (ao l) with z|z
   ·exact aN z
   ·obtain⟨g,u,e,_⟩:=x z;cases e
  subst z;clear x;have Y:(binOp .eql 196 (.slice none 0 c) (.slice none 0 0)).run prog w=.ok (.bool true) w:=Lib.run_eql_slice_nil w _ _ _ _ _ _ _ underlying196
  go_in
  go_wp2
  go_ret;exact⟨(none,0,0),rfl,gO.nil_ _ _,bw⟩
 ·obtain⟨a,rfl⟩:∃a,A=some a:=by
   cases A with
   | none=>exact absurd rfl y
   | some a=>exact⟨a,rfl⟩
  clear y x;have Y:(binOp .eql 196 (.slice (some a) (ao l) c) (.slice none 0 0)).run prog w=.ok (.bool false) w:=Lib.run_eql_slice_nil w _ _ _ _ _ _ _ underlying196
  go_in
  go_wp2_with (at_builtin;refine g8 ig (ts:=196) X _ 8 underlying196 q.o d.o f.o r.o rfl ab  ab rfl (.tmp 5) (.tmp 6) rfl w.heap.size _ [] rfl (gO.lit (E:=ig) w [] _ rfl _ rfl ab) _ l rfl (p.o.keep (bw)) af ad ?_;intro Q V z b U)
  have s:aq w V:=(dG (aC _ _) (aD _) _).grown b ad (λk u=>by have:=bC (show some w.heap.size=some k from u);omega)
  simp only[cZ] at z;obtain⟨u,g,rfl,_,_,_⟩:=z.form
  go_wp2
  go_ret;exact⟨(u,_,g),rfl,z,s⟩
def pw:∀(j c:Nat),l5 (j+1) c=thin (l5 j c)
 | 0,_=>rfl
 | j+1,c=>by rw[l5,pw j (thin c)];rfl
def G'(k z h:Nat)(w:World)(g:2<=k)(X:k<=1000000)(V:z<=1000000000)(b:h<=1000000000) :
 ar Oe 190 #[.int .i64 k,.int .i64 z,.int .i64 h] w λe d=>e=.returned (.int .i64 (room k z h:Nat))/\w=d:=by
 by_cases s:h<z
 ·have x:Hid (room k z h=max (l5 (z - 1 - h) k) 2):=ay (by unfold room;rw[aH s])
  have y:∀j,l5 j k<=k/\2<=l5 j k:=λj=>rI j k g
  have p:=ay y;clear y;have U:¬z<=h:=aa
  have T:¬(h:Int)<0:=aa
  go_in
  go_wp2
  go_loopg [7,8] (z - 1 - h) (λq c i wr=>(∃j:Nat,q=z - 1 - h - j/\j<=z - 1 - h/\i=.int .i64 ((h+j:Nat):Int)/\c=.int .i64 ((l5 j k:Nat):Int))/\w=wr)
  exact⟨⟨0,aa,aa,rfl,rfl⟩,rfl⟩
  case round=>
   obtain⟨⟨j,t,a,rfl,rfl⟩,rfl⟩:=hrel;have u:=ay t;have f:=p.o j;have v:=ay (pw j k);obtain⟨c,y⟩:=au (l5 j k);rw[y] at f v;rw[y];have r:=ay y;clear t y
   by_cases Y:j<z - 1 - h
   ·have y:Hid (thin c=if 3 * (2 * c / 3)<2 * c then 2 * c / 3+1 else 2 * c / 3):=ay (by unfold thin;split<;>omega)
    by_cases t:3 * (2 * c / 3)<2 * c
    ·have q:3 * (2 * (c:Int) / 3)<2 * (c:Int):=aa
     go_wp2
     go_roundg (z - 1 - h - (j+1))
     exact⟨⟨j+1,rfl,aa,ag,by rw[v.o,y.o,aH t];go_num⟩,rfl⟩
     have:=u.o;omega
    ·have q:¬3 * (2 * (c:Int) / 3)<2 * (c:Int):=aa
     go_wp2
     go_roundg (z - 1 - h - (j+1))
     exact⟨⟨j+1,rfl,aa,ag,by rw[v.o,y.o,aG t];go_num⟩,rfl⟩
     have:=u.o;omega
   ·have y:Hid (room k z h=c):=ay (by
     have e:j=z - 1 - h:=aa
     rw[x.o,<-e,r.o];omega)
    have t:¬(c:Int)<2:=aa
    go_wp2;refine an ?_
    exact⟨by rw[y.o],rfl⟩
 ·have x:Hid (room k z h=0):=ay (by unfold room;rw[aG s])
  go_in
  go_wp2
  go_ret;exact⟨by rw[x.o];rfl,rfl⟩
abbrev oy(F:Nat->Prop)(w:World)(g k n led:Nat)(lv:Value)(vs:List Sv)(L:LL):Prop:=l6 214 (.int .i64 k) [.int .u64 n,.int .u64 led] F w g lv vs L
abbrev tn(F:Nat->Prop)(w:World)(g k led:Nat)(lv:Value)(vs:List Sv)(L:LL):Prop:=l6 114 (.int .i64 k) [.int .u64 led] F w g lv vs L
def AR{F:Nat->Prop}{g k n led:Nat}{lv:Value}{vs:List Sv}{L:LL}(h:Nat)(w:World)(z:oy F w g k n led lv vs L)(p:2<=k)(V:k<=1000000)(U:ao L<=1000000000)(Y:h<=1000000000) :
 ar Oe 327 #[.pointer (some ⟨g,0,none⟩),.int .i64 h] w λe d=>e=.returned (.int .i64 (room k (ao L) h:Nat))/\w=d:=by
 obtain⟨A,c,rfl,_,_,_⟩:=z.form;have b:=z.cell0;have a:=z.cell1;clear z;generalize ao L=z at *
 by_cases u:h<z
 ·have x:Hid (room k z h=max (l5 (z - 1 - h) k) 2):=ay (by unfold room;rw[aH u])
  have r:=ay (λj=>rI j k p)
  have T:¬z<=h:=aa
  have S:¬(h:Int)<0:=aa
  go_in
  go_wp2
  go_loopg [5,29] (z - 1 - h) (λq c i wr=>(∃j:Nat,q=z - 1 - h - j/\j<=z - 1 - h/\i=.int .i64 (j:Int)/\c=.int .i64 ((l5 j k:Nat):Int))/\w=wr)
  exact⟨⟨0,aa,aa,rfl,rfl⟩,rfl⟩
  case round=>
   obtain⟨⟨j,t,X,rfl,rfl⟩,rfl⟩:=hrel;have q:=ay t;have f:=r.o j;have v:=ay (pw j k);obtain⟨c,y⟩:=au (l5 j k);rw[y] at f v;rw[y];have s:=ay y;clear t y
   by_cases t:j<z - 1 - h
   ·have y:Hid (thin c=(2 * c+2) / 3):=ay rfl
    go_wp2
    go_roundg (z - 1 - h - (j+1))
    exact⟨⟨j+1,rfl,aa,ag,by rw[v.o,y.o];go_num⟩,rfl⟩
    have:=q.o;omega
   ·have y:Hid (room k z h=c):=ay (by
     have e:j=z - 1 - h:=aa
     rw[x.o,<-e,s.o];omega)
    go_wp2;refine an ?_
    exact⟨by rw[y.o];simp;omega,rfl⟩
 ·have x:Hid (room k z h=0):=ay (by unfold room;rw[aG u])
  go_in
  go_wp2
  go_ret;exact⟨by rw[x.o];rfl,rfl⟩
def r8:∀{l:List Int} {v:Int} {j:Nat} (_:j<ao l) (_:∀i (h:i<ao l),i<j->¬v<l[i]),v<l[j]->ins v l=l.take j++v::l.drop j
 | y::l,v,0,_,_,h=>by
  have z:v<y:=h;simp[ins,z]
 | y::l,v,j+1,hj,hn,h=>by
  have z:¬v<y:=hn 0 ad aa
  have u:=r8 (l:=l) (v:=v) (j:=j) (by simpa using hj) (λi x t=>by have:=hn (i+1) (by simpa using x) aa ;simpa using this) (by simpa using h)
  rw[ins,aG z,u];simp
def Fg:∀{l:List Int} {v:Int} (_:∀i (h:i<ao l),¬v<l[i]),ins v l=l++[v]
 | [],v,_=>rfl
 | y::l,v,hn=>by
  have z:¬v<y:=hn 0 ad
  rw[ins,aG z,Fg (l:=l) (λi x=>by have:=hn (i+1) (by simpa using x);simpa using this)];rfl
def jc(l:List Int)(v:Int)(j:Nat)(d:Bool)(o:List Int):Prop:=
 if d then o++l.drop j=ins v l else o=l.take j/\∀i (h:i<ao l),i<j->¬v<l[i]
def jc.len{d:Bool}(h:jc l v j d o):ao o<=ao l+1:=by
 unfold jc at h
 split at h
 ·have:=bq List.length h
  rw[qz,aE] at this;omega
 ·rw[h.1,aU];omega
def jc.pass(h:jc l v j false o)(x:j<ao l)(u:¬v<l[j]):jc l v (j+1) false (o++[l[j]]):=by
 unfold jc at h |-;simp only[dN,if_false] at h |-;refine⟨by rw[h.1,aM x],λi y z=>?_⟩
 rcases bg i j with z|z
 ·exact h.2 i y z
 ·obtain rfl:i=j:=aa
  exact u
def jc.hit(h:jc l v j false o)(z:j<ao l)(y:v<l[j]):jc l v (j+1) true (o++[v]++[l[j]]):=by
 unfold jc at h |-;simp only[dN,if_false,if_true] at h |-;rw[r8 z h.2 y,h.1,cr z];simp
def jc.rest(h:jc l v j true o)(z:j<ao l):jc l v (j+1) true (o++[l[j]]):=by
 unfold jc at h |-;simp only[if_true] at h |-;rw[<-h,cr z];simp
def jc.fin1(h:jc l v (ao l) true o):o=ins v l:=by
 unfold jc at h;simp only[if_true,fe,bT] at h;exact h
def jc.fin0(h:jc l v (ao l) false o):o++[v]=ins v l:=by
 unfold jc at h;simp only[dN,if_false,bN] at h;rw[Fg (λi z=>h.2 i z z),h.1]
def Ko(v:Value)(l:List Int)(x:Int)(w:World)(h:iA ig w v l)(hl:ao l<=1000000000) :
 ar Oe 189 #[v,.int .i64 x] w λe G=>∃s:Sv,e=.returned (iW s)/\gO ig w.heap.size G (iW s) (ins x l)/\aq w G:=by
 obtain⟨P,z,t,u,y⟩:=cx Dl;have X:=ay z;have U:=ay t;have V:=ay u;have Y:=ay y;clear z t u y;obtain⟨A,c,rfl,hn,hc,z⟩:=h.form;have J:=ay z;clear h z
 go_in
 go_wp2
 go_loopg [5,6,7] (ao l) (λq u d i wr=>∃(j:Nat) (b:Bool) (o:List Int),q=ao l - j/\j<=ao l/\i=.int .i64 j/\d=.bool b/\Hid (jc l x j b o)/\Hid (gO ig w.heap.size wr u o)/\Hid (aq w wr))
 exact⟨0,false,[],rfl,aa,rfl,rfl,ay (by unfold jc;exact⟨rfl,λi _ h=>absurd h aa⟩),ay (gO.nil_ _ _),ay (aC _ _)⟩
 case round=>
  obtain⟨j,b,o,u,hj,rfl,rfl,a,t,s⟩:=hrel;have M:=ay u;have O:=s.o.size;have hol:=a.o.len;clear u;obtain⟨T,S,rfl,_,_,_⟩:=t.o.form
  by_cases Q:j<ao l
  ·obtain⟨g,off,rfl,hg,D⟩:=(J.o.keep s.o).i64 Q
   cases b
   ·by_cases H:x<l[j]
    ·have d:=ay (a.o.hit Q H)
     go_upto_region 9 with(at_builtin;refine g8 ig (ts:=196) P _ 8 underlying196 X.o U.o V.o Y.o rfl ab  ab rfl (.tmp 24) (.tmp 26) rfl w.heap.size (.slice T (ao o) S) o rfl (t.o.alloc _) _ [x] rfl (iA.hJ (E:=ig) _ x _ rfl _ rfl _ rfl) af  af ?_;intro v6 n z q p)
     have N:Hid (aq w n):=ay ((s.o.alloc O _).grown q af (λk u=>(t.o.lt k u).1))
     obtain⟨L,r⟩:=au (o++[x]);have B:ao L=ao o+1:=by rw[<-r];simp
     rw[r] at z d;have I:=ay z;obtain⟨F,C,rfl,_,_,_⟩:=z.form;obtain⟨W,off',R,hg',k0⟩:=(J.o.keep N.o).i64 Q;injection R with R;injection R with R e7;subst R;subst e7;have m:=N.o.size;clear z q p D r
     go_wp2_with (at_builtin;refine g8 ig (ts:=196) P _ 8 underlying196 X.o U.o V.o Y.o rfl ab  ab rfl (.tmp 28) (.tmp 33) rfl w.heap.size (.slice F (ao L) C) L rfl (I.o.alloc _) _ [l[j]] rfl (iA.hJ (E:=ig) _ l[j] _ rfl _ rfl _ rfl) af  af ?_;intro K f z y p)
     have r:Hid (aq w f):=ay ((N.o.alloc m _).grown y af (λk u=>(I.o.lt k u).1))
     have q:=ay z;clear z y p B
     go_wp2
     go_roundg (ao l - (j+1))
     exact⟨j+1,true,_,rfl,aa,ag,rfl,d,q,r⟩
     have:=M.o;omega
    ·have d:=ay (a.o.pass Q H)
     go_wp2_with (at_builtin;refine g8 ig (ts:=196) P _ 8 underlying196 X.o U.o V.o Y.o rfl ab  ab rfl (.tmp 28) (.tmp 33) rfl w.heap.size (.slice T (ao o) S) o rfl (t.o.alloc _) _ [l[j]] rfl (iA.hJ (E:=ig) _ l[j] _ rfl _ rfl _ rfl) af  af ?_;intro K f z y p)
     have r:Hid (aq w f):=ay ((s.o.alloc O _).grown y af (λk u=>(t.o.lt k u).1))
     have q:=ay z;clear z y p
     go_wp2
     go_roundg (ao l - (j+1))
     exact⟨j+1,false,_,rfl,aa,ag,rfl,d,q,r⟩
     have:=M.o;omega
   ·have d:=ay (a.o.rest Q)
    go_wp2_with (at_builtin;refine g8 ig (ts:=196) P _ 8 underlying196 X.o U.o V.o Y.o rfl ab  ab rfl (.tmp 28) (.tmp 33) rfl w.heap.size (.slice T (ao o) S) o rfl (t.o.alloc _) _ [l[j]] rfl (iA.hJ (E:=ig) _ l[j] _ rfl _ rfl _ rfl) af  af ?_;intro K f z y p)
    have r:Hid (aq w f):=ay ((s.o.alloc O _).grown y af (λk u=>(t.o.lt k u).1))
    have q:=ay z;clear z y p
    go_wp2
    go_roundg (ao l - (j+1))
    exact⟨j+1,true,_,rfl,aa,ag,rfl,d,q,r⟩
    have:=M.o;omega
  ·obtain rfl:j=ao l:=aa
   cases b
   ·have g:=ay a.o.fin0
    go_wp2_with (at_builtin;refine g8 ig (ts:=196) P _ 8 underlying196 X.o U.o V.o Y.o rfl ab  ab rfl (.tmp 37) (.tmp 39) rfl w.heap.size (.slice T (ao o) S) o rfl (t.o.alloc _) _ [x] rfl (iA.hJ (E:=ig) _ x _ rfl _ rfl _ rfl) af  af ?_;intro K f z y p)
    have r:Hid (aq w f):=ay ((s.o.alloc O _).grown y af (λk u=>(t.o.lt k u).1))
    rw[g.o] at z;have q:=ay z;obtain⟨d,R,rfl,_,_,_⟩:=z.form;clear z y p
    go_wp2
    go_ret;exact⟨(d,_,R),rfl,q.o,r.o⟩
   ·have g:=ay a.o.fin1
    go_wp2
    go_ret;exact⟨(T,_,S),rfl,by rw[<-g.o];exact t.o,s.o⟩
end K
namespace D
open Go.RowKit Go.Sort Go.Shelf
abbrev Dm:={p:Pr // 0<=p.1/\p.1<=16777216}
instance:Inhabited Dm:=⟨⟨(0,0),ab⟩⟩
def Kp(x:Dm):List Value:=[.int .i64 x.1.1,.int .u64 x.1.2]
def Rp(x y:Dm):Int:=x.1.1 - y.1.1
def Fh(x y:Dm):ltOf Rp x y=decide (x.1.1<y.1.1):=by unfold ltOf Rp;congr 1;exact propext ⟨λh=>by omega,λh=>by omega⟩
def W9:SWO (ltOf Rp):=⟨λx=>by rw[Fh];simp,λx y z=>by simp only[Fh,a_];omega,λx y z=>by simp only[Fh,cD];omega⟩
def Fi(d:List Dm):flatK Kp 2 d.toArray=(cellsE il (d.map Subtype.val)).toArray:=by
 have z:ao (cellsE il (d.map Subtype.val))=ao d * 2:=by rw[hU,dj];rfl
 refine ext_get! (by simp[z]) λt r=>?_
 have y:t<ao d * 2:=by simpa using r
 rw[get_flatK _ _ _ t (by simpa using y)]
 have x:t / 2<ao d:=aa
 have e:=ll il (d.map Subtype.val) (t / 2) (by simpa using x) (t % 2) (fw _ ab)
 rw[show t / 2 * il.k+t % 2=t by show t / 2 * 2+t % 2=t;omega] at e
 have u:(d.toArray)[t / 2]! = d[t / 2]:=by rw[getElem!_pos _ _ (by simpa using x)];simp
 have q:t<(cellsE il (d.map Subtype.val)).toArray.size:=by simpa[z] using y
 rw[u,getElem!_pos (cellsE il (d.map Subtype.val)).toArray t q];rw[aQ (by rw[z];exact y)] at e
 have v:t % 2<ao (Kp d[t / 2]):=fw _ ab
 rw[getElem!_pos (Kp d[t / 2]) (t % 2) v];simp only[fV] at e;have s:(il.enc d[t / 2].1)[t % 2]?=some ((Kp d[t / 2])[t % 2]):=aQ v;rw[s] at e
 simpa using (bC e).symm
def Dn(x y:Dm)(w:World):ar Oe 255 #[.agg (Kp x).toArray,.agg (Kp y).toArray] w λe v=>e=.returned (.int .i64 (Rp x y))/\∃q z,v=grow (w.drewN q) z:=by
 obtain⟨⟨a,n⟩,u,t⟩:=x;obtain⟨⟨b,k⟩,s,r⟩:=y;simp only at u t s r;show ar Oe 255 #[.agg #[.int .i64 a,.int .u64 n],.agg #[.int .i64 b,.int .u64 k]] w λe v=>e=.returned (.int .i64 (a - b))/\∃q z,v=grow (w.drewN q) z
 go_in
 go_wp2
 go_ret;exact⟨rfl,0,_,by rw[alloc_eq_grow,alloc_eq_grow,grow_grow];rfl⟩
def ve(w:World)(z y k:Nat)(d:Array Value)(h:k≠z):(putRow id w z y d).heap[k]?=w.heap[k]?:=by
 unfold putRow mapBlock;rw[dP,aG (λe=>h e.symm)]
def wB(w:World)(z x:Nat)(d:Array Value)(y:Array Value)(t:TypeId)(f:Nat × Nat)(h:w.heap[z]?=some (.cells y t f)):(putRow id w z x d).heap[z]?=some (.cells (putCells id x d y) t f):=by
 unfold putRow mapBlock;rw[dP,aH rfl,h];rfl
def Dp(d:List Value)(y:Array Value)(h:ao d<=y.size):(putCells id 0 d.toArray y).toList.take (ao d)=d:=by
 refine fR λi=>?_
 rw[dr]
 rcases bg i (ao d) with z|z
 ·rw[aH z,aQ z,gh]
  have x:i<(putCells id 0 d.toArray y).size:=by unfold putCells;rw[eT];omega
  rw[fT x];simp[putCells,z]
 ·rw[aG aa,dm (by simpa using z)]
def Ha(v:Value)(X:Nat)(z l:List Pr)(w:World)(h:gO il X w v z)(o:iE l)(a:iu l)(Y:z.Perm l)(J:∀p∈l,0<=p.1/\p.1<=16777216)(W:ao l<=1099511627776) :
 ar Oe 254 #[v,.func (.func 255) #[] #[]] w λe q=>e=.returned (.tuple #[])/\gO il X q v l/\Touch (λk=>v.ownBlock=some k) w q:=by
 have B:=Y.length_eq;obtain⟨hxs,h⟩:=h
 rcases h with⟨rfl,L⟩|⟨g,V,u,rfl,I,t,hnc,G,U,O⟩
 ·have e:l=[]:=aN aa
  subst e;have e:z=[]:=aN L;subst e;refine(AnyF.slices_SortFunc_none Tryz.sortF none 0 _ w).mono ?_
  rintro e q ⟨rfl,rfl⟩;exact⟨rfl,gO.nil_ _ _,Touch.refl _ _⟩
 ·have r:il.k=2:=rfl
  rw[r] at U O;have T:g<w.heap.size:=by
   rcases bg g w.heap.size with x|y
   ·exact x
   ·rw[dd y] at t;cases t
  have H:∀p∈z,0<=p.1/\p.1<=16777216:=λp a=>J p (Y.mem_iff.1 a)
  obtain⟨d,f⟩:∃d:List Dm,d.map Subtype.val=z:=⟨z.attach.map (λx=>⟨x.1,H x.1 x.2⟩),by rw[List.map_map];exact List.attach_map_subtype_val z⟩
  have c:ao d=ao z:=by rw[<-f,dj]
  have K:HoldsK Kp 2 w g 0 d.toArray:=λj s=>by
   rw[Fi,f] at s |-;have y:j<ao (cellsE il z):=by simpa using s
   have b:j<ao z * 2:=by rw[hU] at y;exact y
   refine⟨?_,?_⟩
   ·rw[cJ,cell_of_row w g j u _ (0,0) t]
    have e:=bq (λx=>x[j]?) O
    simp only[dr,aH b] at e;rw[show u[j]?=u.toList[j]? by simp,e,aQ y]
    simp[y]
   ·simp[World.frozen?,t]
  have P:d.toArray.size=ao z:=by simpa using c
  have C:=AnyQ.slices_SortFunc Tryz.sortF 2 (by intro w;kernel_rfl) (by intro w;kernel_rfl) Kp (λx=>rfl) (λx v N=>by simp[Kp] at N;rcases N with rfl|rfl<;>rfl) Rp W9 255 #[] g 0 V d.toArray w (λy w=>rfl) (λm M S _ x y=>by simpa using Dn x y _) K T (by rw[P];omega)
  rw[P] at C;refine C.mono ?_
  rintro e q ⟨rfl,y,n,M,R,m,rfl⟩;have S:y.toList.Perm d:=by
   have x:=R.2.2;rw[fJ (by rw[R.1];simp[c]),fJ (by simp[c])] at x
   simpa using x
  have D:y.toList.map Subtype.val=l:=by
   refine GZ o a ((S.map _).trans (by rw[f];exact Y)) ?_
   rw[List.pairwise_map,bO];intro i j x s Q;have b:j<ao z:=by have:=S.length_eq;omega
   have:=m i j (bB _) Q b;rw[Fh] at this;rw[getElem!_pos y i (by simpa using x),getElem!_pos y j (by simpa using s)] at this
   simp at this
   simpa using this
  have F:flatK Kp 2 y=(cellsE il l).toArray:=by rw[<-D,<-Fi]
  have x:ao (cellsE il l)=ao l * 2:=by rw[hU];rfl
  have Q:∀k,k<w.heap.size->(sortWorldK Kp 2 w g 0 n y M).heap[k]?=(putRow id w g 0 (cellsE il l).toArray).heap[k]?:=λk b=>by
   unfold sortWorldK putRowK;rw[F,heap_grow_old _ _ (by unfold putRow mapBlock;simpa using b)]
   rfl
  refine⟨rfl,⟨by rw[x,r],.inr ⟨g,V,putCells id 0 (cellsE il l).toArray u,by rw[B],I,?_,aa,G,?_,?_⟩⟩,rfl,rfl,rfl,?_,λk b A=>?_⟩
  ·rw[Q g T]
   exact wB w g 0 _ u _ _ t
  ·unfold putCells;rw[eT,r];exact U
  ·rw[r,<-x]
   refine Dp _ u (by rw[x];omega)
  ·unfold sortWorldK
   rw[size_grow];unfold putRowK putRow mapBlock;simp
  ·have E:k≠g:=λe=>A (by rw[e];rfl)
   rw[Q k b];exact ve _ g 0 k _ E
open Go.RowKit Go.Lib Go.Shelf Go.Maps
section
variable {x lo hi dg u m bk : Nat} {gr : Bool} {l : List Pr} {F : Ft}
def vf{b:Nat}(w:World)(k3:w.cell? ⟨x,3,none⟩=some (.map (some b)))(F:kU w b l)(ok:iG lo hi dg u m gr bk l):ar Oe 171 #[.pointer (some ⟨x,0,none⟩)] w λe P=>∃v,e=.returned v/\gO il w.heap.size P v l/\aq w P:=by
 obtain⟨D,R,s⟩:=F;have hbl:=R.lt;have V:=ay ok;have Y:=ay s;have hlen:=ok.len;have M:Hid (∀(v:Value) (y:List Pr) (t:World) (z:Nat),gO il z t v y->y.Perm l->_):=ay (λv y t z h r=>Ha v z y l t h ok.iJ ok.pos r ok.kb aa)
 clear ok s;obtain⟨r,W⟩:=au (w.heap.size)
 go_in
 go_wp2_with (at_range;refine wpList_range_own _ rfl _ 204 rfl 3 36 Nf PE _ b _ D rfl R ?_;intro O Q A hs0)
 go_frame
 rw[W] at Q hs0 |-;have B:aq w O:=(aC _ _).grown A (aD _) (λj d=>by cases d)
 have C:gO il (r+1) O (.slice none 0 0) []:=gO.nil_ _ _
 go_loopg [3] (Maps.size D) (λq s wr=>∃(a:Lit->Bool) (y:List Pr),wr.ranges prog 3 (plainElem (H:=Unit) prog 36) b r (ao l) D a q/\Hid (Ou l y a)/\Hid (gO il (r+1) wr s y)/\aq w wr/\r+1<=wr.heap.size)
 exact⟨_,[],Q,ay (J5 Y.o),ay C,B,aa⟩
 case round=>
  obtain⟨a,y,i,g,v,q,hz⟩:=hrel;obtain⟨N,I,rfl,_,_,_⟩:=v.o.form
  go_wp2_with (at_next;refine wpList_next_ranges_ii _ rfl _ rfl 3 36 .i64 .u64 Nf PF PG b r _ _ _ _ rfl i ?_ ?_)
  ·intro X s
   have z:=ay (Pu g.o s)
   go_wp2_with fail;refine(M.o _ _ _ _ v.o z.o).mono ?_
   rintro e U ⟨rfl,f,c⟩
   go_wp2
   go_ret;refine⟨_,rfl,f.more aa,?_⟩
   exact q.trans (c.below (λk p=>by have:=(v.o.lt k p).1;omega) q.size)
  ·intro z c t G hwx hwc T U h n s K hen
   have o:=ay (Rj Y.o V.o.iJ U);have L:=ay (MZ V.o.iJ g.o T o.o);have hol:=Pv g.o;have X:=ay (v.o.grown s (.inr (λe=>by have:=(v.o.lt r e).1;omega)))
   have f:aq w t:=q.grown s q.size (λj d=>by cases d;omega)
   have hz1:r+1<=t.heap.size:=aa
   have S:∀k,k<=r->(Value.slice N (ao y) I).ownBlock≠some k:=λk p e=>by have:=(v.o.lt k e).1;omega
   clear U T s K
   go_wp2_with (at_builtin;refine nu pj rfl (.tmp 16) (.tmp 20) rfl (X.o.alloc _) rfl _ [(z,c)] rfl (iA.hJ (E:=il) _ (z,c) _ rfl _ rfl _ ad) af ah ?_;intro v6 w6 U s _;have T:Hid (aq w w6):=ay ((f.alloc f.size _).grown s (by simp;have:=f.size;omega) (λk p=>by have:=(X.o.lt k p).1;omega));have K:=ay U;have J:=ay ((h.alloc _).kept s (λe=>S b aa e.symm) (λe=>S r (aD _) e.symm));have j:=s.size;clear U s)
   go_roundg G
   case measure=>exact n
   case rel=>exact⟨_,y++[(z,c)],J.o,L,K,T.o,by simp at j;omega⟩
def AS(w:World)(h:mO x lo hi dg u m gr bk l F w)(ok:iG lo hi dg u m gr bk l):ar Oe 171 #[.pointer (some ⟨x,0,none⟩)] w λe y=>∃v,e=.returned v/\gO il w.heap.size y v l/\aq w y:=by
 obtain⟨g,b,v,s,t,_⟩:=h;have z:=v.k3;exact vf w z t ok
end
end D
inductive PT where
 | done:PT
 | rd (i:Nat) (k:Bool) (r:PT):PT
 | ef (i:Nat) (r:PT):PT
 | fk (i j:Nat) (r s:PT):PT
def PT.len:PT->Nat
 | .done=>0
 | .rd _ _ r=>r.len+1
 | .ef _ r=>r.len+1
 | .fk _ _ r _=>r.len+1
section
variable {P : Program} {ops : Array Oper} {md : Region.Mode} {S : World -> Prop} {Q : Exit -> Act -> World -> Prop} {t : Nat}
variable{d:Bool}{i j:Nat}{a:Act}{w:World}{r:PT}{o:Oper}
def oK(md:Region.Mode)(ops:Array Oper)(t:Nat):PT->Array Bool->Bool
 | .done,listed=>(Region.ready md ops listed).isEmpty
 | .rd i true r,listed=>(Region.ready md ops listed).contains i && Region.free md ops listed i && decide (i≠t) && (listed.getD t true == false) && Region.waitsFor md ops t i && oK md ops t r (listed.setIfInBounds i true)
 | .rd i false r,listed=>(Region.ready md ops listed).contains i && Region.free md ops listed i && decide (i≠t) && oK md ops t r (listed.setIfInBounds i true)
 | .ef i r,listed=>decide (Region.ready md ops listed=[i]) && oK md ops t r (listed.setIfInBounds i true)
 | .fk i j r s,listed=>decide (Region.ready md ops listed=[i,j]) && decide (r.len=s.len) && oK md ops t r (listed.setIfInBounds i true) && oK md ops t s (listed.setIfInBounds j true)
def iq(P:Program)(ops:Array Oper)(Q:Exit->Act->World->Prop)(S:World->Prop)(t:Nat):Bool->PT->Act->World->Prop
 | _,.done,a,w=>Q .normal a w
 | d,.ef i r,a,w=>wpOp P ops Q i (λa' w'=>((d || i == t)=false->S w')/\iq P ops Q S t (d || i == t) r a' w') a w
 | d,.rd i true r,a,w=>∃o v,ops[i]?=some o/\YieldsIf P ops S o v a/\iq P ops Q S t d r (a.put o.dst v) w
 | d,.rd i false r,a,w=>∃o v,ops[i]?=some o/\YieldsIf P ops (λ_=>True) o v a/\iq P ops Q S t d r (a.put o.dst v) w
 | d,.fk i j r s,a,w=>wpOp P ops Q i (λa' w'=>((d || i == t)=false->S w')/\iq P ops Q S t (d || i == t) r a' w') a w/\wpOp P ops Q j (λa' w'=>((d || j == t)=false->S w')/\iq P ops Q S t (d || j == t) s a' w') a w
def AT{listed:Array Bool}(y:j∈Region.ready md ops listed)(v:listed.getD t true=d):(listed.setIfInBounds j true).getD t true=(d || j == t):=by
 have y:=mem_ready.1 y
 by_cases x:j=t
 ·subst x
  have u:j<listed.size:=by
   rcases bg j listed.size with z|z
   ·exact z
   ·have:=y.1;simp[dd z] at this
  simp[u]
 ·rw[getD_set_ne true x,v];simp[x]
def kB(u:Region.noSelect ops=true)(x:∀c a w,¬Q (.panic c) a w):∀(l:PT) (d:Bool) (listed:Array Bool) (a:Act) (w:World),oK md ops t l listed=true->listed.getD t true=d->(d=false->S w) ->
 iq P ops Q S t d l a w->wpAnyS P md ops Q S t l.len listed a w
 | .done,d,listed,a,w,hB,_,_,h=>⟨by simpa[oK] using hB,by cases d<;>simpa[iq] using h⟩
 | .rd i true r,d,listed,a,w,hB,hd,hS,h=>by
  simp only[oK,bQ,a_,beq_iff_eq] at hB;obtain⟨⟨⟨⟨⟨s,q⟩,z⟩,Y⟩,X⟩,p⟩:=hB;obtain⟨o,v,y,b,g⟩:=h;exact wpAnyS_first z y (dK u) (λc a w f=>absurd f (x c _ w)) _ listed a w (dW y q) (by simpa using s) b (λh=>hS (by rw[<-hd];exact h))
   (.inr ⟨λ_ h=>h,Y,Region.waitsFor_spec X⟩) (kB u x r d _ _ w p (by rw[getD_set_ne true z];exact hd) hS g)
 | .rd i false r,d,listed,a,w,hB,hd,hS,h=>by
  simp only[oK,bQ,a_] at hB;obtain⟨⟨⟨s,q⟩,z⟩,p⟩:=hB;obtain⟨o,v,y,b,g⟩:=h;exact wpAnyS_first z y (dK u) (λc a w f=>absurd f (x c _ w)) _ listed a w (dW y q) (by simpa using s) b (λh=>hS (by rw[<-hd];exact h))
   (.inl λ_=>trivial) (kB u x r d _ _ w p (by rw[getD_set_ne true z];exact hd) hS g)
 | .ef i r,d,listed,a,w,hB,hd,hS,h=>by
  simp only[oK,bQ,a_] at hB;refine⟨λy=>(by rw[hB.1] at y;cases y),λj z=>?_⟩
  have g:=z;rw[hB.1] at z;have s:j=i:=by simpa using z
  subst s;have v:=AT g hd;exact wpOp_mono (λq p z=>⟨λy=>z.1 (by rw[<-v];exact y),kB u x r _ _ q p hB.2 v z.1 z.2⟩) h
 | .fk i j r s,d,listed,a,w,hB,hd,hS,h=>by
  simp only[oK,bQ,a_] at hB;obtain⟨⟨⟨c,V⟩,b⟩,Y⟩:=hB;refine⟨λy=>(by rw[c] at y;cases y),λk f=>?_⟩
  have g:=f;rw[c] at f;have v:=AT g hd;have X:k=i\/k=j:=by simpa using f
  rcases X with rfl|rfl
  ·exact wpOp_mono (λq p z=>⟨λy=>z.1 (by rw[<-v];exact y),kB u x r _ _ q p b v z.1 z.2⟩) h.1
  ·refine wpOp_mono (λq p z=>⟨λy=>z.1 (by rw[<-v];exact y),?_⟩) h.2
   have:=kB u x s _ _ q p Y v z.1 z.2;rw[<-V] at this;exact this
def tp{id:Nat}(S:World->Prop)(t:Nat)(l:PT)(r:P.follows .mixedOrders=true)
 (z:(Region.noSelect ops && decide (l.len=ops.size) && decide (t<ops.size) && oK .any ops t l (Array.replicate ops.size false))=true)
 (s:S w.drew) (h:iq P ops (Calm Q) S t false l a w.drew):(Code.region id ops true).wp P Q a w:=by
 simp only[bQ,a_] at z;obtain⟨⟨⟨y,x⟩,v⟩,u⟩:=z;have H:=kB (Q:=Calm Q) y (λ_ _ _ h=>h) l false _ a _ u (by simp[v]) (λ_=>s) h
 rw[x] at H;exact ft Calm.imp (wp_region_any r (qH _ _ _ _ H))
def oz(q:ops[i]?=some o)(p:Region.wanted o (yielded ops a.tmps)=true)
 (h:∀R:Act->Prop,(∀z,iq P ops Q S t d r z w->R z)->∃v,(∀z,S z->nE v z ((execOp a.eval o).run P z))/\R (a.put o.dst v)):iq P ops Q S t d (.rd i true r) a w:=by
 obtain⟨v,u,s⟩:=h _ (λ_ h=>h)
 unfold iq;refine⟨o,v,q,.inl ⟨p,λz x=>?_⟩,s⟩
 have y:=u z x;generalize (execOp a.eval o).run P z=x at *
 cases x with
 | ok n w''=>obtain⟨rfl,rfl⟩:=y;rfl
 | halt x w''=>exact y.elim
def gZ(q:ops[i]?=some o)(p:Region.wanted o (yielded ops a.tmps)=true)
 (h:∀R:Act->Prop,(∀z,iq P ops Q S t d r z w->R z)->∃v,(∀z,nE v z ((execOp a.eval o).run P z))/\R (a.put o.dst v)):iq P ops Q S t d (.rd i false r) a w:=by
 obtain⟨v,u,s⟩:=h _ (λ_ h=>h)
 unfold iq;refine⟨o,v,q,.inl ⟨p,λz _=>?_⟩,s⟩
 have y:=u z;generalize (execOp a.eval o).run P z=x at *
 cases x with
 | ok n w''=>obtain⟨rfl,rfl⟩:=y;rfl
 | halt x w''=>exact y.elim
def jd(v:ops[i]?=some o)(u:Region.wanted o (yielded ops a.tmps)=true)(x:(i == t)=false)
 (h:∀K:Act->World->Prop,(∀y z,S z->iq P ops Q S t false r y z->K y z)->o.wp P a w K Q):iq P ops Q S t false (.ef i r) a w:=by
 unfold iq wpOp;simp only[v,u,if_true,Bool.false_or,x];exact .inl (h _ λ_ _ z y=>⟨λ_=>z,y⟩)
def lx(v:ops[i]?=some o)(u:Region.wanted o (yielded ops a.tmps)=true)(x:(d || i == t)=true)
 (h:∀K:Act->World->Prop,(∀z y,iq P ops Q S t true r z y->K z y)->o.wp P a w K Q):iq P ops Q S t d (.ef i r) a w:=by
 unfold iq wpOp;simp only[v,u,if_true,x];exact .inl (h _ λ_ _ y=>⟨λz=>(by cases z),y⟩)
def rL{s:PT}(z:iq P ops Q S t d (.ef i r) a w)(y:iq P ops Q S t d (.ef j s) a w):iq P ops Q S t d (.fk i j r s) a w:=by
 unfold iq at z y |-;exact⟨z,y⟩
def oB(h:Q .normal a w):iq P ops (Calm Q) S t d .done a w:=by
 unfold iq;exact h
end
end Go.Proofs.YtdicblkhpcphfaaGreat
