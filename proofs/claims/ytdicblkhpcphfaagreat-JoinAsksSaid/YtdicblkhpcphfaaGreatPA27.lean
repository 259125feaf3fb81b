/- Parts. No condition. -/
import Derived.Laws.OwnMore
import Derived.Test.YtdicblkhpcphfaaGreatPA26
import Derived.Laws.BytesArg
set_option maxRecDepth 100000
set_option maxHeartbeats 0
set_option linter.all false
namespace Go.Proofs.YtdicblkhpcphfaaGreat
open Tryz Go.RowKit Go.Lib
open _root_.List renaming length→ao
open _root_.Go renaming Calls→ar
open Tryz renaming prog→Oe
namespace K
variable{j n:Nat}{L:LL}
def qY(n:Nat):List Sv:=List.replicate n (none,0,0)
def Bo(w:World)(n:Nat)(v:n<=1000000):gO qV w.heap.size (w.alloc (.cells (madeCells #[.slice none 0 0] n) 196)) (.slice (some ⟨w.heap.size,0,none⟩) n n) (qY n):=by
 have y:ao (qY n)=n:=by simp[qY]
 have x:cellsE qV (qY n)=List.replicate n (Value.slice none 0 0):=by
  unfold qY
  induction n with
  | zero=>rfl
  | succ n ih=>rw[ec,ja,ih aa (by simp[qY]),ec];rfl
 have z:qV.k=1:=rfl;refine⟨by rw[x,gu,y,z,c_],.inr ⟨w.heap.size,n,madeCells #[.slice none 0 0] n,by rw[y],aD _,cm _ _,aa,by unfold maxLen;omega,by rw[size_madeCells,z,c_],?_⟩⟩
 rw[x,toList_madeCells_one,y,z,c_,List.take_replicate,Nat.min_self]
def Lf{F:Nat->Prop}{w:World}{g k led gl H:Nat}(u:gN w g 214 #[.int .i64 k,.slice (some ⟨gl,0,none⟩) H H,.int .u64 n,.int .u64 led])(t:gO qV 0 w (.slice (some ⟨gl,0,none⟩) H H) (qY H))(s:g≠gl)(v:∀x,F x<->(x=g\/x=gl)) :
 oy F w g k n led (.slice (some ⟨gl,0,none⟩) H H) (qY H) (List.replicate H []):=by
 have y:∀i (z:i<ao (qY H)),iW ((qY H)[i])=.slice none 0 0:=λi z=>by
  have:(qY H)[i]=(none,0,0):=List.getElem_replicate z;rw[this];rfl
 have q:∀i,lvl (List.replicate H ([]:List Int)) i=[]:=λi=>by
  unfold lvl;simp only[List.getD];rw[eQ]
  split<;>rfl
 have r:=(t.lt gl rfl).2;refine⟨u,⟨t,by simp[qY],λi z=>by rw[y i z,q];exact gO.nil_ _ _,λi z k e=>by rw[y i z] at e;simp[Value.ownBlock] at e,λi j z f p k e=>by rw[y i z] at e;simp[Value.ownBlock] at e,λk e=>?_,λi z k e=>by rw[y i z] at e;simp[Value.ownBlock] at e⟩,(v g).2 (.inl rfl),λe=>s (bC (show some gl=some g from e)).symm,λi z e=>by rw[y i z] at e;simp[Value.ownBlock] at e,λx p=>?_⟩
 ·exact(v k).2 (.inr (bC (show some gl=some k from e)).symm)
 ·rcases(v x).1 p with rfl|rfl
  ·exact u.lt
  ·exact r
def nf(L:LL)(j:Nat):LL:=L.take j++List.replicate (ao L - j) []
def oF(h:j<=ao L):ao (nf L j)=ao L:=by unfold nf;simp;omega
def DM(L:LL):nf L 0=List.replicate (ao L) []:=by unfold nf;simp
def Ih(L:LL):nf L (ao L)=L:=by unfold nf;simp
def Ii(h:j<ao L):(nf L j).set j (lvl L j)=nf L (j+1):=by
 unfold nf;rw[aM h,<-jX h,show ao L - j=(ao L - (j+1))+1 by omega,ec,gg _ _ (by rw[aU];omega),aU,dk aa,eN,bo,aO]
 rfl
def RR(z:n<=281474976710656):((281474976710656 - (n:Int)) / 2 ^ j)=(((281474976710656 - n) / 2 ^ j:Nat):Int):=by
 rw[fX,eM,Int.ofNat_sub z];rfl
def P7{x:Nat}:¬(281474976710656 - n) / 2 ^ j<x<->x * 2 ^ j<=281474976710656 - n:=by
 rw[Nat.not_lt,dC (bR j)]
structure P8(w:World)(g k led:Nat)(L:LL)(j:Nat)(F:Nat->Prop)(wr:World)(lv:Value)(vs:List Sv):Prop where
 st:oy F wr g k (mR 1 (L.take j)) led lv vs (nf L j)
 new:∀x,F x->w.heap.size<=x
 below:aq w wr
 good:∀h,h<j->ao (lvl L h)<=room k (ao L) h/\mQ (lvl L h)
 wt:mR 1 (L.take j)<=281474976710656
def Lg(k:Int)(v:Value)(L:LL)(led:Nat)(w:World)(h:Ht w v L)(k0:-9223372036854775808<=k)(k1:k<=9223372036854775807)(yT:led<18446744073709551616)(s:∀j,ao (lvl L j)<=1000000000) :
 ar Oe 400 #[.int .i64 k,v,.int .u64 led] w λe f=>((∃g,e=.returned (.tuple #[.pointer (some ⟨g,0,none⟩),.int .i64 0])/\i_ k L led/\∃F,xJ F f g k.toNat L led/\∀x,F x->w.heap.size<=x)\/(e=.returned (.tuple #[.pointer none,.int .i64 1])/\¬i_ k L led))/\aq w f:=by
 obtain⟨i1,z,t,u,y⟩:=cx QH;have JI:=ay z;have JZ:=ay t;have KA:=ay u;have KD:=ay y;clear z t u y;obtain⟨A,c,rfl,hc1,hc2⟩:=h.form;have HL:=ay h;have Rv:=ay s;clear h s
 by_cases z:k<8\/4096<k
 ·have t:Hid (¬i_ k L led):=ay λh=>by have:=h.k4;have:=h.k8;omega
  go_in
  go_wp2_with fail;refine(P2 k w z).mono ?_
  rintro e w1 ⟨rfl,y⟩;subst y
  go_wp2;refine an ?_
  exact⟨.inr ⟨rfl,t.o⟩,aC _ _⟩
 obtain⟨K,rfl⟩:∃K:Nat,k=K:=⟨k.toNat,aa⟩
 have D:8<=K:=aa
 have E:K<=4096:=aa
 clear z;have q:aq w (w.alloc (.cells #[.int .i64 K,.slice none 0 0,.int .u64 0,.int .u64 0] 214)):=(aC _ _).alloc (aD _) _
 by_cases Zq:ao L > 49
 ·have t:Hid (¬i_ K L led):=ay λh=>by have:=h.hlen;omega
  have Uj:(ao L:Int) > 49:=aa
  go_in
  go_wp2_with fail;refine(new_any K w D E).mono ?_
  rintro e w1 ⟨rfl,y⟩;subst y
  go_wp2;refine an ?_
  exact⟨.inr ⟨rfl,t.o⟩,q⟩
 have Uj:¬(ao L:Int) > 49:=aa
 by_cases hle:led > 4611686018427387904
 ·have t:Hid (¬i_ K L led):=ay λh=>by have:=h.yT;omega
  have Uk:(led:Int) > 4611686018427387904:=aa
  go_in
  go_wp2_with fail;refine(new_any K w D E).mono ?_
  rintro e w1 ⟨rfl,y⟩;subst y
  go_wp2;refine an ?_
  exact⟨.inr ⟨rfl,t.o⟩,q⟩
 have Uk:¬(led:Int) > 4611686018427387904:=aa
 by_cases Y:ao L=0/\0<led
 ·have t:Hid (¬i_ K L led):=ay λh=>by have:=h.emp Y.1;omega
  obtain⟨z,u⟩:=Y;rw[z]
  go_in
  go_wp2_with fail;refine(new_any K w D E).mono ?_
  rintro e w1 ⟨rfl,y⟩;subst y
  go_wp2;refine an ?_
  exact⟨.inr ⟨rfl,t.o⟩,q⟩
 by_cases d:0<ao L/\lvl L (ao L - 1)=[]
 ·have t:Hid (¬i_ K L led):=ay λh=>h.top d.1 d.2
  obtain⟨s,off,I,C,G,R,r,_⟩:=HL.o.at_ (j:=ao L - 1) (by omega)
  subst G;rw[d.2] at r;obtain⟨u,a⟩:=au (ao L - 1);have N:(ao L:Int) - 1=(u:Int):=aa
  have V:(u:Int)<(ao L:Int):=aa
  have b:¬(ao L:Int)=0:=aa
  have O:¬L=[]:=λe=>by rw[e] at V;simp at V;omega
  rw[a] at r;have U:=(q.cell (p:=⟨s,off+u,none⟩) R).trans r;have X:=ay U;have z:=ay q;clear d Y a r U q
  go_in
  go_wp2_with fail;refine(new_any K w D E).mono ?_
  rintro e w1 ⟨rfl,y⟩;rw[<-y] at X z;have M:=X.o;clear y
  go_wp2;refine an ?_
  exact⟨.inr ⟨rfl,t.o⟩,z.o⟩
 have RT:Hid (0<ao L->lvl L (ao L - 1)≠[]):=ay λz U=>d ⟨z,U⟩
 have RU:Hid (ao L=0->led=0):=ay λz=>by omega
 have T:=ay (λW=>nj 112 196 i1 _ underlying112 JI.o JZ.o .i64 .i64 (ao L) (ao L) (aD _) (by rw[KD.o];omega) aa W)
 have X:=T.o;rw[KA.o,c_] at X;have Ul:=ay X;have H:=Ul.o;clear T X d Y q;have X9:Hid (∀j,mR 1 (L.take j)<=wt L):=ay λj=>py L j
 go_in
 go_wp2_with fail;refine(new_any K w D E).mono ?_
 rintro e w1 ⟨rfl,y⟩;have S:gN w1 w.heap.size 214 #[.int .i64 K,.slice none 0 0,.int .u64 0,.int .u64 0]:=by rw[y];exact gN.new w _ _
 have T:aq w w1:=by rw[y];exact(aC _ _).alloc (aD _) _
 have B:w1.heap.size=w.heap.size+1:=by rw[y];simp
 have q:=ay S;have Y:=ay T;have d:=ay B;obtain⟨g,X⟩:=au (w.heap.size);have J:=ay X;rw[X] at q d |-;clear y S T B X
 go_upto_region 3 with fail
 go_cut [50] (λx y=>x=.bool false/\w1=y)
 case first=>
  by_cases b:ao L=0
  ·have X:=RU.o b
   have y:L=[]:=aN b;subst X;subst y;clear b
   go_wp2_with fail
   go_meet
   exact⟨rfl,rfl⟩
  ·obtain⟨s,off,I,C,G,R,r,_⟩:=HL.o.at_ (j:=ao L - 1) (by omega)
   subst G;have X:¬(lvl L (ao L - 1)).length=0:=λe=>RT.o aa (aN e)
   obtain⟨y,T⟩:=au (ao (lvl L (ao L - 1)));rw[T] at r X;obtain⟨u,a⟩:=au (ao L - 1);rw[a] at r;have N:(ao L:Int) - 1=(u:Int):=aa
   have V:(u:Int)<(ao L:Int):=aa
   have O:¬L=[]:=λe=>b (by rw[e];rfl)
   have B:decide ((49:Int)<(ao L:Int))=false:=cj aa
   have S:decide ((4611686018427387904:Int)<(led:Int))=false:=cj aa
   have Q:((y:Int) == 0)=false:=by simpa using X
   have P:Hid ((decide ((49:Int)<(ao L:Int)) || decide ((4611686018427387904:Int)<(led:Int)) || ((y:Int) == 0))=false):=ay (by rw[B,S,Q];rfl)
   clear B S Q;have M:=(Y.o.cell (p:=⟨s,off+u,none⟩) R).trans r;clear r T a
   go_wp2_with fail
   go_meet
   exact⟨by first|rfl|rw[P.o],rfl⟩
 case rest=>
 obtain⟨rfl,rfl⟩:=hcut;have b:=q.o.k1;have a:=q.o.k3;have M:=q.o.frozen 1;have I:=q.o.frozen 3;have hgw:=q.o.lt
 go_upto_region 6 with fail;have T:g≠w1.heap.size:=aa
 have u:=((q.o.gR 1 (.slice (some ⟨w1.heap.size,0,none⟩) (ao L) (ao L))).gR 3 (.int .u64 led)).alloc (.cells (madeCells #[.slice none 0 0] (ao L)) 196);obtain⟨N,y⟩:=au ((w1.setCell ⟨g,1,none⟩ (.slice (some ⟨w1.heap.size,0,none⟩) (ao L) (ao L))).setCell ⟨g,3,none⟩ (.int .u64 led));have O:N.heap.size=w1.heap.size:=by rw[<-y];simp
 have V:aq w N:=by
  rw[<-y];refine eH (eH Y.o ?_ _) ?_ _
  ·show w.heap.size<=g;rw[J.o];exact aD _
  ·show w.heap.size<=g;rw[J.o];exact aD _
 have r:=Bo N (ao L) aa
 rw[O] at r;have S:=r.more (bB _);have X:aq w (N.alloc (.cells (madeCells #[.slice none 0 0] (ao L)) 196)):=V.alloc (by have:=J.o;have:=d.o;omega) _
 rw[y] at u;rw[y];have P:=Lf (F:=λx=>x=g\/x=w1.heap.size) (n:=0) (led:=led) u S T (λx=>Iff.rfl)
 have RV:Hid (P8 w g K led L 0 (λx=>x=g\/x=w1.heap.size) (N.alloc (.cells (madeCells #[.slice none 0 0] (ao L)) 196)) (.slice (some ⟨w1.heap.size,0,none⟩) (ao L) (ao L)) (qY (ao L))):=ay ⟨by rw[DM];exact P,λx hx=>by have:=J.o;have:=d.o;omega,X,λh W=>absurd W aa,bB _⟩
 obtain⟨w3,Q⟩:=au (N.alloc (.cells (madeCells #[.slice none 0 0] (ao L)) 196));rw[Q] at RV |-;clear r u V T S X P Q y O H b a M I Y q d
 go_wp2
 go_loopg [11,12,62] (ao L) (λq _ _ i wr=>∃(j:Nat) (F:Nat->Prop) (lv:Value) (vs:List Sv),q=ao L - j/\j<=ao L/\i=.int .i64 (j:Int)/\Hid (P8 w g K led L j F wr lv vs))
 exact⟨0,_,_,_,aa,aa,rfl,RV⟩
 case round=>
  obtain⟨j,F,lv,vs,y,hj,rfl,u⟩:=hrel;have HQ:=ay y;clear y
  by_cases Q:j<ao L
  ·have X_:(j:Int)<(ao L:Int):=aa
   obtain⟨gi,off,sA,sc,G,hgi,c2,a⟩:=(HL.o.keep u.o.below).at_ Q;subst G;have VH:=ay a;have C:ao (nf L j)=ao L:=oF aa
   have o:=ay (AR j wr u.o.st aa  aa  aa  aa)
   rw[C] at o;have hrb:=room_le (k:=K) (len:=ao L) (h:=j) aa
   have VI:=ay (yW _ (lvl L j) wr a (Rv.o j));have hlb:=Rv.o j;have T:=ay (qu Q);have n2:=u.o.st.cell2;have hwb:=u.o.wt;have Um:Hid (¬(lvl L j).length<=room K (ao L) j->¬i_ K L led):=ay λz U=>by
    have:=(U.iC j Q).1;rw[bM] at this;exact z this
   have X':Hid (¬mQ (lvl L j)->¬i_ K L led):=ay λz U=>z (U.iC j Q).2
   have QN:Hid (281474976710656<mR 1 (L.take j)+ao (lvl L j) * 2 ^ j->¬i_ K L led):=ay λz U=>by
    have r:=U.hwt;have y:=X9.o (j+1);rw[T.o] at y;omega
   have Un:=ay (RR (n:=mR 1 (L.take j)) (j:=j) hwb);have I:=ay (P7 (x:=ao (lvl L j)) (n:=mR 1 (L.take j)) (j:=j));obtain⟨l,d⟩:=au (room K (ao L) j);obtain⟨y,b⟩:=au (ao (lvl L j));obtain⟨n,q⟩:=au (mR 1 (L.take j));rw[d] at o hrb Um;rw[b] at c2 VI T Um QN I hlb VH;rw[q] at hwb n2 T QN Un I;obtain⟨S,r⟩:=au ((281474976710656 - n) / 2 ^ j);rw[r] at Un I;have Ya:S<=281474976710656:=by rw[<-r];exact bf (dz _ _) aa
   have Sx:=ay d;have QM:=ay b;have Sq:=ay q;have hsh:=Un.o;clear d b q r C a
   by_cases hgt:y > l
   ·have t:=ay (Um.o aa)
    have Uo:(y:Int) > (l:Int):=aa
    go_wp2_with fail;refine(o.o).mono ?_
    rintro e r ⟨rfl,q⟩;subst q
    go_wp2;refine an ?_
    exact⟨.inr ⟨rfl,t.o⟩,u.o.below⟩
   ·have Uo:¬(y:Int) > (l:Int):=aa
    go_wp2_with fail;refine(o.o).mono ?_
    rintro e r ⟨rfl,q⟩;subst q
    go_wp2_with fail;refine(VI.o).mono ?_
    rintro e r ⟨rfl,q5,q⟩;have d:aq wr r:=by rw[q];exact below_drewN (aC _ _) _
    have VJ:=ay d;have M:Hid (aq w r):=ay (u.o.below.trans (d.mono u.o.below.size));have m2:=(u.o.st.keep d).cell2;rw[Sq.o] at m2;clear q d n2 c2
    by_cases Up:¬mQ (lvl L j)
    ·have t:=ay (X'.o Up)
     rw[cj Up]
     go_wp2;refine an ?_
     exact⟨.inr ⟨rfl,t.o⟩,M.o⟩
    ·have Mp:Hid (mQ (lvl L j)):=ay (Classical.not_not.1 Up)
     rw[cz Mp.o]
     by_cases hov:S<y
     ·have t:=ay (QN.o (by
       rcases bg 281474976710656 (n+y * 2 ^ j) with z|z
       ·exact z
       ·exact absurd hov (I.o.2 aa)))
      have Uq:(y:Int) > (S:Int):=aa
      go_wp2;refine an ?_
      exact⟨.inr ⟨rfl,t.o⟩,M.o⟩
     ·have hfit:=I.o.1 hov
      have Uq:¬(y:Int) > (S:Int):=aa
      have q:=u.o.st.keep VJ.o;have d:j<ao (nf L j):=by rw[oF aa];exact Q
      obtain⟨s,cc,Zr,sc0,Mq,R,Ds,qW,Y,b,a,_,_⟩:=q.at_ d;have C:ao (nf L j)=ao L:=oF aa
      rw[C] at Mq;subst Mq;have Ur:=ay q;have K1:=ay q.cell1;have C3:=ay b;have F3:=ay a;have Yb:=ay d;have hg5:=q.blk.lt;have Yc:=ay (VH.o.keep VJ.o);clear q d C b a Y
      go_upto_region 11 with fail;clear m2;have Z:=ay (λ(f:World) (i:f.heap[g]?=r.heap[g]?)=>((bA (a:=⟨g,1,none⟩) i).trans K1.o))
      refine i' (λf=>f.heap[g]?=r.heap[g]?) (gW 0 6 (ib 6 (gW 7 1 (ib 8 [])))) (rfl) ?_
      iterate 6 refine hC ?_
      refine iy λK d=>?_
      go_simp;refine(sx _ (lvl L j) _ (Yc.o.keep (aC _ _).drew) (by rw[QM.o];omega)).mono ?_
      rintro e O ⟨⟨Y,n7,V⟩,rfl,q,b⟩;obtain⟨_,_,es,_,_,_⟩:=q.form;injection es with _ es2 _;rw[QM.o] at es2;have es3:=es2.symm;subst es3;have X:Hid (aq r O):=ay (((aC r.heap.size r).drew).trans b);have O7:=ay q;clear q b;simp only[iW];refine d _ _ (X.o.block g hg5) ?_
      clear d K;refine hC ?_
      refine iy λK d=>?_
      have q:=(bA (a:=⟨s,j,none⟩) (X.o.block s R)).trans C3.o;have f9:=(df (a:=⟨s,j,none⟩) (X.o.block s R)).trans F3.o
      go_simp;refine d _ _ ((bl O ⟨s,j,none⟩ _ g Ds.symm).trans (X.o.block g hg5)) ?_
      clear d K;refine gM ?_
      clear q f9;have iC:=l6.level (s':=(Y,y,V)) (l':=lvl L j) (j:=j) (w1:=O) Ur.o Yb.o rfl (O7.o.more (bB _)) (λb z _=>X.o.block b z) X.o.size (.inr λb e=>(O7.o.lt b e).1)
      rw[Ii Q] at iC;have RW:∀b,(iW (Y,y,V)).ownBlock=some b->r.heap.size<=b:=λb e=>(O7.o.lt b e).1
      have hb8:aq w (O.setCell ⟨s,j,none⟩ (iW (Y,y,V))):=eH (M.o.trans (X.o.mono M.o.size)) (u.o.new s qW) _;have H:=ay iC;have QP:=ay hb8;have Us:=ay RW;obtain⟨q,m⟩:=au (O.setCell ⟨s,j,none⟩ (iW (Y,y,V)));rw[m] at H QP;show Exit.then _ _ Exit.normal _ (O.setCell ⟨s,j,none⟩ (iW (Y,y,V)))
      rw[m];clear iC RW hb8 m;have k2:=H.o.cell2;have f2:=H.o.blk.frozen 2;rw[Sq.o] at k2;have QL:=ay (PZ (c:=y) (h:=j) aa)
      obtain⟨m,hm⟩:=au (y * 2 ^ j);rw[hm] at QL T hfit;clear hm
      go_upto_region 12 with fail;have Z:=ay (λ(f:World) (i:aq q f)=>(aF (QL.o) ((i.cell (p:=⟨g,2,none⟩) H.o.blk.lt).trans k2)))
      refine yC (λf=>aq q f) 12 (yA 0 10 (QB 10 1 (yA 11 1 (CI 12 [])))) ((aC _ _).drew) ?_
      iterate 10 refine oQ ?_
      refine JG ?_
      refine oQ ?_
      refine yB λK d=>?_
      have k9:(q.drew).cell? ⟨g,2,none⟩=_:=k2;have f9:(q.drew).frozen? ⟨g,2,none⟩=false:=f2
      go_simp;refine d _ _ ?_
      clear d K;refine jk ?_
      have HVV:IntKind.u64.wrap ((n:Int)+IntKind.u64.wrap (IntKind.u64.wrap (y:Int) * 2 ^ j))=((n+m:Nat):Int):=by
       have i:IntKind.u64.wrap (y:Int)=(y:Int):=by rw[dt];omega
       rw[i,QL.o,dt];omega
      rw[HVV];have i:oy _ ((q.setCell ⟨g,2,none⟩ (.int .u64 (n+m:Nat))).drew) g K (n+m) led _ _ (nf L (j+1)):=(H.o.Dj _).keep (aC _ _).drew;have Ut:aq w ((q.setCell ⟨g,2,none⟩ (.int .u64 (n+m:Nat))).drew):=(eH QP.o (by show w.heap.size<=g;rw[J.o];exact aD _) _).drew
      obtain⟨w9,VK⟩:=au ((q.setCell ⟨g,2,none⟩ (.int .u64 (n+m:Nat))).drew);rw[VK] at i Ut |-;rw[<-T.o] at i;have RX:=Sx.o;have hxl:ao (lvl L j)<=room K (ao L) j:=by rw[QM.o,RX];omega
      have RY:∀x,(F x\/(iW (Y,y,V)).ownBlock=some x)->w.heap.size<=x:=λx hx=>hx.elim (λz=>u.o.new x z) (λz=>bf M.o.size (Us.o x z))
      have Uu:Hid (P8 w g K led L (j+1) (λk=>F k\/(iW (Y,y,V)).ownBlock=some k) w9 _ _):=ay ⟨i,RY,Ut,λh W=>by
       rcases bg h j with z|z
       ·exact u.o.good h z
       ·obtain rfl:h=j:=aa
        exact⟨hxl,Mp.o⟩,by rw[T.o];omega⟩
      clear i Ut HVV RX hxl RY;clear VK k2 f2 k9 f9
      go_wp2
      go_roundg (ao L - (j+1))
      exact⟨j+1,_,_,_,rfl,aa,ag,Uu⟩
      have:=HQ.o;omega
  ·obtain rfl:j=ao L:=aa
   have P:=u.o.st;rw[Ih,bN] at P;have y:=u.o.wt;rw[bN] at y;have q:Hid (i_ K L led):=ay ⟨by omega,aa,aa,aa,RU.o,RT.o,λh W=>by rw[bM];exact u.o.good h W,y⟩
   have r:Hid (xJ F wr g K L led):=ay ⟨lv,vs,P⟩;clear P y
   go_wp2;refine an ?_
   exact⟨.inl ⟨g,rfl,q.o,F,by rw[bM];exact r.o,u.o.new⟩,u.o.below⟩
section
variable{bs l r1 r2 r3:List Int}{k led:Nat}{L acc:LL}{n:Int}{T:Option (LL × List Int)}
structure Lh(bs:List Int)(k:Nat)(L:LL)(led:Nat):Prop where
 right:i_ k L led
 bd:∀j,kW (lvl L j)
 eq:wg k L led=bs
def Lh.rd(h:Lh bs k L led):Bk bs=some (⟨k,led,L⟩,[]):=by
 have z:=h.right;have t:∀l∈L,kW l/\mQ l/\ao l<=4096:=λl u=>by
  obtain⟨j,v,rfl⟩:=cE u;have y:=z.iC j v;have x:=h.bd j;rw[jX v] at y x;refine⟨x,y.2,bf y.1 (bf (room_le ?_) ?_)⟩
  ·rw[bM];have:=z.k8;omega
  ·rw[bM];have:=z.k4;omega
 have:=NG (k:=(k:Int)) (L:=L) (led:=led) [] aa z.k4 (by have:=z.yT;omega) z.hlen t
 rw[bT,h.eq] at this;exact this
def Lh.uniq{k':Nat}{L':LL}{led':Nat}(h:Lh bs k L led)(y:Lh bs k' L' led'):k=k'/\L=L'/\led=led':=by
 have z:=h.rd;rw[y.rd] at z;injection z with z;injection z with z _;injection z with z h2 h3;exact⟨by omega,h3.symm,aa⟩
def P9{r4:List Int}{k led:Int}(z:wE 4096 bs=some (k,r1))(y:iH r1=some (led,r2))(x:wE 49 r2=some (n,r3))(v:pE n.toNat [] r3=some (L,r4)):Bk bs=some (⟨k,led,L⟩,r4):=by
 unfold Bk;rw[z];simp only;rw[y];simp only;rw[x];simp only;rw[v]
def NJ(z:wE 4096 bs=none):Bk bs=none:=by unfold Bk;rw[z]
def NK{k:Int}(z:wE 4096 bs=some (k,r1))(y:iH r1=none):Bk bs=none:=by
 unfold Bk;rw[z];simp only;rw[y]
def NL{k led:Int}(z:wE 4096 bs=some (k,r1))(y:iH r1=some (led,r2))(x:wE 49 r2=none):Bk bs=none:=by
 unfold Bk;rw[z];simp only;rw[y];simp only;rw[x]
def NM{k led:Int}(z:wE 4096 bs=some (k,r1))(y:iH r1=some (led,r2))(x:wE 49 r2=some (n,r3))(v:pE n.toNat [] r3=none):Bk bs=none:=by
 unfold Bk;rw[z];simp only;rw[y];simp only;rw[x];simp only;rw[v]
def NN(h:Bk bs=none):∀k L z,¬Lh bs k L z:=λk L z y=>by
 rw[y.rd] at h;cases h
def Ij(h:pE (k+1) acc l=T){x:List Int × List Int}(z:sI l=some x):pE k (acc++[x.1]) x.2=T:=by
 rw[pE,z] at h;exact h
def Ik(h:pE (k+1) acc l=T)(z:sI l=none):T=none:=by
 rw[pE,z] at h;exact h.symm
def Bp:∀(k:Nat) (acc l:List Int) (x:List Int × List Int),mV k acc l=some x->∃j,x.2=l.drop j
 | 0,acc,l,x,h=>by simp only[mV,aW] at h;subst h;exact⟨0,ad⟩
 | k+1,acc,l,x,h=>by
  rw[mV] at h
  cases h1:iH l with
  | none=>rw[h1] at h;cases h
  | some y=>
   rw[h1] at h;simp only at h
   cases h2:ND acc.getLast? y.1 with
   | none=>rw[h2] at h;cases h
   | some v=>rw[h2] at h;exact wP (sd h1).2 (Bp k _ _ x h)
def Bq:∀(k:Nat) (acc l:List Int) (x:List Int × List Int),mV k acc l=some x->ao x.1=ao acc+k
 | 0,acc,l,x,h=>by simp only[mV,aW] at h;subst h;rfl
 | k+1,acc,l,x,h=>by
  rw[mV] at h
  cases h1:iH l with
  | none=>rw[h1] at h;cases h
  | some y=>
   rw[h1] at h;simp only at h
   cases h2:ND acc.getLast? y.1 with
   | none=>rw[h2] at h;cases h
   | some v=>
    rw[h2] at h;have:=Bq k _ _ x h;rw[this,aE,bu];omega
def Li{a:Nat}{r:List Int}(h:sI (bs.drop a)=some (l,r)):bs.drop (ao bs - ao r)=r/\ao l<=4096:=by
 unfold sI at h
 cases h1:wE 4096 (bs.drop a) with
 | none=>rw[h1] at h;cases h
 | some x=>
  rw[h1] at h;simp only at h;obtain⟨z,u⟩:=rO h1;obtain⟨j,y⟩:=wP (sd z).2 (Bp _ _ _ _ h);have v:=Bq _ _ _ _ h;simp only[aV] at v;exact⟨UW (m:=a+j) (by rw[<-dU];exact y),aa⟩
def zq(base:Nat)(w:World)(gl n:Nat)(acc:LL):Prop:=
 ∃vs,gO qV base w (.slice (some ⟨gl,0,none⟩) n n) vs/\ao vs=n/\∀i (h:i<ao vs),i<ao acc->gO ig base w (iW vs[i]) (lvl acc i)/\(iW vs[i]).ownBlock≠some gl
section
variable {base gl n : Nat} {w w' : World} {acc : LL}
def zq.lt(h:zq base w gl n acc):base<=gl/\gl<w.heap.size:=by
 obtain⟨y,z,_⟩:=h;exact z.lt gl rfl
def zq.stay(h:zq base w gl n acc)(u:∀k,base<=k->k<w.heap.size->w'.heap[k]?=w.heap[k]?):zq base w' gl n acc:=by
 obtain⟨s,v,t,z⟩:=h;exact⟨s,v.stay λk e=>u k (v.lt k e).1 (v.lt k e).2,t,λi y x=>⟨(z i y x).1.stay λk e=>u k ((z i y x).1.lt k e).1 ((z i y x).1.lt k e).2,(z i y x).2⟩⟩
def zq.start(w:World)(n:Nat)(y:n<=1000000):zq w.heap.size (w.alloc (.cells (madeCells #[.slice none 0 0] n) 196)) w.heap.size n []:=
 ⟨qY n,Bo w n y,by simp[qY],λi _ z=>absurd z ad⟩
def zq.put(h:zq base w gl n acc)(d:ao acc<n){s:Sv}{l:List Int}(f:gO ig base w (iW s) l)(u:(iW s).ownBlock≠some gl):zq base (w.setCell ⟨gl,ao acc,none⟩ (iW s)) gl n (acc++[l]):=by
 obtain⟨r,q,p,v⟩:=h;have g:ao acc<ao r:=aa
 have t:=q.gR (ao acc) g s;rw[show ao acc * qV.k=ao acc by show ao acc * 1=_;omega] at t
 refine⟨r.set (ao acc) s,t,by rw[bD];exact p,λi z y=>?_⟩
 rw[bD] at z;rw[aE,bu] at y;rw[fU]
 by_cases e:ao acc=i
 ·subst e
  have x:lvl (acc++[l]) (ao acc)=l:=by unfold lvl;simp[List.getD]
  rw[aH rfl,x];exact⟨f.far u _,u⟩
 ·rw[aG e]
  have y:i<ao acc:=aa
  have x:lvl (acc++[l]) i=lvl acc i:=by unfold lvl;simp only[List.getD];rw[cO y]
  rw[x];exact⟨(v i z y).1.far (v i z y).2 _,(v i z y).2⟩
def zq.cell(h:zq base w gl n acc){j:Nat}(t:j<n):∃u,w.cell? ⟨gl,j,none⟩=some (iW u)/\w.frozen? ⟨gl,j,none⟩=false:=by
 obtain⟨y,z,v,_⟩:=h;have x:j<ao y:=aa
 have c:=z.cellAt x 0 ab
 rw[show j * qV.k+0=j by show j * 1+0=j;omega] at c
 exact⟨y[j],c,z.frozenAt j⟩
def zq.Yd(h:zq base w gl n acc){g a:Nat}{bs:List Int}(c:hM w g bs a)(d:gl≠g)(j:Nat)(u:Value):hM (w.setCell ⟨gl,j,none⟩ u) g bs a:=by
 obtain⟨S,f,_,_⟩:=h;obtain⟨v,s,x,r⟩:=c;have y:∀k,k≠gl->(w.setCell ⟨gl,j,none⟩ u).heap[k]?=w.heap[k]?:=λk y=>bl w ⟨gl,j,none⟩ u k y
 refine⟨v,(y g (λe=>d e.symm)).trans s,x.stay λk e=>y k ?_,r⟩
 rintro rfl
 rcases x.2 with q|⟨U,b,X,rfl,_,p,_⟩
 ·rw[q.1] at e;cases e
 ·cases e
  rcases f.2 with q|⟨T,Y,V,z,_,t,_⟩
  ·cases q.1
  ·injection z with z
   injection z with z;injection z with z;subst z;rw[p] at t
   cases t
def zq.PV(h:zq base w gl n acc)(t:ao acc=n):Ht w (.slice (some ⟨gl,0,none⟩) n n) acc:=by
 obtain⟨v,z,u,y⟩:=h;exact⟨v,aa,z.rd,λi x=>(y i x aa).1.rd⟩
end
def Lj(bs:List Int)(w:World)(e:Ending)(w':World):Prop:=
 ((∃(g k:Nat) (L:LL) (led:Nat) (F:Nat->Prop),e=.returned (.pointer (some ⟨g,0,none⟩))/\Lh bs k L led/\xJ F w' g k L led/\∀x,F x->w.heap.size<=x)\/(RP e/\∀k L led,¬Lh bs k L led))/\aq w w'
def Il(v:Value)(bs:List Int)(w:World)(h:jf .u8 w v bs)(hb:oc bs)(hlen:ao bs<=1000000000) :
 ar Oe 351 #[v] w (Lj bs w):=by
 obtain⟨i1,u,x,y,z⟩:=cx QH;have JI:=ay u;have JZ:=ay x;have KA:=ay y;have KD:=ay z;clear u x y z;have N:ao bs<=1000000000000:=aa
 have u:=ay (zS v bs w h N);have Sw:=ay (λW (hb:aq w W)=>Rd.keep h hb)
 have O:=ay hb;obtain⟨Av,cv,rfl,_,_,_⟩:=h.form;clear h hb;have hmk:∀n:Nat,n<=49->∀W:World,(Instr.makeSlice 112 (.int .u64 n) (.int .u64 n)).run prog W=.ok (.slice (some ⟨W.heap.size,0,none⟩) n n) (W.alloc (.cells (madeCells #[.slice none 0 0] n) 196)):=λn hn W=>by
  have:=nj 112 196 i1 _ underlying112 JI.o JZ.o .u64 .u64 n n (aD _) (by rw[KD.o];omega) aa W
  rw[KA.o,c_] at this;exact this
 have VL:=ay hmk;clear hmk;have Mq:∀z w,(callFunc 398 z).run prog w=.ok (.enter 398 z) w:=λ_ _=>rfl
 go_in
 go_wp2_with fail;refine(u.o).mono ?_
 rintro e H ⟨g,rfl,y,x,z⟩;have hz1:=z.size;have hgl:=x.lt;have q:=ay x;have r:=ay z;clear x z u
 go_upto_region 3 with fail;obtain⟨b,z⟩:=au (H.alloc (.cells #[.pointer (some ⟨g,0,none⟩)] 492));have t:aq H b:=by rw[<-z];exact(aC _ _).alloc (aD _) _
 have hz2:b.heap.size=H.heap.size+1:=by rw[<-z];simp
 have x:b.cell? ⟨H.heap.size,0,none⟩=some (.pointer (some ⟨g,0,none⟩)):=by rw[<-z];simp[bU]
 obtain⟨X,u⟩:=au (H.heap.size);rw[u] at x hgl hz2;rw[z,u];have R2:=ay (q.o.keep t);have C2:=ay x;have HB2:=ay (r.o.trans (t.mono hz1));have hne:X≠g:=aa
 have Lc:X<b.heap.size:=aa
 have hwz:w.heap.size<=b.heap.size:=aa
 have NO:Hid (∀(s:_) (w':World),Touch (λk=>k=g) b w'->Bk bs=none->Lj bs w (.panicked [{v:=.iface 444 (.string s),recovered:=false}]) w'):=ay λs w' ht hn=>
  ⟨.inr ⟨⟨s,rfl⟩,NN hn⟩,HB2.o.trans (ht.below (λi hi=>by have hi:i=g:=hi;omega) hwz)⟩
 have RQ:=ay (sJ 4096 X g bs 0 b R2.o x O.o N);rw[bp] at RQ;clear z t x u q r
 go_wp2_with fail;refine(RQ.o).mono ?_
 intro e w3 y;unfold nO at y
 cases hA:wE 4096 bs with
 | none=>
  simp only[hA] at y;have P:=ay (NJ hA);obtain⟨⟨pv,rfl⟩,z⟩:=y;have T3:=ay z;clear hA z
  go_wp2_with fail;exact⟨rfl,NO.o _ _ T3.o P.o⟩
 | some pA=>
  obtain⟨k,r1⟩:=pA;simp only[hA] at y;obtain⟨v1,rfl,rfl,c,z⟩:=y;have T3:=ay z;have HA:=ay hA;obtain⟨t,Uv⟩:=rO hA;have hkb:=lK O.o t;have S1:Hid (bs.drop (ao bs - ao r1)=r1):=ay (my (a:=0) (by rw[bp];exact t))
  have C3:=ay ((z.cell (o:=0) Lc hne).trans C2.o);have QG:=ay (tb X g bs _ w3 c C3.o O.o N);rw[S1.o] at QG;simp only at Uv hkb;clear hA c z t RQ
  go_wp2_with fail;refine(QG.o).mono ?_
  intro e w4 y;unfold nO at y
  cases hA:iH r1 with
  | none=>
   simp only[hA] at y;have P:=ay (NK HA.o hA);obtain⟨⟨pv,rfl⟩,z⟩:=y;have T4:=ay (tt T3.o z);clear hA z
   go_wp2_with fail;exact⟨rfl,NO.o _ _ T4.o P.o⟩
  | some pB=>
   obtain⟨U,r2⟩:=pB;simp only[hA] at y;obtain⟨v2,rfl,rfl,c,z⟩:=y;have T4:=ay (tt T3.o z);have HA2:=ay hA;have hlb:0<=U/\U<18446744073709551616:=by
    have hby:oc r1:=by rw[<-S1.o];exact O.o.drop _
    exact lK hby hA
   have S2:Hid (bs.drop (ao bs - ao r2)=r2):=ay (my (by rw[S1.o];exact hA))
   have C4:=ay ((T4.o.cell (o:=0) Lc hne).trans C2.o);have Uw:=ay (sJ 49 X g bs _ w4 c C4.o O.o N);rw[S2.o] at Uw;clear hA c z QG
   go_wp2_with fail;refine(Uw.o).mono ?_
   intro e M y;unfold nO at y
   cases hA:wE 49 r2 with
   | none=>
    simp only[hA] at y;have P:=ay (NL HA.o HA2.o hA);obtain⟨⟨pv,rfl⟩,z⟩:=y;have T5:=ay (tt T4.o z);clear hA z
    go_wp2_with fail;exact⟨rfl,NO.o _ _ T5.o P.o⟩
   | some pC=>
    obtain⟨n0,m⟩:=pC;simp only[hA] at y;obtain⟨v3,rfl,rfl,c,z⟩:=y;have T5:=ay (tt T4.o z);have q:=ay c;have VM:=ay hA;obtain⟨t,hnm⟩:=rO hA;have hnb:0<=n0/\n0<18446744073709551616:=by
     have hby:oc r2:=by rw[<-S2.o];exact O.o.drop _
     exact lK hby t
    obtain⟨n,rfl⟩:∃n:Nat,n0=n:=⟨n0.toNat,aa⟩
    simp only at hnm;have S3:Hid (bs.drop (ao bs - ao m)=m):=ay (my (by rw[S2.o];exact t))
    have zN:=T5.o.size;have hmk:=VL.o n aa
    clear hA c z Uw t
    go_wp2_with fail;have Ux:=ay (zq.start M n aa)
    have u:aq M (M.alloc (.cells (madeCells #[.slice none 0 0] n) 196)):=(aC _ _).alloc (aD _) _;have T6:=ay (T5.o.alloc (.cells (madeCells #[.slice none 0 0] n) 196));have R6:=ay (q.o.keep u);obtain⟨T,x⟩:=au (pE n [] m);have HT:=ay x;have R0:Hid (pE n [] (bs.drop (ao bs - ao m))=T):=ay (by rw[S3.o];exact x)
    have RZ:=u.size;obtain⟨w6,r⟩:=au (M.alloc (.cells (madeCells #[.slice none 0 0] n) 196));rw[r] at Ux T6 R6 RZ |-;obtain⟨gl,uS⟩:=au (M.heap.size);rw[uS] at Ux RZ |-;have Ds:gl≠g:=aa
    have Uy:b.heap.size<=gl:=aa
    clear r u x hmk q VL;generalize ao bs - ao m=a3 at *
    go_loopg [8,26] n (λq _ i wr=>∃(j d:Nat) (acc:LL),q=n - j/\j<=n/\i=.int .i64 j/\ao acc=j/\Hid (∀l∈acc,kW l/\ao l<=4096)/\Hid (zq gl wr gl n acc)/\Hid (hM wr g bs d)/\Hid (pE (n - j) acc (bs.drop d)=T)/\Hid (Touch (λk=>k=g) b wr))
    exact⟨0,a3,[],rfl,aa,rfl,rfl,ay (λx t=>by simp at t),Ux,R6,R0,T6⟩
    case round=>
     obtain⟨j,d,acc,u,hj,rfl,hacc,HI,E,HR,SC,G⟩:=hrel;have HQ:=ay u;have Qz:=G.o.size;have cb:=(G.o.cell (o:=0) Lc hne).trans C2.o;clear u
     by_cases hlt2:j<n
     ·have V:=SC.o
      rw[show n - j=(n - (j+1))+1 by omega] at V
      have D:=ay V;have hji:(j:Int)<(n:Int):=aa
      have Ye:=ay (DK X g bs d wr HR.o cb hne O.o N);have Ns:=E.o.lt.2;clear V SC cb
      go_wp2_with (go_at_fn 398;refine(Ye.o).mono ?_)
      intro e F y;unfold nO at y
      cases hA:sI (bs.drop d) with
      | none=>
       simp only[hA] at y;have P:Hid (Bk bs=none):=ay (NM HA.o HA2.o VM.o (by rw[bM,HT.o];exact Ik D.o hA))
       obtain⟨⟨pv,rfl⟩,z⟩:=y;have u:=ay (tt G.o z);clear hA z
       go_wp2_with fail;exact⟨rfl,NO.o _ _ u.o P.o⟩
      | some p=>
       obtain⟨l,r⟩:=p;simp only[hA] at y;obtain⟨v,rfl,⟨Y,h2b⟩,c,z⟩:=y;obtain⟨R,S,ev,_,_,_⟩:=Y.rd.form;subst ev;obtain⟨I,hll⟩:=Li hA;have PX:Hid (pE (n - (j+1)) (acc++[l]) (bs.drop (ao bs - ao r))=T):=ay (by rw[I];exact Ij D.o hA)
       have A:Hid (∀x∈acc++[l],kW x/\ao x<=4096):=ay λx t=>by
        rcases cV.1 t with t|t
        ·exact HI.o x t
        ·simp only[ct] at t;subst t;exact⟨h2b,hll⟩
       have Q:=ay (E.o.stay λk f Y=>z.block k Y (λe=>by have e:k=g:=e;omega))
       have K:gO ig gl F (iW (R,ao l,S)) l:=(NH.1 Y).more aa
       have L:(iW (R,ao l,S)).ownBlock≠some gl:=λe=>by have:=(gT.lt Y gl e).1;omega
       obtain⟨u,B,fu⟩:=Q.o.cell hlt2;have J:=ay (Q.o.put aa K L)
       have R8:=ay (Q.o.Yd c Ds j (iW (R,ao l,S)));have C:Hid (Touch (λk=>k=g) b (F.setCell ⟨gl,j,none⟩ (iW (R,ao l,S)))):=ay ((tt G.o z).setCell (.inr Uy) _)
       rw[hacc] at J;obtain⟨uA,un,uc⟩:=u;simp only[iW] at B;clear hA Y c z I K L E HR;generalize ao bs - ao r=L at *
       go_wp2
       go_roundg (n - (j+1))
       exact⟨j+1,L,acc++[l],rfl,aa,ag,by simp[hacc],A,J,R8,PX,C⟩
       have:=HQ.o;omega
     ·obtain rfl:j=n:=aa
      have V:=SC.o;rw[eN,pE] at V;have HK:Hid (Bk bs=some (⟨k,U,acc⟩,bs.drop d)):=ay (P9 HA.o HA2.o VM.o (by rw[bM,HT.o];exact V.symm))
      obtain⟨K,rfl⟩:∃K:Nat,k=K:=⟨k.toNat,aa⟩
      obtain⟨u,rfl⟩:∃u:Nat,U=u:=⟨U.toNat,aa⟩
      have r:∀i,kW (lvl acc i)/\ao (lvl acc i)<=4096:=λi=>by
       rcases bg i (ao acc) with f|f
       ·rw[jX f];exact HI.o _ (aX f)
       ·rw[nL f];exact⟨λx t=>by simp at t,ad⟩
      have R1:=ay r;have J:=E.o.PV hacc;have PU:=ay (Lg (K:Int) _ acc u wr J aa  aa  aa (λi=>by have:=(r i).2;omega))
      have R:=ay (show wrap64 (K:Int)=(K:Int) by unfold wrap64;omega)
      have hwr:w.heap.size<=wr.heap.size:=aa
      have Yf:Hid (aq w wr):=ay (HB2.o.trans (G.o.below (λi hi=>by have hi:i=g:=hi;omega) hwz))
      have CB:=ay cb;have Uz:X<wr.heap.size:=aa
      have UA:Hid ((¬i_ K acc u\/bs.drop d≠[]\/wg K acc u≠bs)->∀k L U,¬Lh bs k L U):=ay λhor k L U hk=>by
       have f:=hk.rd;rw[HK.o] at f;injection f with f;injection f with f Y;injection f with e1 e2 e3;have Q:K=k:=Int.ofNat_inj.1 e1;have S:u=U:=Int.ofNat_inj.1 e2;subst Q;subst S;subst e3
       rcases hor with h|h|h
       ·exact h hk.right
       ·exact h Y
       ·exact h hk.eq
      have ha':d<=ao bs:=by obtain⟨_,_,_,c⟩:=HR.o;exact c
      clear V SC J r E cb;have r:=R.o
      go_wp2_with fail;clear r R;refine(PU.o).mono ?_
      rintro e w8 ⟨hor,Q⟩;have QP:=ay (Yf.o.trans (Q.mono hwr))
      rcases hor with⟨g2,rfl,hrt,F,hka,hF⟩|⟨rfl,hnr⟩
      ·have I:=ay hrt
       have VN:=ay hka;rw[bM] at VN;have Ch:Hid (∀x,F x->w.heap.size<=x):=ay λx t=>bf hwr (hF x t)
       have c8:=(Q.cell (p:=⟨X,0,none⟩) Uz).trans CB.o;have R8:=ay (HR.o.keep Q);have UB:=ay (pP g bs d w8 R8.o N);clear hrt hka hF Q PU
       by_cases hrest:d<ao bs
       ·have R:=ay (UA.o (.inr (.inl (λe=>by have:=bq List.length e;rw[aZ,aV] at this;omega))))
        have r:(ao bs:Int) - (d:Int) > 0:=aa
        go_wp2_with (go_at_call 343;refine(UB.o).mono ?_;rintro e w' ⟨rfl,q,rfl⟩);refine⟨rfl,.inr ⟨⟨_,rfl⟩,R.o⟩,below_drewN QP.o _⟩
       ·have V:bs.drop d=[]:=de aa
        have r:(ao bs:Int) - (d:Int)=0:=aa
        rw[r] at UB;clear V r
        go_wp2_with (go_at_call 343;refine(UB.o).mono ?_;rintro e w' ⟨rfl,q,rfl⟩);have A:=ay (below_drewN QP.o q);have B:=ay (VN.o.keep (below_drewN (aC _ _) q));obtain⟨C,V⟩:=au (w8.drewN q);rw[V] at A B |-;obtain⟨lv,vs,r⟩:=B.o;have Yg:=ay (vz C r I.o.fit.ok (λi=>(R1.o i).1) aa)
        have R7:ao (wg K acc u)<=1000000000000:=by
         have f:=FD K acc u;have Y:cnt acc<=_:=I.o.fit.ok.DD;have c:ao acc<=49:=I.o.hlen;omega
        clear V r c8;refine(Yg.o).mono ?_
        rintro e w10 ⟨v10,rfl,S,V⟩;have J:=ay (A.o.trans (V.mono A.o.size));have UC:=ay (B.o.keep V);have D:=ay (sj v10 _ (wg K acc u) bs w10 (gT.rd S) (Sw.o w10 J.o) R7 N);obtain⟨Yh,c10,ev,_,_,_⟩:=(gT.rd S).form;obtain⟨n10,r⟩:=au (ao (wg K acc u));rw[r] at ev;subst ev;clear S V r R7
        go_wp2_with fail;refine(D.o).mono ?_
        rintro e Zs ⟨rfl,r⟩;have V:=ay (J.o.trans (r.mono J.o.size));have UD:=ay (UC.o.keep r);clear r D
        by_cases r:wg K acc u=bs
        ·have S:=ay r
         rw[cz r];clear r
         go_wp2;refine an ?_
         exact⟨.inl ⟨g2,K,acc,u,F,rfl,⟨I.o,λi=>(R1.o i).1,S.o⟩,UD.o,Ch.o⟩,V.o⟩
        ·have R:=ay (UA.o (.inr (.inr r)))
         rw[cj r];clear r
         go_wp2_with fail;exact⟨rfl,.inr ⟨⟨_,rfl⟩,R.o⟩,V.o⟩
      ·have R:=ay (UA.o (.inl hnr))
       clear hnr Q PU
       go_wp2_with fail;refine⟨rfl,.inr ⟨⟨_,rfl⟩,R.o⟩,QP.o⟩
end
section
variable{h2:Nat}
def catch_panicking(z y:Nat)(b a:Value)(s:ByteArray)(w:World)(r:w.cell? ⟨z,0,none⟩=some b)(q:w.cell? ⟨y,0,none⟩=some a)(X:w.frozen? ⟨z,0,none⟩=false)(V:w.frozen? ⟨y,0,none⟩=false)(f:z≠y) :
 CallsD prog 350 #[.pointer (some ⟨z,0,none⟩),.pointer (some ⟨y,0,none⟩)] (.panicking ({v:=.iface 444 (.string s),recovered:=false}::[])) w λe c w'=>
  e=.returned (.tuple #[])/\c=.panicking ({v:=.iface 444 (.string s),recovered:=true}::[])/\w'.cell? ⟨z,0,none⟩=some (.pointer none)/\w'.cell? ⟨y,0,none⟩=some (.int .i64 9)/\Touch (λk=>k=z\/k=y) w w':=by
 refine callsD_of_wpS func350 rfl λg Y d=>?_
 apply wpS_seq
 apply wpS_region
 rw[ntmps350];simp[wpOpsS,go_sem,recoverD,d,Exit.thenS]
 refine wpS_of_wp ?_
 have e:(#[Value.pointer (some ⟨z,0,none⟩),Value.pointer (some ⟨y,0,none⟩)]++((Array.replicate 14 undef).setIfInBounds 3 (Value.iface 444 (Value.string s))).setIfInBounds 0 (Value.iface 444 (Value.string s)):Array Value)=#[Value.pointer (some ⟨z,0,none⟩),Value.pointer (some ⟨y,0,none⟩),Value.iface 444 (Value.string s),undef,undef,Value.iface 444 (Value.string s),undef,undef,undef,undef,undef,undef,undef,undef,undef,undef]:=rfl;rw[e];clear e;have U:∀(s:ByteArray) (w:World),(Instr.typeAssert (.iface 444 (.string s)) 20 444 true).run prog w=.ok (.tuple #[.string s,.bool true]) w:=λ_ _=>by kernel_rfl
 go_wp2
 cases g
 have x:(⟨z,0,none⟩:Addr)≠⟨y,0,none⟩:=λh=>f (by injection h)
 have u:((w.setCell ⟨z,0,none⟩ (.pointer none)).setCell ⟨y,0,none⟩ (.int .i64 9)).cell? ⟨z,0,none⟩=some (.pointer none):=
  (bX _ _ _ _ x.symm).trans (dX _ _ _ r)
 have t:((w.setCell ⟨z,0,none⟩ (.pointer none)).setCell ⟨y,0,none⟩ (.int .i64 9)).cell? ⟨y,0,none⟩=some (.int .i64 9):=
  dX _ _ _ ((bX _ _ _ _ x).trans q)
 refine⟨rfl,_,rfl,.tuple #[],by simp[results,Tryz.results350,go_sem],rfl,rfl,u,t,?_⟩
 exact((Touch.refl (λk=>k=z\/k=y) w).setCell (p:=⟨z,0,none⟩) (.inl (.inl rfl)) _).setCell (p:=⟨y,0,none⟩) (.inl (.inr rfl)) _
def catch_idle(y x:Nat)(w:World) :
 CallsD prog 350 #[.pointer (some ⟨y,0,none⟩),.pointer (some ⟨x,0,none⟩)] .returning w λe u w'=>e=.returned (.tuple #[])/\u=.returning/\w'=w:=by
 refine callsD_of_wpS func350 rfl λz v v=>?_
 apply wpS_seq
 apply wpS_region
 simp[wpOpsS,go_sem,recoverD,v,ntmps350,Exit.thenS]
 refine wpS_of_wp ?_
 go_wp2
 cases z
 simp_all[bodyPostS,results,Tryz.results350]
def Im(z y:Nat)(s:ByteArray)(x w:World)(R:Ending->World->Prop)(u:Array Value)(Q:u[2]?=some (.pointer (some ⟨z,0,none⟩)))(P:u[3]?=some (.pointer (some ⟨y,0,none⟩)))
 (q p:Value) (g:w.cell? ⟨z,0,none⟩=some q) (d:w.cell? ⟨y,0,none⟩=some p) (c:w.frozen? ⟨z,0,none⟩=false) (b:w.frozen? ⟨y,0,none⟩=false) (V:z≠y) (O:x.heap.size<=z) (N:x.heap.size<=y) (t:aq x w)
 (a:∀w',aq x w'->R (.returned (.tuple #[.pointer none,.int .i64 9])) w') :
 Leaves prog Tryz.f273 u R [{target:=.fn (.func 350) #[.pointer (some ⟨z,0,none⟩),.pointer (some ⟨y,0,none⟩)],args:=#[]}] (.panicking [{v:=.iface 444 (.string s),recovered:=false}]) w:=by
 refine leaves_cons (f:=350) (args:=#[.pointer (some ⟨z,0,none⟩),.pointer (some ⟨y,0,none⟩)]) ad (by simp[go_sem]) ?_
 refine(catch_panicking z y q p s w g d c b V).mono ?_
 rintro e M r ⟨rfl,rfl,U,T,S⟩;have Y:aq x r:=t.trans (S.below (λi X=>by rcases X with rfl|rfl<;>assumption) t.size)
 refine⟨.tuple #[.pointer none,.int .i64 9],?_,a r Y⟩
 simp[results,Tryz.results273,go_sem,Q,P,U,T]
def Io(z y:Nat)(w:World)(R:Ending->World->Prop)(x:Array Value)(q:x[2]?=some (.pointer (some ⟨z,0,none⟩)))(p:x[3]?=some (.pointer (some ⟨y,0,none⟩)))
 (v u:Value) (t:w.cell? ⟨z,0,none⟩=some v) (s:w.cell? ⟨y,0,none⟩=some u) (r:R (.returned (.tuple #[v,u])) w) :
 Leaves prog Tryz.f273 x R [{target:=.fn (.func 350) #[.pointer (some ⟨z,0,none⟩),.pointer (some ⟨y,0,none⟩)],args:=#[]}] .returning w:=by
 refine leaves_cons (f:=350) (args:=#[.pointer (some ⟨z,0,none⟩),.pointer (some ⟨y,0,none⟩)]) ad (by simp[go_sem]) ?_
 refine(catch_idle z y w).mono ?_
 rintro e g d ⟨rfl,rfl,rfl⟩;refine⟨.tuple #[v,u],?_,r⟩
 simp[results,Tryz.results273,go_sem,q,p,t,s]
def NP(X:World)(a b:Value){x y:Value}(v:X.cell? ⟨h2,0,none⟩=some x)(u:X.cell? ⟨h2+1,0,none⟩=some y) :
 ((X.setCell ⟨h2,0,none⟩ a).setCell ⟨h2+1,0,none⟩ b).cell? ⟨h2,0,none⟩=some a/\((X.setCell ⟨h2,0,none⟩ a).setCell ⟨h2+1,0,none⟩ b).cell? ⟨h2+1,0,none⟩=some b:=by
 have z:(⟨h2,0,none⟩:Addr)≠⟨h2+1,0,none⟩:=λh=>by injection h with h;omega
 exact⟨(bX _ _ _ _ z.symm).trans (dX _ _ _ v),dX _ _ _ ((bX _ _ _ _ z).trans u)⟩
def Ip{w X:World}(z:aq w X)(h:w.heap.size<=h2)(a b:Value):aq w ((X.setCell ⟨h2,0,none⟩ a).setCell ⟨h2+1,0,none⟩ b):=
 (z.setCell (p:=⟨h2,0,none⟩) h a).setCell (p:=⟨h2+1,0,none⟩) (by show _<=h2+1;omega) b
def Lk(bs:List Int)(w:World)(e:Ending)(w':World):Prop:=
 ((∃(g k:Nat) (L:LL) (led:Nat) (F:Nat->Prop),e=.returned (.tuple #[.pointer (some ⟨g,0,none⟩),.int .i64 0])/\Lh bs k L led/\xJ F w' g k L led/\∀x,F x->w.heap.size<=x)\/(e=.returned (.tuple #[.pointer none,.int .i64 9])/\∀k L led,¬Lh bs k L led))/\aq w w'
def Iq(v:Value)(bs:List Int)(w:World)(h:jf .u8 w v bs)(z:oc bs)(B:ao bs<=1000000000) :
 ar Oe 273 #[v] w (Lk bs w):=by
 have G:=ay h;have I:=ay z;clear h z
 go_enter_defers func273,ntmps273
 go_wp2_with fail;obtain⟨y,x⟩:∃y,y=(w.alloc (.cells #[.pointer none] 122)).alloc (.cells #[.int .i64 0] 43):=⟨_,rfl⟩;have a:aq w y:=by rw[x];exact((aC _ _).alloc (aD _) _).alloc ad _
 have Y:Hid (gN y w.heap.size 122 #[.pointer none]):=by show gN _ _ _ _;rw[x];exact(gN.new _ _ _).alloc _
 have b:Hid (gN y (w.heap.size+1) 43 #[.int .i64 0]):=by
  show gN _ _ _ _;rw[x];have h:=gN.new (w.alloc (.cells #[.pointer none] 122)) 43 #[.int .i64 0]
  rwa [aI] at h
 obtain⟨z,u⟩:=au (w.heap.size);rw[<-x];rw[u] at Y b |-;have m:=b.o.lt;have S:w.heap.size<=z:=aa
 have E:=ay (Il v bs y (Rd.keep G.o a) I.o B);have N:=a.size;clear x u;refine(E.o).mono ?_
 rintro e u ⟨A,t⟩;have f:=ay (Y.o.keep t);have d:=ay (b.o.keep t);have X:=ay (a.trans (t.mono N))
 rcases A with⟨g,k,L,j,F,rfl,Q,P,R⟩|⟨⟨s,rfl⟩,O⟩
 ·have H:=ay Q
  have U:=ay P;have V:=ay R;have r:=f.o.k0;have q:=d.o.k0;have K:=f.o.frozen 0;have J:=d.o.frozen 0;clear Q P R t
  go_wp2_with fail;have M:=NP u (.pointer (some ⟨g,0,none⟩)) (.int .i64 0) r q;refine(show Leaves prog Tryz.f273 _ (Lk bs w) _ .returning _ from ?_)
  refine Io z (z+1) _ _ _ rfl rfl _ _ M.1 M.2 ?_
  have T:Touch (λk=>k=z\/k=z+1) u ((u.setCell ⟨z,0,none⟩ (.pointer (some ⟨g,0,none⟩))).setCell ⟨z+1,0,none⟩ (.int .i64 0)):=((Touch.refl _ u).setCell (p:=⟨z,0,none⟩) (.inl (.inl rfl)) _).setCell (p:=⟨z+1,0,none⟩) (.inl (.inr rfl)) _
  refine⟨.inl ⟨g,k,L,j,F,rfl,H.o,U.o.stay (λx c=>?_) T.size,λx c=>bf N (V.o x c)⟩,Ip X.o S _ _⟩
  have l:=V.o x c;have D:x<u.heap.size:=by
   obtain⟨o,n,C⟩:=U.o;exact C.low x c
  exact T.block x D (λe=>by rcases e with e|e<;>omega)
 ·have x:=ay O
  have r:=f.o.k0;have q:=d.o.k0;have K:=f.o.frozen 0;have J:=d.o.frozen 0;clear O t
  go_wp2_with fail;refine(show Leaves prog Tryz.f273 _ (Lk bs w) _ (.panicking _) _ from ?_)
  exact Im z (z+1) s w u _ _ rfl rfl _ _ r q K J aa S aa X.o (λw' p=>⟨.inr ⟨rfl,x.o⟩,p⟩)
end
section
def xR{F:Nat->Prop}{g k n led:Nat}{lv:Value}{vs:List Sv}{L:LL}(q:Value)(w:World)(v:oy F w g k n led lv vs L)(u:2<=k)(s:k<=1000000)(t:ao L<=1000)(r:cnt L<=1000000000)(x:iY k L=none) :
 ar Oe 178 #[.pointer (some ⟨g,0,none⟩),q] w λe w'=>e=.returned (.tuple #[])/\w=w':=by
 have z:=ay (vi w v u s t r);have y:oL k L=-1:=by unfold oL;rw[x]
 rw[y] at z;clear v x y
 go_in
 go_wp2_with fail;refine(z.o).mono ?_
 rintro e x ⟨rfl,rfl⟩
 go_wp2
 go_loopg [4] 0 (λ_ y wr=>y=.int .i64 (-1)/\w=wr)
 exact⟨rfl,rfl⟩
 case round=>
  obtain⟨rfl,rfl⟩:=hrel
  go_wp2_with fail
  go_end0
  exact⟨rfl,rfl⟩
end
section
variable{k led:Nat}{L:LL}
def i_.P_(h:i_ k L led)(j:Nat):ao (lvl L j)<=4096:=by
 rcases bg j (ao L) with z|z
 ·refine bf (h.iC j z).1 (bf (room_le ?_) ?_)
  ·rw[bM];have:=h.k8;omega
  ·rw[bM];have:=h.k4;omega
 ·rw[nL z];simp
def i_.Yi(h:i_ k L led)(u:∀j,kW (lvl L j)):oc (wg k L led):=
 P6 aa (by have:=h.k4;omega) (by have:=h.yT;omega) (by have:=h.hlen;omega) λl t=>by
  obtain⟨j,x,rfl⟩:=cE t;have z:=h.iC j x;have y:=u j;have v:=h.P_ j;rw[jX x] at z y v;exact⟨y,z.2,aa⟩
def i_.len_(h:i_ k L led):ao (wg k L led)<=1000000000:=by
 have z:=FD k L led;have y:cnt L<=_:=h.fit.ok.DD;have x:=h.hlen;omega
def Ir(v:Value)(w:World)(h:jf .u8 w v (wg k L led))(z:i_ k L led)(y:∀j,kW (lvl L j)) :
 ar Oe 273 #[v] w λe w'=>∃(g:Nat) (F:Nat->Prop),e=.returned (.tuple #[.pointer (some ⟨g,0,none⟩),.int .i64 0])/\xJ F w' g k L led/\(∀x,F x->w.heap.size<=x)/\aq w w':=by
 refine(Iq v _ w h (z.Yi y) z.len_).mono ?_
 rintro e w' ⟨q,u⟩
 rcases q with⟨g,f,p,d,F,rfl,t,s,x⟩|⟨rfl,r⟩
 ·obtain⟨rfl,rfl,rfl⟩:=t.uniq ⟨z,y,rfl⟩
  exact⟨g,F,rfl,s,x,u⟩
 ·exact absurd ⟨z,y,rfl⟩ (r k L led)
end
end K
end Go.Proofs.YtdicblkhpcphfaaGreat
