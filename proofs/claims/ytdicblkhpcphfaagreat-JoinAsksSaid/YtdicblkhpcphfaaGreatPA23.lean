/- Parts. No condition. -/
import Derived.Test.YtdicblkhpcphfaaGreatPA22
set_option maxRecDepth 100000
set_option maxHeartbeats 0
set_option linter.all false
namespace Go.Proofs.YtdicblkhpcphfaaGreat
open Tryz Go.RowKit
open _root_.List renaming length→ao
open _root_.Go renaming Calls→ar
open Tryz renaming prog→Oe
namespace K
variable{L:LL}{j:Nat}
def qu(h:j<ao L):mR 1 (L.take (j+1))=mR 1 (L.take j)+ao (lvl L j) * 2 ^ j:=by
 rw[aM h,mT,aU,dk aa,jX h]
 simp[mR]
def py(L:LL)(j:Nat):mR 1 (L.take j)<=wt L:=by
 unfold wt
 conv=>rhs;rw[<-bK j L,mT]
 omega
def OD(h:j<=49):2 ^ j<=562949953421312:=bf (bJ ab h) ab
def hY{F:Nat->Prop}{g k led:Nat}{lv:Value}{vs:List Sv}(w:World)(y:tn F w g k led lv vs L)(Q:wt L<=281474976710656)(H:ao L<=49) :
 ar Oe 62 #[.pointer (some ⟨g,0,none⟩)] w λe P=>e=.returned (.int .u64 (wt L:Nat))/\w=P:=by
 obtain⟨A,c,z,G,E,_⟩:=y.form;have N:=y.cell1;have u:=ay y;have U:=ay (λj=>bf (py L j) Q)
 have Y:=ay (show mR 1 (L.take (ao L))=wt L by rw[bN];rfl)
 clear y;subst z
 go_in
 go_wp2
 go_loopg [3,4,5] (ao L) (λq n p i wr=>(∃j:Nat,q=ao L - j/\j<=ao L/\n=.int .u64 ((mR 1 (L.take j):Nat):Int)/\p=.int .u64 ((2 ^ j:Nat):Int)/\i=.int .i64 (j:Int))/\w=wr)
 exact⟨⟨0,aa,aa,rfl,rfl,rfl⟩,rfl⟩
 case round=>
  obtain⟨⟨j,y,C,rfl,rfl,rfl⟩,rfl⟩:=hrel;have X:=ay y;clear y;have R:=OD (j:=j) (by omega)
  have a:Hid (2 ^ (j+1)=2 * 2 ^ j):=ay (by rw[b_];omega)
  by_cases s:j<ao L
  ·obtain⟨K,M,o,n,z,D,_,_,_,T,_,_,_⟩:=u.o.at_ s
   injection z with z e2 e3;subst z;subst e3;have t:Hid (mR 1 (L.take (j+1))=mR 1 (L.take j)+ao (lvl L j) * 2 ^ j):=ay (qu s);have S:=U.o (j+1);obtain⟨b,v⟩:=au (mR 1 (L.take (j+1)));obtain⟨d,q⟩:=au (mR 1 (L.take j));obtain⟨x,f⟩:=au (ao (lvl L j));obtain⟨p,y⟩:=au (2 ^ j);rw[f] at T;rw[v] at S;rw[v,q,f,y] at t;rw[y] at R a;rw[q,y];have V:=ay v;obtain⟨m,r⟩:=au (x * p);rw[r] at t;have l:(x:Int) * (p:Int)=(m:Int):=by rw[<-r];simp
   have B:m+d=b:=by have:=t.o;omega
   have O:x<=18446744073709551615:=by
    obtain⟨_,_,e,J,I,_⟩:=((u.o.iC.each j (by rw[u.o.iC.len];exact s))).form
    omega
   clear f y q v r
   go_wp2
   go_roundg (ao L - (j+1))
   exact⟨⟨j+1,rfl,aa,by rw[V.o];go_num,by rw[a.o];go_num,ag⟩,rfl⟩
   have:=X.o;omega
  ·obtain rfl:j=ao L:=aa
   rw[Y.o]
   go_wp2;refine an ?_
   exact⟨rfl,rfl⟩
section
variable {F : Nat -> Prop} {g k n led : Nat} {lv : Value} {vs : List Sv} {L : LL}
def size_any(w:World)(z:oy F w g k n led lv vs L) :
 ar Oe 123 #[.pointer (some ⟨g,0,none⟩)] w λe y=>e=.returned (.int .i64 (k:Nat))/\w=y:=by
 have x:=z.cell0;clear z
 go_in
 go_wp2;refine an ?_
 exact⟨rfl,rfl⟩
def total_any(w:World)(z:oy F w g k n led lv vs L) :
 ar Oe 58 #[.pointer (some ⟨g,0,none⟩)] w λe y=>e=.returned (.int .u64 (n:Nat))/\w=y:=by
 have x:=z.cell2;clear z
 go_in
 go_wp2;refine an ?_
 exact⟨rfl,rfl⟩
def DA(w:World)(z:oy F w g k n led lv vs L) :
 ar Oe 206 #[.pointer (some ⟨g,0,none⟩)] w λe y=>e=.returned (.int .u64 (led:Nat))/\w=y:=by
 have x:=z.u';clear z
 go_in
 go_wp2;refine an ?_
 exact⟨rfl,rfl⟩
def wC{L:LL}{j:Nat}(h:j<ao L):cnt (L.take (j+1))=cnt (L.take j)+ao (lvl L j):=by
 rw[aM h,mS,jX h];simp[cnt]
def pz(L:LL)(j:Nat):cnt (L.take j)<=cnt L:=by
 conv=>rhs;rw[<-bK j L,mS]
 omega
end
variable{F F1 G:Nat->Prop}{w w' wr:World}{a b base c cg g h i iD j k led m n:Nat}{DC cv lv v:Value}{B:List Int}{s:Sv}{vs vs2:List Sv}{L M:LL}{A:Option Addr}
def s9.next(h:s9 F w cg cv)(y:∀k,F1 k->F k\/w.heap.size<=k)(u:w.heap.size<=wr.heap.size):s9 F1 wr cg cv:=by
 have v:=h.lg;refine⟨λe=>?_,λk e=>⟨λx=>?_,?_⟩,aa⟩
 ·rcases y cg e with e|e
  ·exact h.fg e
  ·omega
 ·have:=h.fv k e
  rcases y k x with z|z
  ·exact this.1 z
  ·omega
 ·have:=(h.fv k e).2;omega
def RC.touch(h:RC w cg cv B a)(z:s9 F w cg cv)(y:Touch F w w'):RC w' cg cv B a:=
 h.stay (y.block cg z.lg z.fg) (λk e=>y.block k (z.fv k e).2 (z.fv k e).1) y.size
def sD.back{s0 s:KS}{F':Nat->Prop}(h:sD F1 wr g k cg cv B s0 F' w' lv vs s)
 (y:∀k,F1 k->F k\/w.heap.size<=k) (x:Touch F w wr):sD F w g k cg cv B s0 F' w' lv vs s:=by
 have u:=x.size;refine⟨h.st,h.co,h.ok,h.eq,λv e=>?_,?_⟩
 ·rcases h.sub v e with e|e
  ·exact y v e
  ·exact .inr aa
 ·refine(x.mono (G:=λk=>F k\/k=cg) λ_ z=>.inl z).trans h.touch λi z=>?_
  rcases z with z|z
  ·rcases y i z with e|e
   ·exact .inl (.inl e)
   ·exact .inr e
  ·exact .inl (.inr z)
structure OE(F:Nat->Prop)(w:World)(g k led:Nat)(v:Int)(c:Nat)(L:LL)(j:Nat)(F1:Nat->Prop)(wr:World)(lv:Value)(vs:List Sv)(L1:LL):Prop where
 st:tn F1 wr g k led lv vs L1
 eq:iU L v c=mq (64 - j) j (c / 2 ^ j) L1 v
 len:ao L1<=49
 cnt:cnt L1<=cnt L+j
 sub:∀k,F1 k->F k\/w.heap.size<=k
 touch:Touch F w wr
def uy(v:Int)(w:World)(y:tn F w g k led lv vs L)(x:RC w cg cv B a)(u:s9 F w cg cv)(z:jn (L,led,a))
 (hc0:0<c) (E:wt L+c<=281474976710656) (D:cnt L<=900000) (G:2<=k) (C:k<=1000000) :
 ar Oe 94 #[.pointer (some ⟨g,0,none⟩),.int .i64 v,.int .u64 c,.pointer (some ⟨cg,0,none⟩)] w λe w'=>e=.returned (.int .i64 0)/\∃t s r,sD F w g k cg cv B (iU L v c,led,a) t w' s r (iK k B (iU L v c,led,a)):=by
 have M:Hid (OE F w g k led v c L 0 F w lv vs L):=ay ⟨y,by simp[iU],z.len,aD _,λ_ h=>.inl h,Touch.refl _ _⟩
 have R:=ay (hY w y z.wt z.len);have K:=ay x;have V:=ay u;have J:=ay (px z v c aa D)
 obtain⟨n,t⟩:=au (wt L);rw[t] at E R;clear y x u z t
 go_in
 go_wp2_with fail;refine(R.o).mono ?_
 rintro e w1 ⟨rfl,rfl⟩
 go_wp2
 go_loopg [9,10] 64 (λq i m wr=>∃(j:Nat) (p:Nat->Prop) (d:Value) (Y:List Sv) (y:LL),q=64 - j/\j<=49/\i=.int .i64 (j:Int)/\m=.int .u64 ((c / 2 ^ j:Nat):Int)/\Hid (OE F w g k led v c L j p wr d Y y))
 exact⟨0,F,lv,vs,L,rfl,aa,rfl,ad,M⟩
 case round=>
  obtain⟨j,p,d,Y,y,x,hj,rfl,rfl,z⟩:=hrel;have S:=ay x;clear x;obtain⟨m,t⟩:=au (c / 2 ^ j);have hmc:m<=c:=by rw[<-t];exact dz ..
  rw[t];have x:=ay t;have o:=z.o.touch.size
  by_cases Q:m=0
  ·have A:¬(m:Int) > 0:=aa
   have r:y=iU L v c:=by rw[z.o.eq,x.o,Q,sv]
   subst r;have u:=ay (xD (s0:=(iU L v c,led,a)) wr z.o.st (K.o.touch V.o z.o.touch) (V.o.next z.o.sub o) J.o G C);clear t
   go_wp2_with fail;refine(u.o).mono ?_
   rintro e h ⟨rfl,q,b,X,s⟩;have f:=ay s;clear s u
   go_wp2;refine an ?_
   exact⟨rfl,q,b,X,f.o.back z.o.sub z.o.touch⟩
  ·have A:(m:Int) > 0:=aa
   have RA:j<=48:=by
    rcases bg j 49 with u|u
    ·omega
    ·have r:2 ^ 49<=2 ^ j:=bJ ab u
     have U:c / 2 ^ j=0:=eD aa
     have:=x.o;omega
   have T:c / 2 ^ (j+1)=m / 2:=by rw[b_,<-ei,x.o]
   have U:Hid (mq (64 - j) j m y v=mq (64 - (j+1)) (j+1) (m / 2) (if m % 2=1 then kk y j [v] else y) v):=ay (by
    rw[show 64 - j=(64 - (j+1))+1 by omega,mq,aG Q])
   have r:=ay T;clear T t;have RB:j+1<=49:=aa
   by_cases P:m % 2=1
   ·have l:(m:Int) % 2=1:=aa
    have T:=ay (nF j v wr z.o.st aa (by have:=z.o.len;omega) (by have:=hD y j;have:=z.o.cnt;omega))
    go_wp2_with fail;refine(T.o).mono ?_
    rintro e h ⟨rfl,q,b,X,s,W,O,N⟩;have f:=ay s;have I:=ay O;have H:=ay N;clear s W O N T
    go_wp2
    go_roundg (64 - (j+1))
    case measure=>have:=S.o;omega
    case rel=>
     refine⟨j+1,q,b,X,kk y j [v],rfl,aa,ag,by rw[r.o];go_num,ay ⟨I.o,?_,?_,?_,?_,?_⟩⟩
     ·rw[z.o.eq,x.o,r.o,U.o,aH P]
     ·rw[iF];have:=z.o.len;omega
     ·rw[mo];have:=z.o.cnt;simp;omega
     ·intro T O
      rcases f.o T O with u|u
      ·exact z.o.sub T u
      ·exact .inr aa
     ·exact z.o.touch.trans H.o λi T=>z.o.sub i T
   ·have l:¬(m:Int) % 2=1:=aa
    go_wp2
    go_roundg (64 - (j+1))
    case measure=>have:=S.o;omega
    case rel=>
     refine⟨j+1,p,d,Y,y,rfl,aa,ag,by rw[r.o];go_num,ay ⟨z.o.st,?_,z.o.len,?_,z.o.sub,z.o.touch⟩⟩
     ·rw[z.o.eq,x.o,r.o,U.o,aG P]
     ·have:=z.o.cnt;omega
def Hr(g:Nat)(v:Int)(q:Value)(w:World) :
 ar Oe 94 #[.pointer (some ⟨g,0,none⟩),.int .i64 v,.int .u64 0,q] w λe z=>e=.returned (.int .i64 4)/\w=z:=by
 go_in
 go_wp2;refine an ?_
 exact⟨rfl,rfl⟩
def Hs(v:Int)(c:Nat)(q:Value)(w:World)(x:tn F w g k led lv vs L)(u:wt L<=281474976710656)(t:ao L<=49)(s:281474976710656<wt L+c)(TV:c<18446744073709551616) :
 ar Oe 94 #[.pointer (some ⟨g,0,none⟩),.int .i64 v,.int .u64 c,q] w λe r=>e=.returned (.int .i64 6)/\w=r:=by
 have z:=ay (hY w x u t);obtain⟨n,y⟩:=au (wt L);rw[y] at s z u;have p:(c:Int) > 281474976710656 - (n:Int):=aa
 clear x y
 go_in
 go_wp2_with fail;refine(z.o).mono ?_
 rintro e y ⟨rfl,rfl⟩
 go_wp2;refine an ?_
 exact⟨rfl,rfl⟩
def Ht(w:World)(v:Value)(L:LL):Prop:=∃vs:List Sv,ao vs=ao L/\iA qV w v vs/\∀i (h:i<ao vs),iA ig w (iW vs[i]) (lvl L i)
def Ht.keep(h:Ht w v L)(z:aq w w'):Ht w' v L:=by
 obtain⟨s,y,x,u⟩:=h;exact⟨s,y,x.keep z,λi t=>(u i t).keep z⟩
def l6.PV{t:TypeId}{a:Value}{rest:List Value}(h:l6 t a rest F w g lv vs L):Ht w lv L:=
 ⟨vs,h.iC.len,h.iC.row.rd,λi z=>(h.iC.each i z).rd⟩
def Ht.form(h:Ht w v L):∃A c,v=.slice A (ao L) c/\ao L<=c/\c<=9223372036854775807:=by
 obtain⟨s,y,x,t⟩:=h;obtain⟨A,c,e,z,u,_⟩:=x.form;rw[y] at e z;exact⟨A,c,e,z,u⟩
def Ht.at_(h:Ht w (.slice A n c) L)(U:j<ao L) :
 ∃z y x v,A=some ⟨z,y,none⟩/\z<w.heap.size/\w.cell? ⟨z,y+j,none⟩=some (.slice x (ao (lvl L j)) v)/\iA ig w (.slice x (ao (lvl L j)) v) (lvl L j):=by
 obtain⟨a,V,q,p⟩:=h;obtain⟨Y,X,e,_,_,f⟩:=q.form;injection e with e1 e2 e3;subst e1;obtain⟨z,y,g,d,t⟩:=f.sl (j:=j) (by omega)
 have u:=p j aa
 obtain⟨s,b⟩:=au (a[j]' aa )
 rw[b] at u t;obtain⟨x,T,v⟩:=s;obtain⟨_,_,r,_,_,_⟩:=u.form;injection r with es1 es2 es3;subst es2;exact⟨z,y,x,v,g,d,t,u⟩
def jT(w:World)(a b:Nat):(w.drewN a).drewN b=w.drewN (a+b):=by unfold World.drewN;simp[cX]
structure v_(base:Nat)(w:World)(v:Value)(vs:List Sv)(L:LL):Prop where
 row:gO qV base w v vs
 len:ao vs=ao L
 each:∀i (h:i<ao vs),gO ig base w (iW vs[i]) (lvl L i)
def v_.PV(h:v_ base w v vs L):Ht w v L:=⟨vs,h.len,h.row.rd,λi z=>(h.each i z).rd⟩
def v_.stay(h:v_ base w v vs L)(y:∀k,base<=k->k<w.heap.size->w'.heap[k]?=w.heap[k]?):v_ base w' v vs L:=
 ⟨h.row.stay λk e=>y k (h.row.lt k e).1 (h.row.lt k e).2,h.len,λi z=>(h.each i z).stay λk e=>y k ((h.each i z).lt k e).1 ((h.each i z).lt k e).2⟩
def v_.nil_(z:Nat)(w:World):v_ z w (.slice none 0 0) [] []:=⟨gO.nil_ _ _,rfl,λi y=>absurd y ad⟩
def v_.snoc{w1 w2:World}{v2:Value}{l:List Int}(h:v_ base w v vs L)(t:aq w w1)(q:gO ig base w1 (iW s) l)
 (f:gO qV base w2 v2 (vs++[s])) (r:w1.grownBy w2 v.ownBlock) (p:∀i (u:i<ao vs) k,(iW vs[i]).ownBlock=some k->v.ownBlock≠some k) (d:∀k,(iW s).ownBlock=some k->v.ownBlock≠some k):v_ base w2 v2 (vs++[s]) (L++[l]):=by
 refine⟨f,by rw[aE,aE,h.len];rfl,λi u=>?_⟩
 rcases bg i (ao vs) with z|z
 ·rw[dY z]
  have e:lvl (L++[l]) i=lvl L i:=by
   unfold lvl;simp only[List.getD];rw[cO (by rw[<-h.len];exact z)]
  rw[e];exact((h.each i z).keep t).stay λk y=>r.block k (by have:=((h.each i z).lt k y).2;have:=t.size;omega) (λx=>p i z k y x.symm)
 ·have g:i=ao vs:=by rw[aE] at u;simp only[bu] at u;omega
  subst g;have e:lvl (L++[l]) (ao vs)=l:=by
   unfold lvl;simp only[List.getD];rw[h.len,cU (aD _)];simp
  rw[e];simp only[dF (aD _),eN,bn];exact q.stay λk y=>r.block k (q.lt k y).2 (λx=>d k y x.symm)
def take_snoc(h:j<ao L):L.take (j+1)=L.take j++[lvl L j]:=by rw[aM h,jX h]
def qX(w:World)(r:oy F w g k n led lv vs L)(hL:ao L<=1000)(hl:cnt L<=1000000000) :
 ar Oe 176 #[.pointer (some ⟨g,0,none⟩)] w λe G=>∃z y,e=.returned z/\v_ w.heap.size G z y L/\aq w G:=by
 obtain⟨i1,v,x,y,z⟩:=cx QH;have JI:=ay v;have JZ:=ay x;have KA:=ay y;have KD:=ay z;clear v x y z;obtain⟨A,c,V,hc1,hc2,_⟩:=r.form;have c1:=r.cell1;have HS:=ay r;have HC:=ay (λj=>bf (hD L j) hl)
 clear r;subst V
 go_in
 go_wp2
 go_loopg [3,5,11] (ao L) (λq o _ i wr=>∃(j:Nat) (t:List Sv),q=ao L - j/\j<=ao L/\i=.int .i64 (j:Int)/\Hid (v_ w.heap.size wr o t (L.take j))/\Hid (∀s∈t,∀k,(iW s).ownBlock=some k->o.ownBlock≠some k)/\Hid (aq w wr))
 exact⟨0,[],aa,aa,rfl,ay (v_.nil_ _ _),ay (λi X=>absurd X ad),ay (aC _ _)⟩
 case round=>
  obtain⟨j,t,z,hj,rfl,u,S,Y⟩:=hrel;have HQ:=ay z;clear z;have H:=Y.o.size
  by_cases I:j<ao L
  ·obtain⟨gl,cc,sA,sc,V,hgl,_,_,_,f,_,q,_⟩:=HS.o.at_ I
   injection V with V z y;subst V;subst y;have b:=ay (sx _ (lvl L j) wr (q.rd.keep Y.o) (by have:=HC.o j;omega))
   have J:=ay (take_snoc I);have U:=(Y.o.cell (p:=⟨gl,j,none⟩) hgl).trans f;obtain⟨x,v⟩:=au (lvl L j);rw[v] at J b U;have hvl:ao t=j:=by rw[u.o.len,aU];omega
   obtain⟨K,M,rfl,_,_,_⟩:=u.o.row.form;rw[hvl] at u S |-;clear v q f
   go_wp2_with fail;refine(b.o).mono ?_
   rintro e a ⟨s,rfl,d,v⟩;obtain⟨f,Zm,q⟩:=s;obtain⟨_,_,es,_,_,_⟩:=d.form;injection es with _ es2 _;subst es2;have N:=ay d;have h:=ay v;have W:=ay (u.o.row.keep v);have o:=v.size;have hxl:ao t<=1000:=aa
   simp only[iW];clear d v b U
   go_wp2_with (at_builtin;refine g8 qV (ts:=112) i1 _ 24 underlying112 JI.o JZ.o KA.o KD.o rfl ab  ab rfl (.tmp 15) (.tmp 18) rfl w.heap.size (.slice K j M) t rfl (W.o.alloc _) _ [(f,ao x,q)] rfl (iA.hJ (E:=qV) a (f,ao x,q) _ rfl _ rfl _ rfl) af  af ?_;intro m l b d v;have B:=ay b;have O:=ay d;have P:=ay v;clear b d v)
   have R:∀s∈t,∀k,(iW s).ownBlock=some k->k<wr.heap.size:=λs r k e=>by
    obtain⟨i,X,rfl⟩:=cE r;exact((u.o.each i X).lt k e).2
   have T:aq wr (a.alloc (.cells #[.slice f (ao x) q] 196)):=h.o.alloc o _;have d:∀k,(Value.slice K j M).ownBlock=some k->w.heap.size<=k/\k<wr.heap.size:=λk e=>u.o.row.lt k e
   have U:∀k,(iW (f,ao x,q)).ownBlock=some k->wr.heap.size<=k/\k<a.heap.size:=λk e=>N.o.lt k e
   have b:=v_.snoc u.o T (N.o.alloc _ |>.more H) B.o O.o (λi X k e=>S.o _ (aX X) k e) (λk e z=>by have:=U k e;have:=d k z;omega)
   rw[<-J.o] at b;have C:=ay b;have D:Hid (∀s∈t++[(f,ao x,q)],∀k,(iW s).ownBlock=some k->m.ownBlock≠some k):=ay λs r k e=>by
    have T':(a.alloc (.cells #[.slice f (ao x) q] 196)).heap.size=a.heap.size+1:=ad
    rcases cV.1 r with v|v
    ·rcases P.o with z|z
     ·rw[z];exact S.o s v k e
     ·rw[z];intro y
      have y:=bC y;have:=R s v k e;omega
    ·obtain rfl:=ct.1 v
     have Q:=U k e
     rcases P.o with z|z
     ·rw[z];intro y
      have:=d k y;omega
     ·rw[z];intro y
      have y:=bC y;omega
   have Q:Hid (aq w l):=ay ((Y.o.trans (T.mono H)).grown O.o af (λk v=>(d k v).1))
   clear b R T d U
   go_wp2
   go_roundg (ao L - (j+1))
   exact⟨j+1,_,rfl,aa,ag,C,D,Q⟩
   have:=HQ.o;omega
  ·obtain rfl:j=ao L:=aa
   go_wp2;refine an ?_
   have z:=u.o;rw[bN] at z;exact⟨_,_,rfl,z,Y.o⟩
structure SA(w:World)(v:Value)(vs:List Sv)(L:LL):Prop where
 len:ao vs=ao L
 row:iA qV w v vs
 each:∀i (h:i<ao vs),iA ig w (iW vs[i]) (lvl L i)
def SA.at_(h:SA w (.slice A n c) vs L)(V:j<ao L) :
 ∃z v y x,A=some ⟨z,v,none⟩/\z<w.heap.size/\vs[j]?=some (y,ao (lvl L j),x)/\w.cell? ⟨z,v+j,none⟩=some (.slice y (ao (lvl L j)) x)/\iA ig w (.slice y (ao (lvl L j)) x) (lvl L j):=by
 obtain⟨X,p,g⟩:=h;obtain⟨a,Y,e,_,_,d⟩:=p.form;injection e with e1 e2 e3;subst e1;obtain⟨z,v,f,b,t⟩:=d.sl (j:=j) (by omega)
 have u:=g j aa
 obtain⟨s,r⟩:=au (vs[j]' aa )
 rw[r] at u t;obtain⟨y,U,x⟩:=s;obtain⟨_,_,q,_,_,_⟩:=u.form;injection q with es1 es2 es3;subst es2;exact⟨z,v,y,x,f,b,by rw[aQ aa,r],t,u⟩
def ji(F:Nat->Prop)(w:World)(v:Value)(vs:List Sv)(L:LL):Prop:=∀W,(∀k,k<w.heap.size->¬F k->W.heap[k]?=w.heap[k]?)->w.heap.size<=W.heap.size->SA W v vs L
def ji.now(h:ji F w v vs L):SA w v vs L:=h w (λ_ _ _=>rfl) (aD _)
def ji.next(h:ji F w v vs L)(t:∀k,k<w.heap.size->¬F k->w'.heap[k]?=w.heap[k]?)(q:w.heap.size<=w'.heap.size)(x:∀k,G k->F k\/w.heap.size<=k):ji G w' v vs L:=
 λW y r=>h W (λk s z=>(y k aa (λu=>(x k u).elim z aa)).trans (t k s z)) aa
def ji.lT(h:v_ base w v vs L)(u:∀k,F k->k<base):ji F w v vs L:=λW x _=>by
 have z:=h.stay (w':=W) λk s y=>x k y (λt=>by have:=u k t;omega)
 exact⟨z.len,z.row.rd,λi t=>(z.each i t).rd⟩
def ji.one(h:ji F w v vs L)(u:vs[j]?=some s):Aside F w (iW s) (lvl L j):=λW z y=>by
 obtain⟨x,e⟩:=cN.1 u;have:=(h W z y).each j x;rw[e] at this;exact this
def qb{L M:LL}(h:∀i,mQ (lvl L i)):∀j i,mQ (lvl (takeN M j L) i)
 | 0,i=>h i
 | j+1,i=>by rw[takeN];exact rM (qb h j) _ _ i
def qc(h:jn (L,led,a))(z:jn (M,iD,b))(y:wt L+wt M<=281474976710656)(x:cnt L+cnt M<=900000):jn (jS L M,min (led+iD) 4611686018427387904,a):=by
 refine⟨qb h.iJ (ao M),h.top.take z.top,?_,?_,?_⟩
 ·show wt (jS L M)<=_
  rw[rK];exact y
 ·show cnt (jS L M)<=_
  rw[G_];omega
 ·show min _ _<=_
  omega
def kf(M:LL):Nat->LL->LL
 | 0,L=>L
 | j+1,L=>if lvl M j=[] then kf M j L else kk (kf M j L) j (lvl M j)
def qd(M L:LL):∀j i,lvl (kf M j L) i=if i<j then insL (lvl L i) (lvl M i) else lvl L i
 | 0,i=>by simp[kf]
 | j+1,i=>by
  rw[kf]
  by_cases z:lvl M j=[]
  ·rw[aH z,qd M L j i]
   by_cases e:i=j
   ·subst e;rw[aG aa,aH aa,z,Ki]
   ·by_cases h:i<j
    ·rw[aH h,aH aa]
    ·rw[aG h,aG aa]
  ·rw[aG z,kL,qd M L j i,qd M L j j]
   by_cases e:i=j
   ·subst e;rw[aH rfl,aG aa,aH aa]
   ·rw[aG e]
    by_cases h:i<j
    ·rw[aH h,aH aa]
    ·rw[aG h,aG aa]
def oC(M L:LL):∀j,ao L<=ao (kf M j L)/\ao (kf M j L)<=max (ao L) j
 | 0=>by simp[kf]
 | j+1=>by
  have:=oC M L j;rw[kf]
  split
  ·omega
  ·rw[iF];omega
def Hu(u:AO M):kf M (ao M) L=jS L M:=by
 have v:ao (kf M (ao M) L)=max (ao L) (ao M):=by
  rcases bh (ao M) with z|z
  ·rw[z];simp[kf]
  ·obtain⟨j,y⟩:∃j,ao M=j+1:=⟨ao M - 1,aa⟩
   have x:=u z;have t:=oC M L j;rw[y,kf,aG (by rw[y] at x;simpa using x),iF];omega
 refine Kl (by rw[v];unfold jS;rw[kM]) λi _=>?_
 unfold jS;rw[qd,qa]
def xE(M L:LL):∀j,j<=ao M->cnt (kf M j L)=cnt L+cnt (M.take j)
 | 0,_=>by simp[kf,cnt]
 | j+1,hj=>by
  rw[kf,wC aa]
  have:=xE M L j aa
  split
  ·rename_i h;rw[h];simp;omega
  ·rw[mo];omega
def mU(M L:LL)(j i:Nat):LL:=if i=0 then kf M j L else kk (kf M j L) j ((lvl M j).take i)
def DB(y:i<ao (lvl M j)):kk (mU M L j i) j [(lvl M j)[i]]=mU M L j (i+1):=by
 unfold mU;rw[aG (show ¬i+1=0 by omega),aM y]
 by_cases z:i=0
 ·subst z;rw[aH rfl];simp
 ·rw[aG z,xy]
def Hv(M L:LL)(j:Nat):mU M L j (ao (lvl M j))=kf M (j+1) L:=by
 unfold mU;rw[kf,bN]
 by_cases h:lvl M j=[]
 ·rw[aH (by rw[h];rfl),aH h]
 ·rw[aG (by rw[List.length_eq_zero_iff];exact h),aG h]
def Hw(M L:LL)(j i:Nat):ao (mU M L j i)<=max (ao L) (j+1):=by
 have:=oC M L j;unfold mU
 split
 ·omega
 ·rw[iF];omega
def Hx(z:j<=ao M):cnt (mU M L j i)<=cnt L+cnt M+i:=by
 have y:=xE M L j z;have x:=pz M j;unfold mU
 split
 ·omega
 ·rw[mo,aU];omega
structure RG(F:Nat->Prop)(w:World)(g k n led:Nat)(L M:LL)(lw:Value)(ws:List Sv)(j:Nat)(F1:Nat->Prop)(wr:World)(lv:Value)(vs:List Sv):Prop where
 st:oy F1 wr g k n led lv vs (takeN M j L)
 al:ji F1 wr lw ws M
 sub:∀k,F1 k->F k\/w.heap.size<=k
 sup:∀k,F k->F1 k
 touch:Touch F w wr
def vm{r:Nat}(w:World)(v:oy F w g k n led lv vs L)(z:oy G w h k m iD DC vs2 M)(u:KC w cg r cv B a)(t:vk F w cg r cv)
 (y:jn (L,led,a)) (x:jn (M,iD,b)) (d:n=wt L) (p:m=wt M) (hnm:n+m<=281474976710656) (hcn:cnt L+cnt M<=900000) (V:2<=k) (hk:k<=1000000) :
 ar Oe 106 #[.pointer (some ⟨g,0,none⟩),.pointer (some ⟨h,0,none⟩),.pointer (some ⟨cg,0,none⟩)] w λe f=>e=.returned (.int .i64 0)/\∃s q c,yS F w g k (n+m) cg r cv B (jS L M,min (led+iD) 4611686018427387904,a) s f q c (iK k B (jS L M,min (led+iD) 4611686018427387904,a))/\iY k (iK k B (jS L M,min (led+iD) 4611686018427387904,a)).1=none:=by
 have H:=ay (qc y x aa hcn)
 have HT:=ay z;have E:=ay v;have Ua:=ay u;have I:=ay t;have Mp:=ay y.iJ;have OF:led<=4611686018427387904:=y.led;have OG:iD<=4611686018427387904:=x.led;have hlenL:ao L<=49:=y.len;have OI:ao M<=49:=x.len;have N:=v.cell0;have X:=v.cell2;have s:=z.cell0;have q:=z.cell2;have D2:=ay z.cell2;have D3:=ay z.u';have l:=z.blk.lt;have hcM:cnt M<=1000000000:=aa
 clear v z u t y x d p
 go_in
 go_wp2_with fail
 go_quiet (fail)
 go_wp2_with fail
 go_quiet (fail)
 go_upto_region 7 with fail;clear N X s q;have Z:=ay (λ(f:World) (z:aq w f)=>(aF ((z.cell (p:=⟨h,2,none⟩) l).trans D2.o) ((z.cell (p:=⟨h,3,none⟩) l).trans D3.o)))
 refine i' (λf=>aq w f) (gW 0 1 (gW 2 8 (ib 1 (gW 10 3 [])))) (bw) ?_
 iterate 9 refine hC ?_
 refine iy λK A=>?_
 go_simp;refine(qX _ (HT.o.keep (bw)) aa hcM).mono ?_
 rintro e u ⟨T,d,rfl,y,z⟩;have Q:=ay y;have q:aq w u:=Below.trans (bw) z;clear y z;refine A _ _ (q) ?_
 clear A K
 iterate 3 refine hC ?_
 refine gM ?_
 have R:Hid (v_ w.heap.size u T d M):=ay (by have v:=Q.o;simpa only[hN] using v)
 have s:=ay (E.o.keep q);have J:=s.o.cell2;have O:=s.o.blk.frozen 2
 go_upto_region 9 with fail;have c:=s.o.Dj (.int .u64 (n+m:Nat));rw[dI] at c;have z:=ay c;have U:Hid (Touch F w (u.setCell ⟨g,2,none⟩ (.int .u64 ((n:Int)+(m:Int))))):=ay ((Touch.of_below q (aD _)).setCell (.inl s.o.fg) _);have S:Hid (ji F u T d M):=ay (ji.lT R.o λy e=>E.o.low y e)
 have Y:Hid (ji F (u.setCell ⟨g,2,none⟩ (.int .u64 ((n:Int)+(m:Int)))) T d M):=ay (S.o.next (λy _ v=>bl u ⟨g,2,none⟩ _ y (λe=>v (by rw[e];exact s.o.fg))) ad (λy e=>.inl e))
 obtain⟨t,P⟩:=au (u.setCell ⟨g,2,none⟩ (.int .u64 ((n:Int)+(m:Int))));rw[P] at z U Y |-;clear P c J O s R Q S q;have P:t.cell? ⟨g,3,none⟩=some (.int .u64 led):=z.o.u';have R:=z.o.blk.frozen 3
 go_upto_region 10 with fail;have q:oy F (t.setCell ⟨g,3,none⟩ (.int .u64 (min (led+iD) 4611686018427387904:Nat))) g k (n+m) (min (led+iD) 4611686018427387904) lv vs L:=by
  have:=z.o.PL (.int .u64 (min (led+iD) 4611686018427387904:Nat));rw[<-dI] at this;exact this
 have s:Hid (min ((led:Int)+(iD:Int)) 4611686018427387904=((min (led+iD) 4611686018427387904:Nat):Int)):=ay aa
 rw[s.o];have D:Hid (Touch F w (t.setCell ⟨g,3,none⟩ (.int .u64 (min (led+iD) 4611686018427387904:Nat)))):=ay (U.o.setCell (.inl z.o.fg) _);have c:Hid (ji F (t.setCell ⟨g,3,none⟩ (.int .u64 (min (led+iD) 4611686018427387904:Nat))) T d M):=ay (Y.o.next (λy _ v=>bl t ⟨g,3,none⟩ _ y (λe=>v (by rw[e];exact z.o.fg))) ad (λy e=>.inl e))
 have Q:=ay q;obtain⟨w3,S⟩:=au (t.setCell ⟨g,3,none⟩ (.int .u64 (min (led+iD) 4611686018427387904:Nat)));rw[S] at Q D c |-;clear S q P R z U Y s;obtain⟨A0,N,C,_,_,_⟩:=c.o.now.row.form;rw[c.o.now.len] at C;subst C;obtain⟨U,z⟩:=au (min (led+iD) 4611686018427387904);rw[z] at Q H |-;have KQ:=ay z;clear z
 go_wp2
 go_loopg [10,11,66] (ao M) (λq _ _ i wr=>∃(j:Nat) (J:Nat->Prop) (o:Value) (vs1:List Sv),q=ao M - j/\j<=ao M/\i=.int .i64 (j:Int)/\Hid (RG F w g k (n+m) U L M (.slice A0 (ao M) N) d j J wr o vs1))
 exact⟨0,F,lv,vs,aa,aa,rfl,ay ⟨Q.o,c.o,λ_ h=>.inl h,λ_ h=>h,D.o⟩⟩
 case round=>
  obtain⟨j,J,o,vs1,s,hj,rfl,z⟩:=hrel;have HQ:=ay s;clear s;have hsz:=z.o.touch.size
  by_cases hjl:j<ao M
  ·obtain⟨gl,off,sA,sc,eA,hgl,s,X,_⟩:=z.o.al.now.at_ hjl
   subst eA;have RH:ao (takeN M j L)<=49:=by rw[kM];omega
   have hlj:ao (lvl M j)<=900000:=by have:=hD M j;omega
   have XG:ao (lvl (takeN M j L) j)<=900000:=by have:=hD (takeN M j L) j;have v:=p' M L j aa ;have V:=pz M j;omega
   have R:=ay (put_any j (iW (sA,ao (lvl M j),sc)) (lvl M j) wr z.o.st (z.o.al.one s) (qb Mp.o j j) aa  aa  aa  aa)
   obtain⟨x,q⟩:=au (ao (lvl M j));rw[q] at X R;clear s q
   go_wp2_with fail;refine(R.o).mono ?_
   rintro e w5 ⟨rfl,S,KR,PW,s,q,W,q4⟩;have Y:=ay s;have P:=ay q;have Q3:=ay W;have O:=ay q4;clear s q W q4 R X
   go_wp2
   go_roundg (ao M - (j+1))
   case measure=>have:=HQ.o;omega
   case rel=>
    refine⟨j+1,S,KR,PW,rfl,aa,ag,ay ⟨Q3.o,?_,?_,?_,?_⟩⟩
    ·exact z.o.al.next (λy v V=>O.o.block y v V) O.o.size Y.o
    ·intro y R
     rcases Y.o y R with v|v
     ·exact z.o.sub y v
     ·exact .inr aa
    ·exact λy R=>P.o y (z.o.sup y R)
    ·exact z.o.touch.trans O.o λi W=>z.o.sub i W
  ·obtain rfl:j=ao M:=aa
   have O:=ay (Bb (s0:=(jS L M,U,a)) wr z.o.st (Ua.o.touch I.o z.o.touch) (I.o.next z.o.sub hsz) H.o V hk)
   go_wp2_with fail;refine(O.o).mono ?_
   rintro e t ⟨rfl,S,DC,vs2,s,q⟩;have Y:=ay s;have P:=ay q;clear s q O
   go_wp2;refine an ?_
   rw[KQ.o];exact⟨rfl,S,DC,vs2,Y.o.back z.o.sub z.o.sup z.o.touch,P.o⟩
def Hy(q:Value)(w:World)(z:oy F w g k n led lv vs L)(y:oy G w h k m iD DC vs2 M)(r:n<=281474976710656)(Zn:m<=281474976710656)(p:281474976710656<n+m) :
 ar Oe 106 #[.pointer (some ⟨g,0,none⟩),.pointer (some ⟨h,0,none⟩),q] w λe x=>e=.returned (.int .i64 6)/\∃n,x=w.drewN n:=by
 have v:=z.cell0;have t:=y.cell0;have u:=z.cell2;have s:=y.cell2;have f:(m:Int) > 281474976710656 - (n:Int):=aa
 clear z y
 go_in
 go_wp2_with fail
 go_quiet (fail)
 go_wp2_with fail
 go_quiet (fail)
 go_wp2;refine an ?_
 exact⟨rfl,by first|exact⟨_,rfl⟩|exact⟨_,jT _ _ _⟩⟩
def jn.qj(h:jn (L,led,a)):ao L<=49:=h.len
def jn.DD(h:jn (L,led,a)):Go.Proofs.YtdicblkhpcphfaaGreat.K.cnt L<=1000000:=h.cnt
def jn.zp(h:jn (L,led,a)):Go.Proofs.YtdicblkhpcphfaaGreat.K.wt L<=281474976710656:=h.wt
structure Be(F:Nat->Prop)(w:World)(g k led:Nat)(L1 M:LL)(lw:Value)(ws:List Sv)(F1:Nat->Prop)(wr:World)(lv:Value)(vs:List Sv):Prop where
 st:tn F1 wr g k led lv vs L1
 al:ji F1 wr lw ws M
 sub:∀k,F1 k->F k\/w.heap.size<=k
 touch:Touch F w wr
def sE(w:World)(X:tn F w g k led lv vs L)(V:tn G w h k iD DC vs2 M)(s:RC w cg cv B a)(r:s9 F w cg cv)
 (t:jn (L,led,a)) (u:jn (M,iD,b)) (hnm:wt L+wt M<=281474976710656) (hcn:cnt L+cnt M<=900000) (h2:2<=k) (hk:k<=1000000) :
 ar Oe 52 #[.pointer (some ⟨g,0,none⟩),.pointer (some ⟨h,0,none⟩),.pointer (some ⟨cg,0,none⟩)] w λe w'=>e=.returned (.int .i64 0)/\∃z y x,sD F w g k cg cv B (jS L M,min (led+iD) 4611686018427387904,a) z w' y x (iK k B (jS L M,min (led+iD) 4611686018427387904,a)):=by
 obtain⟨i0,v,x,y,z⟩:=cx Dl;have HI:=ay v;have HZ:=ay x;have Rw:=ay y;have PO:=ay z;clear v x y z;obtain⟨i1,v,x,y,z⟩:=cx QH;have JI:=ay v;have JZ:=ay x;have KA:=ay y;have KD:=ay z;clear v x y z;have Hz:=ay (qc t u hnm hcn);have XH:=ay (Hu (L:=L) u.top);have RI:=ay (λd=>hY (w.drewN d) (X.keep (below_drewN (aC _ _) d)) t.zp t.qj)
 have RJ:=ay (λd=>hY (w.drewN d) (V.keep (below_drewN (aC _ _) d)) u.zp u.qj)
 have HT:=ay V;have HS:=ay X;have Ua:=ay s;have HF:=ay r;have OF:led<=4611686018427387904:=t.led;have OG:iD<=4611686018427387904:=u.led;have hlenL:=t.qj;have OI:=u.qj;have N:=X.cell0;have x:=V.cell0;have D2:=ay V.cell2;have D1:=ay V.cell1;have hgw:=X.blk.lt;have Vv:=V.blk.lt;obtain⟨n,y⟩:=au (wt L);obtain⟨m,z⟩:=au (wt M);rw[y,z] at hnm;rw[y] at RI;rw[z] at RJ;clear X V s r t u y z
 go_in
 go_wp2_with fail
 go_quiet (fail)
 clear N x
 go_wp2_with fail;refine((RJ.o _)).mono ?_
 rintro e w1 ⟨rfl,rfl⟩
 go_wp2_with fail;refine((RI.o _)).mono ?_
 rintro e w1 ⟨rfl,rfl⟩
 go_wp2_with fail;have y:aq w (w.drewN nq):=below_drewN (aC _ _) _;have v:(w.drewN nq).heap.size=w.heap.size:=rfl;have TD:=ay (HS.o.keep y);have Vw:=ay y;have Vx:=ay v;obtain⟨wq,z⟩:=au (w.drewN nq);rw[z] at TD Vw Vx |-;clear z y v;have hsz:=Vx.o;obtain⟨A2,cM,l,XI,XJ,_⟩:=HT.o.form;subst l
 go_loopg [7,8] (ao M) (λq o i wr=>∃(j:Nat) (r:List Sv),q=ao M - j/\j<=ao M/\i=.int .i64 (j:Int)/\Hid (v_ w.heap.size wr o r (M.take j))/\Hid (∀s∈r,∀k,(iW s).ownBlock=some k->o.ownBlock≠some k)/\Hid (aq w wr))
 exact⟨0,[],aa,aa,rfl,ay (v_.nil_ _ _),ay (λi P=>absurd P ad),Vw⟩
 case round=>
  obtain⟨j,r,T,hj,rfl,Y,HD,v⟩:=hrel;have HQ:=ay T;clear T;have hz:=v.o.size;have d1:=(v.o.cell (p:=⟨h,1,none⟩) Vv).trans D1.o
  by_cases hjl:j<ao M
  ·obtain⟨gl,cc,sA,sc,l,hgl,_,_,_,J,_,u,_⟩:=HT.o.at_ hjl
   injection l with l z y;subst l;subst y;have W:=ay (u.rd.keep v.o);have o:=ay (take_snoc hjl);have hlj:ao (lvl M j)<=900000:=by have:=hD M j;omega
   have c3:=(v.o.cell (p:=⟨gl,j,none⟩) hgl).trans J;obtain⟨x,A⟩:=au (lvl M j);rw[A] at o W c3 hlj;have hvl:ao r=j:=by rw[Y.o.len,aU];omega
   obtain⟨C,D,rfl,_,_,_⟩:=Y.o.row.form;rw[hvl] at Y HD |-;clear A u J;have hxl:ao r<=1000:=aa
   have Ss:h<wr.heap.size:=aa
   have Ns:gl<wr.heap.size:=aa
   go_wp2_with (first
    | (at_builtin;refine g8 ig (ts:=196) i0 _ 8 underlying196 HI.o HZ.o Rw.o PO.o rfl ab  ab rfl (.tmp 36) (.tmp 43) rfl wr.heap.size _ [] rfl (gO.lit (E:=ig) wr [] _ rfl _ rfl ab) _ x rfl (W.o.keep (bw)) af ad ?_;intro S U u f c;simp only[cZ] at u;have Q:aq wr U:=(dG (aC _ _) (aD _) _).grown f ad (λk hk=>by have:=bC (show some wr.heap.size=some k from hk);omega);have zN:=Q.size;obtain⟨d,t,rfl,_,_,_⟩:=u.form;have H:=ay u;clear u f c;go_simp)
    | (at_builtin;refine g8 qV (ts:=112) i1 _ 24 underlying112 JI.o JZ.o KA.o KD.o rfl ab  ab rfl (.tmp 35) (.tmp 45) rfl w.heap.size (.slice C j D) r rfl ((Y.o.row.keep Q).alloc _) _ [(d,ao x,t)] rfl (iA.hJ (E:=qV) U (d,ao x,t) _ rfl _ rfl _ rfl) af  af ?_;intro v7 w7 c f u;have O7:=ay c;have I:=ay f;have O:=ay u;clear c f u))
   have K:∀s∈r,∀k,(iW s).ownBlock=some k->k<wr.heap.size:=λs X k e=>by
    obtain⟨i,P,rfl⟩:=cE X;exact((Y.o.each i P).lt k e).2
   have R:aq wr (U.alloc (.cells #[.slice d (ao x) t] 196)):=Q.alloc zN _;have u:∀k,(Value.slice C j D).ownBlock=some k->w.heap.size<=k/\k<wr.heap.size:=λk e=>Y.o.row.lt k e
   have S:∀k,(iW (d,ao x,t)).ownBlock=some k->wr.heap.size<=k/\k<U.heap.size:=λk e=>H.o.lt k e
   have c:=v_.snoc Y.o R (H.o.alloc _ |>.more hz) O7.o I.o (λi P k e=>HD.o _ (aX P) k e) (λk e z=>by have:=S k e;have:=u k z;omega)
   rw[<-o.o] at c;have RD:=ay c;have E:Hid (∀s∈r++[(d,ao x,t)],∀k,(iW s).ownBlock=some k->v7.ownBlock≠some k):=ay λs X k e=>by
    have T':(U.alloc (.cells #[.slice d (ao x) t] 196)).heap.size=U.heap.size+1:=ad
    rcases cV.1 X with f|f
    ·rcases O.o with z|z
     ·rw[z];exact HD.o s f k e
     ·rw[z];intro y
      have y:=bC y;have:=K s f k e;omega
    ·obtain rfl:=ct.1 f
     have h2:=S k e
     rcases O.o with z|z
     ·rw[z];intro y
      have:=u k y;omega
     ·rw[z];intro y
      have y:=bC y;omega
   have O:Hid (aq w w7):=ay ((v.o.trans (R.mono hz)).grown I.o af (λk hk=>(u k hk).1))
   clear c K R u S
   go_roundg (ao M - (j+1))
   exact⟨j+1,_,rfl,aa,ag,RD,E,O⟩
   have:=HQ.o;omega
  ·obtain rfl:j=ao M:=aa
   have z:=Y.o;rw[bN] at z;have C:Hid (ji F wr u7 r M):=ay (ji.lT z λc e=>HS.o.low c e)
   have y:=ay (HS.o.keep v.o);have D:=ay (Touch.of_below (F:=F) v.o (aD _));have hgr:g<wr.heap.size:=aa
   have Ss:h<wr.heap.size:=aa
   have Q:=ay y.o.cell2;have O:=ay (y.o.blk.frozen 2);have E:=ay ((v.o.cell (p:=⟨h,2,none⟩) Vv).trans D2.o);clear z Y HD v
   go_upto_region 10 with fail;clear d1;have Z:=ay (λ(w':World) (z:aq wr w')=>(aF ((z.cell (p:=⟨g,2,none⟩) hgr).trans Q.o) ((z.cell (p:=⟨h,2,none⟩) Ss).trans E.o)))
   refine yC (λw'=>aq wr w') 13 (yA 0 11 (QB 11 1 (yA 12 1 (CI 13 [])))) ((aC _ _).drew) ?_
   iterate 11 refine oQ ?_
   refine JG ?_
   refine oQ ?_
   refine yB λK hK=>?_
   have W:(wr.drew).cell? ⟨g,2,none⟩=_:=Q.o;have o:(wr.drew).frozen? ⟨g,2,none⟩=false:=O.o
   go_simp;refine hK _ _ ?_
   clear hK K;refine jk ?_
   have H:Hid (min (IntKind.u64.wrap ((led:Int)+(iD:Int))) 4611686018427387904=((min (led+iD) 4611686018427387904:Nat):Int)):=ay (by rw[dt];omega)
   rw[H.o];obtain⟨u,S⟩:=au (min (led+iD) 4611686018427387904);rw[S] at Hz |-;have KQ:=ay S;have I:tn F ((wr.setCell ⟨g,2,none⟩ (.int .u64 (u:Nat))).drew) g k u lv vs L:=(y.o.Dj (.int .u64 (u:Nat))).keep (aC _ _).drew;have R:Hid (Touch F w ((wr.setCell ⟨g,2,none⟩ (.int .u64 (u:Nat))).drew)):=ay (Touch.drew (D.o.setCell (.inl y.o.fg) _));have z:Hid (ji F ((wr.setCell ⟨g,2,none⟩ (.int .u64 (u:Nat))).drew) u7 r M):=ay (C.o.next (λc _ f=>bl wr ⟨g,2,none⟩ _ c (λe=>f (by rw[e];exact y.o.fg))) (by simp[World.drew]) (λc e=>.inl e))
   have d:=ay I;obtain⟨w3,t⟩:=au ((wr.setCell ⟨g,2,none⟩ (.int .u64 (u:Nat))).drew);rw[t] at d R z;show Exit.then _ _ Exit.normal _ ((wr.setCell ⟨g,2,none⟩ (.int .u64 (u:Nat))).drew)
   rw[t];clear t I W o S H Q O E y D C;obtain⟨D,N,Vy,Ub,XK,_⟩:=z.o.now.row.form;rw[z.o.now.len] at Vy Ub;subst Vy;have XL:Hid (Be F w g k u (kf M 0 L) M (.slice D (ao M) N) r F w3 lv vs):=ay ⟨d.o,z.o,λ_ h=>.inl h,R.o⟩
   clear d z R
   go_wp2
   go_loopg [9,10] (ao M) (λq i _ wr=>∃(j:Nat) (R:Nat->Prop) (S:Value) (vs2:List Sv),q=ao M - j/\j<=ao M/\i=.int .i64 (j:Int)/\Hid (Be F w g k u (kf M j L) M (.slice D (ao M) N) r R wr S vs2))
   exact⟨0,F,lv,vs,aa,aa,rfl,XL⟩
   case round=>
    obtain⟨j,R,S,vs2,T,hj,rfl,H⟩:=hrel;have Q9:=ay T;clear T
    by_cases hjl:j<ao M
    ·have hlj:ao (lvl M j)<=900000:=by have:=hD M j;omega
     have XM:=ay (Hv M L j);have HI0:Hid (Be F w g k u (mU M L j 0) M (.slice D (ao M) N) r R wr S vs2):=H;have XN:Hid (∀i,ao (mU M L j i)<=49):=ay λi=>by have:=Hw M L j i;omega
     have XO:Hid (∀i,cnt (mU M L j i)<=900000+i):=ay λi=>by have:=Hx (L:=L) (i:=i) (show j<=ao M by omega);omega
     clear H
     go_wp2
     go_loopg [10] (ao (lvl M j)) (λq i wr=>∃(t:Nat) (R:Nat->Prop) (S:Value) (vs2:List Sv),q=ao (lvl M j) - t/\t<=ao (lvl M j)/\i=.int .i64 (t:Int)/\Hid (Be F w g k u (mU M L j t) M (.slice D (ao M) N) r R wr S vs2))
     exact⟨0,R,S,vs2,aa,aa,rfl,HI0⟩
     case round=>
      obtain⟨t,O,KR,vs3,T,V,rfl,v⟩:=hrel;have Vz:=ay T;clear T;obtain⟨gl,off,sA,sc,C,hgl,_,J,y⟩:=v.o.al.now.at_ hjl;subst C;obtain⟨_,_,ea,SB,XP,z⟩:=y.form;injection ea with Uc Ud Ue;subst Uc;subst Ue;have FA:=ay z;have XQ:=v.o.touch.size;clear y z Ud
      by_cases E:t<ao (lvl M j)
      ·obtain⟨ga,oa,C,hga,ka⟩:=FA.o.i64 E
       subst C;have VA:=ay (DB (L:=L) E);obtain⟨x,A⟩:=au ((lvl M j)[t]);rw[A] at ka VA;have VB:=ay (nF j x wr v.o.st aa (by have:=XN.o t;omega) (by have:=hD (mU M L j t) j;have:=XO.o t;omega))
       obtain⟨y,q⟩:=au (ao (lvl M j));rw[q] at J SB E V Vz;have QM:=ay q;clear A q
       go_wp2_with fail;refine(VB.o).mono ?_
       rintro e U ⟨rfl,F5,W,o,d,q2,Q,z⟩;rw[VA.o] at Q;have I:Be F w g k u (mU M L j (t+1)) M (.slice (some ⟨gl,off,none⟩) (ao M) N) r F5 U W o:=by
        refine⟨Q,v.o.al.next (λc f h2=>z.block c f h2) z.size d,λc hk1=>?_,v.o.touch.trans z λi P=>v.o.sub i P⟩
        rcases d c hk1 with f|f
        ·exact v.o.sub c f
        ·exact .inr aa
       have PX:=ay I;clear d q2 Q z I VB J
       go_wp2
       go_roundg (ao (lvl M j) - (t+1))
       exact⟨t+1,F5,W,o,rfl,by have:=QM.o;omega,ag,PX⟩
       have:=Vz.o;have:=QM.o;omega
      ·obtain rfl:t=ao (lvl M j):=aa
       have z:=v.o;rw[XM.o] at z;have Q:=ay z;clear z v;obtain⟨y,q⟩:=au (ao (lvl M j));rw[q] at J SB hlj |-;clear q
       go_wp2
       go_roundg (ao M - (j+1))
       exact⟨j+1,O,KR,vs3,rfl,aa,ag,Q⟩
       have:=Q9.o;omega
    ·obtain rfl:j=ao M:=aa
     have z:=H.o;rw[XH.o] at z;have y:=ay (xD (s0:=(jS L M,u,a)) wr z.st (Ua.o.touch HF.o z.touch) (HF.o.next z.sub z.touch.size) Hz.o h2 hk);have t:=ay z;clear z H
     go_wp2_with fail;refine(y.o).mono ?_
     rintro e q ⟨rfl,O,DC,vs2,d⟩;have z:=ay d;clear d y
     go_wp2;refine an ?_
     rw[KQ.o];exact⟨rfl,O,DC,vs2,z.o.back t.o.sub t.o.touch⟩
def DE(q:Value)(w:World)(u:tn F w g k led lv vs L)(t:tn G w h k iD DC vs2 M)(z:jn (L,led,a))(y:jn (M,iD,b))(c:281474976710656<wt L+wt M) :
 ar Oe 52 #[.pointer (some ⟨g,0,none⟩),.pointer (some ⟨h,0,none⟩),q] w λe Y=>e=.returned (.int .i64 6)/\∃n,Y=w.drewN n:=by
 have s:=ay (λd=>hY (w.drewN d) (u.keep (below_drewN (aC _ _) d)) z.zp z.qj)
 have r:=ay (λd=>hY (w.drewN d) (t.keep (below_drewN (aC _ _) d)) y.zp y.qj)
 have d:=u.cell0;have X:=t.cell0;have p:=z.zp;have f:=y.zp;obtain⟨n,v⟩:=au (wt L);obtain⟨m,x⟩:=au (wt M);rw[v,x] at c;rw[v] at s p;rw[x] at r f;have V:(m:Int) > 281474976710656 - (n:Int):=aa
 clear u t z y v x
 go_in
 go_wp2_with fail
 go_quiet (fail)
 go_wp2_with fail;refine((r.o _)).mono ?_
 rintro e z ⟨rfl,rfl⟩
 go_wp2_with fail;refine((s.o _)).mono ?_
 rintro e z ⟨rfl,rfl⟩
 go_wp2;refine an ?_
 exact⟨rfl,by first|exact⟨_,rfl⟩|exact⟨_,jT _ _ _⟩⟩
end K
end Go.Proofs.YtdicblkhpcphfaaGreat
