/- Parts. No condition. -/
import Derived.Test.YtdicblkhpcphfaaGreatPA29
set_option maxRecDepth 100000
set_option maxHeartbeats 0
set_option linter.all false
namespace Go.Proofs.YtdicblkhpcphfaaGreat
open Tryz Go.RowKit Go.Lib Go.Shelf
open _root_.List renaming length→ao
open _root_.Go renaming Calls→ar
open Tryz renaming prog→Oe
namespace D
variable{bk dg hi lo m u:Nat}{gr:Bool}{l:List Pr}
def DT(w:World):ar Oe 251 #[.int .u8 110] w λe z=>e=.returned (.tuple #[.int .i64 0,.bool false])/\w=z:=by
 go_in
 go_wp2
 go_ret2
 exact⟨rfl,rfl⟩
def DU(w:World):ar Oe 251 #[.int .u8 87] w λe z=>e=.returned (.tuple #[.int .i64 4,.bool true])/\w=z:=by
 go_in
 go_wp2
 go_ret2
 exact⟨rfl,rfl⟩
def DV(w:World):ar Oe 251 #[.int .u8 81] w λe z=>e=.returned (.tuple #[.int .i64 8,.bool true])/\w=z:=by
 go_in
 go_wp2
 go_ret2
 exact⟨rfl,rfl⟩
def Iw(x:Int)(w:World)(P:-9223372036854775808<=x)(U:x<=9223372036854775807) :
 ar Oe 163 #[.int .u8 110,.int .u64 (ub x)] w λe X=>∃v,e=.returned (.tuple #[v,.bool true])/\OwnB w.heap.size X v (nn x)/\aq w X:=by
 have A:=qB P U;have K:=λw=>ay (DT w)
 have I:=ay (wZ x w P U);have z:Hid (nn x=lj 8 (qs x)):=ay rfl;rw[z.o];clear z;generalize qs x=m at *;generalize ub x=n at *
 go_in
 go_wp2_with (first|(go_at_call 251;refine((K _).o).mono ?_;rintro e X ⟨rfl,rfl⟩)|(go_at_call 252;refine(I.o).mono ?_;rintro e X ⟨rfl,rfl⟩))
 go_loopg [8,11] 8 (λk b v wr=>∃(q:Int) (t:List Int),k+ao t=8/\v=.int .u64 q/\0<=q/\q<256 * 128 ^ k/\Hid (t++lj k q=lj 8 m)/\Hid (OwnB w.heap.size wr b t)/\aq w wr)
 exact⟨m,[],rfl,rfl,A.1,aa,ay rfl,ay (gT.nil_ _ _ _ _),aC _ _⟩
 case round=>
  obtain⟨q,t,N,rfl,o,d,b,Q,O⟩:=hrel;have C:=O.size;have a:ao t+1<=1099511627776:=aa
  obtain⟨L,B,M,_,_,_⟩:=(gT.rd Q.o).form;obtain⟨R,Y⟩:=au (ao t);rw[Y] at M;subst M;have g:=ay (gX.1 Q.o);have c:Hid (∀(y:Int) (p:Value) (u:World),gO bE w.heap.size u p (t++[y])->(wr.alloc (.cells #[.int .u8 y] 5)).grownBy u (Value.slice L R B).ownBlock->aq w u):=ay (λy p u _ v=>(O.alloc C _).grown v (by simp only[aI];omega) (λk N=>(g.o.lt k N).1))
  by_cases D:gk=0
  ·subst D
   obtain rfl:R=8:=aa
   have f:q % 256=q:=by simp at d;omega
   have V:Hid (IntKind.u8.wrap q=q):=ay f;have z:t++[q]=lj 8 m:=b.o;have r:=ay z;clear b z Y d f;have H:=V.o
   by_cases S:127<q
   ·go_wp2_with (at_builtin;refine nu qQ rfl (.tmp 69) (.tmp 72) rfl (g.o.alloc _) rfl _ [q] rfl (iA.hJ (E:=bE) _ q _ rfl _ rfl _ ad) a ah ?_;intro p u z v _;have s:=c.o q _ u z v;have y:=ay (gX.2 z);clear z v)
    go_ret2
    exact⟨_,rfl,by rw[<-r.o];exact y.o,s⟩
   ·go_wp2_with (at_builtin;refine nu qQ rfl (.tmp 69) (.tmp 72) rfl (g.o.alloc _) rfl _ [q] rfl (iA.hJ (E:=bE) _ q _ rfl _ rfl _ ad) a ah ?_;intro p u z v _;have s:=c.o q _ u z v;have y:=ay (gX.2 z);clear z v)
    go_ret2
    exact⟨_,rfl,by rw[<-r.o];exact y.o,s⟩
  ·obtain⟨r,rfl⟩:∃r,gk=r+1:=⟨gk - 1,aa⟩
   have j:((R:Int) == 8)=false:=af
   by_cases S:127<q
   ·have T:=ay (pN r q S)
    have F:q / 128<256 * 128 ^ r:=ck aa (by rw[bG,<-ch];exact d)
    have J:=ay (show q % 128+128=128+q % 128 by omega)
    have l:q<18446744073709551616:=by
     have U:(128:Int) ^ (r+1)<=128 ^ 8:=by
      have G:(128:Nat) ^ (r+1)<=128 ^ 8:=bJ aa  aa
      exact_mod_cast G
     omega
    clear d Y
    go_wp2_with (at_builtin;refine nu qQ rfl (.tmp 60) (.tmp 65) rfl (g.o.alloc _) rfl _ [128+q % 128] rfl (iA.hJ (E:=bE) _ (128+q % 128) _ rfl _ rfl _ ad) a ah ?_;intro p u z v _;have s:=c.o _ _ u z v;have y:=ay (gX.2 z);clear z v)
    go_roundg r
    exact⟨q / 128,t++[128+q % 128],af,rfl,aa,F,ay (by rw[aO,<-b.o,T.o,J.o];rfl),y,s⟩
    omega
   ·have T:=ay (pO (r+1) q S)
    have f:q % 256=q:=aa
    have V:Hid (IntKind.u8.wrap q=q):=ay f;clear d Y f;have H:=V.o
    go_wp2_with (at_builtin;refine nu qQ rfl (.tmp 69) (.tmp 72) rfl (g.o.alloc _) rfl _ [q] rfl (iA.hJ (E:=bE) _ q _ rfl _ rfl _ ad) a ah ?_;intro p u z v _;have s:=c.o q _ u z v;have y:=ay (gX.2 z);clear z v)
    go_ret2
    exact⟨_,rfl,by rw[<-b.o,T.o];exact y.o,s⟩
def BB:∀(j:Nat) (n:Int),jA (j+1) n=(n / 2 ^ (8 * j) % 256)::jA j n
 | 0,n=>by simp[jA]
 | j+1,n=>by
  have e:n / 256 / 2 ^ (8 * j)=n / 2 ^ (8 * (j+1)):=by
   rw[cS aa]
   congr 1
   rw[fH,dT,bS];rfl
  rw[jA,BB j (n / 256),e];rfl
def xX(K:Nat)(c n:Int)(w:World)(z:∀w,ar Oe 251 #[.int .u8 c] w λe x=>e=.returned (.tuple #[.int .i64 K,.bool true])/\w=x)(F:0<K)(D:K<=8)(q:0<=n)(C:n<18446744073709551616)(y:n / 2 ^ (8 * K)=0) :
 ar Oe 163 #[.int .u8 c,.int .u64 n] w λe x=>∃v,e=.returned (.tuple #[v,.bool true])/\OwnB w.heap.size x v (jA K n)/\aq w x:=by
 have f:=λw=>ay (z w)
 have L:(0:Int)<(K:Int):=aa
 have X:=ay y;clear z y
 go_in
 go_wp2_with (go_at_call 251;refine((f _).o).mono ?_;rintro e x ⟨rfl,rfl⟩)
 go_loopg [8,9,10] K (λk b v i wr=>∃j:Nat,k=K - j/\j<=K/\i=.int .i64 j/\v=.int .u64 (n / 2 ^ (8 * j))/\Hid (OwnB w.heap.size wr b (jA j n))/\aq w wr)
 exact⟨0,rfl,aa,rfl,ad,ay (gT.nil_ _ _ _ _),aC _ _⟩
 case round=>
  obtain⟨j,z,N,rfl,rfl,v,u⟩:=hrel;have a:=ay z;have r:=u.size;clear z
  by_cases I:j<K
  ·have M:(j:Int)<(K:Int):=aa
   obtain⟨m,y⟩:=au (n / 2 ^ (8 * j));have H:0<=m:=by rw[<-y];exact cP q (fi (dH aa))
   have G:m<=n:=by rw[<-y];exact fY _ q
   have b:Hid (n / 2 ^ (8 * (j+1))=m / 256):=ay (by
    rw[<-y,cS (fi (dH aa))]
    congr 1
    rw[fH,dT];rfl)
   have d:Hid (jA (j+1) n=[m % 256]++jA j n):=ay (by rw[BB,y];rfl)
   have g:Hid (IntKind.u8.wrap (m % 256)=m % 256):=ay (by rw[show IntKind.u8.wrap (m % 256)=m % 256 % 256 from rfl];omega)
   have J:=iQ j n;rw[y];obtain⟨p,R,s,_,_,_⟩:=(gT.rd v.o).form;obtain⟨Q,t⟩:=au (ao (jA j n));rw[t] at s;subst s;have S:ao [m % 256]+ao (jA j n)<=1099511627776:=af
   have Y:Hid (iA bE (wr.alloc (.cells #[.int .u8 (m % 256)] 5)) (.slice p Q R) (jA j n)):=ay ((gX.1 v.o).alloc _).rd;have z:Hid (gO bE wr.heap.size (wr.alloc (.cells #[.int .u8 (m % 256)] 5)) (.slice (some ⟨wr.heap.size,0,none⟩) 1 1) [m % 256]):=ay (gO.one (E:=bE) wr (m % 256) _ rfl _ rfl);have O:=g.o;clear y t
   go_wp2_with (at_builtin;refine nu qQ rfl (.tmp 29) (.tmp 30) rfl z.o rfl _ (jA j n) rfl Y.o S ah ?_;intro B P t y _;have V:=ay (gX.2 (t.more r));have U:aq w P:=(u.alloc r _).grown y (by simp only[aI];omega) (λk T=>by have:=(gO.lt z.o k T).1;omega);clear t y)
   go_roundg (K - (j+1))
   exact⟨j+1,rfl,aa,ag,by rw[b.o],by rw[d.o];exact V,U⟩
   have:=a.o;omega
  ·obtain rfl:j=K:=aa
   rw[X.o]
   go_wp2
   go_ret2
   exact⟨_,rfl,v.o,u⟩
def q8(c n:Int)(y:List Int)(w:World)(h:ar Oe 163 #[.int .u8 c,.int .u64 n] w λe z=>∃v,e=.returned (.tuple #[v,.bool true])/\OwnB w.heap.size z v y/\aq w z) :
 ar Oe 165 #[.int .u8 c,.int .u64 n] w λe z=>∃v,e=.returned v/\OwnB w.heap.size z v y/\aq w z:=by
 have C:=ay h;clear h
 go_in
 go_wp2_with fail;refine(C.o).mono ?_
 rintro e t ⟨u,rfl,v,x⟩
 go_wp2
 go_ret;exact⟨u,rfl,v,x⟩
def rS(x n:Int)(w:World)(t:n=ub x)(y:-9223372036854775808<=x)(u:x<=9223372036854775807):ar Oe 165 #[.int .u8 110,.int .u64 n] w λe z=>∃v,e=.returned v/\OwnB w.heap.size z v (nn x)/\aq w z:=by
 subst t;exact q8 110 _ _ w (Iw x w y u)
def rT(n:Int)(w:World)(y:0<=n)(x:n<4294967296):ar Oe 165 #[.int .u8 87,.int .u64 n] w λe z=>∃v,e=.returned v/\OwnB w.heap.size z v (jA 4 n)/\aq w z:=
 q8 87 _ _ w (xX 4 87 n w DU aa  aa y aa (by show n / 4294967296=0;omega))
def vG(n:Int)(w:World)(y:0<=n)(x:n<18446744073709551616):ar Oe 165 #[.int .u8 81,.int .u64 n] w λe z=>∃v,e=.returned v/\OwnB w.heap.size z v (jA 8 n)/\aq w z:=
 q8 81 _ _ w (xX 8 81 n w DV aa  aa y aa (by show n / 18446744073709551616=0;omega))
def nR{base:Nat}{w w1 w2:World}{v v2:Value}{bs out:List Int}(u:base<=w.heap.size)(z:aq w w1)(x:OwnB base w v bs)(s:gO bE base w2 v2 (bs++out))(y:w1.grownBy w2 v.ownBlock):OwnB base w2 v2 (bs++out)/\Below base w w2:=
 ⟨gX.2 s,(z.mono u).grown y (by have:=z.size;omega) (λk t=>(gT.lt x k t).1)⟩
def BC(v:Value)(w:World)(h:iA il w v l)(ok:iG lo hi dg u m gr bk l):ar Oe 164 #[v] w λe w'=>∃z,e=.returned z/\OwnB w.heap.size w' z (oS l)/\aq w w':=by
 obtain⟨A,c,rfl,_,_,z⟩:=h.form;have HF:=ay z;have PB:=ay ok.pb;have hlen:=ok.len;have KB:=ay ok.kb;clear h z ok
 go_in
 go_wp2
 go_loopg [3,4,5] (ao l) (λq b s i wr=>∃j:Nat,q=ao l - j/\j<=ao l/\i=.int .i64 j/\s=.int .i64 (qi 0 (l.take j))/\Hid (OwnB w.heap.size wr b (qh (wy 0 (l.take j))))/\aq w wr)
 exact⟨0,rfl,aa,rfl,rfl,ay (gT.nil_ _ _ _ _),aC _ _⟩
 case round=>
  obtain⟨j,z,hj,rfl,rfl,V,P⟩:=hrel;have B:=ay z;have E:=P.size;clear z
  by_cases W:j<ao l
  ·obtain⟨y,q,rfl,Jw,g,b⟩:=j7 HF.o W
   have hgr:y<wr.heap.size:=aa
   have f:=ay (aF ((P.cell (p:=⟨y,q+j * 2,none⟩) Jw).trans g) ((P.cell (p:=⟨y,q+j * 2+1,none⟩) Jw).trans b));have hji:(j:Int)<(ao l:Int):=aa
   have hbd:=PB.o _ (aX W);have Xn:=Fk (l:=l.take j) (λp z=>KB.o p (cB z)) 0 aa  aa
   have hnl:=rD (wy 0 (l.take j));have hnm:=tD (l.take j) 0;have htl:ao (l.take j)<=16777217:=by rw[aU];omega
   have U:Hid (qh (wy 0 (l.take (j+1)))=qh (wy 0 (l.take j))++qh (nK (l[j].1 - qi 0 (l.take j)))++nn l[j].2/\qi 0 (l.take (j+1))=l[j].1+1):=ay (by
    rw[aM W,vh,sC,ou,ou,aO];refine⟨?_,rfl⟩
    congr 2
    simp[qh])
   clear g b;generalize l[j].1=x at *;generalize l[j].2=n at *;generalize qi 0 (l.take j)=t at *;generalize qh (wy 0 (l.take j))=L at *;have C:Hid (IntKind.i64.wrap (x - t)=x - t/\IntKind.i64.wrap (x+1)=x+1):=ay ⟨by rw[aL];omega,ai⟩
   have D:Hid (∀X:World,_):=ay (λX=>rS n n X (by unfold ub;omega) aa  aa)
   have ZC:=uX n;obtain⟨A8,k8,VT,_,_,_⟩:=(gT.rd V.o).form;obtain⟨n8,s⟩:=au (ao L);have Yn:ao L<=1000000000:=aa
   rw[s] at VT;subst VT;clear s
   by_cases S:x - t=1
   ·have hg1:(x - t == 1)=true:=by simpa using S
    have hg2:¬1<x - t:=aa
    have T:Hid (qh (nK (x - t))=nn 0):=ay (by rw[S];decide +kernel)
    have K:Hid (∀X:World,_):=ay (λX=>rS 0 0 X rfl aa  aa)
    have h09:=uX 0;rw[T.o] at U;clear S T;have I:=f.o;obtain⟨g,b⟩:=I;obtain⟨e1,e2⟩:=C.o
    go_wp2_with fail;refine(K.o wr).mono ?_
    rintro e X ⟨v1,rfl,F,N⟩;have o:=ay F;clear F g b;generalize nn 0=Z at *
    go_wp2_with (at_builtin;refine nu qQ rfl (.tmp 22) (.tmp 23) rfl ((gX.1 V.o).keep N) rfl _ Z rfl (gX.1 o.o).rd aa (by have:=N.size;omega) ?_;intro v2 k M R _;have s:=ay (nR E N V.o M R);have b:=(s.o.2.cell (p:=⟨y,q+j * 2+1,none⟩) (by show y<_;omega)).trans f.o.2;obtain⟨A2,k2,G,_,_,_⟩:=M.form;obtain⟨n2,H⟩:=au (ao (L++Z));rw[H] at G;subst G;clear M R)
    have hz2:=s.o.2.size;refine(D.o k).mono ?_
    rintro e w3 ⟨v3,rfl,O,r⟩;have J:=ay O;clear O b;have g:=(r.cell (p:=⟨y,q+j * 2,none⟩) (by show y<_;omega)).trans ((s.o.2.cell (p:=⟨y,q+j * 2,none⟩) (by show y<_;omega)).trans f.o.1)
    generalize nn n=Y at *;have hl2:ao (L++Z)<=2000000000:=by rw[aE];omega
    clear H
    go_wp2_with (at_builtin;refine nu qQ rfl (.tmp 34) (.tmp 40) rfl ((gX.1 s.o.1).keep r) rfl _ Y rfl (gX.1 J.o).rd aa (by have:=r.size;omega) ?_;intro i h a Q _;have d:=ay (nR aa r s.o.1 a Q);have g:=(d.o.2.cell (p:=⟨y,q+j * 2,none⟩) (by show y<_;omega)).trans ((s.o.2.cell (p:=⟨y,q+j * 2,none⟩) (by show y<_;omega)).trans f.o.1);clear a Q)
    go_roundg (ao l - (j+1))
    exact⟨j+1,rfl,aa,ag,by rw[U.o.2],by rw[U.o.1];exact ay d.o.1,(P.trans s.o.2).trans d.o.2⟩
    have:=B.o;omega
   ·have hg1:(x - t == 1)=false:=by simpa using S
    by_cases R:1<x - t
    ·have T:Hid (qh (nK (x - t))=nn (-(x - t))):=ay (by unfold nK;rw[aG S,aH R];simp[qh])
     have EU:Hid (IntKind.i64.wrap (x - t - 1)=x - t - 1/\IntKind.u64.wrap (x - t - 1)=x - t - 1/\IntKind.u64.wrap (18446744073709551615 - (x - t - 1))=18446744073709551615 - (x - t - 1)):=ay ⟨by rw[aL];omega,by rw[g_];omega,by rw[g_];omega⟩
     have K:Hid (∀X:World,_):=ay (λX=>rS (-(x - t)) (18446744073709551615 - (x - t - 1)) X (by unfold ub;omega) aa  aa)
     have h09:=uX (-(x - t));rw[T.o] at U;clear S T;have I:=f.o;obtain⟨g,b⟩:=I;obtain⟨e1,e2⟩:=C.o;obtain⟨e3,e4,e5⟩:=EU.o
     go_wp2_with fail;refine(K.o wr).mono ?_
     rintro e X ⟨v1,rfl,F,N⟩;have o:=ay F;clear F g b e3 e4 e5;generalize nn (-(x - t))=Z at *
     go_wp2_with (at_builtin;refine nu qQ rfl (.tmp 27) (.tmp 32) rfl ((gX.1 V.o).keep N) rfl _ Z rfl (gX.1 o.o).rd aa (by have:=N.size;omega) ?_;intro v2 k M R _;have s:=ay (nR E N V.o M R);have b:=(s.o.2.cell (p:=⟨y,q+j * 2+1,none⟩) (by show y<_;omega)).trans f.o.2;obtain⟨A2,k2,G,_,_,_⟩:=M.form;obtain⟨n2,H⟩:=au (ao (L++Z));rw[H] at G;subst G;clear M R)
     have hz2:=s.o.2.size;refine(D.o k).mono ?_
     rintro e w3 ⟨v3,rfl,O,r⟩;have J:=ay O;clear O b;have g:=(r.cell (p:=⟨y,q+j * 2,none⟩) (by show y<_;omega)).trans ((s.o.2.cell (p:=⟨y,q+j * 2,none⟩) (by show y<_;omega)).trans f.o.1)
     generalize nn n=Y at *;have hl2:ao (L++Z)<=2000000000:=by rw[aE];omega
     clear H
     go_wp2_with (at_builtin;refine nu qQ rfl (.tmp 34) (.tmp 40) rfl ((gX.1 s.o.1).keep r) rfl _ Y rfl (gX.1 J.o).rd aa (by have:=r.size;omega) ?_;intro i h a Q _;have d:=ay (nR aa r s.o.1 a Q);have g:=(d.o.2.cell (p:=⟨y,q+j * 2,none⟩) (by show y<_;omega)).trans ((s.o.2.cell (p:=⟨y,q+j * 2,none⟩) (by show y<_;omega)).trans f.o.1);clear a Q)
     go_roundg (ao l - (j+1))
     exact⟨j+1,rfl,aa,ag,by rw[U.o.2],by rw[U.o.1];exact ay d.o.1,(P.trans s.o.2).trans d.o.2⟩
     have:=B.o;omega
    ·have T:Hid (qh (nK (x - t))=[]):=ay (by unfold nK;rw[aG S,aG R];rfl)
     rw[T.o,bT] at U;clear S T;have I:=f.o;obtain⟨g,b⟩:=I;obtain⟨e1,e2⟩:=C.o
     go_wp2_with fail;refine(D.o wr).mono ?_
     rintro e w3 ⟨v3,rfl,O,r⟩;have J:=ay O;clear O;have g:=(r.cell (p:=⟨y,q+j * 2,none⟩) hgr).trans f.o.1;generalize nn n=Y at *
     go_wp2_with (at_builtin;refine nu qQ rfl (.tmp 34) (.tmp 40) rfl ((gX.1 V.o).keep r) rfl _ Y rfl (gX.1 J.o).rd aa (by have:=r.size;omega) ?_;intro i h a Q _;have d:=ay (nR E r V.o a Q);have g:=(d.o.2.cell (p:=⟨y,q+j * 2,none⟩) (by show y<_;omega)).trans f.o.1;clear a Q)
     go_roundg (ao l - (j+1))
     exact⟨j+1,rfl,aa,ag,by rw[U.o.2],by rw[U.o.1];exact ay d.o.1,P.trans d.o.2⟩
     have:=B.o;omega
  ·obtain rfl:j=ao l:=aa
   have y:=V;rw[bj (aD _)] at y;clear V
   by_cases z:ao l=0
   ·have e:l=[]:=aN z
    subst e;have K:=ay (rS 0 0 wr rfl aa  aa)
    go_wp2_with fail;refine(K.o).mono ?_
    rintro e h ⟨i,rfl,a,x⟩
    go_wp2
    go_ret;exact⟨_,rfl,by rw[show oS []=nn 0 by decide +kernel];exact gT.lift a (λk t=>by have:=(gT.lt a k t).1;omega),P.trans (x.mono E)⟩
   ·have t:((ao l:Int) == 0)=false:=by simpa using z
    go_wp2
    go_ret;have x:l≠[]:=λe=>z (by rw[e];rfl)
    exact⟨_,rfl,by unfold oS Nb;rw[aG x];exact y.o,P⟩
def y8(v:Value)(w:World)(h:iA il w v l)(ok:iG lo hi dg u m gr bk l):ar Oe 96 #[.int .i64 lo,.int .i64 (i6 u m hi bk),.int .i64 dg,v] w λe C=>∃z,e=.returned z/\OwnB w.heap.size C z (hwB lo (i6 u m hi bk) dg l)/\aq w C:=by
 have B:=ay (BC v w h ok);have hrb:=AZ ok.sh ok.b1 (bk:=bk);have hcl:=rE l;have hll:=ok.len;have hlo:lo<=9223372036854775807:=by have:=ok.sh.h0;have:=ok.sh.h1;omega
 have hdg:=ok.sh.d1;generalize i6 u m hi bk=R at *;have z:Hid (hwB lo R dg l=jA 4 478450451++jA 4 (ao (oS l))++jA 4 0++jA 4 dg++jA 8 lo++jA 8 R++jA 8 4607182418800017408++oS l):=ay rfl;rw[z.o];clear z h ok;generalize oS l=S at *;obtain⟨N,y⟩:=au (ao S);have Q:=ay y;rw[y] at hcl |-;clear y;have EU:Hid (IntKind.u64.wrap (N:Int)=(N:Int)/\IntKind.u64.wrap (dg:Int)=(dg:Int)/\IntKind.u64.wrap (lo:Int)=(lo:Int)/\IntKind.u64.wrap (R:Int)=(R:Int)):=ay ⟨by rw[g_];omega,by rw[g_];omega,by rw[g_];omega,by rw[g_];omega⟩
 have A:Hid (∀z,_):=ay (λz=>rT 478450451 z aa  aa)
 have L0:=iQ 4 478450451;have j:Hid (∀z,_):=ay (λz=>rT (N:Int) z aa  aa)
 have L1:=iQ 4 (N:Int);have o:Hid (∀z,_):=ay (λz=>rT 0 z aa  aa)
 have L2:=iQ 4 0;have n:Hid (∀z,_):=ay (λz=>rT (dg:Int) z aa  aa)
 have L3:=iQ 4 (dg:Int);have W:Hid (∀z,_):=ay (λz=>vG (lo:Int) z aa  aa)
 have L4:=iQ 8 (lo:Int);have i:Hid (∀z,_):=ay (λz=>vG (R:Int) z aa  aa)
 have L5:=iQ 8 (R:Int);have h:Hid (∀z,_):=ay (λz=>vG 4607182418800017408 z aa  aa)
 have L6:=iQ 8 4607182418800017408;obtain⟨e1,e2,e3,e4⟩:=EU.o;generalize jA 4 478450451=X0 at *;generalize jA 4 (N:Int)=X1 at *;generalize jA 4 0=X2 at *;generalize jA 4 (dg:Int)=X3 at *;generalize jA 8 (lo:Int)=X4 at *;generalize jA 8 (R:Int)=X5 at *;generalize jA 8 4607182418800017408=X6 at *
 go_in
 go_wp2_with fail;refine(B.o).mono ?_
 rintro e z ⟨vc,rfl,x,U⟩;have OC:=ay x;obtain⟨Ac,kc,O,_,_,_⟩:=(gT.rd x).form;rw[Q.o] at O;subst O;clear x;have P:Hid (OwnB z.heap.size z (.slice none 0 0) []):=ay (gT.nil_ _ _ _ _);have L:aq z z:=aC _ _;have hz0:=L.size
 go_wp2_with fail;refine(A.o z).mono ?_
 rintro e ZD ⟨ZE,rfl,x,d⟩;have Yo:=ay x;clear x
 go_wp2_with (at_builtin;refine nu qQ rfl (.tmp 13) (.tmp 14) rfl ((gX.1 P.o).keep d) rfl _ X0 rfl (gX.1 Yo.o).rd (by simp only[aE,aV];omega) (by have:=d.size;omega) ?_;intro vb0 Yp s x _;have t:=ay (nR hz0 d P.o s x);clear s x)
 have K:=L.trans t.o.2;have hz1:=K.size
 skip
 refine(j.o Yp).mono ?_
 rintro e ZF ⟨ZG,rfl,x,c⟩;have Yq:=ay x;clear x
 go_wp2_with (at_builtin;refine nu qQ rfl (.tmp 16) (.tmp 20) rfl ((gX.1 t.o.1).keep c) rfl _ X1 rfl (gX.1 Yq.o).rd (by simp only[aE,aV];omega) (by have:=c.size;omega) ?_;intro vb1 Yr r x _;have s:=ay (nR hz1 c t.o.1 r x);clear r x)
 have J:=K.trans s.o.2;have hz2:=J.size
 skip
 refine(o.o Yr).mono ?_
 rintro e ZH ⟨ZI,rfl,x,b⟩;have Ys:=ay x;clear x
 go_wp2_with (at_builtin;refine nu qQ rfl (.tmp 22) (.tmp 23) rfl ((gX.1 s.o.1).keep b) rfl _ X2 rfl (gX.1 Ys.o).rd (by simp only[aE,aV];omega) (by have:=b.size;omega) ?_;intro ZJ Yt q x _;have r:=ay (nR hz2 b s.o.1 q x);clear q x)
 have I:=J.trans r.o.2;have hz3:=I.size
 skip
 refine(n.o Yt).mono ?_
 rintro e ZK ⟨ZL,rfl,x,a⟩;have Yu:=ay x;clear x
 go_wp2_with (at_builtin;refine nu qQ rfl (.tmp 25) (.tmp 28) rfl ((gX.1 r.o.1).keep a) rfl _ X3 rfl (gX.1 Yu.o).rd (by simp only[aE,aV];omega) (by have:=a.size;omega) ?_;intro ZM Yv p x _;have q:=ay (nR hz3 a r.o.1 p x);clear p x)
 have H:=I.trans q.o.2;have I4:=H.size
 skip
 refine(W.o Yv).mono ?_
 rintro e ZN ⟨ZO,rfl,x,Y⟩;have Yw:=ay x;clear x
 go_wp2_with (at_builtin;refine nu qQ rfl (.tmp 30) (.tmp 33) rfl ((gX.1 q.o.1).keep Y) rfl _ X4 rfl (gX.1 Yw.o).rd (by simp only[aE,aV];omega) (by have:=Y.size;omega) ?_;intro ZP Yx g x _;have p:=ay (nR I4 Y q.o.1 g x);clear g x)
 have G:=H.trans p.o.2;have zN:=G.size
 skip
 refine(i.o Yx).mono ?_
 rintro e ZQ ⟨ZR,rfl,x,X⟩;have Yy:=ay x;clear x
 go_wp2_with (at_builtin;refine nu qQ rfl (.tmp 35) (.tmp 38) rfl ((gX.1 p.o.1).keep X) rfl _ X5 rfl (gX.1 Yy.o).rd (by simp only[aE,aV];omega) (by have:=X.size;omega) ?_;intro ZS Yz f x _;have g:=ay (nR zN X p.o.1 f x);clear f x)
 have F:=G.trans g.o.2;have Sr:=F.size
 skip
 refine(h.o Yz).mono ?_
 rintro e ZT ⟨ZU,rfl,x,V⟩;have YA:=ay x;clear x
 go_wp2_with (first|(at_builtin;refine nu qQ rfl (.tmp 40) (.tmp 41) rfl ((gX.1 g.o.1).keep V) rfl _ X6 rfl (gX.1 YA.o).rd (by simp only[aE,aV];omega) (by have:=V.size;omega) ?_;intro ZV ZW T x _;have f:=ay (nR Sr V g.o.1 T x);clear T x;have T:=F.trans f.o.2;have YB:=ay (gT.keep OC.o T);have E:=T.size;have y:=Q.o)|(at_builtin;refine nu qQ rfl (.tmp 43) (.tmp 44) rfl (gX.1 f.o.1) rfl _ S rfl (gX.1 YB.o).rd (by simp only[aE,aV];omega) E ?_;intro v9 w9 D M _;have x:=ay (nR E (aC _ _) f.o.1 D M);clear D M))
 go_ret;refine⟨_,rfl,?_,U.trans ((T.trans x.o.2).mono U.size)⟩
 have:=gT.lift x.o.1 (base':=w.heap.size) (λk M=>by have:=(gT.lt x.o.1 k M).1;have:=U.size;omega)
 unfold OwnB
 simpa using this
def DW(c n x:Int)(z:Nat)(vb:Value)(bs:List Int)(w:World)(f:z<=w.heap.size)(y:OwnB z w vb bs)(U:ao bs<=1000000000000)(u:(c=118/\x=n/\0<=n/\n<18446744073709551616)\/(c=122/\n=ub x/\-9223372036854775808<=x/\x<=9223372036854775807)) :
 ar Oe 95 #[vb,.int .u8 c,.int .u64 n] w λe s=>∃v,e=.returned v/\OwnB z s v (bs++(if c=118 then hZ x else zg x))/\Below z w s:=by
 have v:=ay y;have r:=ay (rl c n x w u);have T:ao (if c=118 then hZ x else zg x)<=10:=by split;exact(gS _).2;exact(gS _).2
 generalize (if c=118 then hZ x else zg x)=a at *
 clear y u
 go_in
 go_wp2_with fail;refine(r.o).mono ?_
 rintro e R ⟨Y,rfl,u,y⟩;have q:=ay u;have S:=y.size;clear u
 go_wp2_with (first
  | (at_builtin
     go_must (refine jO rfl (.tmp 15) (.tmp 16) rfl z vb bs rfl (gT.keep v.o y) Y a rfl (gT.rd q.o) aa  aa ?_)
     intro X V t u g;have d:Below z w V:=(y.mono f).grown u aa (λk b=>(gT.lt v.o k b).1)
     have p:=ay t;clear t u g))
 go_ret;exact⟨X,rfl,p.o,d⟩
def vH(n:Int)(z:Nat)(vb:Value)(bs:List Int)(w:World)(u:z<=w.heap.size)(x:OwnB z w vb bs)(t:ao bs<=1000000000000)(s:0<=n)(r:n<18446744073709551616) :
 ar Oe 95 #[vb,.int .u8 118,.int .u64 n] w λe y=>∃v,e=.returned v/\OwnB z y v (bs++hZ n)/\Below z w y:=by
 have h:=DW 118 n n z vb bs w u x t (.inl ⟨rfl,rfl,s,r⟩)
 rwa [aH rfl] at h
section
variable {y p : Nat} {p1 p2 p3 p4 : Value} {w : World} {Q : Value -> World -> Prop} {lo hi dg ac sz n : Int} {gr : Bool} {v va vb : Value}
def y9(z:gN w y 106 #[.int .u8 1,.int .i64 lo,.int .i64 hi,.int .i64 dg,.bool gr,.int .i64 ac,.int .i64 sz,.pointer (some ⟨p,0,none⟩),p2,p3,p4])(s:w.cell? ⟨p,7,none⟩=some v)(h:ar Oe 59 #[v] w λe x=>e=.returned (.int .u64 n)/\w=x) :
 ar Oe 19 #[.pointer (some ⟨y,0,none⟩)] w λe x=>e=.returned (.int .u64 n)/\w=x:=by
 have C:=ay h;have u:=z.k0;have t:=z.k7;clear h z
 go_in
 go_wp2_with fail;refine(C.o).mono ?_
 rintro e z ⟨rfl,rfl⟩
 go_wp2
 go_ret;exact⟨rfl,rfl⟩
def y_(z:gN w y 106 #[.int .u8 2,.int .i64 lo,.int .i64 hi,.int .i64 dg,.bool gr,.int .i64 ac,.int .i64 sz,p1,.pointer (some ⟨p,0,none⟩),p3,p4])(s:w.cell? ⟨p,3,none⟩=some v)(h:ar Oe 59 #[v] w λe x=>e=.returned (.int .u64 n)/\w=x) :
 ar Oe 19 #[.pointer (some ⟨y,0,none⟩)] w λe x=>e=.returned (.int .u64 n)/\w=x:=by
 have C:=ay h;have u:=z.k0;have t:=z.k8;clear h z
 go_in
 go_wp2_with fail;refine(C.o).mono ?_
 rintro e z ⟨rfl,rfl⟩
 go_wp2
 go_ret;exact⟨rfl,rfl⟩
def y'(u:gN w y 106 #[.int .u8 3,.int .i64 lo,.int .i64 hi,.int .i64 dg,.bool gr,.int .i64 ac,.int .i64 sz,p1,p2,p3,p4])(h:ar Oe 61 #[p3] w λe z=>∃v,e=.returned v/\Q v z/\aq w z)(t:∀v x,Q v x->ar Oe 60 #[v] x λe z=>e=.returned (.int .u64 n)/\aq x z) :
 ar Oe 19 #[.pointer (some ⟨y,0,none⟩)] w (aw w (.int .u64 n)):=by
 have C:=ay h;have r:=ay t;have q:=u.k0;have p:=u.k9;clear h t u
 go_in
 go_wp2_with fail;refine(C.o).mono ?_
 rintro e x ⟨v,rfl,s,t⟩;have u:=ay t;have D:=ay (r.o v x s);clear s t
 go_wp2_with fail;refine(D.o).mono ?_
 rintro e g ⟨rfl,t⟩;have s:=ay (u.o.trans (t.mono u.o.size));clear t
 go_wp2
 go_ret;exact⟨rfl,s.o⟩
def za(z:gN w y 106 #[.int .u8 4,.int .i64 lo,.int .i64 hi,.int .i64 dg,.bool gr,.int .i64 ac,.int .i64 sz,p1,p2,p3,p4])(h:ar Oe 62 #[p4] w λe x=>e=.returned (.int .u64 n)/\w=x) :
 ar Oe 19 #[.pointer (some ⟨y,0,none⟩)] w λe x=>e=.returned (.int .u64 n)/\w=x:=by
 have C:=ay h;have v:=z.k0;have u:=z.k10;clear h z
 go_in
 go_wp2_with fail;refine(C.o).mono ?_
 rintro e z ⟨rfl,rfl⟩
 go_wp2
 go_ret;exact⟨rfl,rfl⟩
def BD(u:gN w y 106 #[.int .u8 2,.int .i64 lo,.int .i64 hi,.int .i64 dg,.bool gr,.int .i64 ac,.int .i64 sz,p1,.pointer (some ⟨p,0,none⟩),p3,p4])(t:w.cell? ⟨p,1,none⟩=some va)(s:w.cell? ⟨p,2,none⟩=some vb)(r:w.cell? ⟨p,3,none⟩=some v)(h:ar Oe 98 #[va,vb,v] w.drew λe z=>∃v,e=.returned v/\Q v z) :
 ar Oe 41 #[.pointer (some ⟨y,0,none⟩)] w λe z=>∃v,e=.returned v/\Q v z:=by
 have C:=ay h;have g:=u.k0;have x:=u.k8;clear h u
 go_in
 go_upto_region 11 with fail;refine ki (λz=>z=w.drew) 21 (gW 0 21 []) (rfl) ?_
 iterate 21 refine jw (h:=λz u=>by subst u;have x:w.drew.cell? ⟨y,8,none⟩=_:=x;have t:w.drew.cell? ⟨p,1,none⟩=some va:=t;have s:w.drew.cell? ⟨p,2,none⟩=some vb:=s;have r:w.drew.cell? ⟨p,3,none⟩=some v:=r;exact Qv) ?_
 refine gU ?_
 simp only[bc,bp]
 go_wp2_with fail;refine(C.o).mono ?_
 rintro e f ⟨v,rfl,u⟩;have q:=ay u;clear u
 go_wp2_with fail;try refine gQ ?_
 go_wp2
 go_ret;exact⟨_,rfl,q.o⟩
def BE(z:gN w y 106 #[.int .u8 3,.int .i64 lo,.int .i64 hi,.int .i64 dg,.bool gr,.int .i64 ac,.int .i64 sz,p1,p2,p3,p4])(h:ar Oe 99 #[p3] w λe x=>∃v,e=.returned v/\Q v x) :
 ar Oe 41 #[.pointer (some ⟨y,0,none⟩)] w λe x=>∃v,e=.returned v/\Q v x:=by
 have C:=ay h;have t:=z.k0;have s:=z.k9;clear h z
 go_in
 go_wp2_with fail;refine(C.o).mono ?_
 rintro e r ⟨v,rfl,z⟩;have u:=ay z;clear z
 go_wp2
 go_ret;exact⟨_,rfl,u.o⟩
def BF(u:gN w y 106 #[.int .u8 4,.int .i64 lo,.int .i64 hi,.int .i64 dg,.bool gr,.int .i64 ac,.int .i64 sz,p1,p2,p3,.pointer (some ⟨p,0,none⟩)])(t:w.cell? ⟨p,0,none⟩=some va)(s:w.cell? ⟨p,1,none⟩=some v)(r:w.cell? ⟨p,2,none⟩=some vb)(h:ar Oe 100 #[va,v,vb] w.drew λe z=>∃v,e=.returned v/\Q v z) :
 ar Oe 41 #[.pointer (some ⟨y,0,none⟩)] w λe z=>∃v,e=.returned v/\Q v z:=by
 have C:=ay h;have g:=u.k0;have x:=u.k10;clear h u
 go_in
 go_upto_region 14 with fail;refine ki (λz=>z=w.drew) 21 (gW 0 21 []) (rfl) ?_
 iterate 21 refine jw (h:=λz u=>by subst u;have x:w.drew.cell? ⟨y,10,none⟩=_:=x;have t:w.drew.cell? ⟨p,0,none⟩=some va:=t;have s:w.drew.cell? ⟨p,1,none⟩=some v:=s;have r:w.drew.cell? ⟨p,2,none⟩=some vb:=r;exact Qv) ?_
 refine gU ?_
 simp only[bc,bp]
 go_wp2_with fail;refine(C.o).mono ?_
 rintro e f ⟨v,rfl,u⟩;have q:=ay u;clear u
 go_wp2_with fail;try refine gQ ?_
 go_wp2
 go_ret;exact⟨_,rfl,q.o⟩
end
def BG{y p lo hi dg u m bk:Nat}{gr:Bool}{l:List Pr}{G:Ft}(w:World)(g:gN w y 106 #[.int .u8 1,.int .i64 lo,.int .i64 hi,.int .i64 dg,.bool gr,.int .i64 0,.int .i64 0,.pointer (some ⟨p,0,none⟩),.pointer none,.pointer none,.pointer none])(h:nc p lo hi dg u m gr bk l G w)(ok:iG lo hi dg u m gr bk l) :
 ar Oe 41 #[.pointer (some ⟨y,0,none⟩)] w λe t=>∃v,e=.returned v/\OwnB w.heap.size t v (hjB lo hi dg (i6 u m hi bk) gr l)/\aq w t:=by
 have S:=mN p lo hi dg u m gr bk l;obtain⟨vL,d,c,_,_,_⟩:=id h;have O:=ay g;have o:=ay d;have C1:Hid (∀z,aq w z->_):=ay (λz x=>G5 z (S.keep h x) ok.sh ok.b0 ok.b1)
 have C2:Hid (∀z,aq w z->_):=ay (λz x=>y8 vL z (c.rd.keep x) ok)
 have hlo:lo<=9223372036854775807:=by have:=ok.sh.h0;have:=ok.sh.h1;omega
 have hhi:=ok.sh.h1;have hdg:=ok.sh.d1;have hwl:=Fb lo (i6 u m hi bk) dg l;have hcl:=rE l;have hll:=ok.len;have hl1:=gS (lo:Int);have hl2:=gS (hi:Int);have hl3:=gS (dg:Int);have HG:=ay (Kz gr);have f:Hid (hjB lo hi dg (i6 u m hi bk) gr l=hZ lo++hZ hi++hZ dg++[OB gr]++hwB lo (i6 u m hi bk) dg l):=ay rfl;rw[f.o];have A:Hid (IntKind.u64.wrap (lo:Int)=(lo:Int)/\IntKind.u64.wrap (hi:Int)=(hi:Int)/\IntKind.u64.wrap (dg:Int)=(dg:Int)):=ay ⟨by rw[g_];omega,by rw[g_];omega,by rw[g_];omega⟩
 have V:Hid (∀(x:Nat) (s:Value) (bs:List Int) (z:World),x<=z.heap.size->OwnB x z s bs->ao bs<=1000000000000->_):=ay (λx s bs z r q v=>vH (lo:Int) x s bs z r q v aa  aa)
 have U:Hid (∀(x:Nat) (s:Value) (bs:List Int) (z:World),x<=z.heap.size->OwnB x z s bs->ao bs<=1000000000000->_):=ay (λx s bs z r q v=>vH (hi:Int) x s bs z r q v aa  aa)
 have N:Hid (∀(x:Nat) (s:Value) (bs:List Int) (z:World),x<=z.heap.size->OwnB x z s bs->ao bs<=1000000000000->_):=ay (λx s bs z r q v=>vH (dg:Int) x s bs z r q v aa  aa)
 obtain⟨r,Y,Q,X⟩:=g.c4;clear f S h ok g d c;generalize OB gr=D at *;generalize hZ (lo:Int)=d at *;generalize hZ (hi:Int)=a at *;generalize hZ (dg:Int)=S at *;generalize hwB (lo:Int) (i6 u m hi bk) dg l=HW at *;generalize i6 u m hi bk=R at *;obtain⟨b,x⟩:=au (w.heap.size);obtain⟨F,q⟩:=au ((w.alloc (.cells #[.int .i64 0,.int .i64 0,.int .i64 0] 31)));have g:aq w F:=by rw[<-q];exact bw
 have s:Hid (gN F b 31 #[.int .i64 0,.int .i64 0,.int .i64 0]):=by rw[<-q,<-x];exact ay (gN.new _ _ _)
 obtain⟨f,c,T⟩:=s.o.c3;have P:=s.o.frozen 0;have M:=s.o.frozen 1;have L:=s.o.frozen 2;have j:=ay x;clear x
 go_in
 have x:=j.o
 go_upto_region 4 with fail;clear f c T P M L r Y Q X x;obtain⟨x,r⟩:=au (((F.setCell ⟨b,0,none⟩ (.int .i64 lo)).setCell ⟨b,1,none⟩ (.int .i64 hi)).setCell ⟨b,2,none⟩ (.int .i64 dg));try rw[q]
 rw[r];have M:w.heap.size<=b:=by have:=j.o;omega
 have C:Hid (gN x b 31 #[.int .i64 lo,.int .i64 hi,.int .i64 dg]):=by rw[<-r];exact ay (((s.o.gR 0 _).gR 1 _).gR 2 _)
 have v:aq w x:=by rw[<-r];exact((g.setCell (p:=⟨b,0,none⟩) M _).setCell (p:=⟨b,1,none⟩) M _).setCell (p:=⟨b,2,none⟩) M _
 clear r q s g;have f:aq x x.drew:=(aC _ _).drew;have g:=C.o.lt;obtain⟨s,r,c⟩:=C.o.c3;have q:=ay (aF s (aF r c));clear s r c;refine i' (aq x) (gW 0 3 (gW 4 3 (gW 8 3 (ib 3 (ib 7 (ib 11 (gW 12 1 []))))))) (f) ?_
 iterate 9 refine hC (h:=λt r=>by obtain⟨e1,e2,e3⟩:=A.o;have J:t.cell? ⟨b,0,none⟩=some (.int .i64 lo):=(r.cell (p:=⟨b,0,none⟩) g).trans q.o.1;have j1:t.cell? ⟨b,1,none⟩=some (.int .i64 hi):=(r.cell (p:=⟨b,1,none⟩) g).trans q.o.2.1;have I:t.cell? ⟨b,2,none⟩=some (.int .i64 dg):=(r.cell (p:=⟨b,2,none⟩) g).trans q.o.2.2;exact Qv) ?_
 refine iy λK s=>?_
 go_simp;refine(V.o x.heap.size (.slice none 0 0) [] x.drew f.size (gT.nil_ _ _ _ _) ad).mono ?_
 rintro e w4 ⟨v4,rfl,Y,B⟩;have c:aq x w4:=f.trans B;have H:=ay Y;clear Y;refine s _ _ (c) ?_
 clear s K;refine iy λK s=>?_
 go_simp;refine(U.o x.heap.size v4 ([]++d) w4 c.size H.o af).mono ?_
 rintro e w5 ⟨v5,rfl,X,n⟩;have Y:aq x w5:=c.trans n;have E:=ay X;clear X;refine s _ _ (Y) ?_
 clear s K;refine iy λK s=>?_
 go_simp;refine(N.o x.heap.size v5 ([]++d++a) w5 Y.size E.o af).mono ?_
 rintro e P ⟨v6,rfl,L,W⟩;have X:aq x P:=Y.trans W;have T:=ay L;clear L;refine s _ _ (X) ?_
 clear s K;refine hC (h:=λt r=>by obtain⟨e1,e2,e3⟩:=A.o;have J:t.cell? ⟨b,0,none⟩=some (.int .i64 lo):=(r.cell (p:=⟨b,0,none⟩) g).trans q.o.1;have j1:t.cell? ⟨b,1,none⟩=some (.int .i64 hi):=(r.cell (p:=⟨b,1,none⟩) g).trans q.o.2.1;have I:t.cell? ⟨b,2,none⟩=some (.int .i64 dg):=(r.cell (p:=⟨b,2,none⟩) g).trans q.o.2.2;exact Qv) ?_
 refine gM ?_
 have L:([]:List Int)++d++a++S=d++a++S:=ad
 rw[L] at T;have YC:aq w P:=v.trans (X.mono v.size);have Q:P.cell? ⟨y,4,none⟩=_:=(O.o.keep YC).cell 4;simp only[aA,az,aB] at Q;have UH:=X.size;have lX:ao (d++a++S)<=30:=by simp only[aE];omega
 clear V U N c Y H E L B n W;obtain⟨XX,c⟩:=au (d++a++S);rw[c] at T lX;have YD:=ay c;clear c
 rcases HG.o with⟨rfl,c⟩|⟨rfl,c⟩
 all_goals
  have HD:=ay c;clear c
  go_wp2_with (at_builtin;refine nu qQ rfl (.tmp 35) (.tmp 37) rfl ((gX.1 T.o).alloc _) rfl _ [_] rfl (gO.one (E:=bE) P _ _ rfl _ rfl).rd af (by rw[aI];omega) ?_;intro v7 H V Y _;have N:=ay V;have B7:aq x H:=((X.alloc UH _).grown Y (by rw[aI];omega) (λk L=>(T.o.lt k L).1));clear V Y)
  have c:=HD.o;rw[<-c] at N;clear c;obtain⟨Z7,Y⟩:=au (XX++[D]);have ZX:ao Z7<=31:=by rw[<-Y];simp;omega
  rw[Y] at N;have YE:=ay Y;clear Y Q;have ly:=O.o.lt;have lp:=o.o.lt;have z:=O.o.k7;have Y:=o.o.k7;have U:=ay (aF z Y);clear z Y;have f:aq x H.drew:=B7.drew;have UI:=v.size
  go_upto_region 9 with fail;refine i' (aq x) (gW 0 7 (gW 8 9 (ib 7 (ib 17 (ib 18 (gW 19 1 [])))))) (f) ?_
  iterate 16 refine hC (h:=λt r=>by have z:aq w t:=v.trans (r.mono v.size);have k7:t.cell? ⟨y,7,none⟩=_:=(z.cell (p:=⟨y,7,none⟩) ly).trans U.o.1;have l7:t.cell? ⟨p,7,none⟩=_:=(z.cell (p:=⟨p,7,none⟩) lp).trans U.o.2;have J:t.cell? ⟨b,0,none⟩=some (.int .i64 lo):=(r.cell (p:=⟨b,0,none⟩) g).trans q.o.1;have I:t.cell? ⟨b,2,none⟩=some (.int .i64 dg):=(r.cell (p:=⟨b,2,none⟩) g).trans q.o.2.2;exact Qv) ?_
  refine iy λK s=>?_
  go_simp;refine(C1.o H.drew (v.trans (f.mono v.size))).mono ?_
  rintro e w8 ⟨rfl,i⟩;have Y:aq x w8:=f.trans (i.mono f.size);have O8:=ay ((N.o.drew).keep i);refine s _ _ (Y) ?_
  clear s K;refine iy λK s=>?_
  go_simp;refine(C2.o w8 (v.trans (Y.mono v.size))).mono ?_
  rintro e w9 ⟨v9,rfl,B,h9⟩;have V:aq x w9:=Y.trans (h9.mono Y.size);have OH:=ay (gX.1 B);have n:=ay (O8.o.keep h9);clear B;refine s _ _ (V) ?_
  clear s K;refine iy λK s=>?_
  refine EX qQ (.tmp 39) (.tmp 56) rfl n.o rfl _ HW rfl OH.o.rd aa V.size ?_
  intro vA wA oA W _;have B:aq x wA:=V.grown W V.size (λk L=>(n.o.lt k L).1)
  have L:=ay (gX.2 (oA.more UI));clear oA W
  go_simp;refine s _ _ (B) ?_
  clear s K;refine hC (h:=λt r=>by have z:aq w t:=v.trans (r.mono v.size);have k7:t.cell? ⟨y,7,none⟩=_:=(z.cell (p:=⟨y,7,none⟩) ly).trans U.o.1;have l7:t.cell? ⟨p,7,none⟩=_:=(z.cell (p:=⟨p,7,none⟩) lp).trans U.o.2;have J:t.cell? ⟨b,0,none⟩=some (.int .i64 lo):=(r.cell (p:=⟨b,0,none⟩) g).trans q.o.1;have I:t.cell? ⟨b,2,none⟩=some (.int .i64 dg):=(r.cell (p:=⟨b,2,none⟩) g).trans q.o.2.2;exact Qv) ?_
  refine gM ?_
  go_wp2
  go_ret;have r:=L.o;rw[<-YE.o,<-YD.o] at r;exact⟨_,rfl,r,v.trans (B.mono v.size)⟩
section
variable {sp : i9} {c t : Js} {x y a o : Nat} {F Fy H : Ft} {cq : Value} {B : List Int}
def N0(v n:Int)(w:World)(h:iz sp c x F w)(ok:je sp c)(T:iM o cq B a H w)(j:∀k,H k->¬F k)(S:o<=w.heap.size)(UJ:∀k,F k->o<=k)(D:-9223372036854775808<=v)(A:v<=9223372036854775807)(l:0<=n)(W:n<18446744073709551616) :
 ar Oe 37 #[.pointer (some ⟨x,0,none⟩),.int .i64 v,.int .u64 n,cq] w (jC (iz sp (kl sp B v n c a).1 x) (iM o cq B (kl sp B v n c a).2) F H (mW sp c v n) w):=by
 obtain⟨p,G,U,b,hFx,Sa,E,i⟩:=h;have R:∀k,H k->¬G k:=λk I r=>j k I (E k r)
 have X:∀M N K e z,jC (qv sp M p) (iM o cq B N) G H K w e z->jC (iz sp M x) (iM o cq B N) F H K w e z:=λM N K e z y=>by
  obtain⟨I,r⟩:=Bh U hFx Sa E i y.2.1 y.2.2.2 j;exact⟨y.1,I,y.2.2.1,r⟩
 have O:∀k,G k->o<=k:=λk h=>UJ k (E k h)
 have low:=(jo sp c p).low b
 cases sp with
 | h lo hi dg u m gr=>
  refine(DP (Q:=λg z=>jC (iz (.h lo hi dg u m gr) (kl (.h lo hi dg u m gr) B v n c a).1 x) (iM o cq B (kl (.h lo hi dg u m gr) B v n c a).2) F H (mW (.h lo hi dg u m gr) c v n) w (.returned g) z) U ?_).mono ?_
  ·refine(Dr v n w b ok D A l W).mono ?_
   rintro e z ⟨rfl,r,f⟩;exact⟨_,rfl,X _ _ _ _ _ (ng ⟨rfl,r,f⟩ (T.far S f R O))⟩
  ·rintro e z ⟨g,rfl,y⟩;exact y
 | d ac m=>
  refine(DQ (Q:=λg z=>jC (iz (.d ac m) (kl (.d ac m) B v n c a).1 x) (iM o cq B (kl (.d ac m) B v n c a).2) F H (mW (.d ac m) c v n) w (.returned g) z) U ?_).mono ?_
  ·refine(MW v n w b ok D A l W).mono ?_
   rintro e z ⟨rfl,r,f⟩;exact⟨_,rfl,X _ _ _ _ _ (ng ⟨rfl,r,f⟩ (T.far S f R O))⟩
  ·rintro e z ⟨g,rfl,y⟩;exact y
 | t d=>
  have J:=tK.fit ok;have hd1:=J.d1;refine(DR (Q:=λg z=>jC (iz (.t d) (kl (.t d) B v n c a).1 x) (iM o cq B (kl (.t d) B v n c a).2) F H (mW (.t d) c v n) w (.returned g) z) U ?_).mono ?_
  ·by_cases P:n=0\/281474976710656 - Go.Proofs.YtdicblkhpcphfaaGreat.tot (c.s.L++c.s.W)<n
   ·refine(MJ v n w b J P).mono ?_
    rintro e z ⟨rfl,s⟩;have Y:mW (.t d) c v n=if n=0 then 4 else 6:=by
     simp only[mW]
     by_cases q:n=0
     ·rw[aH q,aH q]
     ·rw[aG q,aG q,aH (P.resolve_left q)]
    have L:kl (.t d) B v n c a=(c,a):=by
     simp only[kl];rw[aG (by rw[Y];split<;>decide)]
    rw[Y,L];exact⟨_,rfl,X c a _ _ _ (jU (jo (.t d) c p) b rfl s (T.keep S s))⟩
   ·have q:¬n=0:=λe=>P (.inl e)
    have C:¬281474976710656 - Go.Proofs.YtdicblkhpcphfaaGreat.tot (c.s.L++c.s.W)<n:=λe=>P (.inr e)
    refine(uy v n w b J aa D A aa  aa).mono ?_
    rintro e z ⟨rfl,F',r,f,V⟩;have Y:mW (.t d) c v n=0:=by simp only[mW];rw[aG q,aG C]
    have L:kl (.t d) B v n c a=({c with s:=c.s.add d v n},a):=by simp only[kl];rw[aH Y]
    rw[Y,L];refine⟨_,rfl,X _ _ _ _ _ ⟨rfl,?_,T.far S V R O,V.mono λ_ h=>.inl h⟩⟩
    exact(jo (.t d) {c with s:=c.s.add d v n} p).gr (F':=F') f r low V.size
  ·rintro e z ⟨g,rfl,y⟩;exact y
 | k q=>
  refine(DS (Q:=λg z=>jC (iz (.k q) (kl (.k q) B v n c a).1 x) (iM o cq B (kl (.k q) B v n c a).2) F H (mW (.k q) c v n) w (.returned g) z) U ?_).mono ?_
  ·have s:((n.toNat:Nat):Int)=n:=aa
   have C:=P' v n.toNat b (nt.fit ok) T R S O (nt.q0 ok) (nt.q1 ok) aa
   rw[s] at C;refine C.mono ?_
   rintro e z y;obtain⟨rfl,r,f,V⟩:=y;exact⟨_,rfl,X _ _ _ _ _ ⟨rfl,r,f,V⟩⟩
  ·rintro e z ⟨g,rfl,y⟩;exact y
def xY(w:World)(h:iz sp c x F w)(ok:je sp c):ar Oe 19 #[.pointer (some ⟨x,0,none⟩)] w (aw w (.int .u64 (rQ sp c))):=by
 obtain⟨p,G,s,r,a,X,Y,b⟩:=h
 cases sp with
 | h lo hi dg u m gr=>
  obtain⟨v,t,q,g,f,d⟩:=r;have y:=t.k7;refine(y9 s y (lN v c.l w q.rd (iG.pos ok) (by have:=iG.sum ok;omega) (by have:=iG.len ok;omega))).mono ?_
  rintro e z ⟨rfl,rfl⟩;exact⟨rfl,aC _ _⟩
 | d ac m=>
  obtain⟨V,v,t,q,g,f⟩:=r;have y:=t.k3;refine(y_ s y (lN v c.l w g.rd (iO.pos ok) (by have:=iO.sum ok;omega) (by have:=iO.len ok;omega))).mono ?_
  rintro e z ⟨rfl,rfl⟩;exact⟨rfl,aC _ _⟩
 | t d=>
  have y:=tK.fit ok;refine y' (Q:=λv z=>kR z v (c.s.L++c.s.W)) s ?_ ?_
  ·refine(Go.Proofs.YtdicblkhpcphfaaGreat.jx p G d c.s.lo c.s.hi c.s.L c.s.W w r (by have:=y.ok.len;have:=y.d1;omega)).mono ?_
   rintro e z ⟨v,rfl,q,g⟩;exact⟨v,rfl,q.rd,g⟩
  ·intro v g q
   exact hY v _ g q y.ok.ok (by have:=y.t;omega)
 | k q=>
  obtain⟨v,g,y⟩:=r;refine(za s (K.hY w y (nt.fit ok).ok.zp (nt.fit ok).ok.qj)).mono ?_
  rintro e z ⟨rfl,rfl⟩;exact⟨rfl,aC _ _⟩
def Lv(w:World)(h:iz sp c x F w)(ok:je sp c):ar Oe 41 #[.pointer (some ⟨x,0,none⟩)] w λe z=>∃v,e=.returned v/\OwnB w.heap.size z v (km sp c)/\aq w z:=by
 obtain⟨p,G,r,g,S,P,R,T⟩:=h
 cases sp with
 | h lo hi dg u m gr=>exact BG w r g ok
 | d ac m=>
  obtain⟨O,v,y,V,X,U⟩:=g;have t:=y.k1;have q:=y.k2;have f:=y.k3;exact BD (Q:=λs z=>OwnB w.heap.size z s (km (.d ac m) c)/\aq w z) r t q f ((GU v w.drew X.rd ok).mono λe z ⟨s,b,a,Y⟩=>⟨s,b,a,(aC _ _).drew.trans Y⟩)
 | t d=>
  have y:=tK.fit ok;have f:=kg.raw y.ok.ok (by have:=y.t;omega)
  refine BE (Q:=λs z=>OwnB w.heap.size z s (km (.t d) c)/\aq w z) r ?_
  exact Cy p G d c.s.lo c.s.hi c.s.L c.s.W w g y.ok.rise (λm q=>f m (dR _ q)) (λm q=>f m (dQ _ q)) (by have:=y.ok.len;have:=y.d1;omega) (by have:=y.d0;omega) (by have:=y.d1;omega) y.ok.wk y.ok.lo1 y.ok.hi0 y.ok.hi1
 | k q=>
  obtain⟨X,V,f⟩:=g;have y:=nt.fit ok;refine BF (Q:=λs z=>OwnB w.heap.size z s (km (.k q) c)/\aq w z) r f.cell0 f.cell1 f.cell2 ?_
  exact(K.NI q X c.L c.led w.drew f.PV aa (by have:=nt.q1 ok;omega) (by have:=y.ok.led;simp only at this;omega) (by have:=y.ok.qj;omega) (by have:=y.cnt (by have:=nt.q0 ok;omega) (nt.q1 ok);omega) (λj=>⟨y.ok.iJ j,nt.bd ok j⟩)).mono (λe z ⟨s,b,a,Y⟩=>⟨s,b,a,(aC _ _).drew.trans Y⟩)
def vI{p p2:Nat}{G G2:Ft}(w:World)(T:gN w x 106 (sp.cs++sp.four p).toArray)(u:qv sp c p G w)(hFx:F x)(Sa:¬G x)(j:∀k,G k->F k)(hF:∀k,F k->k<w.heap.size)
 (N:gN w y 106 (sp.cs++sp.four p2).toArray) (s:qv sp t p2 G2 w) (hxy:(p2=p/\G2=G/\t=c)\/∀k,G k->¬G2 k) (ok:je sp c) (K:je sp t) (q:iM o cq B a H w) (n:∀k,H k->¬F k) (W:o<=w.heap.size) (UJ:∀k,F k->o<=k) :
 ar Oe 16 #[.pointer (some ⟨x,0,none⟩),.pointer (some ⟨y,0,none⟩),cq] w (jC (iz sp (jK sp B t c a).1 x) (iM o cq B (jK sp B t c a).2) F H (qm sp c t) w):=by
 have M:∀k,H k->¬G k:=λk A f=>n k A (j k f)
 have L:∀k,G k->o<=k:=λk h=>UJ k (j k h)
 have i:=(jo sp c p).low u;have V:∀O J E z e r,aq w z->jC (qv sp O p) (iM o cq B J) G H E z e r->jC (iz sp O x) (iM o cq B J) F H E w e r:=λO J E z e r v g=>by
  have g:=vF (jo sp O p) v i g;obtain⟨A,f⟩:=Bh T hFx Sa j hF g.2.1 g.2.2.2 n;exact⟨g.1,A,g.2.2.1,f⟩
 have X:∀z,aq w z->qv sp c p G z:=λz v=>(jo sp c p).keep u v
 have S:∀z,aq w z->qv sp t p2 G2 z:=λz v=>(jo sp t p2).keep s v
 have P:∀z,aq w z->o<=z.heap.size:=λz v=>bf W v.size
 have R:∀z,aq w z->iM o cq B a H z:=λz v=>q.keep W v
 clear u s q
 cases sp with
 | h lo hi dg u m gr=>
  refine(Bx (Q:=λb r=>jC (iz (.h lo hi dg u m gr) (jK (.h lo hi dg u m gr) B t c a).1 x) (iM o cq B (jK (.h lo hi dg u m gr) B t c a).2) F H (qm (.h lo hi dg u m gr) c t) w (.returned b) r) T N (λz v=>?_)).mono ?_
  ·refine(Hl z (X z v) (S z v) ok K).mono ?_
   rintro e r ⟨rfl,f,Y⟩;exact⟨_,rfl,V _ _ _ z _ _ v (ng ⟨rfl,f,Y⟩ ((R z v).far (P z v) Y M L))⟩
  ·rintro e r ⟨b,rfl,g⟩;exact g
 | d ac m=>
  refine(By (Q:=λb r=>jC (iz (.d ac m) (jK (.d ac m) B t c a).1 x) (iM o cq B (jK (.d ac m) B t c a).2) F H (qm (.d ac m) c t) w (.returned b) r) T N (λz v=>?_)).mono ?_
  ·refine(JV z (X z v) (S z v) ok K).mono ?_
   rintro e r ⟨rfl,f,Y⟩;exact⟨_,rfl,V _ _ _ z _ _ v (ng ⟨rfl,f,Y⟩ ((R z v).far (P z v) Y M L))⟩
  ·rintro e r ⟨b,rfl,g⟩;exact g
 | t d=>
  have D:=tK.fit ok;have C:=tK.fit K;have hd1:=D.d1;have hxy':(p2=p/\G2=G/\t.s=c.s)\/∀k,G k->¬G2 k:=hxy.imp (λh=>⟨h.1,h.2.1,by rw[h.2.2]⟩) id
  refine(Bz (Q:=λb r=>jC (iz (.t d) (jK (.t d) B t c a).1 x) (iM o cq B (jK (.t d) B t c a).2) F H (qm (.t d) c t) w (.returned b) r) T N (λz v=>?_)).mono ?_
  ·by_cases q:281474976710656 - Go.Proofs.YtdicblkhpcphfaaGreat.tot (c.s.L++c.s.W)<Go.Proofs.YtdicblkhpcphfaaGreat.tot (t.s.L++t.s.W)\/Go.Proofs.YtdicblkhpcphfaaGreat.tot (t.s.L++t.s.W)=0
   ·refine(Ln z (X z v) (S z v) D C q).mono ?_
    rintro e r ⟨rfl,U⟩;have I:jK (.t d) B t c a=(c,a):=by
     simp only[jK]
     by_cases s:iS c.s t.s=0
     ·rw[aH s]
      have l:Go.Proofs.YtdicblkhpcphfaaGreat.tot (t.s.L++t.s.W)=0:=by
       rcases q with q|q
       ·unfold iS at s;rw[aH q] at s;cases s
       ·exact q
      have:c.s.take d t.s=c.s:=by unfold St.take;rw[aH l]
      rw[this]
     ·rw[aG s]
    rw[I];exact⟨_,rfl,V c a _ z _ _ v (jU (jo (.t d) c p) (X z v) rfl U ((R z v).keep (P z v) U))⟩
   ·have h0:¬Go.Proofs.YtdicblkhpcphfaaGreat.tot (t.s.L++t.s.W)=0:=λe=>q (.inr e)
    have h6:¬281474976710656 - Go.Proofs.YtdicblkhpcphfaaGreat.tot (c.s.L++c.s.W)<Go.Proofs.YtdicblkhpcphfaaGreat.tot (t.s.L++t.s.W):=λe=>q (.inl e)
    have hnn:=C.ok.i7;refine(sE z (X z v) (S z v) hxy' D C aa  aa  aa).mono ?_
    rintro e r ⟨rfl,F',f,Y,U⟩;have l:iS c.s t.s=0:=by unfold iS;rw[aG h6]
    have I:jK (.t d) B t c a=({c with s:=c.s.take d t.s},a):=by simp only[jK];rw[aH l]
    have e3:qm (.t d) c t=0:=l;rw[I,e3];refine⟨_,rfl,V _ _ _ z _ _ v ⟨rfl,?_,(R z v).far (P z v) U M L,U.mono λ_ h=>.inl h⟩⟩
    exact(jo (.t d) {c with s:=c.s.take d t.s} p).gr (F':=F') Y f (λk hk=>aR (i k hk) v.size) U.size
  ·rintro e r ⟨b,rfl,g⟩;exact g
 | k q=>
  refine(BA (Q:=λb r=>jC (iz (.k q) (jK (.k q) B t c a).1 x) (iM o cq B (jK (.k q) B t c a).2) F H (qm (.k q) c t) w (.returned b) r) T N (λz v=>?_)).mono ?_
  ·refine(NQ (X z v) (nt.fit ok) (S z v) (nt.fit K) (R z v) M (P z v) L (nt.q0 ok) (nt.q1 ok)).mono ?_
   rintro e r g;obtain⟨rfl,f,Y,U⟩:=g;exact⟨_,rfl,V _ _ _ z _ _ v ⟨rfl,f,Y,U⟩⟩
  ·rintro e r ⟨b,rfl,g⟩;exact g
def BH(w:World)(h:iz sp c x F w)(z:iz sp t y Fy w)(r:(y=x/\t=c)\/∀k,F k->¬Fy k)(ok:je sp c)(V:je sp t)(d:iM o cq B a H w)(b:∀k,H k->¬F k)(Y:o<=w.heap.size)(X:∀k,F k->o<=k) :
 ar Oe 16 #[.pointer (some ⟨x,0,none⟩),.pointer (some ⟨y,0,none⟩),cq] w (jC (iz sp (jK sp B t c a).1 x) (iM o cq B (jK sp B t c a).2) F H (qm sp c t) w):=by
 obtain⟨p,G,v,s,g,f,u,q⟩:=h
 rcases r with⟨rfl,rfl⟩|r
 ·exact vI w v s g f u q v s (.inl ⟨rfl,rfl,rfl⟩) ok V d b Y X
 ·obtain⟨M,Q,T,R,O,N,S,P⟩:=z
  exact vI w v s g f u q T R (.inr λk U z=>r k (u k U) (S k z)) ok V d b Y X
end
variable{Ow:Nat->Ft}{i:Nat}{F:Ft}
def vJ(Ow:Nat->Ft)(i:Nat)(F:Ft):Nat->Ft:=λj k=>if j=i then F k else Ow j k
def lH:vJ Ow i F i=F:=by funext k;unfold vJ;rw[aH rfl]
def i5{j:Nat}(h:j≠i):vJ Ow i F j=Ow j:=by funext k;unfold vJ;rw[aG h]
end D
end Go.Proofs.YtdicblkhpcphfaaGreat
