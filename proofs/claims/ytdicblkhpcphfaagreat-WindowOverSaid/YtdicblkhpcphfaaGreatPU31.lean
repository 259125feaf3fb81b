/- Parts. -/
import Derived.Test.YtdicblkhpcphfaaGreatPU30
set_option maxRecDepth 100000
set_option maxHeartbeats 0
set_option linter.all false
namespace Go.Proofs.YtdicblkhpcphfaaGreat
open Tryz Go.RowKit Go.Lib Go.Shelf
open _root_.List renaming length→ab0
open Go.IntKind renaming wrap→ad0
open _root_.Go renaming Calls→af4
open Tryz renaming prog→af5
namespace D
variable{bk dg hi lo m u:Nat}{gr:Bool}{l:List Pr}
def Ip(w:World):af4 af5 251 #[.int .u8 110] w λe z=>e=.returned (.tuple #[af6 0,.bool false])/\w=z:=by
 go_in;go_wp2;go_ret2;exact⟨rfl,rfl⟩
def Iq(w:World):af4 af5 251 #[.int .u8 87] w λe z=>e=.returned (.tuple #[af6 4,.bool true])/\w=z:=by
 go_in;go_wp2;go_ret2;exact⟨rfl,rfl⟩
def Ir(w:World):af4 af5 251 #[.int .u8 81] w λe z=>e=.returned (.tuple #[af6 8,.bool true])/\w=z:=by
 go_in;go_wp2;go_ret2;exact⟨rfl,rfl⟩
def Md(x:Int)(w:World)(P:-9223372036854775808<=x)(U:x<=9223372036854775807):af4 af5 163 #[.int .u8 110,.int .u64 (ub x)] w λe X=>∃v,e=.returned (.tuple #[v,.bool true])/\OwnB w.heap.size X v (nn x)/\af3 w X:=by
 have A:=j9 P U;have K:=λw=>ax (Ip w);have I:=ax (Ak x w P U);have z:Hid (nn x=ko 8 (oF x)):=ax rfl;rw[z.o];clear z;generalize oF x=m at *;generalize ub x=n at *;go_in;go_wp2_with (first|(go_at_call 251;refine Ix (K _).o ?_)|(go_at_call 252;refine Ix I.o ?_))
 go_loopg [8,11] 8 (λk b v wr=>∃(q:Int) (t:List Int),k+ab0 t=8/\v=.int .u64 q/\0<=q/\q<256 * 128 ^ k/\Hid (t++ko k q=ko 8 m)/\Hid (OwnB w.heap.size wr b t)/\af3 w wr)
 exact⟨m,[],rfl,rfl,A.1,aa,ax rfl,ax (hO.nil_ _ _ _ _),aC _ _⟩
 case round=>
  obtain⟨q,t,N,rfl,o,d,b,Q,O⟩:=hrel;have C:=O.size;have a:ab0 t+1<=1099511627776:=aa;obtain⟨L,B,M,_,_,_⟩:=(hO.rd Q.o).form;have⟨R,Y⟩:=ar (ab0 t);rw[Y] at M;subst M;have g:=ax (hY.1 Q.o);have c:Hid (∀(y:Int) (p:Value) (u:World),g8 bE w.heap.size u p (t++[y])->(wr.alloc (.cells #[.int .u8 y] 5)).grownBy u (Value.slice L R B).ownBlock->af3 w u):=ax (λy p u _ v=>(O.alloc C _).grown v (by simp only[aI];omega) (λk N=>(g.o.lt k N).1));by_cases D:gk=0
  .subst D
   obtain rfl:R=8:=aa;have f:q % 256=q:=by simp at d;omega
   have V:Hid (ad0 .u8 q=q):=ax f;have z:t++[q]=ko 8 m:=b.o;have r:=ax z;clear b z Y d f;have H:=V.o;by_cases S:127<q
   .go_wp2_with (at_builtin;refine oM uI rfl (.tmp 69) (.tmp 72) rfl (g.o.alloc _) rfl _ [q] rfl (iQ.ig (E:=bE) _ q _ rfl _ rfl _ ad) a ag ?_;intro p u z v _;have s:=c.o q _ u z v;have y:=ax (hY.2 z);clear z v)
    go_ret2;exact⟨_,rfl,by rw[<-r.o];exact y.o,s⟩
   .go_wp2_with (at_builtin;refine oM uI rfl (.tmp 69) (.tmp 72) rfl (g.o.alloc _) rfl _ [q] rfl (iQ.ig (E:=bE) _ q _ rfl _ rfl _ ad) a ag ?_;intro p u z v _;have s:=c.o q _ u z v;have y:=ax (hY.2 z);clear z v)
    go_ret2;exact⟨_,rfl,by rw[<-r.o];exact y.o,s⟩
  .obtain⟨r,rfl⟩:∃r,gk=r+1:=⟨gk - 1,aa⟩
   have j:((R:Int) == 8)=false:=ae;by_cases S:127<q
   .have T:=ax (nL r q S)
    have F:q / 128<256 * 128 ^ r:=cj aa (by rw[bF,<-ch];exact d);have J:=ax (show q % 128+128=128+q % 128 by omega);have l:q<18446744073709551616:=by
     have U:(128:Int) ^ (r+1)<=128 ^ 8:=by
      have G:(128:Nat) ^ (r+1)<=128 ^ 8:=bM aa  aa
      exact_mod_cast G
     omega
    clear d Y;go_wp2_with (at_builtin;refine oM uI rfl (.tmp 60) (.tmp 65) rfl (g.o.alloc _) rfl _ [128+q % 128] rfl (iQ.ig (E:=bE) _ (128+q % 128) _ rfl _ rfl _ ad) a ag ?_;intro p u z v _;have s:=c.o _ _ u z v;have y:=ax (hY.2 z);clear z v)
    go_roundg r
    exact⟨q / 128,t++[128+q % 128],ae,rfl,aa,F,ax (by rw[aN,<-b.o,T.o,J.o];rfl),y,s⟩;omega
   .have T:=ax (nM (r+1) q S)
    have f:q % 256=q:=aa;have V:Hid (ad0 .u8 q=q):=ax f;clear d Y f;have H:=V.o;go_wp2_with (at_builtin;refine oM uI rfl (.tmp 69) (.tmp 72) rfl (g.o.alloc _) rfl _ [q] rfl (iQ.ig (E:=bE) _ q _ rfl _ rfl _ ad) a ag ?_;intro p u z v _;have s:=c.o q _ u z v;have y:=ax (hY.2 z);clear z v)
    go_ret2;exact⟨_,rfl,by rw[<-b.o,T.o];exact y.o,s⟩
def E7:∀(j:Nat) (n:Int),jS (j+1) n=(n / 2 ^ (8 * j) % 256)::jS j n
 | 0,n=>by simp[jS]
 | j+1,n=>by
  have e:n / 256 / 2 ^ (8 * j)=n / 2 ^ (8 * (j+1)):=by
   rw[cS aa]
   congr 1
   rw[fX,dQ,cd];rfl
  rw[jS,E7 j (n / 256),e];rfl
def A_(K:Nat)(c n:Int)(w:World)(z:∀w,af4 af5 251 #[.int .u8 c] w λe x=>e=.returned (.tuple #[af6 K,.bool true])/\w=x)(F:0<K)(D:K<=8)(q:0<=n)(C:n<18446744073709551616)(y:n / 2 ^ (8 * K)=0):af4 af5 163 #[.int .u8 c,.int .u64 n] w λe x=>∃v,e=.returned (.tuple #[v,.bool true])/\OwnB w.heap.size x v (jS K n)/\af3 w x:=by
 have f:=λw=>ax (z w);have L:(0:Int)<(K:Int):=aa;have X:=ax y;clear z y;go_in;go_wp2_with (go_at_call 251;refine Ix (f _).o ?_)
 go_loopg [8,9,10] K (λk b v i wr=>∃j:Nat,k=K - j/\j<=K/\i=af6 j/\v=.int .u64 (n / 2 ^ (8 * j))/\Hid (OwnB w.heap.size wr b (jS j n))/\af3 w wr)
 exact⟨0,rfl,aa,rfl,ad,ax (hO.nil_ _ _ _ _),aC _ _⟩
 case round=>
  obtain⟨j,z,N,rfl,rfl,v,u⟩:=hrel;have a:=ax z;have r:=u.size;clear z;by_cases I:j<K
  .have M:(j:Int)<(K:Int):=aa
   have⟨m,y⟩:=ar (n / 2 ^ (8 * j));have H:0<=m:=by rw[<-y];exact dh q (e9 (dp aa))
   have G:m<=n:=by rw[<-y];exact fx _ q
   have b:Hid (n / 2 ^ (8 * (j+1))=m / 256):=ax (by
    rw[<-y,cS (e9 (dp aa))]
    congr 1
    rw[fX,dQ];rfl)
   have d:=ax (by rw[E7,y];rfl:jS (j+1) n=[m % 256]++jS j n);have g:=ax (by rw[show ad0 .u8 (m % 256)=m % 256 % 256 from rfl];omega:ad0 .u8 (m % 256)=m % 256);have J:=ix j n;rw[y];obtain⟨p,R,s,_,_,_⟩:=(hO.rd v.o).form;have⟨Q,t⟩:=ar (ab0 (jS j n));rw[t] at s;subst s;have S:ab0 [m % 256]+ab0 (jS j n)<=1099511627776:=ae;have Y:Hid (iQ bE (wr.alloc (.cells #[.int .u8 (m % 256)] 5)) (.slice p Q R) (jS j n)):=ax ((hY.1 v.o).alloc _).rd;have z:Hid (g8 bE wr.heap.size (wr.alloc (.cells #[.int .u8 (m % 256)] 5)) (.slice (some (af7 (wr.heap.size) 0)) 1 1) [m % 256]):=ax (g8.one (E:=bE) wr (m % 256) _ rfl _ rfl);have O:=g.o;clear y t;go_wp2_with (at_builtin;refine oM uI rfl (.tmp 29) (.tmp 30) rfl z.o rfl _ (jS j n) rfl Y.o S ag ?_;intro B P t y _;have V:=ax (hY.2 (t.more r));have U:af3 w P:=(u.alloc r _).grown y (by simp only[aI];omega) (λk T=>by have:=(g8.lt z.o k T).1;omega);clear t y)
   go_roundg (K - (j+1))
   exact⟨j+1,rfl,aa,af,by rw[b.o],by rw[d.o];exact V,U⟩;have:=a.o;omega
  .obtain rfl:j=K:=aa
   rw[X.o];go_wp2;go_ret2;exact⟨_,rfl,v.o,u⟩
def ta(c n:Int)(y:List Int)(w:World)(h:af4 af5 163 #[.int .u8 c,.int .u64 n] w λe z=>∃v,e=.returned (.tuple #[v,.bool true])/\OwnB w.heap.size z v y/\af3 w z):af4 af5 165 #[.int .u8 c,.int .u64 n] w λe z=>∃v,e=.returned v/\OwnB w.heap.size z v y/\af3 w z:=by
 have C:=ax h;clear h;go_in;go_wp21;refine WE C.o ?_;rintro u t ⟨v,x⟩;go_wp2;go_ret;exact⟨u,rfl,v,x⟩
def uj(x n:Int)(w:World)(t:n=ub x)(y:-9223372036854775808<=x)(u:x<=9223372036854775807):af4 af5 165 #[.int .u8 110,.int .u64 n] w λe z=>∃v,e=.returned v/\OwnB w.heap.size z v (nn x)/\af3 w z:=by
 subst t;exact ta 110 _ _ w (Md x w y u)
def uk(n:Int)(w:World)(y:0<=n)(x:n<4294967296):af4 af5 165 #[.int .u8 87,.int .u64 n] w λe z=>∃v,e=.returned v/\OwnB w.heap.size z v (jS 4 n)/\af3 w z:=
 ta 87 _ _ w (A_ 4 87 n w Iq aa  aa y aa (by show n / 4294967296=0;omega))
def zj(n:Int)(w:World)(y:0<=n)(x:n<18446744073709551616):af4 af5 165 #[.int .u8 81,.int .u64 n] w λe z=>∃v,e=.returned v/\OwnB w.heap.size z v (jS 8 n)/\af3 w z:=
 ta 81 _ _ w (A_ 8 81 n w Ir aa  aa y aa (by show n / 18446744073709551616=0;omega))
def pR{base:Nat}{w w1 w2:World}{v v2:Value}{bs out:List Int}(u:base<=w.heap.size)(z:af3 w w1)(x:OwnB base w v bs)(s:g8 bE base w2 v2 (bs++out))(y:w1.grownBy w2 v.ownBlock):OwnB base w2 v2 (bs++out)/\Below base w w2:=
 ⟨hY.2 s,(z.M u).grown y (aa2 z.size) (λk t=>(hO.lt x k t).1)⟩
def E8(v:Value)(w:World)(h:iQ iF w v l)(ok:jn lo hi dg u m gr bk l):af4 af5 164 #[v] w λe w'=>∃z,e=.returned z/\OwnB w.heap.size w' z (lB l)/\af3 w w':=by
 obtain⟨A,c,rfl,_,_,z⟩:=h.form;have HF:=ax z;have PB:=ax ok.pb;have hlen:=ok.len;have KB:=ax ok.kb;clear h z ok;go_in;go_wp2;go_loopg [3,4,5] (ab0 l) (λq b s i wr=>∃j:Nat,q=ab0 l - j/\j<=ab0 l/\i=af6 j/\s=af6 (py 0 (l.take j))/\Hid (OwnB w.heap.size wr b (lj (v_ 0 (l.take j))))/\af3 w wr)
 exact⟨0,rfl,aa,rfl,rfl,ax (hO.nil_ _ _ _ _),aC _ _⟩
 case round=>
  obtain⟨j,z,hj,rfl,rfl,V,P⟩:=hrel;have B:=ax z;have E:=P.size;clear z;by_cases W:j<ab0 l
  .obtain⟨y,q,rfl,Cu,g,b⟩:=j' HF.o W
   have hgr:y<wr.heap.size:=aa;have f:=ax (aB ((P.C (p:=af7 y (q+j * 2)) Cu).T g) ((P.C (p:=af7 y (q+j * 2+1)) Cu).T b));have hji:(j:Int)<(ab0 l:Int):=aa;have hbd:=PB.o _ (aP W);have hed:=Jv (l:=l.take j) (λp z=>KB.o p (cm z)) 0 aa  aa;have hnl:=tM (v_ 0 (l.take j));have hnm:=xp (l.take j) 0;have htl:ab0 (l.take j)<=16777217:=by rw[aU];omega
   have U:Hid (lj (v_ 0 (l.take (j+1)))=lj (v_ 0 (l.take j))++lj (nE (l[j].1 - py 0 (l.take j)))++nn l[j].2/\py 0 (l.take (j+1))=l[j].1+1):=ax (by
    rw[aM W,yN,vj,lC,lC,aN];refine⟨?_,rfl⟩
    congr 2
    simp[lj])
   clear g b;generalize l[j].1=x at *;generalize l[j].2=n at *;generalize py 0 (l.take j)=t at *;generalize lj (v_ 0 (l.take j))=L at *;have C:Hid (ad0 .i64 (x - t)=x - t/\ad0 .i64 (x+1)=x+1):=ax ⟨ah,ah⟩;have D:Hid (∀X:World,_):=ax (λX=>uj n n X (by unfold ub;omega) aa  aa);have hn9:=sS n;obtain⟨A8,k8,Wq,_,_,_⟩:=(hO.rd V.o).form;have⟨n8,s⟩:=ar (ab0 L);have hl8:ab0 L<=1000000000:=aa;rw[s] at Wq;subst Wq;clear s;by_cases S:x - t=1
   .have hg1:(x - t == 1)=true:=by simpa using S
    have hg2:¬1<x - t:=aa;have T:=ax (by rw[S];decide +kernel:lj (nE (x - t))=nn 0);have K:Hid (∀X:World,_):=ax (λX=>uj 0 0 X rfl aa  aa);have h09:=sS 0;rw[T.o] at U;clear S T;have I:=f.o;obtain⟨g,b⟩:=I;obtain⟨e1,e2⟩:=C.o;go_wp21;refine WE (K.o wr) ?_;rintro v1 X ⟨F,N⟩;have o:=ax F;clear F g b;generalize nn 0=Z at *;go_wp2_with (at_builtin;refine oM uI rfl (.tmp 22) (.tmp 23) rfl ((hY.1 V.o).K N) rfl _ Z rfl (hY.1 o.o).rd aa (aa2 N.size) ?_;intro v2 k M R _;have s:=ax (pR E N V.o M R);have b:=(s.o.2.C (p:=af7 y (q+j * 2+1)) (by show y<_;omega)).T f.o.2;obtain⟨A2,k2,G,_,_,_⟩:=M.form;have⟨n2,H⟩:=ar (ab0 (L++Z));rw[H] at G;subst G;clear M R)
    have hz2:=s.o.2.size;refine WE (D.o k) ?_;rintro v3 w3 ⟨O,r⟩;have J:=ax O;clear O b;have g:=(r.C (p:=af7 y (q+j * 2)) (by show y<_;omega)).T ((s.o.2.C (p:=af7 y (q+j * 2)) (by show y<_;omega)).T f.o.1);generalize nn n=Y at *;have hl2:ab0 (L++Z)<=2000000000:=by rw[aE];omega
    clear H;go_wp2_with (at_builtin;refine oM uI rfl (.tmp 34) (.tmp 40) rfl ((hY.1 s.o.1).K r) rfl _ Y rfl (hY.1 J.o).rd aa (aa2 r.size) ?_;intro i h a Q _;have d:=ax (pR aa r s.o.1 a Q);have g:=(d.o.2.C (p:=af7 y (q+j * 2)) (by show y<_;omega)).T ((s.o.2.C (p:=af7 y (q+j * 2)) (by show y<_;omega)).T f.o.1);clear a Q)
    go_roundg (ab0 l - (j+1))
    exact⟨j+1,rfl,aa,af,by rw[U.o.2],by rw[U.o.1];exact ax d.o.1,(P.T s.o.2).T d.o.2⟩;have:=B.o;omega
   .have hg1:(x - t == 1)=false:=by simpa using S
    by_cases R:1<x - t
    .have T:=ax (by unfold nE;rw[aF S,aH R];simp[lj]:lj (nE (x - t))=nn (-(x - t)))
     have EU:Hid (ad0 .i64 (x - t - 1)=x - t - 1/\ad0 .u64 (x - t - 1)=x - t - 1/\ad0 .u64 (18446744073709551615 - (x - t - 1))=18446744073709551615 - (x - t - 1)):=ax ⟨ah,by rw[iy];omega,by rw[iy];omega⟩;have K:Hid (∀X:World,_):=ax (λX=>uj (-(x - t)) (18446744073709551615 - (x - t - 1)) X (by unfold ub;omega) aa  aa);have h09:=sS (-(x - t));rw[T.o] at U;clear S T;have I:=f.o;obtain⟨g,b⟩:=I;obtain⟨e1,e2⟩:=C.o;obtain⟨e3,e4,e5⟩:=EU.o;go_wp21;refine WE (K.o wr) ?_;rintro v1 X ⟨F,N⟩;have o:=ax F;clear F g b e3 e4 e5;generalize nn (-(x - t))=Z at *;go_wp2_with (at_builtin;refine oM uI rfl (.tmp 27) (.tmp 32) rfl ((hY.1 V.o).K N) rfl _ Z rfl (hY.1 o.o).rd aa (aa2 N.size) ?_;intro v2 k M R _;have s:=ax (pR E N V.o M R);have b:=(s.o.2.C (p:=af7 y (q+j * 2+1)) (by show y<_;omega)).T f.o.2;obtain⟨A2,k2,G,_,_,_⟩:=M.form;have⟨n2,H⟩:=ar (ab0 (L++Z));rw[H] at G;subst G;clear M R)
     have hz2:=s.o.2.size;refine WE (D.o k) ?_;rintro v3 w3 ⟨O,r⟩;have J:=ax O;clear O b;have g:=(r.C (p:=af7 y (q+j * 2)) (by show y<_;omega)).T ((s.o.2.C (p:=af7 y (q+j * 2)) (by show y<_;omega)).T f.o.1);generalize nn n=Y at *;have hl2:ab0 (L++Z)<=2000000000:=by rw[aE];omega
     clear H;go_wp2_with (at_builtin;refine oM uI rfl (.tmp 34) (.tmp 40) rfl ((hY.1 s.o.1).K r) rfl _ Y rfl (hY.1 J.o).rd aa (aa2 r.size) ?_;intro i h a Q _;have d:=ax (pR aa r s.o.1 a Q);have g:=(d.o.2.C (p:=af7 y (q+j * 2)) (by show y<_;omega)).T ((s.o.2.C (p:=af7 y (q+j * 2)) (by show y<_;omega)).T f.o.1);clear a Q)
     go_roundg (ab0 l - (j+1))
     exact⟨j+1,rfl,aa,af,by rw[U.o.2],by rw[U.o.1];exact ax d.o.1,(P.T s.o.2).T d.o.2⟩;have:=B.o;omega
    .have T:=ax (by unfold nE;rw[aF S,aF R];rfl:lj (nE (x - t))=[])
     rw[T.o,bP] at U;clear S T;have I:=f.o;obtain⟨g,b⟩:=I;obtain⟨e1,e2⟩:=C.o;go_wp21;refine WE (D.o wr) ?_;rintro v3 w3 ⟨O,r⟩;have J:=ax O;clear O;have g:=(r.C (p:=af7 y (q+j * 2)) hgr).T f.o.1;generalize nn n=Y at *;go_wp2_with (at_builtin;refine oM uI rfl (.tmp 34) (.tmp 40) rfl ((hY.1 V.o).K r) rfl _ Y rfl (hY.1 J.o).rd aa (aa2 r.size) ?_;intro i h a Q _;have d:=ax (pR E r V.o a Q);have g:=(d.o.2.C (p:=af7 y (q+j * 2)) (by show y<_;omega)).T f.o.1;clear a Q)
     go_roundg (ab0 l - (j+1))
     exact⟨j+1,rfl,aa,af,by rw[U.o.2],by rw[U.o.1];exact ax d.o.1,P.T d.o.2⟩;have:=B.o;omega
  .obtain rfl:j=ab0 l:=aa
   have y:=V;rw[bc (aD _)] at y;clear V;by_cases z:ab0 l=0
   .have e:l=[]:=aV z
    subst e;have K:=ax (uj 0 0 wr rfl aa  aa);go_wp21;refine WE K.o ?_;rintro i h ⟨a,x⟩;go_wp2;go_ret;exact⟨_,rfl,by rw[show lB []=nn 0 by decide +kernel];exact hO.lift a (λk t=>by have:=(hO.lt a k t).1;omega),P.T (x.M E)⟩
   .have t:((ab0 l:Int) == 0)=false:=by simpa using z
    go_wp2;go_ret;have x:l≠[]:=λe=>z (by rw[e];rfl);exact⟨_,rfl,by unfold lB As;rw[aF x];exact y.o,P⟩
def Ch(v:Value)(w:World)(h:iQ iF w v l)(ok:jn lo hi dg u m gr bk l):af4 af5 96 #[af6 lo,af6 (iv u m hi bk),af6 dg,v] w λe C=>∃z,e=.returned z/\OwnB w.heap.size C z (hwB lo (iv u m hi bk) dg l)/\af3 w C:=by
 have B:=ax (E8 v w h ok);have hrb:=Eg ok.sh ok.b1 (bk:=bk);have hcl:=mY l;have hll:=ok.len;have hlo:lo<=9223372036854775807:=by have:=ok.sh.h0;have:=ok.sh.h1;omega
 have hdg:=ok.sh.d1;generalize iv u m hi bk=R at *;have z:Hid (hwB lo R dg l=jS 4 478450451++jS 4 (ab0 (lB l))++jS 4 0++jS 4 dg++jS 8 lo++jS 8 R++jS 8 4607182418800017408++lB l):=ax rfl;rw[z.o];clear z h ok;generalize lB l=S at *;have⟨N,y⟩:=ar (ab0 S);have Q:=ax y;rw[y] at hcl |-;clear y;have EU:Hid (ad0 .u64 (N:Int)=(N:Int)/\ad0 .u64 (dg:Int)=(dg:Int)/\ad0 .u64 (lo:Int)=(lo:Int)/\ad0 .u64 (R:Int)=(R:Int)):=ax ⟨by rw[iy];omega,by rw[iy];omega,by rw[iy];omega,by rw[iy];omega⟩
 have A:Hid (∀z,_):=ax (λz=>uk 478450451 z aa  aa);have L0:=ix 4 478450451;have j:Hid (∀z,_):=ax (λz=>uk (N:Int) z aa  aa);have L1:=ix 4 (N:Int);have o:Hid (∀z,_):=ax (λz=>uk 0 z aa  aa);have L2:=ix 4 0;have n:Hid (∀z,_):=ax (λz=>uk (dg:Int) z aa  aa);have L3:=ix 4 (dg:Int);have W:Hid (∀z,_):=ax (λz=>zj (lo:Int) z aa  aa);have L4:=ix 8 (lo:Int);have i:Hid (∀z,_):=ax (λz=>zj (R:Int) z aa  aa);have L5:=ix 8 (R:Int);have h:Hid (∀z,_):=ax (λz=>zj 4607182418800017408 z aa  aa);have L6:=ix 8 4607182418800017408;obtain⟨e1,e2,e3,e4⟩:=EU.o;generalize jS 4 478450451=X0 at *;generalize jS 4 (N:Int)=X1 at *;generalize jS 4 0=X2 at *;generalize jS 4 (dg:Int)=X3 at *;generalize jS 8 (lo:Int)=X4 at *;generalize jS 8 (R:Int)=X5 at *;generalize jS 8 4607182418800017408=X6 at *;go_in;go_wp21;refine WE B.o ?_;rintro vc z ⟨x,U⟩;have OC:=ax x;obtain⟨Ac,kc,O,_,_,_⟩:=(hO.rd x).form;rw[Q.o] at O;subst O;clear x;have P:Hid (OwnB z.heap.size z (.slice none 0 0) []):=ax (hO.nil_ _ _ _ _);have L:af3 z z:=aC _ _;have hz0:=L.size;go_wp21;refine WE (A.o z) ?_;rintro va0 wa0 ⟨x,d⟩;have OA0:=ax x;clear x;go_wp2_with (at_builtin;refine oM uI rfl (.tmp 13) (.tmp 14) rfl ((hY.1 P.o).K d) rfl _ X0 rfl (hY.1 OA0.o).rd (by simp only[aE,aY];omega) (aa2 d.size) ?_;intro vb0 wb0 s x _;have t:=ax (pR hz0 d P.o s x);clear s x)
 have K:=L.T t.o.2;have hz1:=K.size
 skip
 refine WE (j.o wb0) ?_;rintro va1 wa1 ⟨x,c⟩;have OA1:=ax x;clear x;go_wp2_with (at_builtin;refine oM uI rfl (.tmp 16) (.tmp 20) rfl ((hY.1 t.o.1).K c) rfl _ X1 rfl (hY.1 OA1.o).rd (by simp only[aE,aY];omega) (aa2 c.size) ?_;intro vb1 wb1 r x _;have s:=ax (pR hz1 c t.o.1 r x);clear r x)
 have J:=K.T s.o.2;have hz2:=J.size
 skip
 refine WE (o.o wb1) ?_;rintro va2 wa2 ⟨x,b⟩;have OA2:=ax x;clear x;go_wp2_with (at_builtin;refine oM uI rfl (.tmp 22) (.tmp 23) rfl ((hY.1 s.o.1).K b) rfl _ X2 rfl (hY.1 OA2.o).rd (by simp only[aE,aY];omega) (aa2 b.size) ?_;intro vb2 wb2 q x _;have r:=ax (pR hz2 b s.o.1 q x);clear q x)
 have I:=J.T r.o.2;have hz3:=I.size
 skip
 refine WE (n.o wb2) ?_;rintro va3 wa3 ⟨x,a⟩;have OA3:=ax x;clear x;go_wp2_with (at_builtin;refine oM uI rfl (.tmp 25) (.tmp 28) rfl ((hY.1 r.o.1).K a) rfl _ X3 rfl (hY.1 OA3.o).rd (by simp only[aE,aY];omega) (aa2 a.size) ?_;intro vb3 wb3 p x _;have q:=ax (pR hz3 a r.o.1 p x);clear p x)
 have H:=I.T q.o.2;have Gp:=H.size
 skip
 refine WE (W.o wb3) ?_;rintro va4 wa4 ⟨x,Y⟩;have OA4:=ax x;clear x;go_wp2_with (at_builtin;refine oM uI rfl (.tmp 30) (.tmp 33) rfl ((hY.1 q.o.1).K Y) rfl _ X4 rfl (hY.1 OA4.o).rd (by simp only[aE,aY];omega) (aa2 Y.size) ?_;intro vb4 wb4 g x _;have p:=ax (pR Gp Y q.o.1 g x);clear g x)
 have G:=H.T p.o.2;have IZ:=G.size
 skip
 refine WE (i.o wb4) ?_;rintro va5 wa5 ⟨x,X⟩;have OA5:=ax x;clear x;go_wp2_with (at_builtin;refine oM uI rfl (.tmp 35) (.tmp 38) rfl ((hY.1 p.o.1).K X) rfl _ X5 rfl (hY.1 OA5.o).rd (by simp only[aE,aY];omega) (aa2 X.size) ?_;intro vb5 wb5 f x _;have g:=ax (pR IZ X p.o.1 f x);clear f x)
 have F:=G.T g.o.2;have UU:=F.size
 skip
 refine WE (h.o wb5) ?_;rintro va6 wa6 ⟨x,V⟩;have OA6:=ax x;clear x;go_wp2_with (first|(at_builtin;refine oM uI rfl (.tmp 40) (.tmp 41) rfl ((hY.1 g.o.1).K V) rfl _ X6 rfl (hY.1 OA6.o).rd (by simp only[aE,aY];omega) (aa2 V.size) ?_;intro vb6 wb6 T x _;have f:=ax (pR UU V g.o.1 T x);clear T x;have T:=F.T f.o.2;have OC9:=ax (hO.K OC.o T);have E:=T.size;have y:=Q.o)|(at_builtin;refine oM uI rfl (.tmp 43) (.tmp 44) rfl (hY.1 f.o.1) rfl _ S rfl (hY.1 OC9.o).rd (by simp only[aE,aY];omega) E ?_;intro v9 w9 D M _;have x:=ax (pR E (aC _ _) f.o.1 D M);clear D M))
 go_ret;refine⟨_,rfl,?_,U.T ((T.T x.o.2).M U.size)⟩;have:=hO.lift x.o.1 (base':=w.heap.size) (λk M=>by have:=(hO.lt x.o.1 k M).1;have:=U.size;omega);unfold OwnB;simpa using this
def Is(c n x:Int)(z:Nat)(vb:Value)(y:List Int)(w:World)(d:z<=w.heap.size)(t:OwnB z w vb y)(T:ab0 y<=1000000000000)(s:(c=118/\x=n/\0<=n/\n<18446744073709551616)\/(c=122/\n=ub x/\-9223372036854775808<=x/\x<=9223372036854775807)):af4 af5 95 #[vb,.int .u8 c,.int .u64 n] w λe r=>∃v,e=.returned v/\OwnB z r v (y++(if c=118 then il x else zg x))/\Below z w r:=by
 have u:=ax t;have q:=ax (tB c n x w s);have S:ab0 (if c=118 then il x else zg x)<=10:=by split;exact(hM _).2;exact(hM _).2
 generalize (if c=118 then il x else zg x)=Y at *;clear t s;go_in;go_wp21;refine WE q.o ?_;rintro X Q ⟨t,v⟩;have p:=ax t;have R:=v.size;clear t
 go_wp2_with (first
  | (at_builtin
     go_must (refine kv rfl (.tmp 15) (.tmp 16) rfl z vb y rfl (hO.K u.o v) X Y rfl (hO.rd p.o) aa  aa ?_)
     intro V U s t f;have b:Below z w U:=(v.M d).grown t aa (λk a=>(hO.lt u.o k a).1);have g:=ax s;clear s t f))
 go_ret;exact⟨V,rfl,g.o,b⟩
def zk(n:Int)(z:Nat)(vb:Value)(y:List Int)(w:World)(t:z<=w.heap.size)(u:OwnB z w vb y)(s:ab0 y<=1000000000000)(r:0<=n)(q:n<18446744073709551616):af4 af5 95 #[vb,.int .u8 118,.int .u64 n] w λe x=>∃v,e=.returned v/\OwnB z x v (y++il n)/\Below z w x:=by
 have h:=Is 118 n n z vb y w t u s (.inl ⟨rfl,rfl,r,q⟩)
 rwa [aH rfl] at h
section
variable {y p : Nat} {p1 p2 p3 p4 : Value} {w : World} {Q : Value -> World -> Prop} {lo hi dg ac sz n : Int} {gr : Bool} {v va vb : Value}
def Ci(z:g7 w y 106 #[.int .u8 1,af6 lo,af6 hi,af6 dg,.bool gr,af6 ac,af6 sz,aq p,p2,p3,p4])(s:w.cell? (af7 p 7)=some v)(h:af4 af5 59 #[v] w λe x=>e=.returned (.int .u64 n)/\w=x):af4 af5 19 #[aq y] w λe x=>e=.returned (.int .u64 n)/\w=x:=by
 have C:=ax h;have u:=z.k0;have t:=z.k7;clear h z;go_in;go_wp21;refine Ix C.o ?_;go_wp2;go_ret;exact⟨rfl,rfl⟩
def Cj(z:g7 w y 106 #[.int .u8 2,af6 lo,af6 hi,af6 dg,.bool gr,af6 ac,af6 sz,p1,aq p,p3,p4])(s:w.cell? (af7 p 3)=some v)(h:af4 af5 59 #[v] w λe x=>e=.returned (.int .u64 n)/\w=x):af4 af5 19 #[aq y] w λe x=>e=.returned (.int .u64 n)/\w=x:=by
 have C:=ax h;have u:=z.k0;have t:=z.k8;clear h z;go_in;go_wp21;refine Ix C.o ?_;go_wp2;go_ret;exact⟨rfl,rfl⟩
def Ck(u:g7 w y 106 #[.int .u8 3,af6 lo,af6 hi,af6 dg,.bool gr,af6 ac,af6 sz,p1,p2,p3,p4])(h:af4 af5 61 #[p3] w λe z=>∃v,e=.returned v/\Q v z/\af3 w z)(t:∀v x,Q v x->af4 af5 60 #[v] x λe z=>e=.returned (.int .u64 n)/\af3 x z):af4 af5 19 #[aq y] w (au w (.int .u64 n)):=by
 have C:=ax h;have r:=ax t;have q:=u.k0;have p:=u.k9;clear h t u;go_in;go_wp21;refine WE C.o ?_;rintro v x ⟨s,t⟩;have u:=ax t;have D:=ax (r.o v x s);clear s t;go_wp21;refine RX D.o ?_;intro g t;have s:=ax (u.o.T (t.M u.o.size));clear t;go_wp2;go_ret;exact⟨rfl,s.o⟩
def Cl(z:g7 w y 106 #[.int .u8 4,af6 lo,af6 hi,af6 dg,.bool gr,af6 ac,af6 sz,p1,p2,p3,p4])(h:af4 af5 62 #[p4] w λe x=>e=.returned (.int .u64 n)/\w=x):af4 af5 19 #[aq y] w λe x=>e=.returned (.int .u64 n)/\w=x:=by
 have C:=ax h;have v:=z.k0;have u:=z.k10;clear h z;go_in;go_wp21;refine Ix C.o ?_;go_wp2;go_ret;exact⟨rfl,rfl⟩
def E9(u:g7 w y 106 #[.int .u8 2,af6 lo,af6 hi,af6 dg,.bool gr,af6 ac,af6 sz,p1,aq p,p3,p4])(t:w.cell? (af7 p 1)=some va)(s:w.cell? (af7 p 2)=some vb)(r:w.cell? (af7 p 3)=some v)(h:af4 af5 98 #[va,vb,v] w.drew λe z=>∃v,e=.returned v/\Q v z):af4 af5 41 #[aq y] w λe z=>∃v,e=.returned v/\Q v z:=by
 have C:=ax h;have g:=u.k0;have x:=u.k8;clear h u;go_in;go_upto_region 11 with fail;refine kr (λz=>z=w.drew) 21 (hQ 0 21 []) (rfl) ?_;iterate 21 refine jG (h:=λz u=>by subst u;have x:w.drew.cell? (af7 y 8)=_:=x;have t:w.drew.cell? (af7 p 1)=some va:=t;have s:w.drew.cell? (af7 p 2)=some vb:=s;have r:w.drew.cell? (af7 p 3)=some v:=r;exact af8) ?_
 refine hN ?_;simp only[aX,bj];go_wp21;refine WE C.o ?_;intro v f u;have q:=ax u;clear u;go_wp21;try refine g6 ?_
 go_wp2;go_ret;exact⟨_,rfl,q.o⟩
def E_(z:g7 w y 106 #[.int .u8 3,af6 lo,af6 hi,af6 dg,.bool gr,af6 ac,af6 sz,p1,p2,p3,p4])(h:af4 af5 99 #[p3] w λe x=>∃v,e=.returned v/\Q v x):af4 af5 41 #[aq y] w λe x=>∃v,e=.returned v/\Q v x:=by
 have C:=ax h;have t:=z.k0;have s:=z.k9;clear h z;go_in;go_wp21;refine WE C.o ?_;intro v r z;have u:=ax z;clear z;go_wp2;go_ret;exact⟨_,rfl,u.o⟩
def E'(u:g7 w y 106 #[.int .u8 4,af6 lo,af6 hi,af6 dg,.bool gr,af6 ac,af6 sz,p1,p2,p3,aq p])(t:w.cell? (af7 p 0)=some va)(s:w.cell? (af7 p 1)=some v)(r:w.cell? (af7 p 2)=some vb)(h:af4 af5 100 #[va,v,vb] w.drew λe z=>∃v,e=.returned v/\Q v z):af4 af5 41 #[aq y] w λe z=>∃v,e=.returned v/\Q v z:=by
 have C:=ax h;have g:=u.k0;have x:=u.k10;clear h u;go_in;go_upto_region 14 with fail;refine kr (λz=>z=w.drew) 21 (hQ 0 21 []) (rfl) ?_;iterate 21 refine jG (h:=λz u=>by subst u;have x:w.drew.cell? (af7 y 10)=_:=x;have t:w.drew.cell? (af7 p 0)=some va:=t;have s:w.drew.cell? (af7 p 1)=some v:=s;have r:w.drew.cell? (af7 p 2)=some vb:=r;exact af8) ?_
 refine hN ?_;simp only[aX,bj];go_wp21;refine WE C.o ?_;intro v f u;have q:=ax u;clear u;go_wp21;try refine g6 ?_
 go_wp2;go_ret;exact⟨_,rfl,q.o⟩
end
def Fa{y p lo hi dg u m bk:Nat}{gr:Bool}{l:List Pr}{G:Ft}(w:World)(f:g7 w y 106 #[.int .u8 1,af6 lo,af6 hi,af6 dg,.bool gr,af6 0,af6 0,aq p,.pointer none,.pointer none,.pointer none])(h:pw p lo hi dg u m gr bk l G w)(ok:jn lo hi dg u m gr bk l):af4 af5 41 #[aq y] w λe t=>∃v,e=.returned v/\OwnB w.heap.size t v (hjB lo hi dg (iv u m hi bk) gr l)/\af3 w t:=by
 have S:=nZ p lo hi dg u m gr bk l;obtain⟨vL,c,b,_,_,_⟩:=id h;have O:=ax f;have o:=ax c;have C1:Hid (∀z,af3 w z->_):=ax (λz x=>KD z (S.K h x) ok.sh ok.b0 ok.b1);have C2:Hid (∀z,af3 w z->_):=ax (λz x=>Ch vL z (b.rd.K x) ok);have hlo:lo<=9223372036854775807:=by have:=ok.sh.h0;have:=ok.sh.h1;omega
 have hhi:=ok.sh.h1;have hdg:=ok.sh.d1;have hwl:=rT lo (iv u m hi bk) dg l;have hcl:=mY l;have hll:=ok.len;have hl1:=hM (lo:Int);have hl2:=hM (hi:Int);have hl3:=hM (dg:Int);have HG:=ax (BX gr);have d:Hid (hjB lo hi dg (iv u m hi bk) gr l=il lo++il hi++il dg++[Ei gr]++hwB lo (iv u m hi bk) dg l):=ax rfl;rw[d.o];have A:Hid (ad0 .u64 (lo:Int)=(lo:Int)/\ad0 .u64 (hi:Int)=(hi:Int)/\ad0 .u64 (dg:Int)=(dg:Int)):=ax ⟨by rw[iy];omega,by rw[iy];omega,by rw[iy];omega⟩;have V:Hid (∀(x:Nat) (r:Value) (s:List Int) (z:World),x<=z.heap.size->OwnB x z r s->ab0 s<=1000000000000->_):=ax (λx r s z q g v=>zk (lo:Int) x r s z q g v aa  aa);have U:Hid (∀(x:Nat) (r:Value) (s:List Int) (z:World),x<=z.heap.size->OwnB x z r s->ab0 s<=1000000000000->_):=ax (λx r s z q g v=>zk (hi:Int) x r s z q g v aa  aa);have N:Hid (∀(x:Nat) (r:Value) (s:List Int) (z:World),x<=z.heap.size->OwnB x z r s->ab0 s<=1000000000000->_):=ax (λx r s z q g v=>zk (dg:Int) x r s z q g v aa  aa);obtain⟨r,Y,Q,X⟩:=f.c4;clear d S h ok f c b;generalize Ei gr=D at *;generalize il (lo:Int)=d at *;generalize il (hi:Int)=a at *;generalize il (dg:Int)=S at *;generalize hwB (lo:Int) (iv u m hi bk) dg l=HW at *;generalize iv u m hi bk=R at *;have⟨b,x⟩:=ar (w.heap.size);have⟨F,q⟩:=ar ((w.alloc (.cells #[af6 0,af6 0,af6 0] 31)));have g:af3 w F:=by rw[<-q];exact bw
 have s:Hid (g7 F b 31 #[af6 0,af6 0,af6 0]):=by rw[<-q,<-x];exact ax (g7.new _ _ _)
 obtain⟨f,c,T⟩:=s.o.c3;have P:=s.o.F 0;have M:=s.o.F 1;have L:=s.o.F 2;have j:=ax x;clear x;go_in;have x:=j.o;go_upto_region 4 with fail;clear f c T P M L r Y Q X x;have⟨x,r⟩:=ar (((F.setCell (af7 b 0) (af6 lo)).setCell (af7 b 1) (af6 hi)).setCell (af7 b 2) (af6 dg));try rw[q]
 rw[r];have M:w.heap.size<=b:=by have:=j.o;omega
 have C:Hid (g7 x b 31 #[af6 lo,af6 hi,af6 dg]):=by rw[<-r];exact ax (((s.o.hJ 0 _).hJ 1 _).hJ 2 _)
 have v:af3 w x:=by rw[<-r];exact((g.setCell (p:=af7 b 0) M _).setCell (p:=af7 b 1) M _).setCell (p:=af7 b 2) M _
 clear r q s g;have f:af3 x x.drew:=(aC _ _).drew;have g:=C.o.lt;obtain⟨s,r,c⟩:=C.o.c3;have q:=ax (aB s (aB r c));clear s r c;refine jh (af3 x) (hQ 0 3 (hQ 4 3 (hQ 8 3 (ik 3 (ik 7 (ik 11 (hQ 12 1 []))))))) (f) ?_;iterate 9 refine ib (h:=λt r=>by obtain⟨e1,e2,e3⟩:=A.o;have J:t.cell? (af7 b 0)=some (af6 lo):=(r.C (p:=af7 b 0) g).T q.o.1;have j1:t.cell? (af7 b 1)=some (af6 hi):=(r.C (p:=af7 b 1) g).T q.o.2.1;have I:t.cell? (af7 b 2)=some (af6 dg):=(r.C (p:=af7 b 2) g).T q.o.2.2;exact af8) ?_
 refine iz λK s=>?_;go_simp;refine WE (V.o x.heap.size (.slice none 0 0) [] x.drew f.size (hO.nil_ _ _ _ _) ad) ?_;rintro v4 w4 ⟨Y,B⟩;have c:af3 x w4:=f.T B;have H:=ax Y;clear Y;refine s _ _ (c) ?_;refine iz λK s=>?_;go_simp;refine WE (U.o x.heap.size v4 ([]++d) w4 c.size H.o ae) ?_;rintro v5 w5 ⟨X,n⟩;have Y:af3 x w5:=c.T n;have E:=ax X;clear X;refine s _ _ (Y) ?_;refine iz λK s=>?_;go_simp;refine WE (N.o x.heap.size v5 ([]++d++a) w5 Y.size E.o ae) ?_;rintro v6 P ⟨L,W⟩;have X:af3 x P:=Y.T W;have T:=ax L;clear L;refine s _ _ (X) ?_;refine ib (h:=λt r=>by obtain⟨e1,e2,e3⟩:=A.o;have J:t.cell? (af7 b 0)=some (af6 lo):=(r.C (p:=af7 b 0) g).T q.o.1;have j1:t.cell? (af7 b 1)=some (af6 hi):=(r.C (p:=af7 b 1) g).T q.o.2.1;have I:t.cell? (af7 b 2)=some (af6 dg):=(r.C (p:=af7 b 2) g).T q.o.2.2;exact af8) ?_;refine g4 ?_;have L:([]:List Int)++d++a++S=d++a++S:=ad;rw[L] at T;have B6w:af3 w P:=v.T (X.M v.size);have Q:P.cell? (af7 y 4)=_:=(O.o.K B6w).C 4;simp only[az,ay,aA] at Q;have ZG:=X.size;have lX:ab0 (d++a++S)<=30:=by simp only[aE];omega
 clear V U N c Y H E L B n W;have⟨XX,c⟩:=ar (d++a++S);rw[c] at T lX;have ZH:=ax c;clear c;rcases HG.o with⟨rfl,c⟩|⟨rfl,c⟩
 all_goals
  have HD:=ax c;clear c;go_wp2_with (at_builtin;refine oM uI rfl (.tmp 35) (.tmp 37) rfl ((hY.1 T.o).alloc _) rfl _ [_] rfl (g8.one (E:=bE) P _ _ rfl _ rfl).rd ae (by rw[aI];omega) ?_;intro v7 H V Y _;have N:=ax V;have B7:af3 x H:=((X.alloc ZG _).grown Y (by rw[aI];omega) (λk L=>(T.o.lt k L).1));clear V Y)
  have c:=HD.o;rw[<-c] at N;clear c;have⟨Z7,Y⟩:=ar (XX++[D]);have hl7:ab0 Z7<=31:=by rw[<-Y];simp;omega
  rw[Y] at N;have HZ7:=ax Y;clear Y Q;have ly:=O.o.lt;have lp:=o.o.lt;have z:=O.o.k7;have Y:=o.o.k7;have U:=ax (aB z Y);clear z Y;have f:af3 x H.drew:=B7.drew;have ZI:=v.size;go_upto_region 9 with fail;refine jh (af3 x) (hQ 0 7 (hQ 8 9 (ik 7 (ik 17 (ik 18 (hQ 19 1 [])))))) (f) ?_;iterate 16 refine ib (h:=λt r=>by have z:af3 w t:=v.T (r.M v.size);have k7:t.cell? (af7 y 7)=_:=(z.C (p:=af7 y 7) ly).T U.o.1;have l7:t.cell? (af7 p 7)=_:=(z.C (p:=af7 p 7) lp).T U.o.2;have J:t.cell? (af7 b 0)=some (af6 lo):=(r.C (p:=af7 b 0) g).T q.o.1;have I:t.cell? (af7 b 2)=some (af6 dg):=(r.C (p:=af7 b 2) g).T q.o.2.2;exact af8) ?_
  refine iz λK s=>?_;go_simp;refine RX (C1.o H.drew (v.T (f.M v.size))) ?_;intro w8 i;have Y:af3 x w8:=f.T (i.M f.size);have O8:=ax ((N.o.drew).K i);refine s _ _ (Y) ?_;refine iz λK s=>?_;go_simp;refine WE (C2.o w8 (v.T (Y.M v.size))) ?_;rintro v9 w9 ⟨B,h9⟩;have V:af3 x w9:=Y.T (h9.M Y.size);have OH:=ax (hY.1 B);have n:=ax (O8.o.K h9);clear B;refine s _ _ (V) ?_;refine iz λK s=>?_;refine yq uI (.tmp 39) (.tmp 56) rfl n.o rfl _ HW rfl OH.o.rd aa V.size ?_;intro vA wA oA W _;have B:af3 x wA:=V.grown W V.size (λk L=>(n.o.lt k L).1);have L:=ax (hY.2 (oA.more ZI));clear oA W;go_simp;refine s _ _ (B) ?_;refine ib (h:=λt r=>by have z:af3 w t:=v.T (r.M v.size);have k7:t.cell? (af7 y 7)=_:=(z.C (p:=af7 y 7) ly).T U.o.1;have l7:t.cell? (af7 p 7)=_:=(z.C (p:=af7 p 7) lp).T U.o.2;have J:t.cell? (af7 b 0)=some (af6 lo):=(r.C (p:=af7 b 0) g).T q.o.1;have I:t.cell? (af7 b 2)=some (af6 dg):=(r.C (p:=af7 b 2) g).T q.o.2.2;exact af8) ?_;refine g4 ?_;go_wp2;go_ret;have r:=L.o;rw[<-HZ7.o,<-ZH.o] at r;exact⟨_,rfl,r,v.T (B.M v.size)⟩
section
variable {sp : ie} {c t : Js} {x y a o : Nat} {F Fy H : Ft} {cq : Value} {B : List Int}
def RU(v n:Int)(w:World)(h:iH sp c x F w)(ok:im sp c)(T:iI o cq B a H w)(j:∀k,H k->¬F k)(S:o<=w.heap.size)(Ws:∀k,F k->o<=k)(D:-9223372036854775808<=v)(A:v<=9223372036854775807)(l:0<=n)(W:n<18446744073709551616):af4 af5 37 #[aq x,af6 v,.int .u64 n,cq] w (jx (iH sp (ki sp B v n c a).1 x) (iI o cq B (ki sp B v n c a).2) F H (mH sp c v n) w):=by
 obtain⟨p,G,U,b,hFx,Wc,E,i⟩:=h;have R:∀k,H k->¬G k:=λk I r=>j k I (E k r);have X:∀M N K e z,jx (rr sp M p) (iI o cq B N) G H K w e z->jx (iH sp M x) (iI o cq B N) F H K w e z:=λM N K e z y=>by
  obtain⟨I,r⟩:=Et U hFx Wc E i y.2.1 y.2.2.2 j;exact⟨y.1,I,y.2.2.1,r⟩
 have O:∀k,G k->o<=k:=λk h=>Ws k (E k h);have low:=(kB sp c p).low b;cases sp with
 | h lo hi dg u m gr=>
  refine(Ik (Q:=λg z=>jx (iH (.h lo hi dg u m gr) (ki (.h lo hi dg u m gr) B v n c a).1 x) (iI o cq B (ki (.h lo hi dg u m gr) B v n c a).2) F H (mH (.h lo hi dg u m gr) c v n) w (.returned g) z) U ?_).M ?_
  .refine RX (Hn v n w b ok D A l W) ?_
   rintro z ⟨r,f⟩;exact⟨_,rfl,X _ _ _ _ _ (oS ⟨rfl,r,f⟩ (T.far S f R O))⟩
  .rintro e z ⟨g,rfl,y⟩;exact y
 | d ac m=>
  refine(Il (Q:=λg z=>jx (iH (.d ac m) (ki (.d ac m) B v n c a).1 x) (iI o cq B (ki (.d ac m) B v n c a).2) F H (mH (.d ac m) c v n) w (.returned g) z) U ?_).M ?_
  .refine RX (QN v n w b ok D A l W) ?_
   rintro z ⟨r,f⟩;exact⟨_,rfl,X _ _ _ _ _ (oS ⟨rfl,r,f⟩ (T.far S f R O))⟩
  .rintro e z ⟨g,rfl,y⟩;exact y
 | t d=>
  have J:=th.fit ok;have hd1:=J.d1;refine(Im (Q:=λg z=>jx (iH (.t d) (ki (.t d) B v n c a).1 x) (iI o cq B (ki (.t d) B v n c a).2) F H (mH (.t d) c v n) w (.returned g) z) U ?_).M ?_
  .by_cases P:n=0\/281474976710656 - Go.Proofs.YtdicblkhpcphfaaGreat.tot (c.s.L++c.s.W)<n
   .refine RX (Qj v n w b J P) ?_
    intro z s;have Y:mH (.t d) c v n=if n=0 then 4 else 6:=by
     simp only[mH];by_cases q:n=0
     .rw[aH q,aH q]
     .rw[aF q,aF q,aH (P.resolve_left q)]
    have L:ki (.t d) B v n c a=(c,a):=by
     simp only[ki];rw[aF (by rw[Y];split<;>decide)]
    rw[Y,L];exact⟨_,rfl,X c a _ _ _ (kD (kB (.t d) c p) b rfl s (T.K S s))⟩
   .have q:¬n=0:=λe=>P (.inl e)
    have C:¬281474976710656 - Go.Proofs.YtdicblkhpcphfaaGreat.tot (c.s.L++c.s.W)<n:=λe=>P (.inr e);refine RX (yd v n w b J aa D A aa  aa) ?_;rintro z ⟨F',r,f,V⟩;have Y:mH (.t d) c v n=0:=by simp only[mH];rw[aF q,aF C]
    have L:ki (.t d) B v n c a=({c with s:=c.s.add d v n},a):=by simp only[ki];rw[aH Y]
    rw[Y,L];refine⟨_,rfl,X _ _ _ _ _ ⟨rfl,?_,T.far S V R O,V.M λ_ h=>.inl h⟩⟩;exact(kB (.t d) {c with s:=c.s.add d v n} p).gr (F':=F') f r low V.size
  .rintro e z ⟨g,rfl,y⟩;exact y
 | k q=>
  refine(Io (Q:=λg z=>jx (iH (.k q) (ki (.k q) B v n c a).1 x) (iI o cq B (ki (.k q) B v n c a).2) F H (mH (.k q) c v n) w (.returned g) z) U ?_).M ?_
  .have s:((n.toNat:Nat):Int)=n:=aa
   have C:=Uc v n.toNat b (pN.fit ok) T R S O (pN.q0 ok) (pN.q1 ok) aa;rw[s] at C;refine C.M ?_;rintro e z y;obtain⟨rfl,r,f,V⟩:=y;exact⟨_,rfl,X _ _ _ _ _ ⟨rfl,r,f,V⟩⟩
  .rintro e z ⟨g,rfl,y⟩;exact y
def vu(w:World)(h:iH sp c x F w)(ok:im sp c):af4 af5 19 #[aq x] w (au w (.int .u64 (k_ sp c))):=by
 obtain⟨p,G,s,r,a,X,Y,b⟩:=h;cases sp with
 | h lo hi dg u m gr=>
  obtain⟨v,t,q,g,f,d⟩:=r;have y:=t.k7;refine Ix (Ci s y (mX v c.l w q.rd (jn.pos ok) (aa2 (jn.sum ok)) (aa2 (jn.len ok)))) ?_;exact⟨rfl,aC _ _⟩
 | d ac m=>
  obtain⟨V,v,t,q,g,f⟩:=r;have y:=t.k3;refine Ix (Cj s y (mX v c.l w g.rd (kG.pos ok) (aa2 (kG.sum ok)) (aa2 (kG.len ok)))) ?_;exact⟨rfl,aC _ _⟩
 | t d=>
  have y:=th.fit ok;refine Ck (Q:=λv z=>mS z v (c.s.L++c.s.W)) s ?_ ?_
  .refine WE (Go.Proofs.YtdicblkhpcphfaaGreat.kN p G d c.s.lo c.s.hi c.s.L c.s.W w r (aa6 y.ok.len y.d1)) ?_
   rintro v z ⟨q,g⟩;exact⟨v,rfl,q.rd,g⟩
  .intro v g q
   exact iJ v _ g q y.ok.ok (aa2 y.t)
 | k q=>
  obtain⟨v,g,y⟩:=r;refine Ix (Cl s (K.iJ w y (pN.fit ok).ok.JB (pN.fit ok).ok.s5)) ?_;exact⟨rfl,aC _ _⟩
def Fb(w:World)(h:iH sp c x F w)(ok:im sp c):af4 af5 41 #[aq x] w λe z=>∃v,e=.returned v/\OwnB w.heap.size z v (qM sp c)/\af3 w z:=by
 obtain⟨p,G,r,g,S,P,R,T⟩:=h;cases sp with
 | h lo hi dg u m gr=>exact Fa w r g ok
 | d ac m=>
  obtain⟨O,v,y,V,X,U⟩:=g;have t:=y.k1;have q:=y.k2;have f:=y.k3;exact E9 (Q:=λs z=>OwnB w.heap.size z s (qM (.d ac m) c)/\af3 w z) r t q f ((KP v w.drew X.rd ok).M λe z ⟨s,b,a,Y⟩=>⟨s,b,a,(aC _ _).drew.T Y⟩)
 | t d=>
  have y:=th.fit ok;have f:=lf.raw y.ok.ok (aa2 y.t);refine E_ (Q:=λs z=>OwnB w.heap.size z s (qM (.t d) c)/\af3 w z) r ?_;exact Gs p G d c.s.lo c.s.hi c.s.L c.s.W w g y.ok.rise (λm q=>f m (dJ _ q)) (λm q=>f m (dG _ q)) (aa6 y.ok.len y.d1) (aa2 y.d0) (aa2 y.d1) y.ok.Kc y.ok.lo1 y.ok.hi0 y.ok.hi1
 | k q=>
  obtain⟨X,V,f⟩:=g;have y:=pN.fit ok;refine E' (Q:=λs z=>OwnB w.heap.size z s (qM (.k q) c)/\af3 w z) r f.cell0 f.cell1 f.cell2 ?_;exact(K.Rl q X c.L c.led w.drew f.TU aa (aa2 (pN.q1 ok)) (by have:=y.ok.led;simp only at this;omega) (aa2 y.ok.s5) (aa2 (y.cnt (by have:=pN.q0 ok;omega) (pN.q1 ok))) (λj=>⟨y.ok.jk j,pN.bd ok j⟩)).M (λe z ⟨s,b,a,Y⟩=>⟨s,b,a,(aC _ _).drew.T Y⟩)
def zl{p p2:Nat}{G G2:Ft}(w:World)(T:g7 w x 106 (sp.cs++sp.four p).toArray)(u:rr sp c p G w)(hFx:F x)(Wc:¬G x)(j:∀k,G k->F k)(hF:∀k,F k->k<w.heap.size)
 (N:g7 w y 106 (sp.cs++sp.four p2).toArray) (s:rr sp t p2 G2 w) (hxy:(p2=p/\G2=G/\t=c)\/∀k,G k->¬G2 k) (ok:im sp c) (K:im sp t) (q:iI o cq B a H w) (n:∀k,H k->¬F k) (W:o<=w.heap.size) (Ws:∀k,F k->o<=k) :
 af4 af5 16 #[aq x,aq y,cq] w (jx (iH sp (jb sp B t c a).1 x) (iI o cq B (jb sp B t c a).2) F H (mn sp c t) w):=by
 have M:∀k,H k->¬G k:=λk A f=>n k A (j k f);have L:∀k,G k->o<=k:=λk h=>Ws k (j k h);have i:=(kB sp c p).low u;have V:∀O J E z e r,af3 w z->jx (rr sp O p) (iI o cq B J) G H E z e r->jx (iH sp O x) (iI o cq B J) F H E w e r:=λO J E z e r v g=>by
  have g:=s_ (kB sp O p) v i g;obtain⟨A,f⟩:=Et T hFx Wc j hF g.2.1 g.2.2.2 n;exact⟨g.1,A,g.2.2.1,f⟩
 have X:∀z,af3 w z->rr sp c p G z:=λz v=>(kB sp c p).K u v;have S:∀z,af3 w z->rr sp t p2 G2 z:=λz v=>(kB sp t p2).K s v;have P:∀z,af3 w z->o<=z.heap.size:=λz v=>bf W v.size;have R:∀z,af3 w z->iI o cq B a H z:=λz v=>q.K W v;clear u s q;cases sp with
 | h lo hi dg u m gr=>
  refine(EY (Q:=λb r=>jx (iH (.h lo hi dg u m gr) (jb (.h lo hi dg u m gr) B t c a).1 x) (iI o cq B (jb (.h lo hi dg u m gr) B t c a).2) F H (mn (.h lo hi dg u m gr) c t) w (.returned b) r) T N (λz v=>?_)).M ?_
  .refine RX (Lt z (X z v) (S z v) ok K) ?_
   rintro r ⟨f,Y⟩;exact⟨_,rfl,V _ _ _ z _ _ v (oS ⟨rfl,f,Y⟩ ((R z v).far (P z v) Y M L))⟩
  .rintro e r ⟨b,rfl,g⟩;exact g
 | d ac m=>
  refine(EZ (Q:=λb r=>jx (iH (.d ac m) (jb (.d ac m) B t c a).1 x) (iI o cq B (jb (.d ac m) B t c a).2) F H (mn (.d ac m) c t) w (.returned b) r) T N (λz v=>?_)).M ?_
  .refine RX (NN z (X z v) (S z v) ok K) ?_
   rintro r ⟨f,Y⟩;exact⟨_,rfl,V _ _ _ z _ _ v (oS ⟨rfl,f,Y⟩ ((R z v).far (P z v) Y M L))⟩
  .rintro e r ⟨b,rfl,g⟩;exact g
 | t d=>
  have D:=th.fit ok;have C:=th.fit K;have hd1:=D.d1;have hxy':(p2=p/\G2=G/\t.s=c.s)\/∀k,G k->¬G2 k:=hxy.imp (λh=>⟨h.1,h.2.1,by rw[h.2.2]⟩) id;refine(E5 (Q:=λb r=>jx (iH (.t d) (jb (.t d) B t c a).1 x) (iI o cq B (jb (.t d) B t c a).2) F H (mn (.t d) c t) w (.returned b) r) T N (λz v=>?_)).M ?_
  .by_cases q:281474976710656 - Go.Proofs.YtdicblkhpcphfaaGreat.tot (c.s.L++c.s.W)<Go.Proofs.YtdicblkhpcphfaaGreat.tot (t.s.L++t.s.W)\/Go.Proofs.YtdicblkhpcphfaaGreat.tot (t.s.L++t.s.W)=0
   .refine RX (Pe z (X z v) (S z v) D C q) ?_
    intro r U;have I:jb (.t d) B t c a=(c,a):=by
     simp only[jb];by_cases s:iO c.s t.s=0
     .rw[aH s]
      have l:Go.Proofs.YtdicblkhpcphfaaGreat.tot (t.s.L++t.s.W)=0:=by
       rcases q with q|q
       .unfold iO at s;rw[aH q] at s;cases s
       .exact q
      have:c.s.take d t.s=c.s:=by unfold St.take;rw[aH l]
      rw[this]
     .rw[aF s]
    rw[I];exact⟨_,rfl,V c a _ z _ _ v (kD (kB (.t d) c p) (X z v) rfl U ((R z v).K (P z v) U))⟩
   .have h0:¬Go.Proofs.YtdicblkhpcphfaaGreat.tot (t.s.L++t.s.W)=0:=λe=>q (.inr e)
    have h6:¬281474976710656 - Go.Proofs.YtdicblkhpcphfaaGreat.tot (c.s.L++c.s.W)<Go.Proofs.YtdicblkhpcphfaaGreat.tot (t.s.L++t.s.W):=λe=>q (.inl e);have hnn:=C.ok.j7;refine RX (vm z (X z v) (S z v) hxy' D C aa  aa  aa) ?_;rintro r ⟨F',f,Y,U⟩;have l:iO c.s t.s=0:=by unfold iO;rw[aF h6]
    have I:jb (.t d) B t c a=({c with s:=c.s.take d t.s},a):=by simp only[jb];rw[aH l]
    have e3:mn (.t d) c t=0:=l;rw[I,e3];refine⟨_,rfl,V _ _ _ z _ _ v ⟨rfl,?_,(R z v).far (P z v) U M L,U.M λ_ h=>.inl h⟩⟩;exact(kB (.t d) {c with s:=c.s.take d t.s} p).gr (F':=F') Y f (λk hk=>aG (i k hk) v.size) U.size
  .rintro e r ⟨b,rfl,g⟩;exact g
 | k q=>
  refine(E6 (Q:=λb r=>jx (iH (.k q) (jb (.k q) B t c a).1 x) (iI o cq B (jb (.k q) B t c a).2) F H (mn (.k q) c t) w (.returned b) r) T N (λz v=>?_)).M ?_
  .refine(Rr (X z v) (pN.fit ok) (S z v) (pN.fit K) (R z v) M (P z v) L (pN.q0 ok) (pN.q1 ok)).M ?_
   rintro e r g;obtain⟨rfl,f,Y,U⟩:=g;exact⟨_,rfl,V _ _ _ z _ _ v ⟨rfl,f,Y,U⟩⟩
  .rintro e r ⟨b,rfl,g⟩;exact g
def zm(w:World)(h:iH sp c x F w)(z:iH sp t y Fy w)(r:(y=x/\t=c)\/∀k,F k->¬Fy k)(ok:im sp c)(V:im sp t)(d:iI o cq B a H w)(b:∀k,H k->¬F k)(Y:o<=w.heap.size)(X:∀k,F k->o<=k):af4 af5 16 #[aq x,aq y,cq] w (jx (iH sp (jb sp B t c a).1 x) (iI o cq B (jb sp B t c a).2) F H (mn sp c t) w):=by
 obtain⟨p,G,v,s,g,f,u,q⟩:=h;rcases r with⟨rfl,rfl⟩|r
 .exact zl w v s g f u q v s (.inl ⟨rfl,rfl,rfl⟩) ok V d b Y X
 .obtain⟨M,Q,T,R,O,N,S,P⟩:=z
  exact zl w v s g f u q T R (.inr λk U z=>r k (u k U) (S k z)) ok V d b Y X
end
