/- Parts. -/
import Derived.Test.YtdicblkhpcphfaaGreatPU31
set_option maxRecDepth 100000
set_option maxHeartbeats 0
set_option linter.all false
namespace Go.Proofs.YtdicblkhpcphfaaGreat
open Tryz Go.RowKit Go.Lib Go.Shelf
open _root_.List renaming length→ab0
open Go.IntKind renaming wrap→ad0
open _root_.Go renaming Calls→af4
open Tryz renaming prog→af5
namespace D
variable{sp:ie}{a d dg hi lo m p u x y:Nat}{w:World}{gr:Bool}{c:Js}{F:Ft}
def uo{i:Nat}{G:Ft}{cs:Array Value}{w1:World}(q:g7 w1 y 106 cs)(t:rr sp sp.new p G w1)(x:¬G y)(v:w.heap.size<=y)(u:∀k,G k->w.heap.size<=k)(s:af3 w w1)(r:cs.setIfInBounds i (jw p)=(sp.cs++sp.four p).toArray):iH sp sp.new y (Gr (λ_=>False) w (w1.setCell (af7 y i) (jw p))) (w1.setCell (af7 y i) (jw p))/\af3 w (w1.setCell (af7 y i) (jw p)):=by
 have B:=q.hJ i (jw p);rw[r] at B;have I:=(kB sp sp.new p).far (G:=λk=>k=y) t (Touch.setCell (F:=λk=>k=y) (Touch.refl _ w1) (p:=af7 y i) (.inl rfl) (jw p)) (λk z e=>x (by rw[<-show k=y from e];exact z));refine⟨⟨p,G,B,I,.inr ⟨v,B.lt⟩,x,λk z=>.inr ⟨u k z,(kB sp sp.new p).low I k z⟩,λk z=>z.elim False.elim (λh=>h.2)⟩,s.setCell (p:=af7 y i) v _⟩
def Fc(w:World)(ok:sk lo hi dg u m):af4 af5 15 #[(.h lo hi dg u m gr:ie).v] w λe r=>∃x,e=.returned (aq x)/\iH (.h lo hi dg u m gr) (.h lo hi dg u m gr:ie).new x (Gr (λ_=>False) w r) r/\af3 w r:=by
 have O:=ax ok;clear ok;show af4 af5 15 #[.agg #[.int .u8 1,af6 lo,af6 hi,af6 dg,.bool gr,af6 0,af6 0]] w _
 have⟨b,x⟩:=ar (w.heap.size);have⟨y,v⟩:=ar (w.alloc (.cells #[.int .u8 1,af6 lo,af6 hi,af6 dg,.bool gr,af6 0,af6 0] 33));have f:=ao v;have q:=an v x;have s:y.heap.size=b+1:=by rw[<-v,<-x,aI]
 obtain⟨c,a,Y,X,V,U,T⟩:=q.o.c7;have R:=ax x;go_in;go_upto_region 1 with fail;have t:=ax s;clear v x s;have⟨x,v⟩:=ar (y.alloc (.cells #[.int .u8 1,af6 lo,af6 hi,af6 dg,.bool gr,af6 0,af6 0,.pointer none,.pointer none,.pointer none,.pointer none] 106));have z:=ao v;have d:af3 w x:=f.T (z.M f.size);have M:=an v t.o;have S:Hid (g7 x b 33 #[.int .u8 1,af6 lo,af6 hi,af6 dg,.bool gr,af6 0,af6 0]):=ax (q.o.K z);have s:x.heap.size=b+2:=by rw[<-v,aI,t.o]
 go_upto_region 2 with fail;try rw[v]
 try rw[t.o]
 clear v z c a Y X V U T;have N:=ax s;clear s;obtain⟨c,a,Y,X,V,U,T⟩:=S.o.c7;have K:w.heap.size<=b+1:=by have:=R.o;omega
 go_wp21;refine WE (QB gr x O.o) ?_
 rintro p I ⟨g,v⟩;have z:=ax (M.o.K v);have L:=z.o.k7;have J:=z.o.F 7;have Q:=ax (d.T (v.M d.size));have P:=ax g;clear g v;go_wp2;go_ret;have s:=N.o;obtain⟨v,g⟩:=uo (sp:=.h lo hi dg u m gr) (i:=7) z.o P.o (λh=>h.elim False.elim (λh=>by have:=h.1;omega)) K (λj h=>h.elim False.elim (λh=>by have:=h.1;omega)) Q.o rfl;exact⟨_,rfl,v,g⟩
def Fe(w:World)(ok:jR (.d a m)):af4 af5 15 #[(.d a m:ie).v] w λe r=>∃x,e=.returned (aq x)/\iH (.d a m) (.d a m:ie).new x (Gr (λ_=>False) w r) r/\af3 w r:=by
 have u:=ax ok;clear ok;show af4 af5 15 #[.agg #[.int .u8 2,af6 0,af6 0,af6 0,.bool false,af6 a,af6 m]] w _
 have⟨b,x⟩:=ar (w.heap.size);have⟨y,v⟩:=ar (w.alloc (.cells #[.int .u8 2,af6 0,af6 0,af6 0,.bool false,af6 a,af6 m] 33));have f:=ao v;have q:=an v x;have s:y.heap.size=b+1:=by rw[<-v,<-x,aI]
 obtain⟨c,Y,X,V,U,T,S⟩:=q.o.c7;have Q:=ax x;go_in;go_upto_region 1 with fail;have t:=ax s;clear v x s;have⟨x,v⟩:=ar (y.alloc (.cells #[.int .u8 2,af6 0,af6 0,af6 0,.bool false,af6 a,af6 m,.pointer none,.pointer none,.pointer none,.pointer none] 106));have z:=ao v;have d:af3 w x:=f.T (z.M f.size);have M:=an v t.o;have R:Hid (g7 x b 33 #[.int .u8 2,af6 0,af6 0,af6 0,.bool false,af6 a,af6 m]):=ax (q.o.K z);have s:x.heap.size=b+2:=by rw[<-v,aI,t.o]
 go_upto_region 2 with fail;try rw[v]
 try rw[t.o]
 clear v z c Y X V U T S;have N:=ax s;clear s;obtain⟨c,Y,X,V,U,T,S⟩:=R.o.c7;have K:w.heap.size<=b+1:=by have:=Q.o;omega
 go_wp21;refine WE (QM a m x u.o.1 u.o.2.1 u.o.2.2.1 u.o.2.2.2) ?_
 rintro p I ⟨g,v⟩;have z:=ax (M.o.K v);have L:=z.o.k8;have J:=z.o.F 8;have P:=ax (d.T (v.M d.size));have O:=ax g;clear g v;go_wp2;go_ret;have s:=N.o;obtain⟨v,g⟩:=uo (sp:=.d a m) (i:=8) z.o O.o (λh=>h.elim False.elim (λh=>by have:=h.1;omega)) K (λj h=>h.elim False.elim (λh=>by have:=h.1;omega)) P.o rfl;exact⟨_,rfl,v,g⟩
def Ff(w:World)(ok:jR (.t d)):af4 af5 15 #[(.t d:ie).v] w λe q=>∃x,e=.returned (aq x)/\iH (.t d) (.t d:ie).new x (Gr (λ_=>False) w q) q/\af3 w q:=by
 clear ok;show af4 af5 15 #[.agg #[.int .u8 3,af6 0,af6 0,af6 0,.bool false,af6 0,af6 d]] w _
 have⟨b,y⟩:=ar (w.heap.size);have⟨x,v⟩:=ar (w.alloc (.cells #[.int .u8 3,af6 0,af6 0,af6 0,.bool false,af6 0,af6 d] 33));have c:=ao v;have g:=an v y;have t:x.heap.size=b+1:=by rw[<-v,<-y,aI]
 obtain⟨Y,X,V,U,T,S,R⟩:=g.o.c7;have O:=ax y;go_in;go_upto_region 1 with fail;have u:=ax t;clear v y t;have⟨y,v⟩:=ar (x.alloc (.cells #[.int .u8 3,af6 0,af6 0,af6 0,.bool false,af6 0,af6 d,.pointer none,.pointer none,.pointer none,.pointer none] 106));have t:=ao v;have a:af3 w y:=c.T (t.M c.size);have M:=an v u.o;have P:Hid (g7 y b 33 #[.int .u8 3,af6 0,af6 0,af6 0,.bool false,af6 0,af6 d]):=ax (g.o.K t);have r:y.heap.size=b+2:=by rw[<-v,aI,u.o]
 go_upto_region 2 with fail;try rw[v]
 try rw[u.o]
 clear v t Y X V U T S R;have v:=ax r;clear r;obtain⟨Y,X,V,U,T,S,R⟩:=P.o.c7;have K:w.heap.size<=b+1:=by have:=O.o;omega
 have⟨Q,s⟩:=ar (y.alloc (.cells #[af6 d,.slice none 0 0,.slice none 0 0,af6 0,af6 0] 111));have t:=ao s;have f:=an s v.o;have z:=ax (M.o.K t);have L:=z.o.k9;have I:=z.o.F 9;have N:=ax (a.T (t.M a.size));clear t;go_wp21;try rw[s]
 try rw[v.o]
 go_ret;have r:=v.o;obtain⟨t,J⟩:=uo (sp:=.t d) (i:=9) (p:=b+2) (G:=λj=>j=b+2) z.o (⟨_,_,f.o,ic.nil_ _ _,ic.nil_ _ _,rfl,λj e=>by simp[Value.ownBlock] at e,λj e=>by simp[Value.ownBlock] at e,λj e=>by simp[Value.ownBlock] at e,λj e=>by rw[show j=b+2 from e];exact f.o.lt⟩) aa K (λj h=>by rw[show j=b+2 from h];omega) N.o rfl;exact⟨_,rfl,t,J⟩
def Fg{q:Nat}(w:World)(ok:jR (.k q)):af4 af5 15 #[(.k q:ie).v] w λe g=>∃x,e=.returned (aq x)/\iH (.k q) (.k q:ie).new x (Gr (λ_=>False) w g) g/\af3 w g:=by
 clear ok;show af4 af5 15 #[.agg #[.int .u8 4,af6 0,af6 0,af6 0,.bool false,af6 0,af6 q]] w _
 have⟨b,y⟩:=ar (w.heap.size);have⟨x,v⟩:=ar (w.alloc (.cells #[.int .u8 4,af6 0,af6 0,af6 0,.bool false,af6 0,af6 q] 33));have d:=ao v;have f:=an v y;have t:x.heap.size=b+1:=by rw[<-v,<-y,aI]
 obtain⟨a,Y,X,V,U,T,S⟩:=f.o.c7;have P:=ax y;go_in;go_upto_region 1 with fail;have u:=ax t;clear v y t;have⟨y,v⟩:=ar (x.alloc (.cells #[.int .u8 4,af6 0,af6 0,af6 0,.bool false,af6 0,af6 q,.pointer none,.pointer none,.pointer none,.pointer none] 106));have t:=ao v;have c:af3 w y:=d.T (t.M d.size);have M:=an v u.o;have Q:Hid (g7 y b 33 #[.int .u8 4,af6 0,af6 0,af6 0,.bool false,af6 0,af6 q]):=ax (f.o.K t);have r:y.heap.size=b+2:=by rw[<-v,aI,u.o]
 go_upto_region 2 with fail;try rw[v]
 try rw[u.o]
 clear v t a Y X V U T S;have v:=ax r;clear r;obtain⟨a,Y,X,V,U,T,S⟩:=Q.o.c7;have J:w.heap.size<=b+1:=by have:=P.o;omega
 have⟨R,s⟩:=ar (y.alloc (.cells #[af6 q,.slice none 0 0,.int .u64 0] 114));have t:=ao s;have N:=an s v.o;have z:=ax (M.o.K t);have L:=z.o.k10;have H:=z.o.F 10;have O:=ax (c.T (t.M c.size));clear t;go_wp21;try rw[s]
 try rw[v.o]
 go_ret;have r:=v.o;obtain⟨t,I⟩:=uo (sp:=.k q) (i:=10) (p:=b+2) (G:=λj=>j=b+2) z.o (⟨_,_,K.JC N.o⟩) aa J (λj h=>by rw[show j=b+2 from h];omega) O.o rfl;exact⟨_,rfl,t,I⟩
def m_(w:World)(ok:jR sp):af4 af5 15 #[sp.v] w λe z=>∃x,e=.returned (aq x)/\iH sp sp.new x (Gr (λ_=>False) w z) z/\af3 w z:=by
 cases sp with
 | h lo hi dg u m gr=>exact Fc w ok
 | d a m=>exact Fe w ok
 | t d=>exact Ff w ok
 | k q=>exact Fg w ok
def nI{w':World}(z:g7 w' y 106 (sp.cs++sp.four p).toArray)(x:rr sp c p (λk=>(w.heap.size<=k/\k≠y)/\k<w'.heap.size) w')(v:w.heap.size<=y):iH sp c y (Gr (λ_=>False) w w') w':=
 ⟨p,_,z,x,.inr ⟨v,z.lt⟩,λh=>h.1.2 rfl,λ_ h=>.inr ⟨h.1.1,h.2⟩,λ_ h=>h.elim False.elim And.right⟩
def Fh(w:World)(h:iH (.d a m) c x F w)(ok:im (.d a m) c):af4 af5 90 #[aq x] w λe w'=>∃y,e=.returned (aq y)/\iH (.d a m) c y (Gr (λ_=>False) w w') w'/\af3 w w':=by
 obtain⟨p,G,z,hI,u,s,t,v⟩:=h;obtain⟨rv,S,M,i,L,b4,b5,b6,b7⟩:=hI;have C1:Hid (af4 af5 15 #[.agg #[.int .u8 2,af6 0,af6 0,af6 0,.bool false,af6 a,af6 m]] w λe w'=>∃y,e=.returned (aq y)/\iH (.d a m) (.d a m:ie).new y (Gr (λ_=>False) w w') w'/\af3 w w'):=ax (m_ w ok.sp);have g:=ax z;have X:=ax M;have I:=z.C 0;have H:=z.C 1;have E:=z.C 2;have D:=z.C 3;have C:=z.C 4;have B:=z.C 5;have A:=z.C 6;simp only[ie.cs,ie.four,bG,bB,az,ay,aA] at I H E D C B A;clear z u s t v;go_in;go_wp21;refine WE C1.o ?_;rintro y z ⟨hy,t⟩;obtain⟨u,G2,b,hI2,W,l,j,hF2⟩:=hy;obtain⟨T,v,s,f,d,K,J,q,c7⟩:=hI2;have hy0:w.heap.size<=y:=W.elim False.elim And.left;have r:∀k,G2 k->w.heap.size<=k/\k≠y:=λk o=>⟨(j k o).elim False.elim And.left,λe=>l (by rw[<-e];exact o)⟩;have lx:x<z.heap.size:=aG g.o.lt t.size;have lp:p<z.heap.size:=aG X.o.lt t.size;have ly:y<z.heap.size:=b.lt;have V:u<z.heap.size:=s.lt;have ZJ:=g.o.lt;have ZK:=X.o.lt;have Q:=ax t;have HY:=ax b;have Y:=ax r;have I:z.cell? (af7 x 0)=some (.int .u8 2):=(g.o.K t).C 0;have XC:Hid (z.cell? (af7 x 8)=some (aq p)):=ax ((g.o.K t).C 8);have YC:Hid (z.cell? (af7 y 8)=some (aq u)):=ax (b.C 8);have ZL:Hid (z.cell? (af7 p 3)=some (S)):=ax ((X.o.K t).C 3);have hll:=kG.len ok;have D1:=ax s;have N:Hid (g8 iF 0 z v []):=ax d;have O:=ax f;have RS:Hid (iQ iF z S c.l):=ax (L.rd.K t);have R:Hid (z.cell? (af7 u 3)=some v):=ax (s.C 3);have DF:=ax (s.F 3);have HC5:=ax J;have P:=ax q;have n:=r u K;have ZM:¬(v.ownBlock=some y):=λe=>(r y (q y e)).2 rfl;have ZN:¬(v.ownBlock=some x):=λe=>by have:=(r x (q x e)).1;omega
 have ZO:¬(v.ownBlock=some p):=λe=>by have:=(r p (q p e)).1;omega
 have U:¬(v.ownBlock=some u):=own_ne s d ab;have AP:Hid (∀k,T.ownBlock=some k->¬(v.ownBlock=some k)):=ax (λk e e2=>(kC f d ab).elim (λh=>by rw[h] at e;cases e) (λh=>h (e.T e2.Y)));have OP:Hid (T.ownBlock≠some u):=ax (own_ne s f ab);clear t b W l j hF2 s f d K J q c7 r H E D C B A M i L b4 b5 b6 b7;go_upto_region 12 with fail;have Z:=ax (λ(w':World) (t:(Touch (λj=>v.ownBlock=some j) z) w')=>(aB ((g9 t 8 ly ZM).T YC.o) (aB ((g9 t 8 lx ZN).T XC.o) (aB ((g9 t 3 lp ZO).T ZL.o) ((g9 t 3 V U).T R.o)))));refine qd (Touch (λj=>v.ownBlock=some j) z) 21 (pW 0 18 (o_ 18 (FH 19 1 (pW 20 1 (o_ 21 []))))) ((Touch.refl _ _).drew) ?_;iterate 18 refine kz ?_
 refine nC λK r=>?_;refine yq oB (.tmp 115) (.tmp 122) rfl N.o.drew rfl S c.l rfl (RS.o.K (aC _ _).drew) ae (bl _) ?_;intro l f q t b;have s:Touch (λj=>v.ownBlock=some j) z f:=((Touch.refl _ _).drew).grown t (λk e=>.inl e);have D:=ax t;have C:=ax q;have H:=ax b;obtain⟨d,J,rfl,_,_,_⟩:=q.form;clear q t b;go_simp;refine r _ _ (s) ?_;refine sQ ?_;refine kz ?_;refine qc λK r=>?_;have A:=(g9 s 3 V U).T R.o;have j:=(kU s 3 V U).T DF.o;go_simp;refine r _ _ ?_;refine iq ?_;obtain⟨M,L⟩:=lV (i:=3) D1.o.drew N.o.drew ab D.o C.o;have t:=ax (aB M L);have q:Touch (λk=>w.heap.size<=k/\k≠y) z (f.setCell (af7 u 3) (.slice d (ab0 c.l) J)):=(s.M (λk e=>Y.o k (P.o k e))).setCell (p:=af7 u 3) (.inl n) _;simp only[bB] at t;have b:=ax ((O.o.stay (w':=f) λk e=>s.block k (O.o.lt k e).2 (AP.o k e)).far (p:=af7 u 3) (OP.o) (.slice d (ab0 c.l) J));have E:=ax ((q.block y ly (λh=>h.2 rfl)).T HY.o);have B:=ax q;clear q M L;try refine g6 ?_
 go_wp2;go_ret;have M:=t.o.1.lt;have q:=Q.o.size;refine⟨y,rfl,nI E.o ⟨T,_,t.o.1,b.o,t.o.2,⟨n,M⟩,λk e=>⟨Y.o k (HC5.o k e),(b.o.lt k e).2⟩,λk e=>⟨?_,(t.o.2.lt k e).2⟩,λk h=>h.2⟩ hy0,Q.o.T (B.o.below (λk h=>h.1) q)⟩;rcases ni H.o k e with e|e
 .exact Y.o k (P.o k e)
 .have e:z.heap.size<=k:=e
  exact⟨aa,aa⟩
def Me:vT Mn where
 k:=2
 t:=216
 enc:=wI
 len _:=rfl
 one x u hu:=by
  unfold wI at hu;simp only[aS,cx,or_false] at hu;rcases hu with rfl|rfl<;>rfl
def mnI:(prog.info? 216).map (λi=>(i.zero,i.size,i.bytes))=some (some (.agg #[af6 0,.int .u64 0]),2,16):=by kernel_rfl
def Wt:Ty prog Me 109:=rg mnI underlying109 rfl ab  ab
def Fi(w:World)(h:iH (.h lo hi dg u m gr) c x F w)(ok:im (.h lo hi dg u m gr) c):af4 af5 90 #[aq x] w λe f=>∃y,e=.returned (aq y)/\iH (.h lo hi dg u m gr) c y (Gr (λ_=>False) w f) f/\af3 w f:=by
 obtain⟨p,G,z,hI,r,s,t,v⟩:=h;obtain⟨o,C,D,i,W,n⟩:=hI;have C1:Hid (af4 af5 15 #[.agg #[.int .u8 1,af6 lo,af6 hi,af6 dg,.bool gr,af6 0,af6 0]] w λe f=>∃y,e=.returned (aq y)/\iH (.h lo hi dg u m gr) (.h lo hi dg u m gr:ie).new y (Gr (λ_=>False) w f) f/\af3 w f):=ax (m_ w ok.sp);have E:=ax z;have H:=ax C;have f0:=z.C 0;have K:=z.C 1;have L:=z.C 2;have M:=z.C 3;have O:=z.C 4;have P:=z.C 5;have Q:=z.C 6;simp only[ie.cs,ie.four,bG,bB,az,ay,aA] at f0 K L M O P Q;clear z r s t v;go_in;go_wp21;refine WE C1.o ?_;rintro y t ⟨hy,z⟩;obtain⟨v,G2,s,hI2,T,U,X,A⟩:=hy;obtain⟨r,g,a,b,d,B⟩:=hI2;have hy0:w.heap.size<=y:=T.elim False.elim And.left;have q:∀k,G2 k->w.heap.size<=k/\k≠y:=λk hk=>⟨(X k hk).elim False.elim And.left,λe=>U (by rw[<-e];exact hk)⟩;have I:x<t.heap.size:=aG E.o.lt z.size;have J:p<t.heap.size:=aG H.o.lt z.size;have R:y<t.heap.size:=s.lt;have ld:v<t.heap.size:=g.lt;have ZJ:=E.o.lt;have ZK:=H.o.lt;have l:=ax z;have HY:=ax s;have f0:t.cell? (af7 x 0)=some (.int .u8 1):=(E.o.K z).C 0;have XC:Hid (t.cell? (af7 x 7)=some (aq p)):=ax ((E.o.K z).C 7);have YC:Hid (t.cell? (af7 y 7)=some (aq v)):=ax (s.C 7);have SC6:Hid (t.cell? (af7 p 6)=some (af6 c.bk)):=ax ((H.o.K z).C 6);have SC7:Hid (t.cell? (af7 p 7)=some (o)):=ax ((H.o.K z).C 7);have V:w.heap.size<=v/\v≠y:=q v b;have hyp:y≠v:=λe=>V.2 e.Y;have hxp:x≠v:=λe=>by have:=V.1;omega
 have hpp:p≠v:=λe=>by have:=V.1;omega
 have Y:Hid (Touch (λj=>w.heap.size<=j/\j≠y) t t):=ax (Touch.refl _ _);have hw1:=l.o.size;have hll:=jn.len ok;have N:Hid (g7 t v 128 #[af6 lo,af6 hi,af6 dg,af6 u,af6 m,.bool gr,af6 ((1+jg u m hi:Nat):Int),r]):=ax g;have R1:Hid (g8 iF 0 t r []):=ax a;have RS:Hid (iQ iF w o c.l):=ax D.rd;have S:∀k,r.ownBlock=some k->w.heap.size<=k/\k≠y:=λk e=>q k (d k e);clear z s T U X A g a b d B q K L M O P Q C D i W n;have ZP:Hid (t.cell? (af7 y 7)=some (aq v)):=ax ((g9 Y.o 7 R (λh=>h.2 rfl)).T YC.o);have ZQ:Hid (t.cell? (af7 x 7)=some (aq p)):=ax ((g9 Y.o 7 I (λh=>by have:=h.1;omega)).T XC.o);have S61:Hid (t.cell? (af7 p 6)=some (af6 c.bk)):=ax ((g9 Y.o 6 J (λh=>by have:=h.1;omega)).T SC6.o);have ZR:x<t.heap.size:=aG I Y.o.size;have ZS:y<t.heap.size:=aG R Y.o.size;have ZT:p<t.heap.size:=aG J Y.o.size;have z:=N.o.k6;have s:=N.o.F 6;have Xd:=ax z;have ZU:=ax s;clear z s;have z:Touch (λj=>j=v) t (t.drew.setCell (af7 v 6) (af6 c.bk)):=Touch.setCell (F:=λj=>j=v) ((Touch.refl _ _).drew) (p:=af7 v 6) (.inl rfl) _;go_upto_region 9 with fail;have Z:=ax (λ(f:World) (g:(Touch (λj=>j=v) t) f)=>(aB ((g9 g 7 ZS (λe=>hyp e)).T ZP.o) (aB ((g9 g 7 ZR (λe=>hxp e)).T ZQ.o) ((g9 g 6 ZT (λe=>hpp e)).T S61.o))));refine jh (Touch (λj=>j=v) t) (hQ 0 13 (ik 13 [])) ((Touch.refl _ _).drew) ?_;iterate 13 refine ib ?_
 refine iz λK b=>?_;have kd:t.drew.cell? (af7 v 6)=some _:=Xd.o;have kf:t.drew.frozen? (af7 v 6)=false:=ZU.o;go_simp;refine b _ _ (z) ?_;refine g4 ?_;clear z;have⟨s,d⟩:=ar ((t.setCell (af7 v 6) (af6 c.bk)).drew);try refine g6 ?_
 try rw[d]
 have Q:Hid (g7 s v 128 #[af6 lo,af6 hi,af6 dg,af6 u,af6 m,.bool gr,af6 c.bk,r]):=by rw[<-d];exact ax ((N.o.hJ 6 _).drew)
 have q:Hid (Touch (λj=>w.heap.size<=j/\j≠y) t s):=by rw[<-d];exact ax ((Y.o.setCell (p:=af7 v 6) (.inl V) _).drew)
 have D:Hid (g8 iF 0 s r []):=by rw[<-d];exact ax ((R1.o.far (p:=af7 v 6) (own_ne N.o R1.o ab) _).drew)
 clear d;have ZV:Hid (af3 w s):=ax (l.o.T (q.o.below (λj h=>h.1) hw1));have ZW:Hid (s.cell? (af7 y 7)=some (aq v)):=ax ((g9 q.o 7 R (λh=>h.2 rfl)).T YC.o);have ZX:Hid (s.cell? (af7 x 7)=some (aq p)):=ax ((g9 q.o 7 I (λh=>by have:=h.1;omega)).T XC.o);have S72:Hid (s.cell? (af7 p 7)=some (o)):=ax ((g9 q.o 7 J (λh=>by have:=h.1;omega)).T SC7.o);have ZY:x<s.heap.size:=aG I q.o.size;have ZZ:y<s.heap.size:=aG R q.o.size;have lp2:p<s.heap.size:=aG J q.o.size;have M:v<s.heap.size:=aG ld q.o.size;have d:=Q.o.k7;have a:=Q.o.F 7;have n:=ax d;have Z0:=ax a;clear d a;have Z1:¬(r.ownBlock=some y):=λe=>(S y e).2 rfl;have Z2:¬(r.ownBlock=some x):=λe=>by have:=(S x e).1;omega
 have Z5:¬(r.ownBlock=some p):=λe=>by have:=(S p e).1;omega
 have O:¬(r.ownBlock=some v):=own_ne Q.o D.o ab;go_upto_region 10 with fail;have Z:=ax (λ(f:World) (g:(Touch (λj=>r.ownBlock=some j) s) f)=>(aB ((g9 g 7 ZZ Z1).T ZW.o) (aB ((g9 g 7 ZY Z2).T ZX.o) (aB ((g9 g 7 lp2 Z5).T S72.o) ((g9 g 7 M O).T n.o)))));refine qd (Touch (λj=>r.ownBlock=some j) s) 21 (pW 0 18 (o_ 18 (FH 19 1 (pW 20 1 (o_ 21 []))))) ((Touch.refl _ _).drew) ?_;iterate 18 refine kz ?_
 refine nC λK b=>?_;refine yq oB (.tmp 92) (.tmp 99) rfl D.o.drew rfl _ c.l rfl (RS.o.K (ZV.o.drew)) ae (bl _) ?_;intro v7 A a g U;have d:Touch (λj=>r.ownBlock=some j) s A:=((Touch.refl _ _).drew).grown g (λk e=>.inl e);have X:=ax (lV (i:=7) Q.o.drew D.o.drew ab g a);have T:=ax U;obtain⟨B,C,rfl,_,_,_⟩:=a.form;clear a g U;go_simp;refine b _ _ (d) ?_;refine sQ ?_;refine kz ?_;refine qc λK b=>?_;have kd:=(g9 d 7 M O).T n.o;have kf:=(kU d 7 M O).T Z0.o;go_simp;refine b _ _ ?_;refine iq ?_;simp only[bB] at X T;have⟨u3,a⟩:=ar (Value.slice B (ab0 c.l) C);have⟨U,g⟩:=ar (A.setCell (af7 v 7) (.slice B (ab0 c.l) C));try simp only[bB]
 try refine g6 ?_
 try rw[g]
 have L:Hid (g7 U v 128 #[af6 lo,af6 hi,af6 dg,af6 u,af6 m,.bool gr,af6 c.bk,u3]):=by rw[<-g,<-a];exact ax X.o.1
 have P:Hid (g8 iF 0 U u3 c.l):=by rw[<-g,<-a];exact ax X.o.2
 have W:Hid (u3.ownBlock=r.ownBlock\/u3.ownBlock=some s.heap.size):=by rw[<-a];exact ax T.o
 have z:Hid (Touch (λj=>w.heap.size<=j/\j≠y) t U):=by rw[<-g];exact ax ((q.o.T d (λj e=>.inl (S j e))).setCell (p:=af7 v 7) (.inl V) _)
 clear g a X d T;try refine g6 ?_
 go_wp2;go_ret;have g:=(z.o.block y R (λh=>h.2 rfl)).T HY.o;refine⟨y,rfl,nI g ⟨u3,L.o,P.o,⟨V,L.o.lt⟩,λk e=>⟨?_,(P.o.lt k e).2⟩,λk h=>h.2⟩ hy0,l.o.T (z.o.below (λk h=>h.1) hw1)⟩;rcases ni W.o k e with e|e
 .exact S k e
 .exact⟨aa,aa⟩
def Fj(w:World)(h:iH (.t d) c x F w)(ok:im (.t d) c):af4 af5 90 #[aq x] w λe b=>∃y,e=.returned (aq y)/\iH (.t d) c y (Gr (λ_=>False) w b) b/\af3 w b:=by
 obtain⟨p,G,z,hI,s,t,u,v⟩:=h;obtain⟨lv,wv,W,o,m,b5,b6,b7,b8,b9⟩:=hI;have C1:Hid (af4 af5 15 #[.agg #[.int .u8 3,af6 0,af6 0,af6 0,.bool false,af6 0,af6 d]] w λe b=>∃y,e=.returned (aq y)/\iH (.t d) (.t d:ie).new y (Gr (λ_=>False) w b) b/\af3 w b):=ax (m_ w ok.sp);have HX:=ax z;have J:=ax W;have f0:=z.C 0;have l:=z.C 1;have B:=z.C 2;have E:=z.C 3;have H:=z.C 4;have I:=z.C 5;have K:=z.C 6;simp only[ie.cs,ie.four,bG,bB,az,ay,aA] at f0 l B E H I K;clear z s t u v;go_in;go_wp21;refine WE C1.o ?_;rintro y u ⟨hy,z⟩;obtain⟨v,G2,s,hI2,P,Q,T,i⟩:=hy;obtain⟨Y,f,r,U,V,X,a,g,q,L⟩:=hI2;have hy0:w.heap.size<=y:=P.elim False.elim And.left;have t:∀k,G2 k->w.heap.size<=k/\k≠y:=λk hk=>⟨(T k hk).elim False.elim And.left,λe=>Q (by rw[<-e];exact hk)⟩;have M:x<u.heap.size:=aG HX.o.lt z.size;have N:p<u.heap.size:=aG J.o.lt z.size;have R:y<u.heap.size:=s.lt;have ld:v<u.heap.size:=r.lt;have ZJ:=HX.o.lt;have ZK:=J.o.lt;have HB1:=ax z;have HY:=ax s;have f0:u.cell? (af7 x 0)=some (.int .u8 3):=(HX.o.K z).C 0;have XC:Hid (u.cell? (af7 x 9)=some (aq p)):=ax ((HX.o.K z).C 9);have YC:Hid (u.cell? (af7 y 9)=some (aq v)):=ax (s.C 9);have Z8:Hid (u.cell? (af7 p 1)=some (lv)):=ax ((J.o.K z).C 1);have Z9:Hid (u.cell? (af7 p 2)=some (wv)):=ax ((J.o.K z).C 2);have ZL:Hid (u.cell? (af7 p 3)=some (af6 c.s.lo)):=ax ((J.o.K z).C 3);have SC4:Hid (u.cell? (af7 p 4)=some (af6 c.s.hi)):=ax ((J.o.K z).C 4);have O:w.heap.size<=v/\v≠y:=t v X;have hyp:y≠v:=λe=>O.2 e.Y;have hxp:x≠v:=λe=>by have:=O.1;omega
 have hpp:p≠v:=λe=>by have:=O.1;omega
 have S:Hid (Touch (λj=>w.heap.size<=j/\j≠y) u u):=ax (Touch.refl _ _);have hw1:=HB1.o.size;have hll:=(th.fit ok).ok.len;have hd1:=(th.fit ok).d1;have A:Hid (g7 u v 111 #[af6 d,Y,f,af6 0,af6 0]):=ax r;have R1:Hid (g8 Me 0 u Y []):=ax U;have n:Hid (g8 Me 0 u f []):=ax V;have RS:Hid (iQ Me w lv c.s.L):=ax o.rd;have RW:Hid (iQ Me w wv c.s.W):=ax m.rd;have C:∀k,Y.ownBlock=some k->w.heap.size<=k/\k≠y:=λk e=>t k (a k e);have D:∀k,f.ownBlock=some k->w.heap.size<=k/\k≠y:=λk e=>t k (g k e);have hap:∀k,f.ownBlock=some k->Y.ownBlock≠some k:=q;clear z s P Q T i r U V X a g q L t l B E H I K W o m b5 b6 b7 b8 b9;have T1b:Hid (af3 w u):=ax (HB1.o.T (S.o.below (λj h=>h.1) hw1));have ZP:Hid (u.cell? (af7 y 9)=some (aq v)):=ax ((g9 S.o 9 R (λh=>h.2 rfl)).T YC.o);have ZQ:Hid (u.cell? (af7 x 9)=some (aq p)):=ax ((g9 S.o 9 M (λh=>by have:=h.1;omega)).T XC.o);have S11:Hid (u.cell? (af7 p 1)=some (lv)):=ax ((g9 S.o 1 N (λh=>by have:=h.1;omega)).T Z8.o);have ZR:x<u.heap.size:=aG M S.o.size;have ZS:y<u.heap.size:=aG R S.o.size;have ZT:p<u.heap.size:=aG N S.o.size;have ld1:v<u.heap.size:=aG ld S.o.size;have z:=A.o.k1;have t:=A.o.F 1;have Xd:=ax z;have ZU:=ax t;clear z t;have ny1:¬(Y.ownBlock=some y):=λe=>(C y e).2 rfl;have nx1:¬(Y.ownBlock=some x):=λe=>by have:=(C x e).1;omega
 have np1:¬(Y.ownBlock=some p):=λe=>by have:=(C p e).1;omega
 have Z_:¬(Y.ownBlock=some v):=own_ne A.o R1.o ab;go_upto_region 14 with fail;have Z:=ax (λ(b:World) (r:(Touch (λj=>Y.ownBlock=some j) u) b)=>(aB ((g9 r 9 ZS ny1).T ZP.o) (aB ((g9 r 9 ZR nx1).T ZQ.o) (aB ((g9 r 1 ZT np1).T S11.o) ((g9 r 1 ld1 Z_).T Xd.o)))));refine qd (Touch (λj=>Y.ownBlock=some j) u) 21 (pW 0 18 (o_ 18 (FH 19 1 (pW 20 1 (o_ 21 []))))) ((Touch.refl _ _).drew) ?_;iterate 18 refine kz ?_
 refine nC λK q=>?_;refine yq Wt (.tmp 138) (.tmp 145) rfl R1.o.drew rfl _ c.s.L rfl (RS.o.K (T1b.o.drew)) ae (bl _) ?_;intro v7 E V a P;have t:Touch (λj=>Y.ownBlock=some j) u E:=((Touch.refl _ _).drew).grown a (λk e=>.inl e);have X:=ax (lV (i:=1) A.o.drew R1.o.drew ab a V);have T:=ax P;obtain⟨H,L,rfl,_,_,_⟩:=V.form;clear V a P;go_simp;refine q _ _ (t) ?_;refine sQ ?_;refine kz ?_;refine qc λK q=>?_;have kd:=(g9 t 1 ld1 Z_).T Xd.o;have kf:=(kU t 1 ld1 Z_).T ZU.o;go_simp;refine q _ _ ?_;refine iq ?_;simp only[bB] at X T;have⟨u2,Q⟩:=ar (Value.slice H (ab0 c.s.L) L);have⟨g,s⟩:=ar (E.setCell (af7 v 1) (.slice H (ab0 c.s.L) L));try simp only[bB]
 try refine g6 ?_
 try rw[s]
 have I:Hid (g7 g v 111 #[af6 d,u2,f,af6 0,af6 0]):=by rw[<-s,<-Q];exact ax X.o.1
 have o:Hid (g8 Me 0 g u2 c.s.L):=by rw[<-s,<-Q];exact ax X.o.2
 have A2:Hid (u2.ownBlock=Y.ownBlock\/u2.ownBlock=some u.heap.size):=by rw[<-Q];exact ax T.o
 have U:Hid (Touch (λj=>w.heap.size<=j/\j≠y) u g):=by rw[<-s];exact ax ((S.o.T t (λj e=>.inl (C j e))).setCell (p:=af7 v 1) (.inl O) _)
 have R2:Hid (g8 Me 0 g f []):=by rw[<-s];exact ax ((n.o.stay λk e=>t.block k (n.o.lt k e).2 (hap k e)).far (p:=af7 v 1) (own_ne A.o n.o ab) _)
 clear s Q X t T;try refine g6 ?_
 have ZV:Hid (af3 w g):=ax (HB1.o.T (U.o.below (λj h=>h.1) hw1));have ZW:Hid (g.cell? (af7 y 9)=some (aq v)):=ax ((g9 U.o 9 R (λh=>h.2 rfl)).T YC.o);have ZX:Hid (g.cell? (af7 x 9)=some (aq p)):=ax ((g9 U.o 9 M (λh=>by have:=h.1;omega)).T XC.o);have S22:Hid (g.cell? (af7 p 2)=some (wv)):=ax ((g9 U.o 2 N (λh=>by have:=h.1;omega)).T Z9.o);have ZY:x<g.heap.size:=aG M U.o.size;have ZZ:y<g.heap.size:=aG R U.o.size;have lp2:p<g.heap.size:=aG N U.o.size;have Z':v<g.heap.size:=aG ld U.o.size;have s:=I.o.k2;have Q:=I.o.F 2;have DC2:=ax s;have Z0:=ax Q;clear s Q;have Z1:¬(f.ownBlock=some y):=λe=>(D y e).2 rfl;have Z2:¬(f.ownBlock=some x):=λe=>by have:=(D x e).1;omega
 have Z5:¬(f.ownBlock=some p):=λe=>by have:=(D p e).1;omega
 have nd2:¬(f.ownBlock=some v):=own_ne I.o R2.o ab;go_upto_region 15 with fail;have Z:=ax (λ(b:World) (r:(Touch (λj=>f.ownBlock=some j) g) b)=>(aB ((g9 r 9 ZZ Z1).T ZW.o) (aB ((g9 r 9 ZY Z2).T ZX.o) (aB ((g9 r 2 lp2 Z5).T S22.o) ((g9 r 2 Z' nd2).T DC2.o)))));refine qd (Touch (λj=>f.ownBlock=some j) g) 21 (pW 0 18 (o_ 18 (FH 19 1 (pW 20 1 (o_ 21 []))))) ((Touch.refl _ _).drew) ?_;iterate 18 refine kz ?_
 refine nC λK q=>?_;refine yq Wt (.tmp 159) (.tmp 166) rfl R2.o.drew rfl _ c.s.W rfl (RW.o.K (ZV.o.drew)) ae (bl _) ?_;intro v7 E V a P;have t:Touch (λj=>f.ownBlock=some j) g E:=((Touch.refl _ _).drew).grown a (λk e=>.inl e);have X:=ax (lV (i:=2) I.o.drew R2.o.drew ab a V);have T:=ax P;obtain⟨H,L,rfl,_,_,_⟩:=V.form;clear V a P;go_simp;refine q _ _ (t) ?_;refine sQ ?_;refine kz ?_;refine qc λK q=>?_;have kd:=(g9 t 2 Z' nd2).T DC2.o;have kf:=(kU t 2 Z' nd2).T Z0.o;go_simp;refine q _ _ ?_;refine iq ?_;simp only[bB] at X T;have⟨u3,P⟩:=ar (Value.slice H (ab0 c.s.W) L);have⟨s,a⟩:=ar (E.setCell (af7 v 2) (.slice H (ab0 c.s.W) L));try simp only[bB]
 try refine g6 ?_
 try rw[a]
 have B:Hid (g7 s v 111 #[af6 d,u2,u3,af6 0,af6 0]):=by rw[<-a,<-P];exact ax X.o.1
 have N3:Hid (g8 Me 0 s u3 c.s.W):=by rw[<-a,<-P];exact ax X.o.2
 have A3:Hid (u3.ownBlock=f.ownBlock\/u3.ownBlock=some g.heap.size):=by rw[<-P];exact ax T.o
 have Q:Hid (Touch (λj=>w.heap.size<=j/\j≠y) u s):=by rw[<-a];exact ax ((U.o.T t (λj e=>.inl (D j e))).setCell (p:=af7 v 2) (.inl O) _)
 have Wu:∀k,f.ownBlock=some k->u2.ownBlock≠some k:=λk e V=>(A2.o.elim (λh=>hap k e (h▸V)) (λh=>by have:=(n.o.lt k e).2;rw[h] at V;injection V with V;omega));have W:u2.ownBlock≠some v:=own_ne I.o o.o ab;have M3:Hid (g8 Me 0 s u2 c.s.L):=by rw[<-a];exact ax ((o.o.stay λk e=>t.block k (o.o.lt k e).2 (λV=>Wu k V e)).far (p:=af7 v 2) W _)
 clear a P X t T;try refine g6 ?_
 have YC3:Hid (s.cell? (af7 y 9)=some (aq v)):=ax ((g9 Q.o 9 R (λh=>h.2 rfl)).T YC.o);have XC3:Hid (s.cell? (af7 x 9)=some (aq p)):=ax ((g9 Q.o 9 M (λh=>by have:=h.1;omega)).T XC.o);have S33:Hid (s.cell? (af7 p 3)=some (af6 c.s.lo)):=ax ((g9 Q.o 3 N (λh=>by have:=h.1;omega)).T ZL.o);have lx3:x<s.heap.size:=aG M Q.o.size;have ly3:y<s.heap.size:=aG R Q.o.size;have lp3:p<s.heap.size:=aG N Q.o.size;have t:=B.o.k3;have a:=B.o.F 3;have DC3:=ax t;have DF3:=ax a;clear t a;have t:Touch (λj=>j=v) s (s.drew.setCell (af7 v 3) (af6 c.s.lo)):=Touch.setCell (F:=λj=>j=v) ((Touch.refl _ _).drew) (p:=af7 v 3) (.inl rfl) _;go_upto_region 16 with fail;have Z:=ax (λ(b:World) (r:(Touch (λj=>j=v) s) b)=>(aB ((g9 r 9 ly3 (λe=>hyp e)).T YC3.o) (aB ((g9 r 9 lx3 (λe=>hxp e)).T XC3.o) ((g9 r 3 lp3 (λe=>hpp e)).T S33.o))));refine jh (Touch (λj=>j=v) s) (hQ 0 13 (ik 13 [])) ((Touch.refl _ _).drew) ?_;iterate 13 refine ib ?_
 refine iz λK q=>?_;have kd:s.drew.cell? (af7 v 3)=some _:=DC3.o;have kf:s.drew.frozen? (af7 v 3)=false:=DF3.o;go_simp;refine q _ _ (t) ?_;refine g4 ?_;clear t;have⟨t,a⟩:=ar ((s.setCell (af7 v 3) (af6 c.s.lo)).drew);try refine g6 ?_
 try rw[a]
 have l:Hid (g7 t v 111 #[af6 d,u2,u3,af6 c.s.lo,af6 0]):=by rw[<-a];exact ax ((B.o.hJ 3 _).drew)
 have X:Hid (Touch (λj=>w.heap.size<=j/\j≠y) u t):=by rw[<-a];exact ax ((Q.o.setCell (p:=af7 v 3) (.inl O) _).drew)
 have hl3:u3.ownBlock≠some v:=own_ne B.o N3.o ab;have M4:Hid (g8 Me 0 t u2 c.s.L):=by rw[<-a];exact ax ((M3.o.far (p:=af7 v 3) W _).drew)
 have N4:Hid (g8 Me 0 t u3 c.s.W):=by rw[<-a];exact ax ((N3.o.far (p:=af7 v 3) hl3 _).drew)
 clear a;try refine g6 ?_
 have YC4:Hid (t.cell? (af7 y 9)=some (aq v)):=ax ((g9 X.o 9 R (λh=>h.2 rfl)).T YC.o);have XC4:Hid (t.cell? (af7 x 9)=some (aq p)):=ax ((g9 X.o 9 M (λh=>by have:=h.1;omega)).T XC.o);have S44:Hid (t.cell? (af7 p 4)=some (af6 c.s.hi)):=ax ((g9 X.o 4 N (λh=>by have:=h.1;omega)).T SC4.o);have lx4:x<t.heap.size:=aG M X.o.size;have ly4:y<t.heap.size:=aG R X.o.size;have lp4:p<t.heap.size:=aG N X.o.size;have a:=l.o.k4;have T:=l.o.F 4;have DC4:=ax a;have DF4:=ax T;clear a T;have a:Touch (λj=>j=v) t (t.drew.setCell (af7 v 4) (af6 c.s.hi)):=Touch.setCell (F:=λj=>j=v) ((Touch.refl _ _).drew) (p:=af7 v 4) (.inl rfl) _;go_upto_region 17 with fail;have Z:=ax (λ(b:World) (r:(Touch (λj=>j=v) t) b)=>(aB ((g9 r 9 ly4 (λe=>hyp e)).T YC4.o) (aB ((g9 r 9 lx4 (λe=>hxp e)).T XC4.o) ((g9 r 4 lp4 (λe=>hpp e)).T S44.o))));refine jh (Touch (λj=>j=v) t) (hQ 0 13 (ik 13 [])) ((Touch.refl _ _).drew) ?_;iterate 13 refine ib ?_
 refine iz λK q=>?_;have kd:t.drew.cell? (af7 v 4)=some _:=DC4.o;have kf:t.drew.frozen? (af7 v 4)=false:=DF4.o;go_simp;refine q _ _ (a) ?_;refine g4 ?_;clear a;have⟨a,r⟩:=ar ((t.setCell (af7 v 4) (af6 c.s.hi)).drew);try refine g6 ?_
 try rw[r]
 have m:Hid (g7 a v 111 #[af6 d,u2,u3,af6 c.s.lo,af6 c.s.hi]):=by rw[<-r];exact ax ((l.o.hJ 4 _).drew)
 have P:Hid (Touch (λj=>w.heap.size<=j/\j≠y) u a):=by rw[<-r];exact ax ((X.o.setCell (p:=af7 v 4) (.inl O) _).drew)
 have T:Hid (g8 Me 0 a u2 c.s.L):=by rw[<-r];exact ax ((M4.o.far (p:=af7 v 4) W _).drew)
 have z:Hid (g8 Me 0 a u3 c.s.W):=by rw[<-r];exact ax ((N4.o.far (p:=af7 v 4) hl3 _).drew)
 clear r;try refine g6 ?_
 go_wp2;go_ret;have r:=(P.o.block y R (λh=>h.2 rfl)).T HY.o;refine⟨y,rfl,nI r ⟨u2,u3,m.o,T.o,z.o,⟨O,m.o.lt⟩,λk e=>⟨?_,(T.o.lt k e).2⟩,λk e=>⟨?_,(z.o.lt k e).2⟩,λk e V=>?_,λk h=>h.2⟩ hy0,HB1.o.T (P.o.below (λk h=>h.1) hw1)⟩
 .rcases ni A2.o k e with e|e
  .exact C k e
  .exact⟨aa,aa⟩
 .rcases ni A3.o k e with e|e
  .exact D k e
  .exact⟨aa,aa⟩
 .rcases ni A3.o k e with e|e
  .exact Wu k e V
  .have:=(o.o.lt k V).2;omega
end D
namespace K
def mR.push{t:TypeId}{a:Value}{rest:List Value}{F:Nat->Prop}{w w1:World}{g:Nat}{lv tX:Value}{vs:List Sv}{L:LL}{s:Sv}{l:List Int}(h:mR t a rest F w g lv vs L)(U:g8 rZ 0 w1 tX (vs++[s]))(c:w.grownBy w1 lv.ownBlock)
 (b:tX.ownBlock=lv.ownBlock\/tX.ownBlock=some w.heap.size) (T:g8 iY 0 w (jc s) l) (f:∀k,(jc s).ownBlock=some k->¬F k) :
 mR t a rest (λk=>F k\/tX.ownBlock=some k\/(jc s).ownBlock=some k) (w1.setCell (af7 g 1) tX) g tX (vs++[s]) (L++[l]):=by
 have P:=h.blk.lt;have K:w.heap.size<=w1.heap.size:=c.size;have V:tX.ownBlock≠some g:=by
  rcases b with e|e
  .rw[e];exact h.g1
  .rw[e];intro y;injection y with y;omega
 have S:(jc s).ownBlock≠some g:=λe=>f g e h.fg;have Y:∀k,(jc s).ownBlock=some k->k<w.heap.size:=λk e=>(T.lt k e).2;have R:∀k,(jc s).ownBlock=some k->lv.ownBlock≠some k:=λk e y=>f k e (h.iN.fl k y);have M:∀k,(jc s).ownBlock=some k->tX.ownBlock≠some k:=λk e=>by
  rcases b with y|y
  .rw[y];exact R k e
  .rw[y];intro u;injection u with u;have:=Y k e;omega
 have X:∀k,k<w.heap.size->lv.ownBlock≠some k->k≠g->(w1.setCell (af7 g 1) tX).heap[k]?=w.heap[k]?:=λk z x r=>
  (a_ w1 (af7 g 1) tX k r).T (c.block k z (λe=>x e.Y))
 have q:∀i (v:i<ab0 (vs++[s])),∀k,(jc ((vs++[s])[i])).ownBlock=some k->(∃d:i<ab0 vs,(jc vs[i]).ownBlock=some k)\/(i=ab0 vs/\(jc s).ownBlock=some k):=λi v k e=>by
  rcases bm i (ab0 vs) with z|z
  .rw[da z] at e;exact .inl ⟨z,e⟩
  .have d:i=ab0 vs:=by rw[aE] at v;simp only[bh] at v;omega
   subst d;simp only[cU (aD _),cZ,bZ] at e;exact .inr ⟨rfl,e⟩
 have Q:∀i (v:i<ab0 vs) k,(jc vs[i]).ownBlock=some k->tX.ownBlock≠some k:=λi v k e=>by
  rcases b with y|y
  .rw[y];exact h.iN.apart i v k e
  .rw[y];intro u;injection u with u;have:=h.iN.lt v k e;omega
 refine⟨?_,⟨?_,by rw[aE,aE,h.iN.len];rfl,λi v=>?_,λi v k e=>?_,λi j v N O k e y=>?_,λk e=>.inr (.inl e),λi v k e=>?_⟩,.inl h.fg,V,λi v e=>?_,λk u=>?_⟩
 .have z:g7 w1 g t (a::lv::rest).toArray:=(c.block g P (λe=>h.g1 e.Y)).T h.blk
  have:=z.hJ 1 tX;simpa using this
 .exact U.far V tX
 .rcases bm i (ab0 vs) with z|z
  .rw[da z]
   have e:lvl (L++[l]) i=lvl L i:=by
    unfold lvl;simp only[List.getD];rw[cD (by rw[<-h.iN.len];exact z)]
   rw[e];exact(h.iN.each i z).stay λk e=>X k (h.iN.lt z k e) (h.iN.apart i z k e) (λy=>h.g2 i z (by rw[e,y]))
  .have d:i=ab0 vs:=by rw[aE] at v;simp only[bh] at v;omega
   subst d;have e:lvl (L++[l]) (ab0 vs)=l:=by
    unfold lvl;simp only[List.getD];rw[h.iN.len,cI (aD _)];simp
   rw[e];simp only[cU (aD _),cZ,bZ];exact T.stay λk e=>X k (Y k e) (R k e) (λy=>S (by rw[e,y]))
 .rcases q i v k e with⟨z,x⟩|⟨z,x⟩
  .exact Q i z k x
  .exact M k x
 .rcases q i v k e with⟨z,x⟩|⟨z,x⟩<;>rcases q j N k y with⟨r,p⟩|⟨r,p⟩
  .exact h.iN.diff i j z r O k x p
  .exact f k p (h.iN.fv i z k x)
  .exact f k x (h.iN.fv j r k p)
  .omega
 .rcases q i v k e with⟨z,x⟩|⟨z,x⟩
  .exact .inl (h.iN.fv i z k x)
  .exact .inr (.inr x)
 .rcases q i v g e with⟨z,x⟩|⟨z,x⟩
  .exact h.g2 i z x
  .exact S x
 .rcases u with u|u|u
  .have:=h.low k u;simp;omega
  .have:=(U.lt k u).2;simpa using this
  .have:=Y k u;simp;omega
end K
namespace D
variable{c:Js}{x:Nat}{F:Ft}
def Wv:Ty prog K.iY 196:=rg K.La underlying196 rfl ab  ab
def aa0:Ty prog K.rZ 112:=rg K.Tu underlying112 rfl ab  ab
structure Un(w w1:World)(y p2 q led:Nat)(L:K.LL)(j:Nat)(F:Ft)(wr:World)(lv:Value)(vs:List K.Sv):Prop where
 st:K.xv F wr p2 q led lv vs (L.take j)
 new:∀k,F k->w.heap.size<=k/\k≠y
 touch:Touch (λk=>w.heap.size<=k/\k≠y) w1 wr
def Fk{q:Nat}(w:World)(h:iH (.k q) c x F w)(ok:im (.k q) c):af4 af5 90 #[aq x] w λe f=>∃y,e=.returned (aq y)/\iH (.k q) c y (Gr (λ_=>False) w f) f/\af3 w f:=by
 obtain⟨p,G,z,hI,t,r,s,u⟩:=h;obtain⟨lv,vs,d⟩:=hI;have C1:Hid (af4 af5 15 #[.agg #[.int .u8 4,af6 0,af6 0,af6 0,.bool false,af6 0,af6 q]] w λe f=>∃y,e=.returned (aq y)/\iH (.k q) (.k q:ie).new y (Gr (λ_=>False) w f) f/\af3 w f):=ax (m_ w ok.sp);have P:=ax z;have v:=pN.fit ok;have hlen:=v.ok.s5;have hcnt:=v.cnt (aa2 (pN.q0 ok)) (pN.q1 ok);have HLR:=ax d.TU;have Q:=ax d;obtain⟨A,cc,rfl,hcc,hcm,_⟩:=d.form;have f0:=z.C 0;have b:=z.C 1;have a:=z.C 2;have Y:=z.C 3;have X:=z.C 4;have V:=z.C 5;have U:=z.C 6;simp only[ie.cs,ie.four,bG,bB,az,ay,aA] at f0 b a Y X V U;clear z t r s u v d;go_in;go_wp21;refine WE C1.o ?_;rintro y u ⟨hy,z⟩;obtain⟨v,J,s,hI2,N,O,S,M⟩:=hy;obtain⟨FM,vs2,t⟩:=hI2;have hy0:w.heap.size<=y:=N.elim False.elim And.left;have g:∀k,J k->w.heap.size<=k/\k≠y:=λk r=>⟨(S k r).elim False.elim And.left,λe=>O (by rw[<-e];exact r)⟩;have lx:x<u.heap.size:=aG P.o.lt z.size;have lp:p<u.heap.size:=aG Q.o.blk.lt z.size;have o:y<u.heap.size:=s.lt;have ld:v<u.heap.size:=t.blk.lt;have ZJ:=P.o.lt;have ZK:=Q.o.blk.lt;have R:=ax z;have HY:=ax s;have HG2:=ax g;have T:w.heap.size<=v/\v≠y:=g v t.fg;have hyp:y≠v:=λe=>T.2 e.Y;have hxp:x≠v:=λe=>by have:=T.1;omega
 have hpp:p≠v:=λe=>by have:=T.1;omega
 have f0:u.cell? (af7 x 0)=some (.int .u8 4):=(P.o.K z).C 0;have XC:Hid (u.cell? (af7 x 10)=some (aq p)):=ax ((P.o.K z).C 10);have YC:Hid (u.cell? (af7 y 10)=some (aq v)):=ax (s.C 10);have Z9:Hid (u.cell? (af7 p 2)=some (.int .u64 c.led)):=ax (Q.o.K z).cell2;have Z8:Hid (u.cell? (af7 p 1)=some (.slice A (ab0 c.L) cc)):=ax (Q.o.K z).cell1;have DC:=ax t.cell2;have DF:=ax (t.blk.F 2);have Hu:=ax t;have hw1:=R.o.size;clear z s N O S M t g b a Y X V U;have z:Touch (λj=>j=v) u (u.drew.setCell (af7 v 2) (.int .u64 c.led)):=Touch.setCell (F:=λj=>j=v) ((Touch.refl _ _).drew) (p:=af7 v 2) (.inl rfl) _;go_upto_region 3 with fail;have Z:=ax (λ(f:World) (s:(Touch (λj=>j=v) u) f)=>(aB ((g9 s 10 o (λe=>hyp e)).T YC.o) (aB ((g9 s 10 lx (λe=>hxp e)).T XC.o) ((g9 s 2 lp (λe=>hpp e)).T Z9.o))));refine jh (Touch (λj=>j=v) u) (hQ 0 13 (ik 13 [])) ((Touch.refl _ _).drew) ?_;iterate 13 refine ib ?_
 refine iz λK t=>?_;have kd:u.drew.cell? (af7 v 2)=some _:=DC.o;have kf:u.drew.frozen? (af7 v 2)=false:=DF.o;go_simp;refine t _ _ (z) ?_;clear t K;refine g4 ?_;clear z;have⟨w2,g⟩:=ar ((u.setCell (af7 v 2) (.int .u64 c.led)).drew);try refine g6 ?_
 try rw[g]
 have Ww:Hid (Un w u y v q c.led c.L 0 J w2 FM vs2):=by
  rw[<-g];exact ax ⟨(Hu.o.Hf _).K (aC _ _).drew,HG2.o,(Touch.setCell (Touch.refl _ _) (p:=af7 v 2) (.inl T) _).drew⟩
 clear g;go_wp2;go_loopg [4] (ab0 c.L) (λn z wr=>∃(j:Nat) (F1:Ft) (g:Value) (M:List K.Sv),n=ab0 c.L - j/\j<=ab0 c.L/\z=af6 j/\Hid (Un w u y v q c.led c.L j F1 wr g M))
 exact⟨0,J,FM,vs2,rfl,bl _,rfl,Ww⟩
 case round=>
  obtain⟨j,F1,g,M,b,hj,rfl,z⟩:=hrel;have HQ:=ax b;clear b;have XCr:=(g9 z.o.touch 10 lx (λh=>by have:=h.1;omega)).T XC.o;have SCr:=(g9 z.o.touch 1 lp (λh=>by have:=h.1;omega)).T Z8.o;have HBw:Hid (af3 w wr):=ax (R.o.T (z.o.touch.below (λk h=>h.1) hw1));have M9:=z.o.touch.size;by_cases B:j<ab0 c.L
  .have hji:(j:Int)<(ab0 c.L:Int):=aa
   obtain⟨U,W,sA,sc,rfl,hgl,V,O⟩:=HLR.o.at_ B;have S:=(g9 z.o.touch (W+j) (k:=U) (aa2 R.o.size) (λh=>by have:=h.1;omega)).T ((R.o.C (p:=af7 U (W+j)) hgl).T V);have Zg:=ax (O.K HBw.o);have X:=(g9 z.o.touch 10 o (λh=>h.2 rfl)).T YC.o;have Y:=z.o.st.cell1;have DFr:=ax (z.o.st.blk.F 1);have b:=ax (aB X (aB XCr (aB SCr (aB S Y))));have a:∀k,g.ownBlock=some k->w.heap.size<=k/\k≠y:=λk e=>z.o.new k (z.o.st.iN.fl k e);have ny:¬(g.ownBlock=some y):=λe=>(a y e).2 rfl;have nx:¬(g.ownBlock=some x):=λe=>by have:=(a x e).1;omega
   have np:¬(g.ownBlock=some p):=λe=>by have:=(a p e).1;omega
   have ng:¬(g.ownBlock=some U):=λe=>by have:=(a U e).1;omega
   have n:¬(g.ownBlock=some v):=z.o.st.g1;have lxr:x<wr.heap.size:=aa;have Um:y<wr.heap.size:=aa;have lpr:p<wr.heap.size:=aa;have m:v<wr.heap.size:=aa;have Th:U<wr.heap.size:=aa;have hll:ab0 (K.lvl c.L j)<=300000:=by have:=K.iD c.L j;omega
   have hvl:ab0 M<=100:=by have:=z.o.st.iN.len;rw[aU] at this;omega
   clear O V S X Y;go_upto_region 7 with fail;clear XCr SCr;have Z:=ax (λ(f:World) (s:(Touch (λk=>g.ownBlock=some k) wr) f)=>(aB ((g9 s 10 Um ny).T b.o.1) (aB ((g9 s 10 lxr nx).T b.o.2.1) (aB ((g9 s 1 lpr np).T b.o.2.2.1) (aB ((g9 s (W+j) Th ng).T b.o.2.2.2.1) ((g9 s 1 m n).T b.o.2.2.2.2))))));refine qd (Touch (λk=>g.ownBlock=some k) wr) 27 (pW 0 11 (pW 12 10 (o_ 11 (o_ 22 (o_ 23 (o_ 24 (FH 25 1 (pW 26 1 (o_ 27 []))))))))) ((Touch.refl _ _).drew) ?_;iterate 21 refine kz ?_
   refine nC λK t=>?_;go_simp;refine t _ _ (((Touch.refl _ _).drew).alloc _) ?_;clear t K;refine nC λK t=>?_;refine yq Wv (.tmp 51) (.tmp 61) rfl (g8.lit (E:=Go.Proofs.YtdicblkhpcphfaaGreat.K.iY) wr.drew [] _ rfl _ rfl ab) rfl _ (Go.Proofs.YtdicblkhpcphfaaGreat.K.lvl c.L j) rfl (Zg.o.K (bw)) ae ad ?_;intro v7 i s X S;have I:Touch (λk=>g.ownBlock=some k) wr i:=(((Touch.refl _ _).drew).alloc _).grown X (λk e=>.inr (by injection e with e;rw[<-e];exact aD _));have L:af3 wr i:=(((aC _ wr).drew).alloc (aD _) _).grown X (by rw[aI];exact Nat.le_succ _) (λk e=>by injection e with e;rw[<-e];exact aD _);obtain⟨Y,V,rfl,hc7,hm7,_⟩:=s.form;simp only[bB] at s hc7;have O:=ax s;clear s X S;go_simp;refine t _ _ (I) ?_;clear t K;refine nC λK t=>?_;have H:=I.alloc (.cells #[.slice Y (ab0 (Go.Proofs.YtdicblkhpcphfaaGreat.K.lvl c.L j)) V] 196);have S:af3 wr _:=L.alloc L.size (.cells #[.slice Y (ab0 (Go.Proofs.YtdicblkhpcphfaaGreat.K.lvl c.L j)) V] 196);go_simp;refine t _ _ (H) ?_;clear t K;refine nC λK t=>?_;refine yq aa0 (.tmp 50) (.tmp 63) rfl (g8.K z.o.st.iN.row S) rfl _ [(Y,ab0 (Go.Proofs.YtdicblkhpcphfaaGreat.K.lvl c.L j),V)] rfl (iQ.ig (E:=Go.Proofs.YtdicblkhpcphfaaGreat.K.rZ) i (Y,ab0 (Go.Proofs.YtdicblkhpcphfaaGreat.K.lvl c.L j),V) _ rfl _ rfl _ rfl) ae (bl _) ?_;intro v8 w8 N C D;have X:Touch (λk=>g.ownBlock=some k) wr w8:=H.grown C (λk e=>.inl e);have PU:=ax (Go.Proofs.YtdicblkhpcphfaaGreat.K.mR.push (s:=(Y,ab0 (Go.Proofs.YtdicblkhpcphfaaGreat.K.lvl c.L j),V)) (l:=Go.Proofs.YtdicblkhpcphfaaGreat.K.lvl c.L j) (z.o.st.K S) N C D (g8.alloc (g8.more O.o (bl _)) _) (λk e h=>by have h1:=z.o.st.low k h;have h2:wr.heap.size<=k:=(O.o.lt k e).1;omega));have A8':=ax D;have l8:=N.lt;obtain⟨A8,c8,rfl,_,_,_⟩:=N.form;clear N C D;go_simp;refine t _ _ (X) ?_;clear t K;refine sQ ?_;refine kz ?_;refine qc λK t=>?_;have kd:=(g9 X 1 m n).T b.o.2.2.2.2;have kf:=(kU X 1 m n).T DFr.o;go_simp;refine t _ _ ?_;clear t K;refine iq ?_;have e1:c.L.take j++[K.lvl c.L j]=c.L.take (j+1):=by rw[aM B,K.kZ B]
   have N:=PU.o;rw[e1] at N;have Sn:=S.size;have C:Touch (λk=>w.heap.size<=k/\k≠y) u w8:=z.o.touch.T X (λk e=>.inl (a k e));have D:Hid (Un w u y v q c.led c.L (j+1) _ _ _ _):=ax ⟨N,λk r=>?_,C.setCell (p:=af7 v 1) (.inl T) _⟩
   .simp only[aE,bh] at D
    clear N PU C O I X H L S;try refine g6 ?_
    go_wp2;go_roundg (ab0 c.L - (j+1))
    exact⟨j+1,_,_,_,rfl,aa,af,D⟩;have:=HQ.o;omega
   .rcases r with r|r|r
    .exact z.o.new k r
    .rcases ni A8'.o k r with e|e
     .exact a k e
     .exact⟨aa,aa⟩
    .have h2:wr.heap.size<=k:=(O.o.lt k r).1
     exact⟨aa,aa⟩
  .have hji:¬((j:Int)<(ab0 c.L:Int)):=aa
   have s:c.L.take j=c.L:=bc aa;have b:=ax s;have a:j=ab0 c.L:=aa;clear s;go_wp2;go_ret;have d:=z.o.st;rw[b.o] at d;refine⟨y,rfl,nI ((z.o.touch.block y o (λh=>h.2 rfl)).T HY.o) ((oQ v q c.L c.led).more ⟨g,M,d⟩ (λk r=>⟨z.o.new k r,d.low k r⟩) (λk h=>h.2)) hy0,HBw.o⟩
def Fl{sp:ie}(w:World)(h:iH sp c x F w)(ok:im sp c):af4 af5 90 #[aq x] w λe z=>∃y,e=.returned (aq y)/\iH sp c y (Gr (λ_=>False) w z) z/\af3 w z:=by
 cases sp with
 | h lo hi dg u m gr=>exact Fi w h ok
 | d a m=>exact Fh w h ok
 | t d=>exact Fj w h ok
 | k q=>exact Fk w h ok
abbrev Wx(sp:ie):Js->Nat->Ft->World->Prop:=λc p=>iH sp c p
def ll(sp:ie):∀c p,kK (Wx sp c p):=λc p=>ke sp c p
structure jZ(sp:ie)(now:Nat)(L:List Js)(v:Value)(ps:List Nat)(Ow:Nat->Ft)(G:Ft)(x:Nat)(w:World):Prop where
 blk:g7 w x 54 (sp.cs++[v,Value.int .u64 now]).toArray
 ring:RingAt 49 (Wx sp) L v ps Ow G w
 pos:0<ab0 L
 n60:ab0 L<=60
 o:¬G x
def iV(sp:ie)(s:Wn)(x:Nat)(F:Ft)(w:World):Prop:=∃v ps Ow G,jZ sp s.now s.L v ps Ow G x w/\F x/\(∀k,G k->F k)/\∀k,F k->k<w.heap.size
section
variable {sp : ie} {now x n a o : Nat} {L : List Js} {v : Value} {ps : List Nat} {Ow : Nat -> Ft} {G F H : Ft} {w w' : World} {s : Wn} {cq : Value} {B : List Int}
variable{i:Nat}
def jZ.stay(h:jZ sp now L v ps Ow G x w)(y:w'.heap[x]?=w.heap[x]?)(z:∀k,G k->w'.heap[k]?=w.heap[k]?)(u:w.heap.size<=w'.heap.size):jZ sp now L v ps Ow G x w':=
 ⟨y.T h.blk,h.ring.stay (ll sp) z u,h.pos,h.n60,h.o⟩
def jZ.K(h:jZ sp now L v ps Ow G x w)(z:af3 w w'):jZ sp now L v ps Ow G x w':=h.stay (z.block x h.blk.lt) (λk y=>z.block k (h.ring.low k y)) z.size
def iM(sp:ie)(s:Wn)(x:Nat):kK (iV sp s x) where
 stay:=λ⟨v,ps,Ow,G,u,z,y,t⟩ r q=>⟨v,ps,Ow,G,u.stay (r x z) (λk e=>r k (y k e)) q,z,y,λk h=>aG (t k h) q⟩
 more:=λ⟨v,ps,Ow,G,u,z,y,_⟩ h r=>⟨v,ps,Ow,G,u,h x z,λk e=>h k (y k e),r⟩
 low:=λ⟨_,_,_,_,_,_,_,t⟩=>t
def jZ.c7(h:jZ sp now L v ps Ow G x w):w.cell? (af7 x 7)=some v:=by have:=h.blk.C 7;revert this;cases sp<;>exact id
def jZ.c8(h:jZ sp now L v ps Ow G x w):w.cell? (af7 x 8)=some (.int .u64 now):=by have:=h.blk.C 8;revert this;cases sp<;>exact id
def jZ.js(h:jZ sp now L v ps Ow G x w)(z:i<ab0 L):iH sp (L.getD i sp.new) (ps.getD i 0) (Ow i) w:=by
 rw[aT,aL z,br];exact h.ring.each _ z
def Ba{c':Js}(h:jZ sp s.now s.L v ps Ow G x w)(u:F x)(y:∀k,G k->F k)(p:∀k,F k->k<w.heap.size)(g:i<ab0 s.L)
 (f:iH sp c' (ps.getD i 0) (Gr (Ow i) w w') w') (z:Touch (λk=>Ow i k\/H k) w w') (t:∀k,H k->¬F k) :
 iV sp {s with L:=s.L.set i c'} x (Gr F w w') w'/\Touch (λk=>F k\/H k) w w':=by
 have d:¬(Ow i x\/H x):=λe=>e.elim (λe=>h.o (h.ring.qu _ _ e)) (λe=>t x e u);exact⟨⟨v,ps,pg Ow i (Gr (Ow i) w w'),Gr G w w',⟨(z.block x h.blk.lt d).T h.blk,h.ring.turn (ll sp) g f z (λk r q=>t k r (y k q)),by show 0<ab0 (s.L.set i c');rw[aZ];exact h.pos,by show(s.L.set i c').length<=60;rw[aZ];exact h.n60,λe=>e.elim h.o (λe=>by have:=h.blk.lt;omega)⟩,.inl u,λk e=>e.imp (y k) id,jt p z.size⟩,z.M λk e=>e.imp (λe=>y k (h.ring.qu _ _ e)) id⟩
end
