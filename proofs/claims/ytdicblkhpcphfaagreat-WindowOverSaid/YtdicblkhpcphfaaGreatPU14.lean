/- Parts. -/
import Derived.Test.YtdicblkhpcphfaaGreatPU13
set_option maxRecDepth 100000
set_option maxHeartbeats 0
set_option linter.all false
namespace Go.Proofs.YtdicblkhpcphfaaGreat
open Tryz Go.RowKit Go.Lib
open _root_.List renaming length→ab0
open Go.IntKind renaming wrap→ad0
open _root_.Go renaming Calls→af4
open Tryz renaming prog→af5
namespace D
variable{F F2:Ft}{w w' w1 w2:World}{l l' l2:List Pr}{a c d j m y:Nat}{f:Int}
def Ax{P:Ft->World->Prop}(S:kK P){er:Int}{e:Ending}(y:af3 w w1)(x:∀k,F k->k<w.heap.size)(z:wM P F er w1 e w'):wM P F er w e w':=
 ⟨z.1,S.more z.2.1 (λk h=>h.imp id λh=>⟨bf y.size h.1,h.2⟩) (jt x (bf y.size z.2.2.size)),BF y z.2.2⟩
def KJ(h:tot l=tot l')(k n:Int):jH l k n=jH l' k n:=by unfold jH;rw[h]
def GQ{t t':List Pr}(h:tot l=tot l')(z:tot t=tot t'):i4 l t=i4 l' t':=by unfold i4;rw[h,z]
def Ji{b:Nat}{H G:Ft}(y:g7 w d 210 #[aq b,aq c])(s:S9 b a H w)(q:F d)(p:∀k,H k->F k)(v:∀k,G k->F k)(u:¬G d)(t:∀k,H k->¬G k)(r:∀k,F k->k<w.heap.size)
 (g:uX c m (hZ m l').1 (hZ m l').2 (Gr G w w') w') (z:Touch G w w'):px d a m l' (Gr F w w') w'/\Touch F w w':=
 ⟨⟨b,c,H,Gr G w w',(z.block d y.lt u).T y,(mP b a).far s z t,g,.inl q,λk h=>.inl (p k h),λk h=>h.imp (v k) id,λh=>h.elim u (λh=>by have:=y.lt;omega),λk h x=>x.elim (t k h) (λx=>by have:=(mP b a).low s k h;omega),jt r z.size⟩,z.M v⟩
def NM(v n:Int)(w:World)(h:px d a m l F w)(ok:kG a m l)(v0:-9223372036854775808<=v)(v1:v<=9223372036854775807)(i:0<=n)(n1:n<18446744073709551616):af4 af5 131 #[aq d,af6 v,.int .u64 n] w (wM (px d a m (DH a l v n)) F (GM a l v n) w):=by
 have S:=ax h;obtain⟨b,c,H,G,u,x,R,q,Y,g,f,V,r⟩:=h;obtain⟨k0,W⟩:=u.c2;have o:=u.lt;have X:=ax (aB u (aB x (aB R (aB q (aB Y (aB g (aB f (aB V r))))))));clear u R q Y g f V r;by_cases Q:n=0
 .have z:GM a l v n=4:=aH Q
  have s:DH a l v n=l:=by unfold DH;rw[z];rfl
  rw[z,s];clear z s x;go_in;go_wp2;go_ret;exact lh (ks d a m l) S.o rfl (aC _ _)
 .by_cases M:v=-9223372036854775808
  .subst M
   have z:GM a l (-9223372036854775808) n=5:=by unfold GM;rw[aF Q,aH rfl]
   have s:DH a l (-9223372036854775808) n=l:=by unfold DH;rw[z];rfl
   rw[z,s];have T:=ax (QE w x.at_);clear z s x;go_in;go_wp21;refine RX T.o ?_;intro t y;go_wp2;go_ret;exact lh (ks d a m l) S.o rfl y
  .have z:GM a l v n=jH l (tL a v) n:=by unfold GM;rw[aF Q,aF M]
   have K:=ax (by unfold DH;rw[z]:DH a l v n=if jH l (tL a v) n=0 then iu (tL a v) n l else l);rw[z];have T:=ax (QD v w x.at_ ok.a0 ok.a1 aa v1);obtain⟨p,U,O,N,L⟩:=ok.cut;have J:=ax (Nd (m:=m) (aa2 ok.m0) ok.jk ok.pos (tL a v) n aa);have P:Hid (∀t,af3 w t->_):=ax (λt I=>Nx (k:=tL a v) (n:=n) t ((nD _ _ _ _).K X.o.2.2.1 I) p O ok.m0 ok.m1 N L i n1);rw[KJ U] at P;generalize tL a v=k at *;generalize jH l k n=I at *;clear x z p U O N L;go_in;go_wp21;refine RX T.o ?_;intro t y;have ac2:=(y.C (p:=af7 d 1) o).T W;go_wp21;refine(P.o t y).M ?_;intro e w' N;have L:=ax N;obtain⟨rfl,_⟩:=N;go_wp2;go_ret;obtain⟨_,E,D⟩:=L.o;obtain⟨u,x,R,q,Y,g,f,V,r⟩:=X.o;rw[K.o];by_cases U:I=0
   .rw[aH U]
    obtain⟨O,C⟩:=E U;rw[J.o] at O;have j:=(mP b a).K x y;obtain⟨B,A⟩:=Ji (u.K y) j q Y g f V (λk h=>aG (r k h) y.size) O C;exact Ax (ks d a m _) y r ⟨rfl,B,A⟩
   .rw[aF U]
    exact lh (ks d a m l) S.o rfl (y.T ((D U).M y.size))
def QL{d2:Nat}(w:World)(h:px d a m l F w)(r:px d2 a m l2 F2 w)(ok:kG a m l)(s:kG a m l2)(y:(∀k,F2 k->¬F k)\/d2=d):af4 af5 104 #[aq d,aq d2] w (wM (px d a m (BI l l2)) F (i4 l l2) w):=by
 have n:=ax h;have A:=ax (uY w h);have j:=ax (uY w r);obtain⟨b,c,H,G,z,Y,R,p,g,v,t,f,u⟩:=h;obtain⟨b2,x,H2,G2,q,_,V,Q,_,P,_⟩:=r;have O:¬G x\/x=c:=by
  rcases y with y|rfl
  .left
   obtain⟨_,_,_,_,X,_⟩:=V;exact λh=>y x (P x X) (v x h)
  .right
   have e:=z.C 1;rw[q.C 1] at e;simpa using e
 obtain⟨N,M,L,J,I⟩:=ok.cut;obtain⟨E,D,p3,C,B⟩:=s.cut;have S:Hid (∀X,af3 w X->_):=ax (λX U=>KA X ((nD _ _ _ _).K R U) (V.r.K U) N E L (aa2 s.m1) ok.m0 ok.m1 J I C B O ok.m1);rw[aH rfl,GQ M D] at S;have W:=ax (Dl (m:=m) (aa2 ok.m0) ok.jk ok.pos s.jk s.pos);have U:=z.k1;have T:=q.k1;have k:=z.lt;have XW:=q.lt;have i:¬G d2:=λh=>by
  rcases y with y|rfl
  .exact y d2 Q (v d2 h)
  .exact t h
 have o:Hid (BI l l2=if i4 l l2=0 then iC l l2 else l):=ax rfl;have X:=ax (aB z (aB Y (aB p (aB g (aB v (aB t (aB f u)))))));have K:=ax (aB U T);clear z Y R q V p g v u f ok s N M L J I E D p3 C B y O U T Q P;generalize i4 l l2=T at *;have U:Hid (w.cell? (af7 d 1)=some (aq c)/\w.cell? (af7 d2 1)=some (aq x)):=K;clear K;go_in;go_wp21;refine Ix j.o ?_;go_wp21;refine Ix A.o ?_;go_wp21;have Z:=ax (λ(V:World) (y:(Touch G w) V)=>(aB ((g9 y 1 k t).T U.o.1) ((g9 y 1 XW i).T U.o.2)));refine jh (Touch G w) (hQ 0 8 (ik 8 (hQ 9 1 []))) ((Touch.refl _ _).drew) ?_;iterate 8 refine ib ?_
 refine iz λK Q=>?_;go_simp;refine(S.o w.drew (aC _ _).drew).M ?_;intro e I q;have P:=ax q;have O:Touch G w I:=(by by_cases y:T=0;exact BF (aC _ _).drew ((q.2.1 y).2);exact Touch.of_below ((aC _ _).drew.T (q.2.2 y)) (aD _));obtain⟨rfl,_⟩:=q;refine Q _ _ (O) ?_;refine ib ?_;refine g4 ?_;go_wp2;go_ret;obtain⟨_,N,r⟩:=P.o;obtain⟨z,Y,p,g,v,t,f,u⟩:=X.o;rw[o.o];have s:af3 w w.drew:=(aC _ _).drew;by_cases y:T=0
 .rw[aH y]
  obtain⟨R,M⟩:=N y;rw[show mr m ((hZ m l).1,(hZ m l).2) ((hZ m l2).1,(hZ m l2).2) (iC (hZ m l).1 (hZ m l2).1)=hZ m (iC l l2) from W.o] at R;obtain⟨L,J⟩:=Ji (z.K s) ((mP b a).K Y s) p g v t f u R M;exact Ax (ks d a m _) s u ⟨rfl,L,J⟩
 .rw[aF y]
  exact lh (ks d a m l) n.o rfl (s.T (r y))
def tN(y a m:Nat)(l:List Pr)(F:Ft)(w:World):Prop:=∃rv v,g7 w y 131 #[rv,af6 a,af6 m,v]/\g8 (I9 154) 0 w rv (spans a)/\g8 iF 0 w v l/\F y/\(∀k,rv.ownBlock=some k->F k)/\(∀k,v.ownBlock=some k->F k)/\∀k,F k->k<w.heap.size
def yB(y a m:Nat)(l:List Pr):kK (tN y a m l) where
 stay:=λ⟨g,v,t,s,r,z,x,u,q⟩ p f=>⟨g,v,(p y z).T t,s.stay λk e=>p k (x k e),r.stay λk e=>p k (u k e),z,x,u,λk h=>aG (q k h) f⟩
 more:=λ⟨g,v,t,s,r,z,x,u,_⟩ h p=>⟨g,v,t,s,r,h y z,λk e=>h k (x k e),λk e=>h k (u k e),p⟩
 low:=λ⟨_,_,_,_,_,_,_,_,q⟩=>q
def QM(a m:Nat)(w:World)(t:100<=a)(s:a<=5000)(q:2<=m)(p:m<=4096):af4 af5 48 #[af6 a,af6 m] w λe x=>∃y,e=.returned (aq y)/\tN y a m [] (Gr (λ_=>False) w x) x/\af3 w x:=by
 go_in;go_wp21;refine WE (kN a w t s) ?_;rintro v u ⟨y,r⟩;have g:=r.size;have z:=ax y;obtain⟨A,c,rfl,_,_,_⟩:=y.form;clear y;go_wp2;go_ret;have y:af3 u (u.alloc (.cells #[.slice A (ab0 (spans a)) c,af6 a,af6 m,.slice none 0 0] 131)):=bw;exact⟨_,rfl,⟨_,.slice none 0 0,g7.new _ _ _,(z.o.K y).more (bl _),g8.nil_ _ _,.inr ⟨aa,ad⟩,λk e=>.inr ⟨(z.o.lt k e).1,by have:=(z.o.lt k e).2;simp;omega⟩,(λk e=>by cases e),λk h=>h.elim False.elim And.right⟩,bw⟩
def DL{rv v v':Value}(x:g7 w y 131 #[rv,af6 a,af6 m,v])(s:g8 (I9 154) 0 w rv (spans a))(t:F y)(d:∀k,rv.ownBlock=some k->F k)(q:∀k,F k->k<w.heap.size)
 (z:af3 w w2) (u:g8 iF 0 w2 v' l') (c:∀k,v'.ownBlock=some k->F k\/w.heap.size<=k):tN y a m l' (Gr F w (w2.setCell (af7 y 3) v')) (w2.setCell (af7 y 3) v')/\Touch F w (w2.setCell (af7 y 3) v'):=by
 have g:=own_ne x s ab;have f:=own_ne (x.K z) u ab;have r:Touch F w (w2.setCell (af7 y 3) v'):=(Touch.of_below (F:=F) z (aD _)).setCell (p:=af7 y 3) (.inl t) v';refine⟨⟨rv,v',(x.K z).hJ 3 v',(s.K z).far g _,u.far f _,.inl t,λk e=>.inl (d k e),λk e=>(c k e).imp id λh=>⟨h,?_⟩,jt q r.size⟩,r⟩;have:=u.lt k e;simpa using this.2
def QN(v n:Int)(w:World)(h:tN y a m l F w)(ok:kG a m l)(v0:-9223372036854775808<=v)(v1:v<=9223372036854775807)(n0:0<=n)(n1:n<18446744073709551616):af4 af5 92 #[aq y,af6 v,.int .u64 n] w (wM (tN y a m (DH a l v n)) F (GM a l v n) w):=by
 have P:=ax h;by_cases U:n=0
 .have z:GM a l v n=4:=aH U
  have q:DH a l v n=l:=by unfold DH;rw[z];rfl
  rw[z,q];clear z q h;subst U;go_in;go_wp2;go_ret;exact lh (yB y a m l) P.o rfl (aC _ _)
 .by_cases H:v=-9223372036854775808
  .subst H
   have z:GM a l (-9223372036854775808) n=5:=by unfold GM;rw[aF U,aH rfl]
   have q:DH a l (-9223372036854775808) n=l:=by unfold DH;rw[z];rfl
   rw[z,q];clear z q h;go_in;go_wp2;go_ret;exact lh (yB y a m l) P.o rfl (aC _ _)
  .have z:GM a l v n=jH l (tL a v) n:=by unfold GM;rw[aF U,aF H]
   have d:=ax (by unfold DH;rw[z]:DH a l v n=if jH l (tL a v) n=0 then iu (tL a v) n l else l);rw[z];obtain⟨rv,u,s,r,f,V,T,R,Y⟩:=h;have C:Hid (∀t,af3 w t->_):=ax (λt x=>NA rv v t ((r.K x).rd) ok.a0 ok.a1 aa v1);have D:Hid (∀t,af3 w t->_):=ax (λt x=>GL u (tL a v) n l t ((f.K x).rd) ok.pos n0 n1 ok.sum (aa2 ok.len));have g:=s.k0;have b:=s.k3;have G:=s.lt;have X:=ax (aB s (aB r (aB f (aB V (aB T (aB R Y))))));obtain⟨A,c,rfl,_,_,_⟩:=f.form;obtain⟨A1,c1,rfl,_,_,_⟩:=r.form;clear s r f V T R Y z;generalize tL a v=k at *;generalize jH l k n=M at *;rw[d.o];obtain⟨o,p⟩:∃x,(if M=0 then iu k n l else l)=x:=⟨_,rfl⟩;rw[p];have B:=ax p;clear p d;have N:=ax (aB g b);clear g b;go_in;go_wp21;have Z:=ax (λ(p:World) (x:(af3 w) p)=>(aB ((x.C (p:=af7 y 0) G).T N.o.1) ((x.C (p:=af7 y 3) G).T N.o.2)));refine jh (af3 w) (hQ 0 9 (hQ 10 1 (ik 9 (ik 11 (hQ 12 5 []))))) ((aC _ _).drew) ?_;iterate 10 refine ib ?_
   refine iz λK g=>?_;go_simp;refine Ix (C.o w.drew (aC _ _).drew) ?_;refine g _ _ ((aC _ _).drew) ?_;refine iz λK g=>?_;go_simp;refine(D.o w.drew (aC _ _).drew).M ?_;intro e E I;have O:=ax I;obtain⟨Q,rfl,_,_,i⟩:=I;have x:af3 w E:=(aC _ _).drew.T i;refine g _ _ (x) ?_;iterate 5 refine ib ?_
   refine g4 ?_;have S:Hid (g8 iF 0 E Q o/\∀j,Q.ownBlock=some j->F j\/w.heap.size<=j):=ax (by
    rw[<-B.o];obtain⟨v3',J,L,W,_⟩:=O.o;simp only[dF,Value.tuple.injEq] at J;have:Q=v3':=by simpa using J
    subst this;by_cases d:M=0
    .rw[aH d]
     exact⟨(L d).more (bl _),λj e=>.inr ((L d).lt j e).1⟩
    .rw[aF d]
     obtain rfl:=W d;exact⟨X.o.2.2.1.K x,λj e=>.inl (X.o.2.2.2.2.2.1 j e)⟩)
   have b:=(X.o.1.K x).k3;have J:=(X.o.1.K x).F 3;obtain⟨d,L,rfl,_,_,_⟩:=S.o.1.form;clear O;go_wp2;go_ret;obtain⟨s,r,f,V,T,R,Y⟩:=X.o;exact⟨rfl,DL s r V T Y x S.o.1 S.o.2⟩
def NN{y2:Nat}(w:World)(h:tN y a m l F w)(r:tN y2 a m l2 F2 w)(ok:kG a m l)(t:kG a m l2):af4 af5 50 #[aq y,aq y2] w (wM (tN y a m (BI l l2)) F (i4 l l2) w):=by
 have Y:Hid (BI l l2=if i4 l l2=0 then iC l l2 else l):=ax rfl;obtain⟨n,u,z,f,v,g,b,V,q⟩:=h;obtain⟨W,u2,x,_,p,_,_,_,_⟩:=r;have L:Hid (∀s,af3 w s->_):=ax (λs d=>DD u u2 l l2 s ((v.K d).rd) ((p.K d).rd) ok.pos t.pos ok.sum t.sum (aa6 ok.len t.len));have P:=z.k1;have O:=z.k2;have s:=z.k3;have T:=x.k1;have Q:=x.k2;have d:=x.k3;have E:=z.lt;have D:=x.lt;have U:l2=[]->iC l l2=l:=λh=>by rw[h];exact qa _
 have X:=ax (aB z (aB f (aB v (aB g (aB b (aB V q))))));obtain⟨A,c,rfl,_,_,_⟩:=v.form;obtain⟨B,o,rfl,_,_,_⟩:=p.form;clear z f v g b V q x p ok t;have J:=ax U;clear U;generalize i4 l l2=R at *;rw[Y.o];obtain⟨H,t⟩:∃x,(if R=0 then iC l l2 else l)=x:=⟨_,rfl⟩;rw[t];have I:=ax t;clear t Y;have S:=ax (aB s d);go_in;go_upto_region 1 with fail;go_quiet (fail)
 clear P O s T Q d;go_wp21;have Z:=ax (λ(t:World) (x:(af3 w) t)=>(aB ((x.C (p:=af7 y 3) E).T S.o.1) ((x.C (p:=af7 y2 3) D).T S.o.2)));refine jh (af3 w) (hQ 0 8 (ik 8 (hQ 9 5 []))) ((below_drewN (aC _ _) nq).drew) ?_;iterate 8 refine ib ?_
 refine iz λK P=>?_;go_simp;refine(L.o _ (below_drewN (aC _ _) nq).drew).M ?_;intro e M N;have T:=ax N;obtain⟨U,rfl,_,_,G⟩:=N;have x:af3 w M:=(below_drewN (aC _ _) nq).drew.T G;refine P _ _ (x) ?_;iterate 5 refine ib ?_
 refine g4 ?_;have Y:Hid (g8 iF 0 M U H/\∀j,U.ownBlock=some j->F j\/w.heap.size<=j):=ax (by
  rw[<-I.o];obtain⟨C,O,Q,r,_⟩:=T.o;simp only[dF,Value.tuple.injEq] at O;have:U=C:=by simpa using O
  subst this;by_cases t:R=0
  .rw[aH t]
   by_cases d:l2=[]
   .obtain rfl:=r (.inr d)
    rw[J.o d];exact⟨X.o.2.2.1.K x,λj e=>.inl (X.o.2.2.2.2.2.1 j e)⟩
   .exact⟨(Q t d).more (bl _),λj e=>.inr ((Q t d).lt j e).1⟩
  .rw[aF t]
   obtain rfl:=r (.inl t);exact⟨X.o.2.2.1.K x,λj e=>.inl (X.o.2.2.2.2.2.1 j e)⟩)
 have s:=(X.o.1.K x).k3;have Q:=(X.o.1.K x).F 3;obtain⟨t,d,rfl,_,_,_⟩:=Y.o.1.form;clear T;go_wp2;go_ret;obtain⟨z,f,v,g,b,V,q⟩:=X.o;exact⟨rfl,DL z f g b q x Y.o.1 Y.o.2⟩
def KK(x n y k:Int)(w:World)(h:y<x):af4 af5 440 #[.agg #[af6 x,.int .u64 n],.agg #[af6 y,.int .u64 k]] w (au w (af6 1)):=by
 go_in;go_wp2;go_ret;exact⟨rfl,bw⟩
def sJ(v:Value)(l:List Pr)(w:World)(h:iQ iF w v l)(y:ji l)(F:ab0 l<=100000):af4 af5 439 #[v,.func (.func 440) #[] #[]] w (au w (.bool true)):=by
 obtain⟨A,c,rfl,_,_,z⟩:=h.form;have U:=ax z;have Q:Hid (∀j (h:j+1<ab0 l),l[j].1<l[j+1].1):=ax (λj h=>ck.1 y j (j+1) _ h aa);clear h z y;go_in;go_wp2;go_loopg [5] (ab0 l) (λq x wr=>∃i:Int,x=af6 i/\-1<=i/\i<(ab0 l:Int)/\i<q/\af3 w wr)
 exact⟨(ab0 l:Int) - 1,af,aa,aa,aa,aC _ _⟩
 case round=>
  obtain⟨i,rfl,I,H,D,r⟩:=hrel;have Y:=r.size;by_cases E:0<i
  .obtain⟨j,rfl⟩:∃j:Nat,i=(j:Int)+1:=⟨(i - 1).toNat,aa⟩
   have R:j+1<ab0 l:=aa;obtain⟨g,s,rfl,t,q,f⟩:=j' U.o R;obtain⟨J,B,O,_,d,b⟩:=j' U.o (j:=j) (by omega);cases O
   have u:=ax (aB q (aB f (aB d b)));have N:=Q.o j R;have C:((j:Int)+1) - 1=(j:Int):=aa;have G:(j:Int)<(ab0 l:Int):=aa;have T:Hid (ad0 .i64 ((j:Int))=(j:Int)):=ax ah;clear q f d b;generalize l[j+1].1=x at *;generalize l[j+1].2=n at *;generalize l[j].1=y at *;generalize l[j].2=k at *;go_upto_region 4 with fail;refine jh (af3 wr) (hQ 0 10 (ik 10 (hQ 11 1 []))) ((aC _ _).drew) ?_;iterate 10 refine ib (h:=λX a=>by have M:=T.o;have z:=r.T (a.M Y);have q:=(z.C (p:=⟨g,s+(j+1) * 2,none⟩) t).T u.o.1;have f:=(z.C (p:=⟨g,s+(j+1) * 2+1,none⟩) t).T u.o.2.1;have d:=(z.C (p:=af7 g (s+j * 2)) t).T u.o.2.2.1;have b:=(z.C (p:=af7 g (s+j * 2+1)) t).T u.o.2.2.2;exact af8) ?_
   refine iz λK S=>?_;go_simp;refine RX (KK x n y k wr.drew N) ?_;intro L P;have V:af3 wr L:=(aC _ _).drew.T P;refine S _ _ (V) ?_;refine ib (h:=λX a=>by have M:=T.o;have z:=r.T (a.M Y);have q:=(z.C (p:=⟨g,s+(j+1) * 2,none⟩) t).T u.o.1;have f:=(z.C (p:=⟨g,s+(j+1) * 2+1,none⟩) t).T u.o.2.1;have d:=(z.C (p:=af7 g (s+j * 2)) t).T u.o.2.2.1;have b:=(z.C (p:=af7 g (s+j * 2+1)) t).T u.o.2.2.2;exact af8) ?_;refine g4 ?_;go_wp2;go_roundg (j+1)
   exact⟨(j:Int),af,aa,aa,aa,r.T (V.M Y)⟩;omega
  .go_wp2
   go_ret;exact⟨rfl,r⟩
def yC{g3:Nat}{w3 w4:World}(b:uX c m [] 0 (Gr (λ_=>False) w w1) w1)(v:af3 w w1)(y:af3 w1 w2)(t:af3 w2 w3)(Y:mW g3 l (Gr (λ_=>False) w2 w3) w3)
 (z:w4=(w3.setCell (af7 c 1) (aq g3)).setCell (af7 c 2) (.int .u64 f)):uX c m l f (Gr (λ_=>False) w w4) w4/\af3 w w4:=by
 obtain⟨V,X,r,_,g,_,_,_⟩:=b;have x:w.heap.size<=c/\c<w1.heap.size:=g.elim False.elim id;have T:=y.size;have S:=t.size;have u:=y.T (t.M y.size);have d:=v.T (u.M v.size);have U:w4.heap.size=w3.heap.size:=by rw[z];simp
 have q:af3 w w4:=by rw[z];exact(d.setCell x.1 _).setCell x.1 _
 have p:g7 w4 c 285 #[af6 m,aq g3,.int .u64 f]:=by
  rw[z];exact((r.K u).hJ 1 _).hJ 2 _
 have s:∀k,Gr (λ_=>False) w2 w3 k->k≠c:=λk h=>by
  have:=h.elim False.elim id;omega
 refine⟨⟨g3,Gr (λ_=>False) w2 w3,p,(jK g3 l).stay Y (λk a=>?_) aa,.inr ⟨x.1,aa⟩,λh=>s c h rfl,λk h=>.inr (aa2 (h.elim False.elim id)),λk h=>(h.elim False.elim And.right)⟩,q⟩;have:=s k a;rw[z,a_ _ _ _ k this,a_ _ _ _ k this]
structure Ve(m:Nat)(l:List Pr)(f:Int):Prop where
 ok:qP l
 len:ab0 l<=m
 f0:0<=f
 f1:f<=4611686018427387904
 full:0<f->ab0 l=m/\∃p t,l=p::t/\f<p.2
def GR(v:Value)(w:World)(h:iQ iF w v l)(ok:Ve m l f)(m0:2<=m)(m1:m<=4096):af4 af5 396 #[af6 m,v,.int .u64 f] w λe L=>∃c,e=.returned (.tuple #[aq c,af6 0])/\uX c m l f (Gr (λ_=>False) w L) L/\af3 w L:=by
 obtain⟨A,k,rfl,_,_,Y⟩:=h.form;have I:=ax (Nv m w m0 m1);have U:Hid (∀z,af3 w z->_):=ax (λz y=>sJ (.slice A (ab0 l) k) l z (h.K y) ok.ok.jk ok.ok.len);have V:Hid (∀z,af3 w z->_):=ax (λz y=>S5 (.slice A (ab0 l) k) l z (h.K y) ok.ok (aa2 ok.len));have hlm:(ab0 l:Int)<=(m:Int):=by have:=ok.len;omega
 have E:=ok.f0;have D:=ok.f1;have hgf:decide ((ab0 l:Int) > (m:Int))=false:=ae;by_cases G:0<f
 .obtain⟨u,p,t,rfl,i⟩:=ok.full G
  have HF:=ax Y;obtain⟨g,off,rfl,hg,x,y⟩:=j' Y (j:=0) (by simp);simp only[bZ] at x y;have H:(ab0 (p::t):Int)=(m:Int):=aa;have hl0:(0:Int)<(ab0 (p::t):Int):=aa;have J:=ax (aB x y);obtain⟨M,X⟩:=p;simp only[] at J i;have hlt:decide (((ab0 ((M,X)::t):Nat):Int)<(m:Int))=false:=by simp;simp at H;omega
  have hle:decide (X<=f)=false:=ae;have⟨n,hn⟩:=ar (ab0 ((M,X)::t));rw[hn] at hlm hgf H hl0 hlt U V |-;clear h Y ok x y u;generalize (M,X)::t=l at *
  go_in;go_wp21;refine WE I.o ?_;rintro c z ⟨d,x⟩;have s:=ax d;clear d;go_wp21;refine RX (U.o z x) ?_;intro K u;have a:=x.T (u.M x.size);have y:=(a.C (p:=af7 g (off+0 * 2+1)) hg).T J.o.2;simp only[dj,cF] at y;go_wp21;clear y;refine WE (V.o K a) ?_;rintro W w3 ⟨b,q⟩;have T:=ax b;clear b;have Q:=s.o;obtain⟨o,F,r,_,S,_,_,_⟩:=Q;have P:=u.T (q.M u.size);have y:=ax (r.K P);clear r S;have O:=y.o.k1;have N:=y.o.k2;have C:=y.o.F 1;have B:=y.o.F 2;go_wp2;go_ret2;obtain⟨S,R⟩:=yC s.o x u q T.o rfl;exact⟨c,rfl,S,R⟩
 .obtain rfl:f=0:=aa
  clear h Y ok E D G;go_in;go_wp21;refine WE I.o ?_;rintro c z ⟨d,x⟩;have s:=ax d;clear d;go_wp21;refine RX (U.o z x) ?_;intro K u;have a:=x.T (u.M x.size);go_wp21;refine WE (V.o K a) ?_;rintro W w3 ⟨b,q⟩;have T:=ax b;clear b;have Q:=s.o;obtain⟨o,F,r,_,_,_,_,_⟩:=Q;have P:=u.T (q.M u.size);have y:=ax (r.K P);clear r;have O:=y.o.k1;have N:=y.o.k2;have C:=y.o.F 1;have B:=y.o.F 2;go_wp2;go_ret2;obtain⟨S,R⟩:=yC s.o x u q T.o rfl;exact⟨c,rfl,S,R⟩
def KL{B n:Int}(h:∀p∈l,-B<=p.1/\p.1<=B):∀p∈bump n l,-B<=p.1/\p.1<=B:=by
 cases l with
 | nil=>exact h
 | cons q l=>
  intro p z;rcases aS.1 z with rfl|z
  .exact h q (aJ ..)
  .exact h p (aQ _ z)
def kG.Tf(h:kG a m l):∀p∈(hZ m l).1,-(ab0 (spans a):Int)<=p.1/\p.1<=(ab0 (spans a):Int):=
 KL (λp z=>h.key p (cp z))
def kG.ld(h:kG a m l):Ve m (hZ m l).1 (hZ m l).2:=by
 obtain⟨x,_,v,u,s⟩:=h.cut;refine⟨x,v,u,s,λy=>?_⟩;have g:m<ab0 l:=by
  rcases bm m (ab0 l) with z|z
  .exact z
  .rw[lT z] at y;exact absurd y ad
 have y:ab0 (l.drop (ab0 l - m))=m:=by rw[aW];omega
 refine⟨by show(bump _ _).length=m;rw[bump_length,y],?_⟩;show ∃p t,bump (D.tot (l.take (ab0 l - m))) (l.drop (ab0 l - m))=p::t/\D.tot (l.take (ab0 l - m))<p.2
 have z:i' (l.drop (ab0 l - m)):=λp z=>h.pos p (cp z)
 revert z y
 generalize l.drop (ab0 l - m)=r;intro y z;cases r with
 | nil=>have:=h.m0;simp at y;omega
 | cons q r=>exact⟨_,_,rfl,by have:=z q (aJ ..);show _<q.2+_;omega⟩
def DM{d a m c:Nat}{l:List Pr}{w w1 w2 w3 w4:World}(h:px d a m [] (Gr (λ_=>False) w w1) w1)(g:af3 w w1)(s:af3 w1 w2)(f:af3 w2 w3)(N:uX c m (hZ m l).1 (hZ m l).2 (Gr (λ_=>False) w2 w3) w3)
 (y:w4=w3.setCell (af7 d 1) (aq c)):px d a m l (Gr (λ_=>False) w w4) w4/\af3 w w4:=by
 obtain⟨b,I,H,G,t,R,E,T,S,C,B,A,D⟩:=h;have Y:w.heap.size<=d/\d<w1.heap.size:=T.elim False.elim id;have j:=s.size;have o:=f.size;have r:=s.T (f.M s.size);have P:=g.T (r.M g.size);have F:w4.heap.size=w3.heap.size:=by rw[y];simp
 have V:af3 w w4:=by rw[y];exact P.setCell Y.1 _
 have U:g7 w4 d 210 #[aq b,aq c]:=by
  rw[y];exact(t.K r).hJ 1 _
 obtain⟨v,x,X,L,K,J⟩:=R;have O:b≠d:=λe=>by
  subst e;have z:=t;unfold g7 at x z;rw[z] at x;simp only[bg,Obj.cells.injEq] at x;exact absurd x.2 ab
 have M:=own_ne t X ab;have Q:S9 b a (λk=>H k/\k≠d) w1:=⟨v,x,X,⟨L,O⟩,λk e=>⟨K k e,λq=>M (q▸e)⟩,λk e=>J k e.1⟩;have u:∀k,Gr (λ_=>False) w2 w3 k->w2.heap.size<=k/\k<w3.heap.size:=λk h=>h.elim False.elim id;have p:∀k,H k->w.heap.size<=k/\k<w1.heap.size:=λk h=>(S k h).elim False.elim id;refine⟨⟨b,c,λk=>H k/\k≠d,Gr (λ_=>False) w2 w3,U,(mP b a).stay ((mP b a).K Q r) (λk z=>by rw[y];exact a_ _ _ _ k z.2) aa,(nD c m _ _).stay N (λk z=>by rw[y];exact a_ _ _ _ k (λe=>by have:=u k z;have q:k=d:=e;omega)) aa,.inr ⟨Y.1,aa⟩,λk z=>.inr (aa2 (p k z.1)),λk z=>.inr (aa2 (u k z)),λh=>by have:=u d h;omega,λk z h=>by have:=u k h;have:=p k z.1;omega,λk h=>h.elim False.elim And.right⟩,V⟩
def QO(v:Value)(w:World)(h:iQ iF w v (hZ m l).1)(ok:kG a m l):af4 af5 344 #[af6 a,af6 m,v,.int .u64 (hZ m l).2] w λe X=>∃d,e=.returned (.tuple #[aq d,af6 0])/\px d a m l (Gr (λ_=>False) w X) X/\af3 w X:=by
 have B:=ax (NB a m w ok.a0 ok.a1 ok.m0 ok.m1);obtain⟨A,k,rfl,_,_,y⟩:=h.form;have D:Hid (∀u,af3 w u->_):=ax (λu t=>GR (.slice A (ab0 (hZ m l).1) k) u (h.K t) ok.ld ok.m0 ok.m1);have i:=ax y;have HK:=ax ok.Tf;have hsl:=(sv ok.a0 ok.a1 (v:=0) aa).2;have Jj:Hid (∀s∈spans a,0<=s.mid/\s.mid<=9223372036854775807):=ax (λs z=>by have:=(rf ok.a0 ok.a1).1 s z;omega);have hlen:=ok.ld.ok.len;have W:Hid (∀d w u z s x c,_):=ax (λd w u z s x c=>@DM d a m c l w u z s x);generalize (hZ m l).2=f at *;generalize (hZ m l).1=q at *;clear h y ok;go_in;go_wp21;refine WE B.o ?_;rintro d u ⟨y,R⟩;have o:=ax y;have hd2:=y;obtain⟨b,N,H,G,x,r,_⟩:=hd2;have V:=ax x;have HS:=ax r.at_;clear y x r;go_wp2;go_loopg [28] (ab0 q) (λr x wr=>∃j:Nat,x=af6 j/\j<=ab0 q/\r=ab0 q - j/\af3 u wr)
 exact⟨0,rfl,aa,aa,aC _ _⟩
 case round=>
  obtain⟨j,rfl,hj,y,t⟩:=hrel;have HQ:=ax y;clear y;have F:=t.size;have S:=R.T (t.M R.size);by_cases I:j<ab0 q
  .obtain⟨g,E,rfl,J,y,r⟩:=j' i.o I
   have N:=(S.C (p:=af7 g (E+j * 2)) J).T y;have Y:=(S.C (p:=af7 g (E+j * 2+1)) J).T r;obtain⟨kl,kh⟩:=HK.o _ (aP I);have hji:(j:Int)<(ab0 q:Int):=aa;have C:Hid (∀z,af3 u z->_):=ax (λz t=>QF q[j].1 z (HS.o.K t) kl kh hsl Jj.o);generalize q[j].1=x at *;generalize q[j].2=n at *;clear y r;go_upto_region 7 with fail;have L:af3 wr (wr.alloc (.cells #[af6 x,.int .u64 n] 192)):=bw;have r:Hid (g7 (wr.alloc (.cells #[af6 x,.int .u64 n] 192)) wr.heap.size 192 #[af6 x,.int .u64 n]):=ax (g7.new _ _ _);have⟨z,y⟩:=ar (wr.alloc (.cells #[af6 x,.int .u64 n] 192));rw[y] at L r |-;clear y N Y;have⟨p,hp⟩:=ar (wr.heap.size);rw[hp] at r |-;have hpl:=r.o.lt;have T:=t.T (L.M F);refine jh (af3 z) (hQ 0 6 (ik 6 (hQ 7 5 []))) ((aC _ _).drew) ?_
   iterate 6 refine ib (h:=λX Y=>by have Q:=((V.o.K (T.T (Y.M aa))).C 0);have P:=(r.o.K Y).k0;simp only[az,ay,aA] at Q;exact af8) ?_
   refine iz λK M=>?_;go_simp;refine(C.o z.drew (T.T ((aC _ _).drew.M aa))).M ?_;rintro e s ⟨⟨y,rfl⟩,U⟩;have O:af3 z s:=(aC _ _).drew.T U;refine M _ _ (O) ?_;iterate 5 refine ib (h:=λX Y=>by have Q:=((V.o.K (T.T (Y.M aa))).C 0);have P:=(r.o.K Y).k0;simp only[az,ay,aA] at Q;exact af8) ?_
   refine g4 ?_;go_wp2;go_roundg (ab0 q - (j+1))
   exact⟨j+1,af,aa,rfl,T.T (O.M aa)⟩;have:=HQ.o;omega
  .obtain rfl:j=ab0 q:=aa
   go_wp21;refine WE (D.o wr S) ?_
   rintro c s ⟨y,U⟩;have r:=ax y;clear y;have y:=t.T (U.M F);have Y:=(V.o.K y).k1;have T:=(V.o.K y).F 1;go_wp2;go_ret2;obtain⟨p,g⟩:=W.o d w u wr s _ c o.o R t U r.o rfl;exact⟨d,rfl,p,g⟩
def Sl(w:World):af4 af5 275 #[.string ⟨#[118,118,118,118]⟩] w (au w (.bool true)):=
 yA [.lv 0,.lv 0,.lv 0,.lv 0] ab w
def l6(a b c d:Int):Nat->List Int
 | 0=>[]
 | 1=>il a
 | 2=>il a++il b
 | 3=>il a++il b++il c
 | _=>il a++il b++il c++il d
def KM(a b c d:Int)(j:Nat):ab0 (l6 a b c d j)<=40:=by
 have z:=hM a;have y:=hM b;have x:=hM c;have v:=hM d
 match j with
 | 0=>simp[l6]
 | 1=>simp only[l6];omega
 | 2=>simp only[l6,aE];omega
 | 3=>simp only[l6,aE];omega
 | n+4=>simp only[l6,aE];omega
def KN(a b c d:Int)(v:Value)(w:World)(g:jC .u64 w v [a,b,c,d])(y:0<=a)(x:a<18446744073709551616)(u:0<=b)(t:b<18446744073709551616)(s:0<=c)(r:c<18446744073709551616)(q:0<=d)(p:d<18446744073709551616):af4 af5 195 #[.string ⟨#[118,118,118,118]⟩,v] w λe z=>∃v,e=.returned (.tuple #[v,af6 0])/\OwnB w.heap.size z v (l6 a b c d 4)/\af3 w z:=
 GP [.lv a,.lv b,.lv c,.lv d] ad ⟨⟨y,x⟩,⟨u,t⟩,⟨s,r⟩,⟨q,p⟩,trivial⟩ (by simp[Jf,PL.o,l6]) g
def nP(l:List Pr)(j:Nat):Pr:=l.getD j (0,0)
def FI(l:List Pr):Nat->List Int
 | 0=>zg (nP l 0).1
 | j+1=>il ((nP l (j+1)).1 - (nP l j).1 - 1)
def l9(l:List Pr):Nat->List Int
 | 0=>[]
 | j+1=>l9 l j++FI l j++il (nP l j).2
def n_(a m:Nat)(l:List Pr)(f:Int):List Int:=l6 a m (ab0 l) f 4++l9 l (ab0 l)
def sw(h:j<ab0 l):nP l j=l[j]:=by unfold nP;rw[aT,aL h];rfl
def tO(l:List Pr)(j:Nat):ab0 (FI l j)<=10:=by
 cases j with
 | zero=>exact(hM _).2
 | succ j=>exact(hM _).2
def tP(l:List Pr):∀j,ab0 (l9 l j)<=20 * j
 | 0=>by simp[l9]
 | j+1=>by
  have z:=tP l j;have y:=tO l j;have x:=hM (nP l j).2;simp only[l9,aE];omega
def DN(c:UInt8)(m:Int)(t:List Int)(x:Nat)(z:Value)(u:List Int)(w:World)(U:x<=w.heap.size)(s:OwnB x w z u)(S:ab0 u<=1000000000000)(R:ab0 t<=1000)
 (r:∀(v:Value) (w:World),jC .u64 w v [m]->af4 af5 195 #[.string ⟨#[c]⟩,v] w λe y=>∃v,e=.returned (.tuple #[v,af6 0])/\OwnB w.heap.size y v t/\af3 w y) :
 af4 af5 199 #[z,.string ⟨#[c]⟩,.int .u64 m] w λe y=>∃v,e=.returned v/\OwnB x y v (u++t)/\Touch (λk=>z.ownBlock=some k) w y:=by
 have q:=ax s;have p:=ax r;clear s r;go_in;go_wp21;refine WE (p.o _ _ (jC.ig _ _ _ _ _ rfl)) ?_;rintro a X ⟨s,T⟩;have g:=ax s;have v:af3 w X:=bw;have Q:=v.size;clear s
 go_wp2_with (first
  | (at_builtin
     go_must (refine kv rfl (.tmp 16) (.tmp 17) rfl x z u rfl (hO.K q.o v) a t rfl (hO.rd g.o) aa  aa ?_)
     intro Y V r s d;have b:Touch (λk=>z.ownBlock=some k) w V:=(Touch.of_below v (aD _)).grown s (λk e=>.inl e);have f:=ax r;clear r s d))
 go_ret;exact⟨Y,rfl,f.o,b⟩
def u'(n:Int)(z:Nat)(x:Value)(y:List Int)(w:World)(s:z<=w.heap.size)(t:OwnB z w x y)(r:ab0 y<=1000000000000)(p:0<=n)(g:n<18446744073709551616):af4 af5 199 #[x,.string ⟨#[118]⟩,.int .u64 n] w λe u=>∃v,e=.returned v/\OwnB z u v (y++il n)/\Touch (λk=>x.ownBlock=some k) w u:=
 DN 118 n (il n) z x y w s t r (aa2 (hM n)) (λv w q=>yf n v w q p g)
def KO(x n:Int)(z:Nat)(u:Value)(y:List Int)(w:World)(p:z<=w.heap.size)(q:OwnB z w u y)(g:ab0 y<=1000000000000)(f:n=ub x)(s:-9223372036854775808<=x)(r:x<=9223372036854775807):af4 af5 199 #[u,.string ⟨#[122]⟩,.int .u64 n] w λe t=>∃v,e=.returned v/\OwnB z t v (y++zg x)/\Touch (λk=>u.ownBlock=some k) w t:=by
 subst f;exact DN 122 (ub x) (zg x) z u y w p q g (by have:=hM (oF x);unfold zg;omega) (λv w d=>yg x v w d s r)
def yD(c n x:Int)(z:Nat)(u:Value)(y:List Int)(w:World)(b:z<=w.heap.size)(s:OwnB z w u y)(S:ab0 y<=1000000000000)(r:(c=118/\x=n/\0<=n/\n<18446744073709551616)\/(c=122/\n=ub x/\-9223372036854775808<=x/\x<=9223372036854775807)):af4 af5 253 #[u,.int .u8 c,.int .u64 n] w λe q=>∃v,e=.returned v/\OwnB z q v (y++(if c=118 then il x else zg x))/\Below z w q:=by
 have t:=ax s;have p:=ax (tB c n x w r);have R:ab0 (if c=118 then il x else zg x)<=10:=by split;exact(hM _).2;exact(hM _).2
 generalize (if c=118 then il x else zg x)=X at *;clear s r;go_in;go_wp21;refine WE p.o ?_;rintro V P ⟨s,v⟩;have g:=ax s;have Q:=v.size;clear s
 go_wp2_with (first
  | (at_builtin
     go_must (refine kv rfl (.tmp 15) (.tmp 16) rfl z u y rfl (hO.K t.o v) V X rfl (hO.rd g.o) aa  aa ?_)
     intro U T r s d;have a:Below z w T:=(v.M b).grown s aa (λk Y=>(hO.lt t.o k Y).1);have f:=ax r;clear r s d))
 go_ret;exact⟨U,rfl,f.o,a⟩
def oc(n:Int)(z:Nat)(x:Value)(y:List Int)(w:World)(s:z<=w.heap.size)(t:OwnB z w x y)(r:ab0 y<=1000000000000)(q:0<=n)(p:n<18446744073709551616):af4 af5 253 #[x,.int .u8 118,.int .u64 n] w λe u=>∃v,e=.returned v/\OwnB z u v (y++il n)/\Below z w u:=by
 have h:=yD 118 n n z x y w s t r (.inl ⟨rfl,rfl,q,p⟩)
 rwa [aH rfl] at h
def NP(x n:Int)(z:Nat)(u:Value)(y:List Int)(w:World)(p:z<=w.heap.size)(q:OwnB z w u y)(g:ab0 y<=1000000000000)(f:n=ub x)(s:-9223372036854775808<=x)(r:x<=9223372036854775807):af4 af5 253 #[u,.int .u8 122,.int .u64 n] w λe t=>∃v,e=.returned v/\OwnB z t v (y++zg x)/\Below z w t:=by
 have h:=yD 122 n x z u y w p q g (.inr ⟨rfl,f,s,r⟩)
 rwa [aF aa] at h
def tQ(a b c d:Int):ab0 (l6 a b c d 4)<=40:=KM a b c d 4
def BL(ok:qP l)(h:j+1<ab0 l):l[j].1<l[j+1].1:=ck.1 ok.jk j (j+1) _ h aa
def jC.QP(t:TypeId)(k:IntKind)(w:World)(a b c d:Int)(H:Nat)(h:w.heap.size=H):jC k (w.alloc (.cells #[.int k a,.int k b,.int k c,.int k d] t)) (.slice (some (af7 H 0)) 4 4) [a,b,c,d]:=by
 subst h;have h:hO t k w.heap.size (w.alloc (.cells #[.int k a,.int k b,.int k c,.int k d] t)) (.slice (some (af7 (w.heap.size) 0)) 4 4) [a,b,c,d]:=
  ⟨rfl,.inr ⟨w.heap.size,4,_,rfl,aD _,cH _ _,ad,by unfold maxLen;omega,rfl,ad⟩⟩
 exact h.rd
def yE(w:World)(h:px d a m l F w)(ok:kG a m l):af4 af5 125 #[aq d] w λe Y=>∃v,e=.returned (.tuple #[v,af6 0])/\OwnB w.heap.size Y v (n_ a m (hZ m l).1 (hZ m l).2)/\af3 w Y:=by
 have CP:=ax (ND w h ok);have S:=ks d a m l;have CA:Hid (∀z,af3 w z->_):=ax (λz y=>uY z (S.K h y));have CB:Hid (∀z,af3 w z->_):=ax (λz y=>rR z (S.K h y));have CF:Hid (∀z,af3 w z->_):=ax (λz y=>KG z (S.K h y));obtain⟨R,_,hlm,f0,f1⟩:=ok.cut;have a0:=ok.a0;have a1:=ok.a1;have m0:=ok.m0;have m1:=ok.m1;generalize (hZ m l).2=f at *;generalize (hZ m l).1=q at *;have U:=ax R;have hlen:=R.len;clear h ok S R;go_in;go_wp21;refine WE CP.o ?_;rintro v z ⟨y,L⟩;have O1:=ax y;obtain⟨A,k,rfl,_,_,x⟩:=y.form;have HF:=ax x;have hz1:=L.size;clear y x;go_wp21;refine Ix (CA.o z L) ?_;go_wp21;refine Ix (CB.o z L) ?_;go_wp21;refine Ix (CF.o z L) ?_;go_wp21;refine WE (KN a m (ab0 q) f _ _ (jC.QP _ _ _ _ _ _ _ _ rfl) aa  aa  aa  aa  aa  aa  aa  aa) ?_;rintro v2 w2 ⟨y,x⟩;have O2:Hid (OwnB z.heap.size w2 v2 (l6 a m (ab0 q) f 4)):=ax (hO.lift y (λg e=>by have:=(hO.lt y g e).1;simp at this;omega));have hG:=tQ a m (ab0 q) f;have HW:Hid (n_ a m q f=l6 a m (ab0 q) f 4++l9 q (ab0 q)):=ax rfl;generalize l6 a m (ab0 q) f 4=G at *;have B12:af3 z w2:=(aC z.heap.size z).alloc (aD _) _ |>.trans (x.M ad)
 clear y x;go_wp2;go_loopg [5,34] (ab0 q) (λr y x wr=>∃(j:Nat) (b:Value),b=y/\r=ab0 q - j/\j<=ab0 q/\x=af6 j/\Hid (OwnB z.heap.size wr b (G++l9 q j))/\af3 z wr)
 exact⟨0,_,rfl,aa,aa,rfl,ax (by simpa[l9] using O2.o),B12⟩
 case round=>
  obtain⟨j,b,rfl,R,hj,rfl,V,T⟩:=hrel;have HQ:=ax R;clear R;have hzw:=T.size;have hgl:=tP q j;have uS:ab0 (G++l9 q j)<=100000000:=by rw[aE];omega
  by_cases S:j<ab0 q
  .obtain⟨g,W,rfl,o,XZ,X7⟩:=j' HF.o S
   have c0:=(T.C (p:=af7 g (W+j * 2)) o).T XZ;have c1:=(T.C (p:=af7 g (W+j * 2+1)) o).T X7;have hk:=U.o.key _ (aP S);have hp:=U.o.pos _ (aP S);have hp2:=mC U.o.pos _ (aP S);have ht:=U.o.tot;have hji:(j:Int)<(ab0 q:Int):=aa;have B:Hid (nP q j=q[j]):=ax (sw S);have X:af3 wr (wr.alloc (.cells #[af6 q[j].1,.int .u64 q[j].2] 192)):=bw;have u:Hid (g7 (wr.alloc (.cells #[af6 q[j].1,.int .u64 q[j].2] 192)) wr.heap.size 192 #[af6 q[j].1,.int .u64 q[j].2]):=ax (g7.new _ _ _);have hn2:q[j].2<18446744073709551616:=aa;rcases bo j with rfl|hj0
   .have i:=ax (by rw[<-B.o];rfl:l9 q (0+1)=l9 q 0++zg q[0].1++il q[0].2)
    have t:((0:Nat):Int)=0:=rfl;simp only[dj,cF] at c0 c1;have HZ:=ax (by rw[<-B.o];rfl:zg q[0].1=FI q 0);generalize q[0].1=x at *;generalize q[0].2=n at *;rw[t];clear t XZ X7;have⟨t,hw3⟩:=ar (wr.alloc (.cells #[af6 x,.int .u64 n] 192));rw[hw3] at X u;have c:=T.T (X.M hzw);have P:=ax (hO.K V.o X);have hz3:=c.size;have⟨p,hpp⟩:=ar (wr.heap.size);rw[hpp] at u;have J:=u.o.lt;go_upto_region 10 with fail;have D:=u.o.k0;go_wp21;refine WE (KO x _ z.heap.size _ (G++l9 q 0) t hz3 P.o aa (by rw[iy];rfl) aa  aa) ?_;rintro v4 Q ⟨H,r⟩;have N:af3 z Q:=c.T (r.below (λk e=>(hO.lt P.o k e).1) aa);have Gp:=N.size;have I:¬(b.ownBlock=some p):=λe=>by have:=(hO.lt V.o p e).2;omega
    have p1:=(g9 r 1 J I).T (u.o.C 1);simp only[az,ay,aA] at p1;have O:=ax H;have Tg:ab0 (zg x)<=10:=by rw[HZ.o];exact tO q 0
    clear H r;go_wp21;refine WE (u' n z.heap.size _ (G++l9 q (0)++zg x) Q Gp O.o (by simp only[aE] at uS |-;omega) aa  aa) ?_;rintro v5 w5 ⟨E,C⟩;have P5:af3 z w5:=N.T (C.below (λk e=>(hO.lt O.o k e).1) aa);have O5:=ax E;clear E C;go_wp2;go_roundg (ab0 q - (0+1))
    exact⟨0+1,_,rfl,rfl,aa,af,ax (by rw[i.o,<-aN,<-aN];exact O5.o),P5⟩;have:=HQ.o;omega
   .obtain⟨s,rfl⟩:∃s,j=s+1:=⟨j - 1,aa⟩
    obtain⟨g',off',he,_,M,_⟩:=j' HF.o (j:=s) (by omega);cases he
    have D0:=ax M;have Vf:=BL U.o S;have hk2:=U.o.key _ (aP (show s<ab0 q by omega));have Uy:Hid (nP q s=q[s]):=ax (sw aa);have i:=ax (by rw[<-B.o,<-Uy.o];rfl:l9 q (s+1+1)=l9 q (s+1)++il (q[s+1].1 - q[s].1 - 1)++il q[s+1].2);have HZ:=ax (by rw[<-B.o,<-Uy.o];rfl:il (q[s+1].1 - q[s].1 - 1)=FI q (s+1));generalize q[s+1].1=x at *;generalize q[s+1].2=n at *;generalize q[s].1=y at *;have Ky:Hid (ad0 .i64 (s:Int)=(s:Int)):=ax ah;have HW1:Hid (ad0 .i64 (x - y)=x - y):=ax ah;have HW2:Hid (ad0 .i64 (x - y - 1)=x - y - 1):=ax ah;have HW3:=ax (by rw[iy];omega:ad0 .u64 (x - y - 1)=x - y - 1);clear XZ X7 M;have hsq:(s:Int)<(ab0 q:Int):=aa;have⟨t,hw3⟩:=ar (wr.alloc (.cells #[af6 x,.int .u64 n] 192));rw[hw3] at X u;have c:=T.T (X.M hzw);have P:=ax (hO.K V.o X);have hz3:=c.size;have⟨p,hpp⟩:=ar (wr.heap.size);rw[hpp] at u;have J:=u.o.lt;go_upto_region 12 with fail;clear c0 c1;have I:¬(b.ownBlock=some p):=λe=>by have:=(hO.lt V.o p e).2;omega
    have hbl:∀k,b.ownBlock=some k->z.heap.size<=k:=λk e=>(hO.lt P.o k e).1;refine jh (Touch (λk=>b.ownBlock=some k) t) (hQ 0 12 (ik 12 (hQ 13 1 []))) ((Touch.refl _ _).drew) ?_;iterate 12 refine ib (h:=λY M=>by have D:=(g9 M 0 J I).T (u.o.C 0);have d0:=((c.T (M.below hbl aa)).C (p:=af7 g (W+s * 2)) o).T D0.o;have hws:=Ky.o;have Vg:=HW1.o;have Vh:=HW2.o;have Uz:=HW3.o;simp only[az,ay,aA] at D;exact af8) ?_
    refine iz λK hK=>?_;go_simp;refine WE (u' (x - y - 1) z.heap.size b (G++l9 q (s+1)) t.drew hz3 (hO.drew P.o) aa  aa  aa) ?_;rintro v4 Q ⟨H,t4'⟩;have r:Touch (λk=>b.ownBlock=some k) t Q:=((Touch.refl _ t).drew).T t4' (λk e=>.inl e);clear t4';refine hK _ _ (r) ?_;clear hK K;refine ib (h:=λY M=>by have D:=(g9 M 0 J I).T (u.o.C 0);have d0:=((c.T (M.below hbl aa)).C (p:=af7 g (W+s * 2)) o).T D0.o;have hws:=Ky.o;have Vg:=HW1.o;have Vh:=HW2.o;have Uz:=HW3.o;simp only[az,ay,aA] at D;exact af8) ?_;refine g4 ?_;have N:af3 z Q:=c.T (r.below hbl aa);have Gp:=N.size;have p1:=(g9 r 1 J I).T (u.o.C 1);simp only[az,ay,aA] at p1;have O:=ax H;have Tg:ab0 (il (x - y - 1))<=10:=by rw[HZ.o];exact tO q (s+1)
    clear H r;go_wp21;refine WE (u' n z.heap.size _ (G++l9 q (s+1)++il (x - y - 1)) Q Gp O.o (by simp only[aE] at uS |-;omega) aa  aa) ?_;rintro v5 w5 ⟨E,C⟩;have P5:af3 z w5:=N.T (C.below (λk e=>(hO.lt O.o k e).1) aa);have O5:=ax E;clear E C;go_wp2;go_roundg (ab0 q - (s+1+1))
    exact⟨s+1+1,_,rfl,rfl,aa,af,ax (by rw[i.o,<-aN,<-aN];exact O5.o),P5⟩;have:=HQ.o;omega
  .obtain rfl:j=ab0 q:=aa
   go_wp2;go_ret2;exact⟨_,rfl,by rw[HW.o];exact hO.lift V.o (λg e=>by have:=(hO.lt V.o g e).1;omega),L.T (T.M hz1)⟩
def BM{q:List Pr}(v:Value)(w:World)(h:iQ iF w v q)(Y:qP q)(a1:a<=5000)(m1:m<=4096)(f0:0<=f)(f1:f<=4611686018427387904):af4 af5 167 #[af6 a,af6 m,v,.int .u64 f] w λe O=>∃v,e=.returned v/\OwnB w.heap.size O v (n_ a m q f)/\af3 w O:=by
 obtain⟨A,k,rfl,_,_,y⟩:=h.form;have o:=ax y;have d:=ax Y;have hlen:=Y.len;have z:Hid (l6 a m (ab0 q) f 4=(([]++il a)++il m++il (ab0 q))++il f):=ax rfl;have s:=hM a;have r:=hM m;have p:=hM (ab0 q);clear h y Y;go_in;go_wp21;refine WE (oc a w.heap.size _ [] w (aD _) (hO.nil_ _ _ _ _) ad aa  aa) ?_;rintro v1 w1 ⟨x,hb1⟩;have y:=ax x;have hz1:=hb1.size;clear x;go_wp21;refine WE (oc m w.heap.size _ _ w1 hz1 y.o ae aa  aa) ?_;rintro v2 w2 ⟨u,hb2⟩;have x:=ax u;have Bq:=hb1.T hb2;have hz2:=Bq.size;clear u;go_wp21;refine WE (oc (ab0 q) w.heap.size _ _ w2 hz2 x.o (by simp only[aE,aY];omega) aa  aa) ?_;rintro v3 w3 ⟨t,hb3⟩;have u:=ax t;have zJ:=Bq.T hb3;have hz3:=zJ.size;clear t;go_wp21;refine WE (oc f w.heap.size _ _ w3 hz3 u.o (by simp only[aE,aY];omega) aa  aa) ?_;rintro v4 w4 ⟨t,hb4⟩;have X8:=zJ.T hb4;have O4:=ax t;rw[<-z.o] at O4;clear t y x u z s r p;have hG:=tQ a m (ab0 q) f;have HW:Hid (n_ a m q f=l6 a m (ab0 q) f 4++l9 q (ab0 q)):=ax rfl;generalize l6 a m (ab0 q) f 4=G at *;go_wp2;go_loopg [9,10] (ab0 q) (λr y x wr=>∃(j:Nat) (b:Value),b=y/\r=ab0 q - j/\j<=ab0 q/\x=af6 j/\Hid (OwnB w.heap.size wr b (G++l9 q j))/\af3 w wr)
 exact⟨0,_,rfl,aa,aa,rfl,ax (by simpa[l9] using O4.o),X8⟩
 case round=>
  obtain⟨j,b,rfl,Y,hj,rfl,M,z⟩:=hrel;have i:=ax Y;clear Y;have hzw:=z.size;have hgl:=tP q j;have uS:ab0 (G++l9 q j)<=100000000:=by rw[aE];omega
  by_cases c:j<ab0 q
  .obtain⟨g,r,rfl,t,Q,F⟩:=j' o.o c
   have X:=ax (aB Q F);have R:=(z.C (p:=af7 g (r+j * 2)) t).T Q;have hk:=d.o.key _ (aP c);have hp:=d.o.pos _ (aP c);have hp2:=mC d.o.pos _ (aP c);have ht:=d.o.tot;have hji:(j:Int)<(ab0 q:Int):=aa;have S:Hid (nP q j=q[j]):=ax (sw c);have hn2:q[j].2<18446744073709551616:=aa;rcases bo j with rfl|hj0
   .have L:=ax (by rw[<-S.o];rfl:l9 q (0+1)=l9 q 0++zg q[0].1++il q[0].2)
    have u:((0:Nat):Int)=0:=rfl;have J:=ax (by rw[<-S.o];rfl:zg q[0].1=FI q 0);simp only[dj,cF] at R X;generalize q[0].1=x at *;generalize q[0].2=n at *;rw[u];clear u Q F;have hj0:(0:Int)<(ab0 q:Int):=aa;go_wp21;refine WE (NP x _ w.heap.size _ (G++l9 q 0) wr hzw M.o aa (by rw[iy];rfl) aa  aa) ?_;rintro v6 N ⟨U,P⟩;have I:=ax U;have u:=z.T P;have C:=u.size;have c1:=(u.C (p:=af7 g (r+1)) t).T X.o.2;have Tg:ab0 (zg x)<=10:=by rw[J.o];exact tO q 0
    clear U;go_wp21;refine WE (oc n w.heap.size _ (G++l9 q 0++zg x) N C I.o (by simp only[aE] at uS |-;omega) aa  aa) ?_;rintro v7 w7 ⟨T,D⟩;have H:=ax T;clear T;go_wp2;go_roundg (ab0 q - (0+1))
    exact⟨0+1,_,rfl,rfl,aa,af,ax (by rw[L.o,<-aN,<-aN];exact H.o),u.T D⟩;have:=i.o;omega
   .obtain⟨s,rfl⟩:∃s,j=s+1:=⟨j - 1,aa⟩
    obtain⟨g',off',he,_,V,_⟩:=j' o.o (j:=s) (by omega);cases he
    have l:=ax V;have Vf:=BL d.o c;have hk2:=d.o.key _ (aP (show s<ab0 q by omega));have W:Hid (nP q s=q[s]):=ax (sw aa);have L:=ax (by rw[<-S.o,<-W.o];rfl:l9 q (s+1+1)=l9 q (s+1)++il (q[s+1].1 - q[s].1 - 1)++il q[s+1].2);have J:=ax (by rw[<-S.o,<-W.o];rfl:il (q[s+1].1 - q[s].1 - 1)=FI q (s+1));generalize q[s+1].1=x at *;generalize q[s+1].2=n at *;generalize q[s].1=y at *;have Ky:Hid (ad0 .i64 (s:Int)=(s:Int)):=ax ah;have HW1:Hid (ad0 .i64 (x - y)=x - y):=ax ah;have HW2:Hid (ad0 .i64 (x - y - 1)=x - y - 1):=ax ah;have HW3:=ax (by rw[iy];omega:ad0 .u64 (x - y - 1)=x - y - 1);clear Q F V R;have hsq:(s:Int)<(ab0 q:Int):=aa;go_upto_region 10 with fail;refine jh (Below w.heap.size wr) (hQ 0 15 (ik 15 (hQ 16 1 []))) ((aC _ _).drew) ?_;iterate 15 refine ib (h:=λO E=>by have V:=z.T E;have R:=(V.C (p:=⟨g,r+(s+1) * 2,none⟩) t).T X.o.1;have d0:=(V.C (p:=af7 g (r+s * 2)) t).T l.o;have hws:=Ky.o;have Vg:=HW1.o;have Vh:=HW2.o;have Uz:=HW3.o;exact af8) ?_
    refine iz λK hK=>?_;go_simp;refine WE (oc (x - y - 1) w.heap.size b (G++l9 q (s+1)) wr.drew hzw (hO.drew M.o) aa  aa  aa) ?_;rintro v6 N ⟨U,P⟩;have B:Below w.heap.size wr N:=(aC _ _).drew.T P;clear P;refine hK _ _ (B) ?_;clear hK K;refine ib (h:=λO E=>by have V:=z.T E;have R:=(V.C (p:=⟨g,r+(s+1) * 2,none⟩) t).T X.o.1;have d0:=(V.C (p:=af7 g (r+s * 2)) t).T l.o;have hws:=Ky.o;have Vg:=HW1.o;have Vh:=HW2.o;have Uz:=HW3.o;exact af8) ?_;refine g4 ?_;have I:=ax U;have u:=z.T B;have C:=u.size;have c1:=(u.C (p:=⟨g,r+(s+1) * 2+1,none⟩) t).T X.o.2;have Tg:ab0 (il (x - y - 1))<=10:=by rw[J.o];exact tO q (s+1)
    clear U;go_wp21;refine WE (oc n w.heap.size _ (G++l9 q (s+1)++il (x - y - 1)) N C I.o (by simp only[aE] at uS |-;omega) aa  aa) ?_;rintro v7 w7 ⟨T,D⟩;have H:=ax T;clear T;go_wp2;go_roundg (ab0 q - (s+1+1))
    exact⟨s+1+1,_,rfl,rfl,aa,af,ax (by rw[L.o,<-aN,<-aN];exact H.o),u.T D⟩;have:=i.o;omega
  .obtain rfl:j=ab0 q:=aa
   go_wp2;go_ret;exact⟨_,rfl,by rw[HW.o];exact M.o,z⟩
def KP(v:Value)(w:World)(h:iQ iF w v l)(ok:kG a m l):af4 af5 98 #[af6 a,af6 m,v] w λe u=>∃v,e=.returned v/\OwnB w.heap.size u v (n_ a m (hZ m l).1 (hZ m l).2)/\af3 w u:=by
 have t:=ax (KE v l m w h ok.pos ok.sum (aa2 ok.m0) (aa2 ok.m1) (aa2 ok.len));obtain⟨x,_,r,z,y⟩:=ok.cut;have s:Hid (∀(v:Value) w,iQ iF w v (hZ m l).1->_):=ax (λv w h=>BM v w h x ok.a1 ok.m1 z y);obtain⟨A,k,rfl,_,_,_⟩:=h.form;clear h ok x r z y;generalize (hZ m l).2=f at *;generalize (hZ m l).1=q at *;go_in;go_wp21;refine WE t.o ?_;rintro d c ⟨y,z⟩;have x:=ax y;clear y;go_wp21;refine WE (s.o d c x.o) ?_;rintro b Y ⟨y,p⟩;have r:=ax (hO.lift y (λg e=>bf z.size (hO.lt y g e).1));clear y;go_wp2;go_ret;exact⟨_,rfl,r.o,z.T (p.M z.size)⟩
