/- Parts. -/
import Derived.Test.YtdicblkhpcphfaaGreatPU35
set_option maxRecDepth 100000
set_option maxHeartbeats 0
set_option linter.all false
namespace Go.Proofs.YtdicblkhpcphfaaGreat
open Tryz Go.RowKit Go.Lib Go.Shelf
open _root_.List renaming length→ab0
open Go.IntKind renaming wrap→ad0
open _root_.Go renaming Calls→af4
open Tryz renaming prog→af5
namespace D
section
variable {sp : ie} {now a0 x : Nat} {C : List Js} {v : Value} {ps : List Nat} {Ow : Nat -> Ft} {G F : Ft} {w w' : World} {s : Wn}
def Mi(w:World)(h:jN sp now a0 C v ps Ow G x w):af4 af5 39 #[aq x] w λe w'=>e=.returned (af6 (ab0 C))/\w=w':=by
 have z:=h.c7;obtain⟨g,c,rfl,_⟩:=h.ring.pos h.pos;clear h;go_in;go_wp2;go_ret;exact⟨rfl,rfl⟩
end
def qE{x:Nat}{v u1 u2:Value}{kd lo hi dg ac sz:Int}{gr:Bool}(w:World)(h:g7 w x 96 #[.int .u8 kd,af6 lo,af6 hi,af6 dg,.bool gr,af6 ac,af6 sz,v,u1,u2]):af4 af5 38 #[aq x] w (au w (iB kd lo hi dg gr ac sz)):=by
 unfold iB;have q:=ax h;clear h;have⟨b,u⟩:=ar (w.heap.size);have⟨s,y⟩:=ar (w.alloc (.cells #[.int .u8 0,af6 0,af6 0,af6 0,.bool false,af6 0,af6 0] 33));have t:=ao y;have z:=an y u;have r:=ax u;go_in;go_upto_region 1 with fail;clear y u;have y:=q.o.K t;have X:=y.C 0;have V:=y.C 1;have U:=y.C 2;have T:=y.C 3;have S:=y.C 4;have R:=y.C 5;have Q:=y.C 6;have I:=z.o.F 0;have H:=z.o.F 1;have G:=z.o.F 2;have F:=z.o.F 3;have D:=z.o.F 4;have C:=z.o.F 5;have B:=z.o.F 6;have P:=z.o.k0;have O:=z.o.k1;have N:=z.o.k2;have M:=z.o.k3;have L:=z.o.k4;have K:=z.o.k5;have J:=z.o.k6;simp only[az,ay,aA] at X V U T S R Q;clear y;go_wp21;have E:=((((((z.o.hJ 0 (.int .u8 kd)).hJ 1 (af6 lo)).hJ 2 (af6 hi)).hJ 3 (af6 dg)).hJ 4 (.bool gr)).hJ 5 (af6 ac)).hJ 6 (af6 sz);have y:=E.C 0;have g:=E.C 1;have f:=E.C 2;have d:=E.C 3;have c:=E.C 4;have a:=E.C 5;have Y:=E.C 6;simp only[bA,bS,bR,az,ay,aA] at y g f d c a Y;refine ak ?_;have u:=r.o;exact⟨rfl,((((((t.setCell (p:=af7 b 0) (by show _<=b;omega) _).setCell (p:=af7 b 1) (by show _<=b;omega) _).setCell (p:=af7 b 2) (by show _<=b;omega) _).setCell (p:=af7 b 3) (by show _<=b;omega) _).setCell (p:=af7 b 4) (by show _<=b;omega) _).setCell (p:=af7 b 5) (by show _<=b;omega) _).setCell (p:=af7 b 6) (by show _<=b;omega) _⟩
section
variable {sp : ie} {now a0 x n a : Nat} {C : List Js} {v : Value} {ps : List Nat} {Ow : Nat -> Ft} {G F H : Ft} {w w' : World} {s : Wn} {cq : Value} {B : List Int}
def PK(w:World)(h:jN sp now a0 C v ps Ow G x w):af4 af5 38 #[aq x] w λe w'=>e=.returned sp.v/\af3 w w':=by
 have z:=h.blk;cases sp with
 | h lo hi dg u m gr=>exact qE w z
 | d a m=>exact qE w z
 | t d=>exact qE w z
 | k q=>exact qE w z
def FC(i:Int)(w:World)(h:jN sp now a0 C v ps Ow G x w)(z:i<0\/(ab0 C:Int)<=i):af4 af5 40 #[aq x,af6 i] w (au w (.tuple #[.slice none 0 0,.bool false])):=by
 have y:=h.c7;obtain⟨g,c,rfl,_⟩:=h.ring.pos h.pos;clear h;rcases z with z|z
 .go_in
  go_wp2;refine ak ?_;exact⟨rfl,bw⟩
 .by_cases u:i<0
  .go_in
   go_wp2;refine ak ?_;exact⟨rfl,bw⟩
  .have t:i>=(ab0 C:Int):=z
   go_in;go_wp2;refine ak ?_;exact⟨rfl,bw⟩
def PM(i:Nat)(w:World)(h:jN sp now a0 C v ps Ow G x w)(y:s.L=xB sp.new a0 C)(ok:∀c∈s.L,im sp c)(q:i<ab0 C):af4 af5 40 #[aq x,af6 i] w λe w'=>∃u,e=.returned (.tuple #[u,.bool true])/\OwnB w.heap.size w' u (qM sp (s.L.getD i sp.new))/\af3 w w':=by
 have X:=h.c7;have d:=ax (pQ i w h q);have r:im sp (s.L.getD i sp.new):=by rw[aT,aL (by rw[y,iw];exact q),br];exact ok _ (aP _)
 have b:Hid (∀t,af3 w t->_):=ax (λt z=>xC t ((h.K z).js y q) r);obtain⟨g,c,rfl,_⟩:=h.ring.pos h.pos;have V:¬((i:Int)<0):=aa;have U:¬((i:Int)>=(ab0 C:Int)):=aa;clear h y ok r;generalize ps.getD (ow a0 (ab0 C) i) 0=y at *;generalize qM sp (s.L.getD i sp.new)=T at *;go_in;go_wp21;refine RX d.o ?_;intro t z;have D:=ax (b.o t z);have r:=ax z;clear z;go_wp21;refine WE D.o ?_;rintro u S ⟨f,p⟩;have Y:=ax (hY.2 ((hY.1 f).more r.o.size));have a:=ax (r.o.T (p.M r.o.size));clear f p;go_wp2;refine ak ?_;exact⟨u,rfl,Y.o,a.o⟩
end
section
variable {sp : ie} {now x n a o : Nat} {L : List Js} {v : Value} {ps : List Nat} {Ow : Nat -> Ft} {G F H : Ft} {w w' : World} {s : Wn} {cq : Value} {B : List Int}
def wX(m:Nat)(w:World)(h:jZ sp s.now s.L v ps Ow G x w)(ok:∀c∈s.L,im sp c)(K:m<=ab0 s.L):af4 af5 42 #[aq x,af6 m] w (au w (.int .u64 (oD sp s.L m))):=by
 have f:=ax h.c7;have U:=ax h;have X:=ax ok;have J:=h.blk.lt;obtain⟨g,c,rfl,M,_,_,_,_,y⟩:=h.ring.pos h.pos;have Y:=ax y;have t:=f.o;have Q:¬((m:Int) > (ab0 s.L:Int)):=aa;have P:=h.n60;have⟨N,z⟩:=ar (ab0 s.L);rw[z] at t Q K P;have d:=ax z;clear h ok y z;go_in;go_wp21;clear t;go_loopg [5,6] m (λq z y wr=>∃j:Nat,q=m - j/\j<=m/\z=.int .u64 (oD sp s.L j)/\y=af6 j/\Hid (af3 w wr))
 exact⟨0,rfl,aa,rfl,rfl,ax (aC _ _)⟩
 case round=>
  obtain⟨j,z,I,rfl,rfl,u⟩:=hrel;have V:=ax z;clear z;by_cases F:j<m
  .have L:(j:Int)<(m:Int):=aa
   have H:(j:Int)<(N:Int):=aa;have r:j<ab0 s.L:=by rw[d.o];omega
   have y:=U.o.K u.o;have z:im sp (s.L.getD j sp.new):=by rw[aT,aL r,br];exact X.o _ (aP _)
   have a:=ax (vu wr (y.js r) z);have q:Hid (oD sp s.L (j+1)=ad0 .u64 (oD sp s.L j+k_ sp (s.L.getD j sp.new))):=ax rfl;have O:=JQ sp s.L j;have t:=(u.o.C (p:=af7 x 7) J).T f.o;rw[d.o] at t;have R:wr.cell? (af7 g j)=some (.pointer (some (af7 (ps.getD j 0) 0))):=(u.o.C (p:=af7 g j) M).T (Y.o j r);clear y z;generalize ps.getD j 0=y at *;generalize k_ sp (s.L.getD j sp.new)=T at *;have⟨S,b⟩:=ar (oD sp s.L j);rw[b] at q O |-;clear b
   go_wp21;refine RX a.o ?_
   intro E z;have b:=ax (u.o.T (z.M u.o.size));clear z t R;go_wp2;go_roundg (m - (j+1))
   exact⟨j+1,rfl,aa,by rw[q.o],af,b⟩;have:=V.o;omega
  .have L:¬((j:Int)<(m:Int)):=aa
   obtain rfl:j=m:=aa;go_wp2;go_ret;exact⟨rfl,u.o⟩
def Iz(z:Int)(w:World)(h:jZ sp s.now s.L v ps Ow G x w)(ok:∀c∈s.L,im sp c):af4 af5 42 #[aq x,af6 z] w (au w (.int .u64 (mI sp s z))):=by
 by_cases y:(ab0 s.L:Int)<z
 .have u:=h.c7
  obtain⟨g,c,rfl,_⟩:=h.ring.pos h.pos;have t:z > (ab0 s.L:Int):=y;have e:mI sp s z=0:=by unfold mI;rw[aH aa]
  rw[e];clear h ok e y;go_in;go_wp2;go_ret;exact⟨rfl,bw⟩
 .by_cases p:0<=z
  .have e:mI sp s z=oD sp s.L z.toNat:=by unfold mI;rw[aF aa]
   have r:((z.toNat:Nat):Int)=z:=aa;rw[e,<-r];exact wX z.toNat w h ok aa
  .have e:mI sp s z=0:=by unfold mI;rw[aF aa,show z.toNat=0 by omega];rfl
   rw[e];have u:=h.c7;obtain⟨g,c,rfl,_⟩:=h.ring.pos h.pos;have t:¬z > (ab0 s.L:Int):=y;clear h ok e y;go_in;go_wp2;go_loopg [5,6] 0 (λq r q wr=>r=.int .u64 0/\q=af6 0/\w=wr)
   exact⟨rfl,rfl,rfl⟩
   case round=>
    obtain⟨rfl,rfl,rfl⟩:=hrel;go_wp2;go_ret;exact⟨rfl,aC _ _⟩
end
variable{sp:ie}{s:Wn}{N x y:Nat}{F G:Ft}
def Mj(z:ie)(s:Wn):mI z s 0=0/\mI z s (-3)=0/\mI z s (ab0 s.L+1)=0:=by
 unfold mI;refine⟨?_,?_,?_⟩
 .rw[aF aa];rfl
 .rw[aF aa];rfl
 .rw[aH aa]
def uH{kd lo hi dg ac sz:Int}{gr:Bool}(I:sp.v=iB kd lo hi dg gr ac sz)(K:sp.cs=[.int .u8 kd,af6 lo,af6 hi,af6 dg,.bool gr,af6 ac,af6 sz])(w:World)(h:jf sp s x F w)(h2:iV sp s y G w)(ok:jX sp N s):af4 af5 12 #[aq x,aq y] w (au w (.bool true)):=by
 obtain⟨a0,C,v,ps,Ow,G1,p,b,_⟩:=h;obtain⟨u,rs,Or,G3,r,_⟩:=h2;have g:ab0 s.L=N:=ok.len;have L:ab0 C=N:=by rw[<-g,b,iw]
 have h60:N<=60:=by rw[<-g];exact r.n60
 have hpos:0<N:=by rw[<-g];exact r.pos
 have j:=ax (λW (z:af3 w W)=>PK W (p.K z));have XL:=ax (λW (z:af3 w W)=>Mi W (p.K z));have XN:=ax (λW (z:af3 w W)=>JP W (p.K z));have XX:=ax (λW (z:af3 w W) a (t:a<N)=>PM a W (p.K z) b ok.each aa);have XB:=ax (λW (z:af3 w W) (a:Int) (t:a<0\/(N:Int)<=a)=>FC a W (p.K z) aa);have P:=ax (λW (z:af3 w W) (a:Int)=>vt a W (p.K z) b ok.each);have XY:=ax (λW (z:af3 w W) a (t:a<ab0 s.L)=>Fb W ((r.K z).js t) (ok.at_ t));have XU:=ax (λW (z:af3 w W) (a:Int)=>Iz a W (r.K z) ok.each);obtain⟨O,c3,rfl,l,_,_,_,_,H⟩:=r.ring.pos r.pos;have RCL:=ax H;have t:=r.blk;have d:=t.lt;rw[K] at t;have Y:=t.C 0;have X:=t.C 1;have V:=t.C 2;have U:=t.C 3;have T:=t.C 4;have S:=t.C 5;have R:=t.C 6;simp only[bG,bB,az,ay,aA] at Y X V U T S R;have Q:w.cell? (af7 y 7)=_:=r.c7;have M:w.cell? (af7 y 8)=_:=r.c8;rw[g] at Q;have f:=ax (aB Y (aB X (aB V (aB U (aB T (aB S (aB R (aB Q M))))))));rw[I] at j;unfold iB at j;rw[L] at XL;have HN:=ax g;have a:=Mj sp s;rw[g] at a;have B:=ax a;obtain⟨nw,J⟩:∃q:Int,(s.now:Int)=q:=⟨_,rfl⟩;rw[J] at XN f;clear p r b t I K ok H J Y X V U T S R Q M g L a;go_in;go_upto_region 1 with fail;have Z:=ax (λ(c:World) (r:af3 w c)=>(aB ((r.C (p:=af7 y 0) d).T f.o.1) (aB ((r.C (p:=af7 y 1) d).T f.o.2.1) (aB ((r.C (p:=af7 y 2) d).T f.o.2.2.1) (aB ((r.C (p:=af7 y 3) d).T f.o.2.2.2.1) (aB ((r.C (p:=af7 y 4) d).T f.o.2.2.2.2.1) (aB ((r.C (p:=af7 y 5) d).T f.o.2.2.2.2.2.1) (aB ((r.C (p:=af7 y 6) d).T f.o.2.2.2.2.2.2.1) (aB ((r.C (p:=af7 y 7) d).T f.o.2.2.2.2.2.2.2.1) ((r.C (p:=af7 y 8) d).T f.o.2.2.2.2.2.2.2.2))))))))));refine jh (λc=>af3 w c) (hQ 0 1 (hQ 2 4 (ik 1 (hQ 6 3 (hQ 10 5 (ik 9 (hQ 15 4 (hQ 20 4 (ik 19 (hQ 24 2 [])))))))))) ((aC _ _).drew) ?_;iterate 5 refine ib ?_
 refine iz λK g=>?_;go_simp;refine RX (j.o _ (aC _ _).drew) ?_;intro o b;have t:af3 w o:=(aC _ _).drew.T b;refine g _ _ (t) ?_;iterate 8 refine ib ?_
 refine iz λK g=>?_;go_simp;refine Ix (XL.o o t) ?_;refine g _ _ (t) ?_;iterate 8 refine ib ?_
 refine iz λK g=>?_;go_simp;refine Ix (XN.o o t) ?_;refine g _ _ (t) ?_;iterate 2 refine ib ?_
 refine g4 ?_;try refine g6 ?_
 have HB1:=ax t;clear t b;go_wp2;go_loopg [5,6,7] N (λq t _ _ wr=>∃i:Nat,q=N - i/\i<=N/\t=af6 (i:Int)/\Hid (af3 w wr))
 exact⟨0,aa,aa,rfl,HB1⟩
 case round=>
  obtain⟨i,t,hi,rfl,a⟩:=hrel;have HQ:=ax t;clear t;have b:wr.cell? (af7 y 7)=_:=(a.o.C (p:=af7 y 7) d).T f.o.2.2.2.2.2.2.2.1;by_cases hlt:i<N
  .have PV:(i:Int)<(N:Int):=aa
   have hiL:i<ab0 s.L:=by rw[HN.o];exact hlt
   have E:Hid (w.cell? (af7 O i)=some (.pointer (some (af7 (rs.getD i 0) 0)))):=ax (RCL.o i hiL);have X1:=ax (λW z=>XX.o W z i hlt);have X2:=ax (λW z=>XY.o W z i hiL);have S:=ax (λW z=>P.o W z ((i:Int)+1));have X4:=ax (λW z=>XU.o W z ((i:Int)+1));have⟨tt,Y⟩:=ar (mI sp s ((i:Int)+1));have⟨tx,X⟩:=ar (qM sp (s.L.getD i sp.new));rw[Y] at S X4;rw[X] at X1 X2;have⟨st,t⟩:=ar (strOfNums tx);have Q:=ax t;have D:Hid (ad0 .i64 ((i:Int)+1)=(i:Int)+1):=ax ah;clear Y X t;generalize rs.getD i 0=yi at *;go_wp21;refine WE (X1.o wr a.o) ?_;rintro u5 q ⟨Y,M⟩;have t:Hid (af3 w q):=ax (a.o.T (M.M a.o.size));have A:Hid (jC .u8 q u5 tx):=ax (hO.rd Y);clear Y M b;go_upto_region 7 with fail;refine jh (λc=>af3 q c) (hQ 0 12 (ik 12 (ik 13 (hQ 14 6 (hQ 21 3 (ik 20 (ik 24 (hQ 25 2 [])))))))) ((aC _ _).drew) ?_;iterate 12 refine ib (h:=λc r=>by have m:=D.o;have R:=rC (jC.K A.o r);rw[Q.o] at R;have b:=((t.o.T (r.M t.o.size)).C (p:=af7 y 7) d).T f.o.2.2.2.2.2.2.2.1;have cg:=((t.o.T (r.M t.o.size)).C (p:=af7 O i) l).T E.o;exact af8) ?_
   refine iz λK g=>?_;go_simp;refine WE (X2.o _ t.o.drew) ?_;rintro v6 X ⟨o6,L⟩;have Y:af3 q X:=(aC _ _).drew.T L;have n:af3 w X:=t.o.T (Y.M t.o.size);have cb:=rC (hO.rd o6);rw[Q.o] at cb;refine g _ _ (Y) ?_;refine iz λK g=>?_;go_simp;refine g _ _ (Y) ?_;iterate 9 refine ib (h:=λc r=>by have m:=D.o;have R:=rC (jC.K A.o r);rw[Q.o] at R;have b:=((t.o.T (r.M t.o.size)).C (p:=af7 y 7) d).T f.o.2.2.2.2.2.2.2.1;have cg:=((t.o.T (r.M t.o.size)).C (p:=af7 O i) l).T E.o;exact af8) ?_
   refine iz λK g=>?_;go_simp;refine RX (S.o X n) ?_;intro V J;have T:af3 q V:=Y.T (J.M Y.size);have k:af3 w V:=t.o.T (T.M t.o.size);refine g _ _ (T) ?_;refine iz λK g=>?_;go_simp;refine RX (X4.o V k) ?_;intro U I;have H:af3 q U:=T.T (I.M T.size);refine g _ _ (H) ?_;iterate 2 refine ib (h:=λc r=>by have m:=D.o;have R:=rC (jC.K A.o r);rw[Q.o] at R;have b:=((t.o.T (r.M t.o.size)).C (p:=af7 y 7) d).T f.o.2.2.2.2.2.2.2.1;have cg:=((t.o.T (r.M t.o.size)).C (p:=af7 O i) l).T E.o;exact af8) ?_
   refine g4 ?_;try refine g6 ?_
   have r:Hid (af3 w U):=ax (t.o.T (H.M t.o.size));clear Y T H n k cb L J I o6;go_wp2;go_roundg (N - (i+1))
   exact⟨i+1,rfl,aa,af,r⟩;have:=HQ.o;omega
  .have PV:¬((i:Int)<(N:Int)):=aa
   have T:=ax (λW z=>P.o W z 0);have S:=ax (λW z=>P.o W z (-3));have R:=ax (λW z=>P.o W z ((N:Int)+1));rw[B.o.1] at T;rw[B.o.2.1] at S;rw[B.o.2.2] at R;have m:ad0 .i64 ((N:Int)+1)=(N:Int)+1:=ah;go_wp21;refine RX (XB.o wr a.o (-1) (.inl aa)) ?_;intro q M;have t:Hid (af3 w q):=ax (a.o.T (M.M a.o.size));clear b;have b:q.cell? (af7 y 7)=_:=(t.o.C (p:=af7 y 7) d).T f.o.2.2.2.2.2.2.2.1;go_wp21;refine RX (XB.o q t.o N (.inr aa)) ?_;intro X L;have z:Hid (af3 w X):=ax (t.o.T (L.M t.o.size));clear b;go_wp21;refine RX (T.o X z.o) ?_;intro V J;have Y:Hid (af3 w V):=ax (z.o.T (J.M z.o.size));go_wp21;refine RX (S.o V Y.o) ?_;intro U I;have r:Hid (af3 w U):=ax (Y.o.T (I.M Y.o.size));have b:U.cell? (af7 y 7)=_:=(r.o.C (p:=af7 y 7) d).T f.o.2.2.2.2.2.2.2.1;go_wp21;refine RX (R.o U r.o) ?_;intro E H;have Q:Hid (af3 w E):=ax (r.o.T (H.M r.o.size));go_wp2;refine ak ?_;exact⟨ad,Q.o⟩
def zz(w:World)(h:jf sp s x F w)(z:iV sp s y G w)(ok:jX sp N s):af4 af5 12 #[aq x,aq y] w (au w (.bool true)):=by
 cases sp with
 | h lo hi dg u m gr=>exact uH rfl rfl w h z ok
 | d a m=>exact uH rfl rfl w h z ok
 | t d=>exact uH rfl rfl w h z ok
 | k q=>exact uH rfl rfl w h z ok
