/- Parts. -/
import Derived.Test.YtdicblkhpcphfaaGreatPU15
set_option maxRecDepth 100000
set_option maxHeartbeats 0
set_option linter.all false
namespace Go.Proofs.YtdicblkhpcphfaaGreat
open Tryz Go.RowKit Go.Lib Go.Shelf
open _root_.List renaming length→ab0
open Go.IntKind renaming wrap→ad0
open _root_.Go renaming Calls→af4
open Tryz renaming prog→af5
namespace D
section
variable {y : Nat} {p1 p2 p3 p4 : Value} {w : World} {a n : Int}
def sV(z:g7 w y 124 #[.int .u8 2,p1,p2,p3,p4])(h:∀x,af3 w x->af4 af5 120 #[p2] x λe u=>e=.returned (af6 a)/\x=u)(v:∀x,af3 w x->af4 af5 121 #[p2] x λe u=>e=.returned (af6 n)/\x=u):af4 af5 53 #[aq y] w (au w (iB 2 0 0 0 false a n)):=by
 have C:=ax h;have H:=ax v;have r:=ax z;have t:=z.k0;clear h v z;unfold iB;go_in;have⟨b,g⟩:=ar (w.heap.size);have⟨s,q⟩:=ar (w.alloc (.cells #[.int .u8 0,af6 0,af6 0,af6 0,.bool false,af6 0,af6 0] 33));have v:=ao q;have J:=an q g;have p:s.heap.size=b+1:=by rw[<-q,<-g,aI]
 have d:=ax g;go_upto_region 1 with fail;clear q g t;have t:=(r.o.K v).k0;have P:=ax p;clear p;go_upto_region 2 with fail;have⟨x,p⟩:=ar (s.alloc (.cells #[.int .u8 2,af6 0,af6 0,af6 0,.bool false,af6 0,af6 0] 33));have f:=ao p;have q:af3 w x:=v.T (f.M v.size);have I:Hid (g7 x b 33 #[.int .u8 0,af6 0,af6 0,af6 0,.bool false,af6 0,af6 0]):=ax (J.o.K f);have Y:=an p P.o;clear v f;rw[p];rw[P.o];clear p t;have t:=(r.o.K q).k0;have v:=(r.o.K q).k2;have F:=ax v;have B:y<x.heap.size:=(r.o.K q).lt;have A:¬(y=b+1):=by have:=r.o.lt;have:=d.o;omega
 have S:af3 x x.drew:=(aC _ _).drew;have X:af3 w x.drew:=q.drew;have c:Touch (λk=>k=b+1) x x.drew:=(Touch.refl _ x).drew;have R:=ax (Y.o.K S);clear v;go_upto_region 7 with fail;have Z:=ax (λ(u:World) (v:(Touch (λk=>k=b+1) x) u)=>((g9 v 2 B A).T F.o));refine jh (Touch (λk=>k=b+1) x) (hQ 0 4 (hQ 5 4 (ik 4 (hQ 10 1 (ik 9 (ik 11 (hQ 12 1 (ik 13 [])))))))) (c) ?_;iterate 8 refine ib ?_
 refine iz λK v=>?_;go_simp;refine Ix (C.o x.drew X) ?_;refine v _ _ (c) ?_;refine ib ?_;refine iz λK v=>?_;go_simp;refine Ix (H.o x.drew X) ?_;refine v _ _ (c) ?_;refine iz λK v=>?_;have M:=R.o.F 5;have U:=R.o.k5;go_simp;have O:Touch (λk=>k=b+1) x ((x.setCell (af7 (b+1) 5) (af6 a)).drew):=((show Touch (λk=>k=b+1) x x from Touch.refl _ x).setCell (p:=af7 (b+1) 5) (.inl rfl) _).drew;have Q:=ax ((Y.o.hJ 5 (af6 a)).K ((aC _ _).drew));clear M U;refine v _ _ (O) ?_;refine ib ?_;refine iz λK v=>?_;have L:=Q.o.F 6;have T:=Q.o.C 6;simp only[bA,bS,bR,az,ay,aA] at T;go_simp;have N:Touch (λk=>k=b+1) x (((x.setCell (af7 (b+1) 5) (af6 a)).setCell (af7 (b+1) 6) (af6 n)).drew):=(((show Touch (λk=>k=b+1) x x from Touch.refl _ x).setCell (p:=af7 (b+1) 5) (.inl rfl) _).setCell (p:=af7 (b+1) 6) (.inl rfl) _).drew;clear L T;refine v _ _ (N) ?_;refine g4 ?_;have⟨V,f⟩:=ar ((((x.setCell (af7 (b+1) 5) (af6 a)).setCell (af7 (b+1) 6) (af6 n)).drew));have G:Hid (g7 V (b+1) 33 #[.int .u8 2,af6 0,af6 0,af6 0,.bool false,af6 a,af6 n]):=by rw[<-f];exact ax (((Y.o.hJ 5 _).hJ 6 _).K ((aC _ _).drew))
 have z:Hid (g7 V b 33 #[.int .u8 0,af6 0,af6 0,af6 0,.bool false,af6 0,af6 0]):=by rw[<-f];exact ax (((I.o.far (p:=af7 (b+1) 5) ad _).far (p:=af7 (b+1) 6) ad _).K ((aC _ _).drew))
 have D:Hid (af3 w V):=by rw[<-f];exact ax (((q.setCell (p:=af7 (b+1) 5) (by have:=d.o;show _<=b+1;omega) _).setCell (p:=af7 (b+1) 6) (by have:=d.o;show _<=b+1;omega) _).drew)
 try rw[f]
 clear t c O N S X;go_upto_region 10 with fail;clear f;obtain⟨j,l,m,o,W,i,k⟩:=G.o.c7;have y0:=z.o.F 0;have y1:=z.o.F 1;have y2:=z.o.F 2;have y3:=z.o.F 3;have y4:=z.o.F 4;have M:=z.o.F 5;have L:=z.o.F 6;obtain⟨h,x1,x2,x3,x4,U,T⟩:=z.o.c7;go_wp21;have E:=((((((z.o.hJ 0 (.int .u8 2)).hJ 1 (af6 0)).hJ 2 (af6 0)).hJ 3 (af6 0)).hJ 4 (.bool false)).hJ 5 (af6 a)).hJ 6 (af6 n);have t:=E.C 0;have f:=E.C 1;have c:=E.C 2;have X:=E.C 3;have S:=E.C 4;have O:=E.C 5;have N:=E.C 6;simp only[bA,bS,bR,az,ay,aA] at t f c X S O N;refine ak ?_;have g:=d.o;exact⟨rfl,((((((D.o.setCell (p:=af7 b 0) (by show _<=b;omega) _).setCell (p:=af7 b 1) (by show _<=b;omega) _).setCell (p:=af7 b 2) (by show _<=b;omega) _).setCell (p:=af7 b 3) (by show _<=b;omega) _).setCell (p:=af7 b 4) (by show _<=b;omega) _).setCell (p:=af7 b 5) (by show _<=b;omega) _).setCell (p:=af7 b 6) (by show _<=b;omega) _⟩
end
def oe(k:Int)(w:World)(y:1<=k)(x:k<=4):af4 af5 107 #[.int .u8 k] w λe z=>e=.returned (.bool true)/\w=z:=by
 go_in;go_wp2;go_ret;exact⟨rfl,rfl⟩
section
variable {y : Nat} {p1 p2 p3 p4 : Value} {w : World} {lo hi dg : Int} {gr : Bool}
def sW(z:g7 w y 124 #[.int .u8 1,p1,p2,p3,p4])(h:∀x,af3 w x->af4 af5 118 #[p1] x λe u=>e=.returned (.agg #[af6 lo,af6 hi,af6 dg])/\af3 x u)(v:∀x,af3 w x->af4 af5 119 #[p1] x λe u=>e=.returned (.bool gr)/\x=u):af4 af5 53 #[aq y] w (au w (iB 1 lo hi dg gr 0 0)):=by
 have C:=ax h;have m:=ax v;have a:=ax z;have s:=z.k0;clear h v z;unfold iB;go_in;have⟨b,f⟩:=ar (w.heap.size);have⟨q,t⟩:=ar (w.alloc (.cells #[.int .u8 0,af6 0,af6 0,af6 0,.bool false,af6 0,af6 0] 33));have v:=ao t;have A:=an t f;have r:q.heap.size=b+1:=by rw[<-t,<-f,aI]
 have U:=ax f;go_upto_region 1 with fail;clear t f s;have s:=(a.o.K v).k0;have M:=ax r;clear r;go_upto_region 2 with fail;have⟨x,t⟩:=ar (q.alloc (.cells #[.int .u8 1,af6 0,af6 0,af6 0,.bool false,af6 0,af6 0] 33));have r:=ao t;have g:af3 w x:=v.T (r.M v.size);have j:Hid (g7 x b 33 #[.int .u8 0,af6 0,af6 0,af6 0,.bool false,af6 0,af6 0]):=ax (A.o.K r);have l:=an t M.o;clear v r;rw[t];rw[M.o];clear t s;obtain⟨s,v⟩:=(a.o.K g).c2;have n:=ax v;have ly:y<x.heap.size:=(a.o.K g).lt;have ny:¬(y=b+1):=by have:=a.o.lt;have:=U.o;omega
 have N:af3 x x.drew:=(aC _ _).drew;have I:af3 w x.drew:=g.drew;have L:Touch (λk=>k=b+1) x x.drew:=(Touch.refl _ x).drew;clear v;go_upto_region 5 with fail;have Z:=ax (λ(u:World) (v:(Touch (λk=>k=b+1) x) u)=>((g9 v 1 ly ny).T n.o));refine jh (Touch (λk=>k=b+1) x) (hQ 0 4 (hQ 5 4 (ik 4 (hQ 10 1 (ik 9 (ik 11 (hQ 12 1 (ik 13 [])))))))) (L) ?_;iterate 8 refine ib ?_
 refine iz λK v=>?_;go_simp;refine RX (C.o x.drew I) ?_;intro r h;have c:af3 x r:=N.T h;have Y:Touch (λk=>k=b+1) x r:=Touch.of_below c (aD _);have t:=ax (l.o.K c);have W:=ax (j.o.K c);have H:af3 w r:=g.T (c.M g.size);refine v _ _ (Y) ?_;refine ib ?_;refine iz λK v=>?_;go_simp;refine Ix (m.o r H) ?_;refine v _ _ (Y) ?_;refine iz λK v=>?_;have G:=t.o.F 1;have R:=t.o.k1;have F:=t.o.F 2;have Q:=t.o.k2;have D:=t.o.F 3;have P:=t.o.k3;go_simp;have T:Touch (λk=>k=b+1) x (((r.setCell (af7 (b+1) 1) (af6 lo)).setCell (af7 (b+1) 2) (af6 hi)).setCell (af7 (b+1) 3) (af6 dg)):=((Y.setCell (p:=af7 (b+1) 1) (.inl rfl) _).setCell (p:=af7 (b+1) 2) (.inl rfl) _).setCell (p:=af7 (b+1) 3) (.inl rfl) _;have V:=ax (((t.o.hJ 1 (af6 lo)).hJ 2 (af6 hi)).hJ 3 (af6 dg));clear G R F Q D P;refine v _ _ (T) ?_;refine ib ?_;refine iz λK v=>?_;have B:=V.o.F 4;have O:=V.o.C 4;simp only[bA,bS,bR,az,ay,aA] at O;go_simp;have J:Touch (λk=>k=b+1) x ((((r.setCell (af7 (b+1) 1) (af6 lo)).setCell (af7 (b+1) 2) (af6 hi)).setCell (af7 (b+1) 3) (af6 dg)).setCell (af7 (b+1) 4) (.bool gr)):=T.setCell (p:=af7 (b+1) 4) (.inl rfl) _;clear B O;refine v _ _ (J) ?_;refine g4 ?_;have⟨S,d⟩:=ar ((((r.setCell (af7 (b+1) 1) (af6 lo)).setCell (af7 (b+1) 2) (af6 hi)).setCell (af7 (b+1) 3) (af6 dg)).setCell (af7 (b+1) 4) (.bool gr));have o:Hid (g7 S (b+1) 33 #[.int .u8 1,af6 lo,af6 hi,af6 dg,.bool gr,af6 0,af6 0]):=by rw[<-d];exact ax (V.o.hJ 4 _)
 have z:Hid (g7 S b 33 #[.int .u8 0,af6 0,af6 0,af6 0,.bool false,af6 0,af6 0]):=by rw[<-d];exact ax ((((W.o.far (p:=af7 (b+1) 1) ad _).far (p:=af7 (b+1) 2) ad _).far (p:=af7 (b+1) 3) ad _).far (p:=af7 (b+1) 4) ad _)
 have X:w.heap.size<=b+1:=by have:=U.o;omega
 have i:Hid (af3 w S):=by rw[<-d];exact ax ((((H.setCell (p:=af7 (b+1) 1) X _).setCell (p:=af7 (b+1) 2) X _).setCell (p:=af7 (b+1) 3) X _).setCell (p:=af7 (b+1) 4) X _)
 try rw[d]
 clear s L T J Y N I;go_upto_region 10 with fail;clear d;obtain⟨I,k,j2,j3,j4,j5,j6⟩:=o.o.c7;have y0:=z.o.F 0;have G:=z.o.F 1;have F:=z.o.F 2;have D:=z.o.F 3;have B:=z.o.F 4;have y5:=z.o.F 5;have y6:=z.o.F 6;obtain⟨x0,R,Q,P,O,x5,x6⟩:=z.o.c7;go_wp21;have E:=((((((z.o.hJ 0 (.int .u8 1)).hJ 1 (af6 lo)).hJ 2 (af6 hi)).hJ 3 (af6 dg)).hJ 4 (.bool gr)).hJ 5 (af6 0)).hJ 6 (af6 0);have s:=E.C 0;have d:=E.C 1;have Y:=E.C 2;have T:=E.C 3;have N:=E.C 4;have L:=E.C 5;have J:=E.C 6;simp only[bA,bS,bR,az,ay,aA] at s d Y T N L J;refine ak ?_;have f:=U.o;exact⟨rfl,((((((i.o.setCell (p:=af7 b 0) (by show _<=b;omega) _).setCell (p:=af7 b 1) (by show _<=b;omega) _).setCell (p:=af7 b 2) (by show _<=b;omega) _).setCell (p:=af7 b 3) (by show _<=b;omega) _).setCell (p:=af7 b 4) (by show _<=b;omega) _).setCell (p:=af7 b 5) (by show _<=b;omega) _).setCell (p:=af7 b 6) (by show _<=b;omega) _⟩
end
section
variable {x y : Nat} {p1 p2 p3 p4 q1 q2 q3 q4 c : Value} {w : World} {n : Int} {Q : Value -> World -> Prop}
def G6(p:g7 w y 124 #[.int .u8 3,p1,p2,p3,p4])(q:g7 w x 124 #[.int .u8 3,q1,q2,q3,q4])
 (h:∀z,af3 w z->af4 af5 122 #[p3] z λe t=>e=.returned (af6 n)/\z=t)
 (g:∀z,af3 w z->af4 af5 122 #[q3] z λe t=>e=.returned (af6 n)/\z=t)
 (b:∀z,af3 w z->af4 af5 105 #[p3,q3] z λe t=>∃v,e=.returned v/\Q v t) :
 af4 af5 45 #[aq y,aq x,c] w λe t=>∃v,e=.returned v/\Q v t:=by
 have f:Hid (∀z,af3 w z->_):=ax (λz u=>sT (q.K u) (λs r=>g s (u.T (r.M u.size))));have d:Hid (∀z,af3 w z->_):=ax (λz u=>sT (p.K u) (λs r=>h s (u.T (r.M u.size))));have X:=ax b;have a:=ax p;have U:=ax q;clear h g b p q;unfold iB at f d;go_in;go_wp21;refine RX (f.o w (aC _ _)) ?_;intro z g;go_wp21;refine RX (d.o z g) ?_;intro s r;have u:=g.T (r.M g.size);have T:=(a.o.K u).k0;have q:=(a.o.K u).k3;have p:=(U.o.K u).k3;have b:=ax (aB q p);have S:af3 w s.drew:=u.drew;go_upto_region 11 with fail;clear q p;refine kr (λt=>t=s.drew) 8 (hQ 0 8 []) (rfl) ?_;iterate 8 refine jG (h:=λt Y=>by have q:s.drew.cell? (af7 y 3)=some p3:=b.o.1;have p:s.drew.cell? (af7 x 3)=some q3:=b.o.2;subst Y;exact af8) ?_
 refine hN ?_;simp only[aX,bj];go_wp21;refine WE (X.o s.drew S) ?_;intro v R Y;have V:=ax Y;clear Y;go_wp21;try refine g6 ?_
 go_wp2;go_ret;exact⟨_,rfl,V.o⟩
end
section
variable {x y : Nat} {p1 p2 p3 p4 q1 q2 q3 q4 c : Value} {w : World} {n : Int} {Q : Value -> World -> Prop}
def G7(p:g7 w y 124 #[.int .u8 4,p1,p2,p3,p4])(q:g7 w x 124 #[.int .u8 4,q1,q2,q3,q4])
 (h:∀z,af3 w z->af4 af5 123 #[p4] z λe t=>e=.returned (af6 n)/\z=t)
 (g:∀z,af3 w z->af4 af5 123 #[q4] z λe t=>e=.returned (af6 n)/\z=t)
 (b:∀z,af3 w z->af4 af5 106 #[p4,q4,c] z λe t=>∃v,e=.returned v/\Q v t) :
 af4 af5 45 #[aq y,aq x,c] w λe t=>∃v,e=.returned v/\Q v t:=by
 have f:Hid (∀z,af3 w z->_):=ax (λz u=>sU (q.K u) (λs r=>g s (u.T (r.M u.size))));have d:Hid (∀z,af3 w z->_):=ax (λz u=>sU (p.K u) (λs r=>h s (u.T (r.M u.size))));have X:=ax b;have a:=ax p;have U:=ax q;clear h g b p q;unfold iB at f d;go_in;go_wp21;refine RX (f.o w (aC _ _)) ?_;intro z g;go_wp21;refine RX (d.o z g) ?_;intro s r;have u:=g.T (r.M g.size);have T:=(a.o.K u).k0;have q:=(a.o.K u).k4;have p:=(U.o.K u).k4;have b:=ax (aB q p);have S:af3 w s.drew:=u.drew;go_upto_region 12 with fail;clear q p;refine kr (λt=>t=s.drew) 9 (hQ 0 9 []) (rfl) ?_;iterate 9 refine jG (h:=λt Y=>by have q:s.drew.cell? (af7 y 4)=some p4:=b.o.1;have p:s.drew.cell? (af7 x 4)=some q4:=b.o.2;subst Y;exact af8) ?_
 refine hN ?_;simp only[aX,bj];go_wp21;refine WE (X.o s.drew S) ?_;intro v R Y;have V:=ax Y;clear Y;go_wp21;try refine g6 ?_
 go_wp2;go_ret;exact⟨_,rfl,V.o⟩
end
section
variable {x y : Nat} {p1 p2 p3 p4 q1 q2 q3 q4 c : Value} {w : World} {a n lo hi dg : Int} {gr : Bool} {Q : Value -> World -> Prop}
def G9(p:g7 w y 124 #[.int .u8 1,p1,p2,p3,p4])(q:g7 w x 124 #[.int .u8 1,q1,q2,q3,q4])
 (h:∀z,af3 w z->af4 af5 118 #[p1] z λe t=>e=.returned (.agg #[af6 lo,af6 hi,af6 dg])/\af3 z t)
 (b:∀z,af3 w z->af4 af5 119 #[p1] z λe t=>e=.returned (.bool gr)/\z=t)
 (g:∀z,af3 w z->af4 af5 118 #[q1] z λe t=>e=.returned (.agg #[af6 lo,af6 hi,af6 dg])/\af3 z t)
 (Y:∀z,af3 w z->af4 af5 119 #[q1] z λe t=>e=.returned (.bool gr)/\z=t)
 (X:∀z,af3 w z->af4 af5 103 #[p1,q1] z λe t=>∃v,e=.returned v/\Q v t) :
 af4 af5 45 #[aq y,aq x,c] w λe t=>∃v,e=.returned v/\Q v t:=by
 have f:Hid (∀z,af3 w z->_):=ax (λz u=>sW (q.K u) (λs r=>g s (u.T (r.M u.size))) (λs r=>Y s (u.T (r.M u.size))));have d:Hid (∀z,af3 w z->_):=ax (λz u=>sW (p.K u) (λs r=>h s (u.T (r.M u.size))) (λs r=>b s (u.T (r.M u.size))));have V:=ax X;have a:=ax p;have U:=ax q;clear h b g Y X p q;unfold iB at f d;go_in;go_wp21;refine RX (f.o w (aC _ _)) ?_;intro z g;go_wp21;refine RX (d.o z g) ?_;intro s r;have u:=g.T (r.M g.size);have T:=(a.o.K u).k0;have q:=(a.o.K u).k1;have p:=(U.o.K u).k1;have b:=ax (aB q p);have S:af3 w s.drew:=u.drew;go_upto_region 7 with fail;clear q p;refine kr (λt=>t=s.drew) 8 (hQ 0 8 []) (rfl) ?_;iterate 8 refine jG (h:=λt Y=>by have q:s.drew.cell? (af7 y 1)=some p1:=b.o.1;have p:s.drew.cell? (af7 x 1)=some q1:=b.o.2;subst Y;exact af8) ?_
 refine hN ?_;simp only[aX,bj];go_wp21;refine WE (V.o s.drew S) ?_;intro v R Y;have X:=ax Y;clear Y;go_wp21;try refine g6 ?_
 go_wp2;go_ret;exact⟨_,rfl,X.o⟩
def G_(p:g7 w y 124 #[.int .u8 2,p1,p2,p3,p4])(q:g7 w x 124 #[.int .u8 2,q1,q2,q3,q4])
 (h:∀z,af3 w z->af4 af5 120 #[p2] z λe t=>e=.returned (af6 a)/\z=t)
 (b:∀z,af3 w z->af4 af5 121 #[p2] z λe t=>e=.returned (af6 n)/\z=t)
 (g:∀z,af3 w z->af4 af5 120 #[q2] z λe t=>e=.returned (af6 a)/\z=t)
 (X:∀z,af3 w z->af4 af5 121 #[q2] z λe t=>e=.returned (af6 n)/\z=t)
 (V:∀z,af3 w z->af4 af5 104 #[p2,q2] z λe t=>∃v,e=.returned v/\Q v t) :
 af4 af5 45 #[aq y,aq x,c] w λe t=>∃v,e=.returned v/\Q v t:=by
 have f:Hid (∀z,af3 w z->_):=ax (λz u=>sV (q.K u) (λs r=>g s (u.T (r.M u.size))) (λs r=>X s (u.T (r.M u.size))));have d:Hid (∀z,af3 w z->_):=ax (λz u=>sV (p.K u) (λs r=>h s (u.T (r.M u.size))) (λs r=>b s (u.T (r.M u.size))));have U:=ax V;have Y:=ax p;have T:=ax q;clear h b g X V p q;unfold iB at f d;go_in;go_wp21;refine RX (f.o w (aC _ _)) ?_;intro z g;go_wp21;refine RX (d.o z g) ?_;intro s r;have u:=g.T (r.M g.size);have S:=(Y.o.K u).k0;have q:=(Y.o.K u).k2;have p:=(T.o.K u).k2;have b:=ax (aB q p);have R:af3 w s.drew:=u.drew;go_upto_region 9 with fail;clear q p;refine kr (λt=>t=s.drew) 8 (hQ 0 8 []) (rfl) ?_;iterate 8 refine jG (h:=λt X=>by have q:s.drew.cell? (af7 y 2)=some p2:=b.o.1;have p:s.drew.cell? (af7 x 2)=some q2:=b.o.2;subst X;exact af8) ?_
 refine hN ?_;simp only[aX,bj];go_wp21;refine WE (U.o s.drew R) ?_;intro v P X;have V:=ax X;clear X;go_wp21;try refine g6 ?_
 go_wp2;go_ret;exact⟨_,rfl,V.o⟩
end
variable{bs r:List Int}{a g:Nat}{n:Int}
def Tj(p y:Int)(x:0<=p)(u:p * 256<18446744073709551616)(v:0<=y)(t:y<256):bits .or .u64 (ad0 .u64 (p * 256)) y=p * 256+y:=by
 obtain⟨a,rfl⟩:=bO x;obtain⟨b,rfl⟩:=bO v;have z:((a:Int) * 256)=((a * 256:Nat):Int):=ad;rw[z,show ad0 .u64 ((a * 256:Nat):Int)=((a * 256:Nat):Int) from by rw[iy];omega,bits_or_u64_nat _ b aa  aa];have h:=dT (i:=8) (b:=b) aa a;rw[cJ a 256,show(256:Nat)=2 ^ 8 by rfl,<-h];simp
def NT(p y:Int)(s:Nat)(r:0<=p)(q:p<2 ^ s)(g:0<=y)(h:p+2 ^ s * y<18446744073709551616):bits .or .u64 p (ad0 .u64 (y * 2 ^ s))=p+2 ^ s * y:=by
 obtain⟨a,rfl⟩:=bO r;obtain⟨b,rfl⟩:=bO g;have z:((b:Int) * 2 ^ s)=((b * 2 ^ s:Nat):Int):=ad;have x:(a:Int)+2 ^ s * (b:Int)=((a+2 ^ s * b:Nat):Int):=ad;have u:a<2 ^ s:=by
  have:(a:Int)<((2 ^ s:Nat):Int):=by simpa using q
  omega
 rw[x] at h |-;have t:b * 2 ^ s<18446744073709551616:=by rw[cJ];omega
 rw[z,show ad0 .u64 ((b * 2 ^ s:Nat):Int)=((b * 2 ^ s:Nat):Int) from by rw[iy];omega,bits_or_u64_nat a _ aa t];have v:=dT u b;rw[Nat.or_comm,cJ b,<-v,fN]
def DX{x:List Int}{j:Nat}(z:bs.drop a=x++r)(y:j<ab0 x):∃h:a+j<ab0 bs,bs[a+j]=x[j]:=by
 have v:=bu List.length z;rw[aW,aE] at v;have h:a+j<ab0 bs:=aa;refine⟨h,?_⟩;have e:=bu (λl=>l[j]?) z;simp only[dz,cD y] at e;rw[aL h,aL y] at e;exact bJ e
def AD(K:Nat)(w:World)(h:hT w g bs a)(G:ab0 bs<=1000000000000)(y:bs.drop a=jS K n++r)(W:K<=8)(b:0<=n)(n1:n<18446744073709551616)(Y:n / 2 ^ (8 * K)=0):af4 af5 404 #[aq g,af6 K] w (pd w g bs (a+K) (.tuple #[.int .u64 n,af6 0])):=by
 have H:=ax h;have U:=ax (mA g bs a w h G);obtain⟨v,z,u,o⟩:=h;obtain⟨C,E,rfl,_,m1,x⟩:=(hO.rd u).form;have s:=z.k0;have f:=z.k1;have m:=z.F 1;have Q:=ax x;have O:a+K<=ab0 bs:=by
  have t:=bu List.length y;rw[aW,aE,ix] at t;omega
 have P:=ax y;have PV:¬((ab0 bs:Int) - (a:Int)<(K:Int)):=aa;have S:Hid (ad0 .i64 ((a:Int)+(K:Int))=((a+K:Nat):Int)):=ax ah;clear z u x y;go_in;go_wp21;refine RX U.o ?_;rintro y ⟨D,rfl⟩;go_wp2;go_loopg [6,13] K (λq p i wr=>∃(j nq:Nat),q=K - j/\j<=K/\i=af6 j/\p=.int .u64 (n / 2 ^ (8 * (K - j)))/\wr=w.drewN nq)
 exact⟨0,D,rfl,aa,rfl,by rw[Nat.sub_zero,Y],rfl⟩
 case round=>
  obtain⟨j,nq,z,k,rfl,rfl,rfl⟩:=hrel;have N:=ax z;clear z;by_cases t:j<K
  .obtain⟨I,d⟩:=DX P.o (j:=j) (by rw[ix];exact t)
   obtain⟨q,X,rfl,i,u⟩:=Q.o.at_ I;have p:bs[a+j]=n / 2 ^ (8 * (K - 1 - j)) % 256:=by
    rw[d];have:=GN K n j t;rw[aL (by rw[ix];exact t)] at this;exact bJ this
   rw[p] at u;have⟨x,z⟩:=ar (n / 2 ^ (8 * (K - 1 - j)));have c:n / 2 ^ (8 * (K - j))=x / 256:=by
    rw[<-z,cS (by exact e9 (dp aa))]
    congr 1
    rw[show 8 * (K - j)=8 * (K - 1 - j)+8 by omega,dQ];rfl
   have hx0:0<=x:=by rw[<-z];exact dh b (e9 (dp aa))
   have F:x<=n:=by rw[<-z];exact fx _ b
   have hx1:x<18446744073709551616:=aa;have L:=ax (Tj (x / 256) (x % 256) aa  aa  aa  aa);have J:Hid (x / 256 * 256+x % 256=x):=ax aa;have M:=ax z;rw[z] at u;rw[c];have l:((a:Int)+(j:Int)).toNat=a+j:=aa;have B:(0:Int)<=(a:Int)+(j:Int):=aa;have A:(a:Int)+(j:Int)<(ab0 bs:Int):=aa;have T:=ax (cy ((a:Int)+(j:Int)) aa);have R:=ax (by rw[iy];omega:ad0 .u64 (x % 256)=x % 256);have hji:(j:Int)<(K:Int):=aa;have V:=ax (aB s (aB f u));clear p d c z F Y;go_upto_region 7 with fail;refine jh (λy=>y.cell? (af7 g 0)=some (.slice (some (af7 q X)) (ab0 bs) E)/\y.cell? (af7 g 1)=some (af6 a)/\y.cell? ⟨q,X+(a+j),none⟩=some (.int .u8 (x % 256))) (hQ 0 17 []) (V.o) ?_;iterate 17 refine ib (h:=λy z=>by obtain⟨q0,q1,q2⟩:=z;have c:=L.o;have F:=J.o;have p:=T.o;have d:=R.o;exact af8) ?_
   refine g4 ?_;go_wp2;go_roundg (K - (j+1))
   exact⟨j+1,nq+1,rfl,aa,af,by rw[show K - (j+1)=K - 1 - j by omega,M.o],rfl⟩;have:=N.o;omega
  .obtain rfl:j=K:=aa
   have z:n / 2 ^ (8 * (j - j))=n:=by rw[cZ];simp
   rw[z];have x:=S.o;go_wp2;go_ret2;exact⟨rfl,(H.o.drewN nq).put (a+j) O,nU w nq g 1 _⟩
def KY(w:World)(h:hT w g bs a)(P:ab0 bs<=1000000000000)(y:bs.drop a=n::r)(N:0<=n)(m:n<256):af4 af5 402 #[aq g,af6 1] w (pd w g bs (a+1) (.tuple #[.int .u64 n,af6 0])):=by
 have H:=ax h;have Y:=ax (mA g bs a w h P);obtain⟨v,z,q,D⟩:=h;obtain⟨L,O,rfl,_,l,x⟩:=(hO.rd q).form;have s:=z.k0;have f:=z.k1;have E:=z.F 1;have U:=ax x;have S:a+1<=ab0 bs:=by
  have u:=bu List.length y;rw[aW,aK] at u;omega
 have T:=ax y;have V:Hid (ad0 .i64 ((a:Int)+1)=((a+1:Nat):Int)):=ax ah;have t:Hid (bits .or .u64 0 n=n):=ax (by
  have:=NT 0 n 0 aa ad N ae;simpa[show ad0 .u64 n=n by rw[iy];omega] using this)
 have u:=ax (by rw[iy];omega:ad0 .u64 n=n);clear z q x y;go_in;go_wp21;refine RX Y.o ?_;rintro z ⟨M,rfl⟩;go_wp2;go_loopg [6,13] 1 (λq p i wr=>∃(j nq:Nat),q=1 - j/\j<=1/\i=af6 j/\p=.int .u64 (if j=0 then 0 else n)/\wr=w.drewN nq)
 exact⟨0,M,rfl,aa,rfl,rfl,rfl⟩
 case round=>
  obtain⟨j,nq,y,B,rfl,rfl,rfl⟩:=hrel;have R:=ax y;clear y;by_cases A:j<1
  .obtain rfl:j=0:=aa
   rw[aH rfl];obtain⟨Q,d⟩:=DX (x:=[n]) (j:=0) (r:=r) T.o ad;obtain⟨q,c,rfl,C,y⟩:=U.o.at_ Q;have p:bs[a+0]=n:=by rw[d];rfl
   rw[p] at y;simp only[cF] at y;have I:((a:Int)).toNat=a:=aa;have K:(0:Int)<=(a:Int):=aa;have J:(a:Int)<(ab0 bs:Int):=aa;have X:=ax (cy (a:Int) aa);have b:=ax (aB s (aB f y));clear p d;go_upto_region 7 with fail;refine jh (λz=>z.cell? (af7 g 0)=some (.slice (some (af7 q c)) (ab0 bs) O)/\z.cell? (af7 g 1)=some (af6 a)/\z.cell? (af7 q (c+a))=some (.int .u8 n)) (hQ 0 19 []) (b.o) ?_;iterate 19 refine ib (h:=λz p=>by obtain⟨W,i,k⟩:=p;have o:=t.o;have G:=X.o;have F:=u.o;have d:ad0 .i64 0=0:=rfl;exact af8) ?_
   refine g4 ?_;go_wp2;go_roundg 0
   exact⟨1,nq+1,rfl,aa,af,by have:=t.o;have:=u.o;simp_all,rfl⟩;have:=R.o;omega
  .obtain rfl:j=1:=aa
   rw[aF aa];have y:=V.o;go_wp2;go_ret2;exact⟨rfl,(H.o.drewN nq).put (a+1) S,nU w nq g 1 _⟩
def KZ{v:Int}(s:Int)(w:World)(h:hT w g bs a)(hlen:ab0 bs<=1000000000000)(y:bs.drop a=nn v++r)(v0:-9223372036854775808<=v)(v1:v<=9223372036854775807):af4 af5 410 #[aq g,af6 s] w (pd w g bs (a+ab0 (nn v)) (.tuple #[.int .u64 (ub v),af6 0])):=by
 have H:=ax h;obtain⟨vv,d,h2,h3⟩:=h;obtain⟨A1,k1,rfl,_,f,t⟩:=(hO.rd h2).form;have c0:=d.k0;have c1:=d.k1;have fz:=d.F 1;have F1:=ax t;have sb:=j9 v0 v1;have J:=ax (λw=>sK (oF v) w sb.1 sb.2);rw[wZ] at J;have WO:Hid (ad0 .u64 v=ub v):=ax rfl;have x:Hid (nn v=ko 8 (oF v)):=ax rfl;rw[x.o] at y |-;have HL:a+ab0 (ko 8 (oF v))<=ab0 bs:=by
  have hl:=bu List.length y;rw[aW,aE] at hl;omega
 generalize oF v=z at *;generalize ub v=u at *;have HD:=ax y;clear d h2 t y x;have⟨Z,y⟩:=ar (a+ab0 (ko 8 z));rw[y];have HZ:=ax y;rw[y] at HL;clear y;go_in;go_wp2;go_loopg [6,9] 9 (λq p i wr=>∃(j nq:Nat) (y m:Int),q=9 - j/\j<=8/\i=af6 j/\p=.int .u64 y/\(0<=y/\y<128 ^ j)/\Hid (z=y+128 ^ j * m)/\(0<=m/\m<256 * 128 ^ (8 - j))/\Hid (bs.drop (a+j)=ko (8 - j) m++r/\a+j+ab0 (ko (8 - j) m)=Z)/\(m=0->j=0)/\wr=w.drewN nq)
 exact⟨0,0,0,z,rfl,aa,rfl,rfl,⟨aa,ad⟩,ax ad,⟨sb.1,ae⟩,ax ⟨by simpa using HD.o,by simpa using HZ.o⟩,λ_=>rfl,rfl⟩
 case round=>
  obtain⟨j,nq,y,m,x,l,rfl,rfl,⟨U,R⟩,hzz,⟨V,f⟩,O,T,rfl⟩:=hrel;have HQ:=ax x;clear x;have hj9:(j:Int)<9:=aa
  -- the byte that stands here
  have hne:∃(x:Int) (t:List Int),ko (8 - j) m=x::t/\0<=x/\x<=255:=by
   rcases bo (8 - j) with q|q
   .rw[q] at f |-
    exact⟨m,[],rfl,V,by simp at f;omega⟩
   .obtain⟨k,hk⟩:∃k,8 - j=k+1:=⟨8 - j - 1,aa⟩
    rw[hk];by_cases p:127<m
    .rw[nL k m p];exact⟨_,_,rfl,aa,aa⟩
    .rw[nM (k+1) m p];exact⟨_,_,rfl,V,aa⟩
  obtain⟨x,t,X,L,K⟩:=hne;have q:bs.drop (a+j)=x::(t++r):=by rw[O.o.1,X];rfl
  have Y:a+j<ab0 bs:=by
   have hl:=bu List.length q;rw[aW,aK] at hl;omega
  have S:bs[a+j]=x:=by
   have:=b_ Y;rw[q] at this;exact(fq this).1.Y
  have A:bs.drop (a+(j+1))=t++r:=by
   have:=b_ Y;rw[q] at this;exact(fq this).2.Y
  obtain⟨B,W,rfl,hgb,c⟩:=F1.o.at_ Y;rw[S] at c;have D:((a:Int)+(j:Int)).toNat=a+j:=aa;have F:(0:Int)<=(a:Int)+(j:Int):=aa;have E:(a:Int)+(j:Int)<(ab0 bs:Int):=aa;have C:decide ((ab0 bs:Int)<=(a:Int)+(j:Int))=false:=bq aa;have EA:=ax (cy ((a:Int)+(j:Int)) aa);have CC:=ax (aB c0 (aB c1 c));have b:=ax (aB X A);have i:Hid (ad0 .i64 ((j:Int)+1)=(j:Int)+1/\ad0 .i64 ((a:Int)+((j:Int)+1))=((a+(j+1):Nat):Int)):=ax ⟨ah,ah⟩;clear S q X A c;go_upto_region 5 with fail;refine jh (λq=>q.cell? (af7 g 0)=some (.slice (some (af7 B W)) (ab0 bs) k1)/\q.cell? (af7 g 1)=some (af6 a)/\q.cell? ⟨B,W+(a+j),none⟩=some (.int .u8 x)) (hQ 0 12 []) (CC.o) ?_;iterate 12 refine ib (h:=λq c=>by obtain⟨q0,q1,q2⟩:=c;have ea:=EA.o;exact af8) ?_
  refine g4 ?_;go_upto_region 7 with fail;refine jh (λq=>q.cell? (af7 g 0)=some (.slice (some (af7 B W)) (ab0 bs) k1)/\q.cell? (af7 g 1)=some (af6 a)/\q.cell? ⟨B,W+(a+j),none⟩=some (.int .u8 x)) (hQ 0 13 []) (CC.o) ?_;iterate 13 refine ib (h:=λq c=>by obtain⟨q0,q1,q2⟩:=c;have ea:=EA.o;exact af8) ?_
  refine g4 ?_;by_cases h8:j=8
  .subst h8
   have Q:m≠0:=λe=>by have:=T e;omega
   obtain⟨M,S⟩:m=x/\[]=t:=by have:=b.o.1;rw[cZ] at this;exact fq this
   subst M S;have c:=hzz.o;have N:Hid (bits .or .u64 y (ad0 .u64 (m * 72057594037927936))=z):=ax (by
    have:=NT y m 56 U aa V aa;rw[c];exact this)
   have I:=ax (by rw[iy];omega:ad0 .u64 m=m);have X:Hid (ad0 .i64 9=9/\ad0 .i64 ((a:Int)+9)=((a+9:Nat):Int)):=ax ⟨rfl,ah⟩;have P:a+9=Z:=by have:=O.o.2;simpa[ko] using this
   have G:(m == 0)=false:=ae;clear c U R V f hj9 F E C D Y Q T l L K;have c:=N.o;have Q:=I.o;go_upto_region 11 with fail;clear c Q;go_upto_region 14 with fail;obtain⟨o,n⟩:=X.o;obtain⟨c,l4⟩:=i.o;go_wp21;refine Ix (J.o _) ?_;have hub:=WO.o;go_wp2;go_ret2;rw[<-P];exact⟨rfl,(H.o.drewN _).put (a+9) aa,nU w _ g 1 _⟩
  .have j8:((j:Int) == 8)=false:=bV.2 aa
   have hj8:(j:Int)<8:=aa;obtain⟨k,hk⟩:∃k,8 - j=k+1:=⟨8 - j - 1,aa⟩;have G:=MO x L K;have hpw:(0:Int)<128 ^ j:=dp aa;rw[hk] at b O f;by_cases p:127<m
   .obtain⟨M,S⟩:=fq ((nL k m p).Y.T b.o.1)
    have hx7:127<x:=aa;have X:x % 128=m % 128:=aa;have c:=uQ y (x % 128) j aa U R aa  aa  aa;have HO:=ax c;have hps:Hid (0<=y+128 ^ j * (x % 128)/\y+128 ^ j * (x % 128)<128 ^ (j+1)):=by
     have h2:(128:Int) ^ j * (x % 128)<=128 ^ j * 127:=bX aa  aa;have h3:0<=(128:Int) ^ j * (x % 128):=cX aa  aa;exact ax ⟨aa,by rw[ch];omega⟩
    have hzn:Hid (z=y+128 ^ j * (x % 128)+128 ^ (j+1) * (m / 128)):=ax (by
     rw[hzz.o,ch,f_,bF,<-eQ,X]
     congr 2
     omega)
    have N:m / 128<256 * 128 ^ (8 - (j+1)):=by
     rw[show 8 - (j+1)=k by omega];exact cj aa (by rw[bF,<-ch];exact f)
    have A:Hid (bs.drop (a+(j+1))=ko (8 - (j+1)) (m / 128)++r/\a+(j+1)+ab0 (ko (8 - (j+1)) (m / 128))=Z):=ax (by
     rw[show 8 - (j+1)=k by omega,S];refine⟨b.o.2,?_⟩;have d:=O.o.2;rw[b.o.1,aK] at d;omega)
    have hmd:0<m / 128:=aa;clear c M S X f R U V F E C D Y T l L K hpw p;go_upto_region 11 with fail;clear G;go_wp2;go_roundg (9 - (j+1))
    exact⟨j+1,_,_,m / 128,rfl,aa,af,by rw[HO.o],hps.o,hzn,⟨aa,N⟩,A,λe=>by omega,rfl⟩;have:=HQ.o;omega
   .obtain⟨M,S⟩:=fq ((nM (k+1) m p).Y.T b.o.1)
    subst M S;have X:m % 128=m:=aa;have c:=uQ y (m % 128) j aa U R aa  aa  aa;rw[X] at c;rw[<-hzz.o] at c;have HO:=ax c;have h7':decide ((127:Int)<m)=false:=bq p;have P:a+(j+1)=Z:=by
     have d:=O.o.2;rw[b.o.1,aK,aY] at d;omega
    have I:=ax (by rw[iy];omega:ad0 .u64 m=m);have a7':bits .and .u8 m 127=m:=by rw[G,X]
    have o7:=HO.o;have TAIL:Hid (∀nn:Nat,hT ((w.drewN nn).setCell (af7 g 1) (af6 ((a+(j+1):Nat):Int))) g bs Z/\Touch (λk=>k=g) w ((w.drewN nn).setCell (af7 g 1) (af6 ((a+(j+1):Nat):Int)))):=ax (λnn=>by
     refine⟨?_,nU w _ g 1 _⟩;rw[P];exact(H.o.drewN _).put Z HL)
    have hub:=WO.o;by_cases N:m=0
    .have hj0:decide (0<j)=false:=bq (aa2 (T N))
     have Tk:(m == 0)=true:=by simpa using N
     clear c f R U V F E C D Y T l L K hpw p X G P N;have Q:=I.o;go_upto_region 11 with fail;clear a7' Q;go_upto_region 14 with fail;obtain⟨o,n⟩:=i.o;go_wp21;refine Ix (J.o _) ?_;clear o n;go_wp2;go_ret2;exact⟨rfl,TAIL.o _⟩
    .have Tk:(m == 0)=false:=by simpa using N
     clear c f R U V F E C D Y T l L K hpw p X G P N;have Q:=I.o;go_upto_region 11 with fail;clear a7' Q;go_upto_region 14 with fail;obtain⟨o,n⟩:=i.o;go_wp21;refine Ix (J.o _) ?_;clear o n;go_wp2;go_ret2;exact⟨rfl,TAIL.o _⟩
open Go.RowKit Go.Maps
def Tl:prog.underlying 204=some (.map 3 36):=by kernel_rfl
def Tm:prog.underlying 3=some (.int .i64):=by kernel_rfl
def Tn:prog.underlying 36=some (.int .u64):=by kernel_rfl
def QR:Keyed prog 3:=int_keyed Tm
def Vn(w:World):(zeroValue 36).run prog w=.ok (.int .u64 0) w:=by kernel_rfl
def lD(w:World)(b:Nat)(l:List Pr):Prop:=∃D,w.ownsMap prog 3 (plainElem (H:=Unit) prog 36) b (ab0 l) D/\PQ D l
section
variable {w w' : World} {b : Nat} {l : List Pr}
variable{k:Int}
def lD.stay(h:lD w b l)(u:w'.heap[b]?=w.heap[b]?):lD w' b l:=by
 obtain⟨D,⟨y,z,v,r⟩,x⟩:=h;exact⟨D,⟨y,z,u.T v,r⟩,x⟩
def lD.lt(h:lD w b l):b<w.heap.size:=by
 obtain⟨D,h,_⟩:=h;exact h.lt
def lD.K(h:lD w b l)(z:af3 w w'):lD w' b l:=h.stay (z.block b h.lt)
def To(w:World):lD (w.alloc (.map #[] 0)) w.heap.size []:=⟨_,World.ownsMap_made w _ _ _,SU⟩
def lD.ne(h:lD w b l){g:Nat}{T:TypeId}{cs:Array Value}(z:g7 w g T cs):b≠g:=by
 rintro rfl;obtain⟨D,⟨v,x,y,_⟩,_⟩:=h;unfold g7 at z;rw[y] at z;cases z
def NU{n:Nat}{D:DataW Unit}(h:w.ownsMap prog 3 (plainElem (H:=Unit) prog 36) b n D)(x:PQ D l):lD w b l:=by
 obtain⟨z,v,u,F,_,e⟩:=h;refine⟨D,⟨z,v,u,F,?_,e⟩,x⟩;have y:=x.sz;rw[e] at y;rw[<-y];show z.size<=List.length _
 rw[length_read];exact aD _
def NV(z:-9223372036854775808<=k)(y:k<=9223372036854775807):keyOf prog 3 (af6 k)=some (iL k):=keyOf_int_mk Tm (WalkArith.wf_i64 ⟨z,y⟩)
def lD.look(h:lD w b l)(v:-9223372036854775808<=k)(u:k<=9223372036854775807):(Instr.lookup 204 (.map (some b)) (af6 k) false).run prog w=.ok (.int .u64 (lA l k)) w:=by
 obtain⟨D,h,y⟩:=h;obtain⟨c,x,z,_⟩:=h.lookup_int QR Tl Tn (Vn w) (NV v u);rw[y.get k] at z;cases z
 exact x
def lD.upd(h:lD w b l)(s:ji l)(z:i' l)(f:ab0 l<=1000000000){n:Int}(t:-9223372036854775808<=k)(r:k<=9223372036854775807)(q:0<n)(p:lA l k+n<=18446744073709551615):∃w',(Instr.mapUpdate 204 (.map (some b)) (af6 k) (.int .u64 (lA l k+n))).run prog w=.ok () w'/\lD w' b (iu k n l)/\w.grownBy w' (some b):=by
 obtain⟨D,h,u⟩:=h;have g:=j_ (k:=k) z;obtain⟨w',y,x,v⟩:=h.update QR Tl (by unfold maxLen;omega) (NV t r) (plainElem_int Tn (WalkArith.wf_u64 ⟨aa,p⟩));exact⟨w',y,NU x (u.put s z k n q),v⟩
def ve{F:Ft}(y:F b)(z:w.grownBy w' (some b)):Touch F w w':=⟨z.os,z.tape,z.output,z.size,λk x v=>z.block k x (λe=>by cases e;exact v y)⟩
def X'{ops:Array Oper}{rest:List Oper}{o:Oper}{a:Act}{Q:Exit->Act->World->Prop}(u:o.guard=none)(m x v:Operand)(q:o.op=Op.mapUpdate 204 m x v)
 (h:lD w b l) (s:ji l) (p:i' l) (t:ab0 l<=1000000000) {n:Int} (c:-9223372036854775808<=k) (Y:k<=9223372036854775807) (X:0<n) (V:lA l k+n<=18446744073709551615)
 (r:a.eval m=.map (some b)) (d:a.eval x=af6 k) (f:a.eval v=.int .u64 (lA l k+n))
 (z:∀w',lD w' b (iu k n l)->w.grownBy w' (some b)->wpList prog ops Q rest (a.put o.dst undef) w'):wpList prog ops Q (o::rest) a w:=by
 refine wpList_plain u λy y=>?_;obtain⟨w',g,U,T⟩:=h.upd s p t c Y X V;unfold Oper.wp;simp[execOp,q,r,d,f,g,Result.andThen];exact y _ _ (z w' U T)
end
section
variable {g u m : Nat} {lo hi dg : Int} {w : World}
def DY(n:Nat)(h:ml w g lo hi dg u m)(K:u+m<=62)(H:1<=n)(G:n<=64):af4 af5 282 #[aq g,af6 n] w (au w (af6 (oC u m n))):=by
 have q:Hid (oC u m n=if 63<=n - 1+u+m then 9223372036854775807 else 2 ^ (n - 1+u+m) - 1):=ax rfl;rw[q.o];obtain⟨k,rfl⟩:∃k,n=k+1:=⟨n - 1,aa⟩;simp only[dS] at q |-;have⟨t,X⟩:=ar (k+u);have⟨s,f⟩:=ar (k+u+m);have S:ad0 .i64 ((k:Int)+(u:Int))=(t:Int):=ah
 have R:ad0 .i64 ((t:Int)+(m:Int))=(s:Int):=ah;have Q:ad0 .i64 (k:Int)=(k:Int):=ah;have O:max ((k:Int)+1) 1=(k:Int)+1:=aa;have N:min ((k:Int)+1) 64=(k:Int)+1:=aa;rw[f];have z:=g7.C h 3;have y:=g7.C h 4;simp only[az,ay,aA] at z y;by_cases c:63<=s
 .have Y:(63:Int)<=(s:Int):=aa
  rw[aH c];clear q X f h;go_in;go_upto_region 2 with fail;go_quiet (fail)
  go_wp2;go_ret;exact⟨ad,below_drewN (aC _ _) _⟩
 .have Y:¬(63:Int)<=(s:Int):=aa
  rw[aF c];have r:2 ^ s<=4611686018427387904:=(lY aa :2 ^ s<=2 ^ 62);have M:=cB s;have L:=r;have⟨P,v⟩:=ar (2 ^ s);have b:((2:Int) ^ s)=(P:Int):=by rw[<-v];simp
  rw[v] at M L |-;have p:ad0 .i64 ((P:Int) - 1)=(P:Int) - 1:=ah
  have x:(((P - 1:Nat)):Int)=(P:Int) - 1:=aa;have d:wrap64 (P:Int)=(P:Int):=by clear S R Q O N p x Y;unfold wrap64;omega
  rw[x];clear q X f r x v;go_in;go_upto_region 2 with fail;go_quiet (fail)
  have⟨v,r⟩:=ar (w.drewN nq);have x:af3 w v:=by rw[<-r];exact below_drewN (aC _ _) _
  have V:v.cell? (af7 g 3)=some (af6 u):=by rw[<-r];exact z
  have U:v.cell? (af7 g 4)=some (af6 m):=by rw[<-r];exact y
  rw[r];clear r z y;have z:=V;have y:=U;have a:g<v.heap.size:=by have:=g7.lt h;have:=x.size;omega
  clear z y;have r:=ax (aB b (aB d p));clear b d p;go_upto_region 4 with fail;refine jh (af3 v) (hQ 0 15 []) ((aC _ _).drew) ?_;iterate 15 refine ib (h:=λT d=>by have z:=(d.C (p:=af7 g 3) a).T V;have y:=(d.C (p:=af7 g 4) a).T U;obtain⟨b,J,I⟩:=r.o;exact af8) ?_
  refine g4 ?_;go_wp2;go_ret;have d:ad0 .i64 (P:Int)=(P:Int):=(aO _).T aa;refine⟨?_,x.drew⟩;show Ending.returned (af6 (ad0 .i64 (ad0 .i64 (P:Int) - 1)))=Ending.returned (af6 ((P:Int) - 1))
  rw[d,r.o.2.2]
end
section
variable {g u m : Nat} {lo hi dg : Int} {w : World}
def G'(v:Nat)(h:ml w g lo hi dg u m)(hu:u+m<=62)(l:1<=m)(o:m<=18)(X:v<9223372036854775808):af4 af5 217 #[aq g,af6 (oJ u m v)] w (au w (.tuple #[af6 (Mo u m v),af6 0])):=by
 have V:Hid (∀z,af3 w z->_):=ax (λz C=>uW (g7.K h C) l o);have R:=lU (u:=u) (m:=m) X;have c:=Nj (u:=u) (m:=m) (v:=v) l aa;have S:=Aq (u:=u) (m:=m) (v:=v) aa;have Q:2 ^ m<=262144:=(lY o:2 ^ m<=2 ^ 18);have ac4:xm u m v<262144:=aa;have C:jg u m v<=63:=aa;have n:=ax h;have F:=ax (λw=>nJ (xm u m v) w aa);have z:Hid (Mo u m v=xm u m v * 2 ^ (jg u m v+u)):=ax rfl;have y:Mo u m v<9223372036854775808:=eY (Nk u m v) X;have U:=cB (jg u m v+u);have t:Lib.bitLen (xm u m v)+(jg u m v+u)<=63:=by
  have x:jg u m v+u<=63:=aa;have:Lib.bitLen (xm u m v)<=63 - (jg u m v+u):=(re aa).2 (by
   have e:2 ^ (63 - (jg u m v+u)) * 2 ^ (jg u m v+u)=9223372036854775808:=by rw[<-eP,show 63 - (jg u m v+u)+(jg u m v+u)=63 by omega]
   have P:xm u m v * 2 ^ (jg u m v+u)<9223372036854775808:=y;rw[<-e] at P;exact Nat.lt_of_mul_lt_mul_right P)
  omega
 have W:2 ^ (m - 1)<=131072:=(lY aa :2 ^ (m - 1)<=2 ^ 17);have hH0:=cB (m - 1);unfold XH at c;have hix:oJ u m v<=16777216:=by
  have x:jg u m v * 2 ^ (m - 1)<=63 * 131072:=cL aa W;unfold oJ;omega
 generalize oJ u m v=I at *;rw[z.o] at y |-;clear z;generalize xm u m v=k at *;generalize jg u m v=b at *;generalize 2 ^ (m - 1)=H at *;generalize Lib.bitLen k=B at *;have O:(I:Int).tdiv (H:Int)=((I / H:Nat):Int):=by rw[dE aa];simp
 have N:(I:Int).tmod (H:Int)=((I % H:Nat):Int):=by rw[eO aa];simp
 have hq:I / H<=16777216:=bf (el ..) hix;generalize I / H=q at *;generalize I % H=r at *;have hH1:H≠0:=aa;have⟨s,T⟩:=ar (b+u);rw[T] at y U t |-;have j:(b:Int)+(u:Int)=(s:Int):=aa
 have p:ad0 .i64 ((b:Int)+(u:Int))=(s:Int):=ah;have a:ad0 .i64 ((B:Int)+(b:Int))=(B:Int)+(b:Int):=ah;have Y:ad0 .i64 ((B:Int)+(b:Int)+(u:Int))=(B:Int)+(b:Int)+(u:Int):=ah;have D:¬(64:Int)<(b:Int):=aa;have L:¬(63:Int)<(B:Int)+(b:Int)+(u:Int):=aa;have x:ad0 .u64 (k:Int)=(k:Int):=by rw[iy];omega
 have d:=ax (aB p (aB a (aB Y (aB x (aB L D)))));have E:=ax (by rw[show(k:Int) * (2:Int) ^ s=((k * 2 ^ s:Nat):Int) by simp];clear p a Y x;generalize k * 2 ^ s=z at *;unfold wrap64;omega:wrap64 ((k:Int) * (2:Int) ^ s)=((k * 2 ^ s:Nat):Int));have QS:B+s<=63:=t;clear y U p a Y x Q S R T h X t;have U:Hid (∀y,af3 w y->((y.cell? (af7 g 3)=some (af6 u)))):=ax (λy x=>by
  have Y:=(g7.K n.o x).C 3;simpa only[az,ay,aA] using Y)
 by_cases A:q=0
 .subst A
  rw[aH rfl] at c;obtain⟨rfl,rfl⟩:b=0/\k=I:=by simpa[gY,eq_comm] using c
  have i:¬(k:Int)<0:=aa;have T:s=u:=aa;subst T;have a:Hid (ad0 .i64 (B:Int)=(B:Int)/\ad0 .i64 ((B:Int)+(s:Int))=(B:Int)+(s:Int)/\(¬(63:Int)<(B:Int)+(s:Int))/\ad0 .i64 (s:Int)=(s:Int)/\ad0 .u64 (k:Int)=(k:Int)):=ax ⟨ah,ah,aa,ah,d.o.2.2.2.1⟩;clear c d j D L;go_in;go_upto_region 3 with fail;refine jh (af3 w) (hQ 0 2 (hQ 5 2 (hQ 9 1 (ik 2 (hQ 3 2 (ik 7 (hQ 8 1 (ik 10 (hQ 11 3 []))))))))) ((aC _ _).drew) ?_;iterate 5 refine ib ?_
  refine iz λK y=>?_;go_simp;refine Ix (V.o w.drew (aC _ _).drew) ?_;refine y _ _ ((aC _ _).drew) ?_;iterate 2 refine ib ?_
  refine iz λK y=>?_;go_simp;refine Ix (V.o w.drew (aC _ _).drew) ?_;refine y _ _ ((aC _ _).drew) ?_;refine ib ?_;refine iz λK y=>?_;go_simp;refine Ix (V.o w.drew (aC _ _).drew) ?_;refine y _ _ ((aC _ _).drew) ?_;iterate 3 refine ib ?_
  refine g4 ?_;go_upto_region 6 with fail;refine jh (af3 w) (hQ 0 5 (hQ 6 1 (hQ 8 4 (ik 5 (hQ 7 1 (hQ 12 3 [])))))) ((aC _ _).drew.drew) ?_;iterate 10 refine ib (h:=λf x=>by have Y:=U.o _ x;obtain⟨t,p,S,R,Q⟩:=a.o;exact af8) ?_
  refine iz λK y=>?_;go_simp;refine Ix (F.o w.drew.drew) ?_;refine y _ _ ((aC _ _).drew.drew) ?_;iterate 4 refine ib (h:=λf x=>by have Y:=U.o _ x;obtain⟨t,p,S,R,Q⟩:=a.o;exact af8) ?_
  refine g4 ?_;obtain⟨t,p,S,R,Q⟩:=a.o;have Y:=U.o w.drew.drew (aC _ _).drew.drew;go_wp2;go_ret2;refine⟨?_,(aC _ _).drew.drew⟩;show Ending.returned (.tuple #[af6 (wrap64 ((k:Int) * (2:Int) ^ _)),af6 0])=_
  rw[E.o];simp
 .rw[aF A] at c
  obtain⟨M,P⟩:q - 1=b/\r+H=k:=by simpa[gY] using c
  obtain rfl:q=b+1:=aa;have i:¬(b:Int)<0:=aa;have a:Hid (ad0 .i64 ((B:Int)+(b:Int))=(B:Int)+(b:Int)/\ad0 .i64 ((B:Int)+(b:Int)+(u:Int))=(B:Int)+(b:Int)+(u:Int)/\(¬(63:Int)<(B:Int)+(b:Int)+(u:Int))/\ad0 .i64 ((b:Int)+(u:Int))=(s:Int)/\ad0 .u64 (k:Int)=(k:Int)):=ax ⟨d.o.2.1,d.o.2.2.1,d.o.2.2.2.2.1,d.o.1,d.o.2.2.2.1⟩;have T:Hid (ad0 .i64 ((r:Int)+(H:Int))=(k:Int)/\ad0 .i64 (b:Int)=(b:Int)/\ad0 .i64 ((b:Int)+1)=(b:Int)+1/\(b:Int)+1 - 1=(b:Int)):=ax ⟨ah,ah,ah,aa⟩;clear c d j L M P;go_in;go_upto_region 3 with fail;refine jh (af3 w) (hQ 0 2 (hQ 5 2 (hQ 9 1 (ik 2 (hQ 3 2 (ik 7 (hQ 8 1 (ik 10 (hQ 11 3 []))))))))) ((aC _ _).drew) ?_;iterate 5 refine ib (h:=λf x=>by have J:=O;have G:=N;obtain⟨t,p,P,M⟩:=T.o;exact af8) ?_
  refine iz λK y=>?_;go_simp;refine Ix (V.o w.drew (aC _ _).drew) ?_;refine y _ _ ((aC _ _).drew) ?_;iterate 2 refine ib (h:=λf x=>by have J:=O;have G:=N;obtain⟨t,p,P,M⟩:=T.o;exact af8) ?_
  refine iz λK y=>?_;go_simp;refine Ix (V.o w.drew (aC _ _).drew) ?_;refine y _ _ ((aC _ _).drew) ?_;refine ib (h:=λf x=>by have J:=O;have G:=N;obtain⟨t,p,P,M⟩:=T.o;exact af8) ?_;refine iz λK y=>?_;go_simp;refine Ix (V.o w.drew (aC _ _).drew) ?_;refine y _ _ ((aC _ _).drew) ?_;iterate 3 refine ib (h:=λf x=>by have J:=O;have G:=N;obtain⟨t,p,P,M⟩:=T.o;exact af8) ?_
  refine g4 ?_;obtain⟨t,p,P,M⟩:=T.o;go_upto_region 6 with fail;refine jh (af3 w) (hQ 0 5 (hQ 6 1 (hQ 8 4 (ik 5 (hQ 7 1 (hQ 12 3 [])))))) ((aC _ _).drew.drew) ?_;iterate 10 refine ib (h:=λf x=>by have Y:=U.o _ x;obtain⟨t,p,S,R,Q⟩:=a.o;exact af8) ?_
  refine iz λK y=>?_;go_simp;refine Ix (F.o w.drew.drew) ?_;refine y _ _ ((aC _ _).drew.drew) ?_;iterate 4 refine ib (h:=λf x=>by have Y:=U.o _ x;obtain⟨t,p,S,R,Q⟩:=a.o;exact af8) ?_
  refine g4 ?_;obtain⟨t,p,S,R,Q⟩:=a.o;have Y:=U.o w.drew.drew (aC _ _).drew.drew;go_wp2;go_ret2;refine⟨?_,(aC _ _).drew.drew⟩;show Ending.returned (.tuple #[af6 (wrap64 ((k:Int) * (2:Int) ^ _)),af6 0])=_
  rw[E.o];simp
def Ha(n:Nat)(h:ml w g lo hi dg u m)(s:1<=m)(r:m<=18)(c:1<=n)(b:n<=64):af4 af5 335 #[aq g,af6 n] w λe x=>e=.returned (af6 (((n+1) * 2 ^ (m - 1):Nat):Int))/\w=x:=by
 have v:=ax (uW h s r);have t:2 ^ (m - 1)<=131072:=(lY aa :2 ^ (m - 1)<=2 ^ 17);generalize 2 ^ (m - 1)=H at *;have⟨z,y⟩:=ar ((n+1) * H);have d:z<=65 * 131072:=by rw[<-y];exact cL aa t
 have f:((n:Int)+1) * (H:Int)=(z:Int):=by rw[<-y];simp
 rw[y];have q:max (n:Int) 1=(n:Int):=aa;have p:min (n:Int) 64=(n:Int):=aa;clear h y;go_in;go_wp21;refine Ix v.o ?_;go_wp2;go_ret;exact⟨rfl,rfl⟩
def qg(h:ml w g lo hi dg u m):af4 af5 192 #[aq g] w (au w (.agg #[af6 lo,af6 hi,af6 dg])):=by
 have⟨b,x⟩:=ar (w.heap.size);have⟨v,s⟩:=ar (w.alloc (.cells #[af6 0,af6 0,af6 0] 31));have t:=ao s;have z:=(an s x).o;have y:=g7.K h t;have d:=g7.C y 0;have c:=g7.C y 1;have a:=g7.C y 2;have V:=z.F 0;have U:=z.F 1;have T:=z.F 2;have r:=z.k0;have q:=z.k1;have f:=z.k2;simp only[az,ay,aA] at d c a;have X:=ax (aB t (aB z x));clear h y z t;go_in;go_upto_region 1 with fail;clear s x;go_wp21;have z:=(((X.o.2.1.hJ 0 (af6 lo)).hJ 1 (af6 hi)).hJ 2 (af6 dg)).C 0;have y:=(((X.o.2.1.hJ 0 (af6 lo)).hJ 1 (af6 hi)).hJ 2 (af6 dg)).C 1;have t:=(((X.o.2.1.hJ 0 (af6 lo)).hJ 1 (af6 hi)).hJ 2 (af6 dg)).C 2;simp only[bA,bS,bR,az,ay,aA] at z y t;refine ak ?_;have x:=X.o.2.2;exact⟨rfl,((X.o.1.setCell (p:=af7 b 0) (by show _<=b;omega) _).setCell (p:=af7 b 1) (by show _<=b;omega) _).setCell (p:=af7 b 2) (by show _<=b;omega) _⟩
end
