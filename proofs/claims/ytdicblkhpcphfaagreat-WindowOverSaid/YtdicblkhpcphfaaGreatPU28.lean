/- Parts. -/
import Derived.Test.YtdicblkhpcphfaaGreatPU27
set_option maxRecDepth 100000
set_option maxHeartbeats 0
set_option linter.all false
namespace Go.Proofs.YtdicblkhpcphfaaGreat
open Tryz Go.RowKit Go.Lib Go.Shelf
open _root_.List renaming length→ab0
open Go.IntKind renaming wrap→ad0
open _root_.Go renaming Calls→af4
open Tryz renaming prog→af5
section
variable{h2:Nat}{bs r1:List Int}{d:Int}
def oq(bs:List Int)(w:World)(e:Ending)(w':World):Prop:=
 match kk bs with
 | some x=>∃(g:Nat) (F:Nat->Prop),e=.returned (.tuple #[aq g,af6 0])/\vR w' g F x.d ⟨x.L,x.W,x.lo,x.hi⟩/\(∀k,F k->w.heap.size<=k)/\af3 w w'
 | none=>e=.returned (.tuple #[.pointer none,af6 9])/\af3 w w'
def vr(z y:Nat)(n:Int)(x w:World)(R:Ending->World->Prop)(u:Array Value)(S:u[2]?=some (aq z))(Q:u[3]?=some (aq y))
 (r q:Value) (p:w.cell? (af7 z 0)=some r) (g:w.cell? (af7 y 0)=some q) (d:w.frozen? (af7 z 0)=false) (c:w.frozen? (af7 y 0)=false) (X:z≠y) (P:x.heap.size<=z) (O:x.heap.size<=y) (t:af3 x w)
 (b:∀v,af3 x v->R (.returned (.tuple #[.pointer none,af6 9])) v) :
 Leaves prog Tryz.f271 u R [{target:=.fn (.func 345) #[aq z,aq y],args:=#[]}] (.panicking [{v:=.iface 439 (.agg #[af6 n]),recovered:=false}]) w:=by
 refine leaves_cons (f:=345) (args:=#[aq z,aq y]) ad (by simp[go_sem]) ?_;refine(catch_panicking z y r q n w p g d c X).M ?_;rintro e N s ⟨rfl,rfl,V,U,T⟩;have a:af3 x s:=t.T (T.below (λi Y=>by rcases Y with rfl|rfl<;>assumption) t.size);refine⟨.tuple #[.pointer none,af6 9],?_,b s a⟩;simp[results,Tryz.results271,go_sem,S,Q,V,U]
def sf(z y:Nat)(w:World)(R:Ending->World->Prop)(x:Array Value)(q:x[2]?=some (aq z))(p:x[3]?=some (aq y))
 (v u:Value) (t:w.cell? (af7 z 0)=some v) (s:w.cell? (af7 y 0)=some u) (r:R (.returned (.tuple #[v,u])) w) :
 Leaves prog Tryz.f271 x R [{target:=.fn (.func 345) #[aq z,aq y],args:=#[]}] .returning w:=by
 refine leaves_cons (f:=345) (args:=#[aq z,aq y]) ad (by simp[go_sem]) ?_;refine(catch_idle z y w).M ?_;rintro e g d ⟨rfl,rfl,rfl⟩;refine⟨.tuple #[v,u],?_,r⟩;simp[results,Tryz.results271,go_sem,q,p,t,s]
def nG(X:World)(a b:Value){x y:Value}(v:X.cell? (af7 h2 0)=some x)(u:X.cell? (af7 (h2+1) 0)=some y):((X.setCell (af7 h2 0) a).setCell (af7 (h2+1) 0) b).cell? (af7 h2 0)=some a/\((X.setCell (af7 h2 0) a).setCell (af7 (h2+1) 0) b).cell? (af7 (h2+1) 0)=some b:=by
 have z:((af7 h2 0):Addr)≠(af7 (h2+1) 0):=λh=>by injection h with h;omega
 exact⟨(bK _ _ _ _ z.Y).T (cY _ _ _ v),cY _ _ _ ((bK _ _ _ _ z).T u)⟩
def kT{w X:World}(z:af3 w X)(h:w.heap.size<=h2)(a b:Value):af3 w ((X.setCell (af7 h2 0) a).setCell (af7 (h2+1) 0) b):=
 (z.setCell (p:=af7 h2 0) h a).setCell (p:=af7 (h2+1) 0) (by show _<=h2+1;omega) b
def Ps(gr:Nat)(w0:World)(c:List PanicEntry)(w':World):Prop:=∃n:Int,c=[{v:=.iface 439 (.agg #[af6 n]),recovered:=false}]/\Touch (λk=>k=gr) w0 w'
def V8(h:hU bs=none):kk bs=none:=by unfold kk Qb;rw[h]
def V9(h:hU bs=some (d,r1))(z:hU r1=none):kk bs=none:=by unfold kk Qb;rw[h];simp only;rw[z]
def V_{r2:List Int}{l:Int}(h:hU bs=some (d,r1))(z:hU r1=some (l,r2))(y:hU r2=none):kk bs=none:=by unfold kk Qb;rw[h];simp only;rw[z];simp only;rw[y]
def Pt(v:Value)(bs:List Int)(w:World)(h:jC .u8 w v bs)(z:jE bs)(hlen:ab0 bs<=1000000000):af4 af5 271 #[v] w (oq bs w):=by
 have HR:=ax h;have U:=ax z;clear h z;have P:ab0 bs<=1000000000000:=aa;go_enter_defers func271,ntmps271
 go_wp21;obtain⟨w1,y⟩:∃w1,w1=(w.alloc (.cells #[.pointer none] 121)).alloc (.cells #[af6 0] 43):=⟨_,rfl⟩;have hb1:af3 w w1:=by rw[y];exact((aC _ _).alloc (aD _) _).alloc ad _
 have B2:Hid (g7 w1 w.heap.size 121 #[.pointer none]):=by show g7 _ _ _ _;rw[y];exact(g7.new _ _ _).alloc _
 have B3:Hid (g7 w1 (w.heap.size+1) 43 #[af6 0]):=by
  show g7 _ _ _ _;rw[y];have h:=g7.new (w.alloc (.cells #[.pointer none] 121)) 43 #[af6 0]
  rwa [aI] at h
 have⟨z,x⟩:=ar (w.heap.size);rw[<-y];rw[x] at B2 B3 |-;have l3':=B3.o.lt;have e2:w.heap.size<=z:=aa
 clear y x;refine WE (q_ v bs w1 (Rd.K HR.o hb1) P) ?_;rintro u w2 ⟨hgr,M,hb2⟩;have R2:=ax M;have hz2:=hb2.size;have Th:=M.lt;clear M;go_wp21;obtain⟨f,x⟩:∃f,f=w2.alloc (.cells #[aq u] 441):=⟨_,rfl⟩;have hb3:af3 w2 f:=by rw[x];exact(aC _ _).alloc (aD _) _
 have B4:Hid (g7 f w2.heap.size 441 #[aq u]):=by show g7 _ _ _ _;rw[x];exact g7.new _ _ _
 rw[<-x];have⟨h4,t⟩:=ar (w2.heap.size);have R3:=ax (R2.o.K hb3);rw[t] at B4 Th |-;have n4:¬(h4=u):=aa
 have l3:=B4.o.lt;have D2:=ax ((B2.o.K hb2).K hb3);have D3:=ax ((B3.o.K hb2).K hb3);have n2:¬(z=u):=aa;have n3:¬(z+1=u):=aa;have m2:=D2.o.lt;have m3:=D3.o.lt;have c4:=B4.o.k0;have C4:=ax c4;have zJ:af3 w f:=(hb1.T (hb2.M hb1.size)).T (hb3.M aa);have X_:w.heap.size<=u:=aa;have y:∀i,(λk=>k=u) i->w.heap.size<=i:=λi I=>by simp only at I;omega
 have WM:=ax y;clear x t c4 y;have DG:Hid (∀(n:Int) (X:Array Value) (r:World),X[2]?=some (aq z)->X[3]?=some (.pointer (some (af7 (z+1) 0)))->Touch (λk=>k=u) f r->kk bs=none ->
  Leaves prog Tryz.f271 X (oq bs w) [{target:=.fn (.func 345) #[aq z,.pointer (some (af7 (z+1) 0))],args:=#[]}] (.panicking [{v:=.iface 439 (.agg #[af6 n]),recovered:=false}]) r):=ax (λn X r t2 t3 N O=>by
  have E2:g7 r z 121 #[.pointer none]:=(N.block z m2 n2).T D2.o;have E3:g7 r (z+1) 43 #[af6 0]:=(N.block (z+1) m3 n3).T D3.o;refine vr z (z+1) n w r _ X t2 t3 _ _ (E2.C 0) (E3.C 0) (E2.F 0) (E3.F 0) aa e2 aa (zJ.T (N.below WM.o zJ.size)) (λy y=>?_);unfold oq;rw[O];exact⟨rfl,y⟩)
 cases hA:hU (bs.drop 0) with
 | none=>
  have HA:=ax hA;have Y:=ax (V8 (by simpa using hA));clear hA;refine nc [2,3] (Ps u f) (Touch (λk=>k=u) f) [(0,true),(2,true),(5,true),(1,false),(3,false),(4,true),(6,false),(7,true),(8,true),(9,true),(10,true)] (by kernel_rfl) (by kernel_rfl) (λc q r d D x=>(by obtain⟨n,rfl,qt⟩:=x;refine(show Leaves prog Tryz.f271 q.tmps (oq bs w) q.defers _ r from ?_);rw[D];exact DG.o n q.tmps r (d 2 ad) (d 3 ad) qt Y.o)) ((Touch.refl _ _).drew) ?_
  iterate 3
   refine mT aj  aj (λR p=>?_);apply bp
   refine⟨λr a=>?_,?_⟩
   .have S:=(a.C (o:=0) l3 n4).T C4.o
    exact af8
   go_simp;refine p _ ?_;clear p R
  refine mz aj  aj (λK b=>?_);go_simp;refine(lP u bs 0 _ (hT.K R3.o ((aC _ _).drew)) U.o P).M ?_;intro e wA y;unfold iW at y;simp only[HA.o] at y;obtain⟨⟨n,rfl⟩,s⟩:=y;exact⟨λt N=>(by simp only[aS,cx,or_false] at N;rcases N with rfl|rfl<;>rfl),rfl,n,rfl,((Touch.refl (λk=>k=u) f).drew).T s (λi I=>.inl I)⟩
 | some pA=>
  obtain⟨V,r1⟩:=pA;have HA:=ax hA;have E1:=ax (i7 hA);have zb1:=jm (U.o.drop 0) hA;simp only at zb1;have⟨a1,g⟩:=ar (ab0 bs - ab0 r1);rw[g] at E1;have HA1:=ax g;clear hA g;cases Uh:hU (bs.drop a1) with
  | none=>
   have Jb:=ax Uh;have Y:=ax (V9 (by simpa using HA.o) (by rw[<-E1.o];exact Uh));clear Uh;refine nc [2,3] (Ps u f) (Touch (λk=>k=u) f) [(0,true),(2,true),(5,true),(1,false),(3,false),(4,true),(6,false),(7,true),(8,true),(9,true),(10,true)] (by kernel_rfl) (by kernel_rfl) (λc q r d D x=>(by obtain⟨n,rfl,qt⟩:=x;refine(show Leaves prog Tryz.f271 q.tmps (oq bs w) q.defers _ r from ?_);rw[D];exact DG.o n q.tmps r (d 2 ad) (d 3 ad) qt Y.o)) ((Touch.refl _ _).drew) ?_
   iterate 3
    refine mT aj  aj (λR p=>?_);apply bp
    refine⟨λr a=>?_,?_⟩
    .have S:=(a.C (o:=0) l3 n4).T C4.o
     exact af8
    go_simp;refine p _ ?_;clear p R
   refine mz aj  aj (λK b=>?_);go_simp;refine(lP u bs 0 _ (hT.K R3.o ((aC _ _).drew)) U.o P).M ?_;intro e wA y;unfold iW at y;simp only[HA.o] at y;obtain⟨v,rfl,rfl,x,s⟩:=y;have W:Hid (Touch (λk=>k=u) f wA):=ax (((Touch.refl (λk=>k=u) f).drew).T s (λi I=>.inl I));rw[HA1.o] at x;have RA:=ax x;clear x s;refine b _ _ (W.o) ?_;refine mz aj  aj (λK b=>?_);go_simp;refine(nV u bs a1 _ RA.o U.o P).M ?_;intro e wB y;unfold iW at y;simp only[Jb.o] at y;obtain⟨⟨n,rfl⟩,s⟩:=y;exact⟨λt N=>(by simp only[aS,cx,or_false] at N;rcases N with rfl|rfl<;>rfl),rfl,n,rfl,tt W.o s⟩
  | some pB=>
   obtain⟨Q,M⟩:=pB;have Jb:=ax Uh;have E2:=ax (i7 Uh);have Zt:=jm (U.o.drop a1) Uh;simp only at Zt;have ul:=uM Zt.1 Zt.2;have WL:=ax (oG ul.1 ul.2);have⟨a2,g⟩:=ar (ab0 bs - ab0 M);rw[g] at E2;have HA2:=ax g;clear Uh g;cases hC:hU (bs.drop a2) with
   | none=>
    have HC:=ax hC;have Y:=ax (V_ (by simpa using HA.o) (by rw[<-E1.o];exact Jb.o) (by rw[<-E2.o];exact hC));clear hC;refine nc [2,3] (Ps u f) (Touch (λk=>k=u) f) [(0,true),(2,true),(5,true),(1,false),(3,false),(4,true),(6,false),(7,true),(8,true),(9,true),(10,true)] (by kernel_rfl) (by kernel_rfl) (λc q r d D x=>(by obtain⟨n,rfl,qt⟩:=x;refine(show Leaves prog Tryz.f271 q.tmps (oq bs w) q.defers _ r from ?_);rw[D];exact DG.o n q.tmps r (d 2 ad) (d 3 ad) qt Y.o)) ((Touch.refl _ _).drew) ?_
    iterate 3
     refine mT aj  aj (λR p=>?_);apply bp
     refine⟨λr a=>?_,?_⟩
     .have S:=(a.C (o:=0) l3 n4).T C4.o
      exact af8
     go_simp;refine p _ ?_;clear p R
    refine mz aj  aj (λK b=>?_);go_simp;refine(lP u bs 0 _ (hT.K R3.o ((aC _ _).drew)) U.o P).M ?_;intro e wA y;unfold iW at y;simp only[HA.o] at y;obtain⟨v,rfl,rfl,x,s⟩:=y;have W:Hid (Touch (λk=>k=u) f wA):=ax (((Touch.refl (λk=>k=u) f).drew).T s (λi I=>.inl I));rw[HA1.o] at x;have RA:=ax x;clear x s;refine b _ _ (W.o) ?_;refine mz aj  aj (λK b=>?_);go_simp;refine(nV u bs a1 _ RA.o U.o P).M ?_;intro e wB y;unfold iW at y;simp only[Jb.o] at y;obtain⟨v,rfl,rfl,x,s⟩:=y;have TB:Hid (Touch (λk=>k=u) f wB):=ax (tt W.o s);rw[HA2.o] at x;have Zu:=ax x;clear x s;refine b _ _ (TB.o) ?_
    iterate 1
     refine mT aj  aj (λR p=>?_);apply bp
     refine⟨λr a=>?_,?_⟩
     .have S:=(a.C (o:=0) l3 n4).T C4.o
      exact af8
     go_simp;refine p _ ?_;clear p R
    refine mz aj  aj (λK b=>?_);go_simp;refine(nV u bs a2 _ Zu.o U.o P).M ?_;intro e wC y;unfold iW at y;simp only[HC.o] at y;obtain⟨⟨n,rfl⟩,s⟩:=y;exact⟨λt N=>(by simp only[aS,cx,or_false] at N;rcases N with rfl|rfl<;>rfl),rfl,n,rfl,tt TB.o s⟩
   | some pC=>
    obtain⟨R,r3⟩:=pC;have HC:=ax hC;have E3:=ax (i7 hC);have Zv:=jm (U.o.drop a2) hC;simp only at Zv;have uh:=uM Zv.1 Zv.2;have WH:=ax (oG uh.1 uh.2);have⟨a3,t⟩:=ar (ab0 bs - ab0 r3);rw[t] at E3;have WW:=ax t;clear hC t;have X1:=ax (by simpa using HA.o:hU bs=some (V,r1));have X2:=ax (by rw[<-E1.o];exact Jb.o:hU r1=some (Q,M));have X3:=ax (by rw[<-E2.o];exact HC.o:hU M=some (R,r3));have eg1:∀T w,(callFunc 347 T).run prog w=.ok (.enter 347 T) w:=λ_ _=>rfl;have eg2:∀T w,(callFunc 348 T).run prog w=.ok (.enter 348 T) w:=λ_ _=>rfl;have Z:=ax (λ(r:World) (a:(Touch (λk=>k=u) f) r)=>(aB ((a.C (o:=0) l3 n4).T C4.o) (aB (WL.o) (WH.o))));refine jh (Touch (λk=>k=u) f) (hQ 0 1 (hQ 2 1 (hQ 5 1 (ik 1 (ik 3 (hQ 4 1 (ik 6 (hQ 7 4 [])))))))) ((Touch.refl _ _).drew) ?_;iterate 3 refine ib ?_
    refine iz λK b=>?_;go_simp;refine(lP u bs 0 _ (hT.K R3.o ((aC _ _).drew)) U.o P).M ?_;intro e wA y;unfold iW at y;simp only[HA.o] at y;obtain⟨v,rfl,rfl,x,s⟩:=y;have W:Hid (Touch (λk=>k=u) f wA):=ax (((Touch.refl (λk=>k=u) f).drew).T s (λi I=>.inl I));rw[HA1.o] at x;have RA:=ax x;clear x s;refine b _ _ (W.o) ?_;refine iz λK b=>?_;go_simp;refine(nV u bs a1 _ RA.o U.o P).M ?_;intro e wB y;unfold iW at y;simp only[Jb.o] at y;obtain⟨v,rfl,rfl,x,s⟩:=y;have TB:Hid (Touch (λk=>k=u) f wB):=ax (tt W.o s);rw[HA2.o] at x;have Zu:=ax x;clear x s;refine b _ _ (TB.o) ?_;refine ib ?_;refine iz λK b=>?_;go_simp;refine(nV u bs a2 _ Zu.o U.o P).M ?_;intro e wC y;unfold iW at y;simp only[HC.o] at y;obtain⟨v,rfl,rfl,x,s⟩:=y;have TC:Hid (Touch (λk=>k=u) f wC):=ax (tt TB.o s);rw[WW.o] at x;have RC:=ax x;clear x s;refine b _ _ (TC.o) ?_;iterate 4 refine ib ?_
    refine g4 ?_;have c4:=(TC.o.C (o:=0) l3 n4).T C4.o;go_wp21
    go_quiet (fail)
    clear c4;go_wp21;refine(Gt u bs a3 _ (hT.drewN RC.o nq) U.o P).M ?_;intro e wD y;unfold iW at y;cases hD:kM (bs.drop a3) with
    | none=>
     simp only[hD] at y;have Y:Hid (kk bs=none):=ax (Qd X1.o X2.o X3.o (by rw[<-E3.o];exact hD));obtain⟨⟨n,rfl⟩,s⟩:=y;have TD:Hid (Touch (λk=>k=u) f wD):=ax (tt (TC.o.drewN nq) s);clear hD s;go_wp21;exact DG.o n _ wD rfl rfl TD.o Y.o
    | some pD=>
     obtain⟨c,r4⟩:=pD;simp only[hD] at y;obtain⟨vL,rfl,g,x,s⟩:=y;have TD:Hid (Touch (λk=>k=u) f wD):=ax (tt (TC.o.drewN nq) s);obtain⟨j4,p⟩:=Gf hD;have E4:Hid (bs.drop (ab0 bs - ab0 r4)=r4):=ax (Xu (bs:=bs) (m:=a3+j4) (by rw[<-cQ];exact p));obtain⟨t,s5,_⟩:=Gd (U.o.drop a3) hD;simp only at t s5 E4;have RL:=ax t;have X4:=ax (by rw[<-E3.o];exact hD:kM r3=some (c,r4));have⟨a4,q⟩:=ar (ab0 bs - ab0 r4);rw[q] at E4 x;have RD:=ax x;have OLo:=ax g;have hzC:=TC.o.size;clear hD p t g x s q;go_wp21;refine(Dj u bs a4 wD RD.o U.o P).M ?_;intro e S y;unfold iW at y;cases hW:lu (bs.drop a4) with
     | none=>
      simp only[hW] at y;have Y:Hid (kk bs=none):=ax (Qe X1.o X2.o X3.o X4.o (by rw[<-E4.o];exact hW));obtain⟨⟨n,rfl⟩,s⟩:=y;have TE:Hid (Touch (λk=>k=u) f S):=ax (tt TD.o s);clear hW s;go_wp21;exact DG.o n _ S rfl rfl TE.o Y.o
     | some pE=>
      obtain⟨a,r5⟩:=pE;simp only[hW] at y;obtain⟨vW,rfl,p,x,s⟩:=y;have TE:Hid (Touch (λk=>k=u) f S):=ax (tt TD.o s);obtain⟨j5,q⟩:=Gg hW;have g:ab0 r5<=ab0 bs:=by simp only at q;rw[q];simp only[aW];omega
      obtain⟨t,Zw,_⟩:=Ge (U.o.drop a4) hW;simp only at t Zw;have RW:=ax t;have V':Hid (kk bs=rM bs ⟨V,lH Q,lH R,c,a⟩ r5):=ax (MS X1.o X2.o X3.o X4.o (by rw[<-E4.o];exact hW));have OLE:=ax ((OLo.o.away s (by have:=TC.o.size;simp only[ir] at *;omega)).rd);have OWE:=ax p.rd;have RE:=ax x;have c4:=(TE.o.C (o:=0) l3 n4).T C4.o;have A:=ax (mA u bs (ab0 bs - ab0 r5) S x P);have EL:=ax (show((ab0 bs:Int) - ((ab0 bs - ab0 r5:Nat):Int))=(ab0 r5:Int) by omega)
      rw[EL.o] at A;clear hW q t p x s g;have WY:Hid (af3 w S):=ax (zJ.T (TE.o.below WM.o zJ.size));have WZ:Hid (g7 S z 121 #[.pointer none]):=ax ((TE.o.block z m2 n2).T D2.o);have W0:Hid (g7 S (z+1) 43 #[af6 0]):=ax ((TE.o.block (z+1) m3 n3).T D3.o);have hzE:=WY.o.size;have B:=WZ.o.k0;have C:=W0.o.k0;have f2:=WZ.o.F 0;have f3:=W0.o.F 0;have NO:Hid (∀(r:World) (X:Array Value),X[2]?=some (aq z)->X[3]?=some (.pointer (some (af7 (z+1) 0)))->r.cell? (af7 z 0)=some (.pointer none)->r.cell? (af7 (z+1) 0)=some (af6 9)->af3 w r->kk bs=none ->
       Leaves prog Tryz.f271 X (oq bs w) [{target:=.fn (.func 345) #[aq z,.pointer (some (af7 (z+1) 0))],args:=#[]}] .returning r):=ax (λr X t2 t3 k2 k3 t O=>by
       refine sf z (z+1) r _ X t2 t3 _ _ k2 k3 ?_;unfold oq;rw[O];exact⟨rfl,t⟩)
      cases r5 with
      | cons b0 r6=>
       have Y:Hid (kk bs=none):=ax V'.o;have⟨p,t⟩:=ar (ab0 (b0::r6));have g:decide (0<p)=true:=bN (by rw[<-t];simp);rw[t] at A;clear t;go_wp2_with (go_at_call 343;refine RX A.o ?_;rintro r ⟨q,rfl⟩);have d:=nG (S.drewN q) (.pointer none) (af6 9) B C;exact NO.o _ _ rfl rfl d.1 d.2 (kT (below_drewN WY.o q) e2 _ _) Y.o
      | nil=>
       simp only[aY] at A;have t:((0:Nat):Int)=0:=rfl;rw[t] at A;clear t;by_cases hd:V<=1000
       .have dd:decide ((1000:Int)<V)=false:=bq aa
        have t:oY (c++a):=λm hm=>(cz.1 hm).elim (RL.o m) (RW.o m);have Pq:=ax t;have OLQ:=λq=>ax (Rd.drewN OLE.o q);have OWQ:=λq=>ax (Rd.drewN OWE.o q);clear t;go_wp2_with (go_at_call 343;refine RX A.o ?_;rintro r ⟨q,rfl⟩);rw[WL.o,WH.o];have hbq:af3 w (S.drewN q):=below_drewN WY.o q;refine(zd V (lH Q) (lH R) vL vW c a _ (OLQ q).o (OWQ q).o Pq.o aa).M ?_;intro e X hP;have W7:z<(S.drewN q).heap.size:=by rw[ir];have:=WZ.o.lt;exact this
        have W9:z+1<(S.drewN q).heap.size:=by rw[ir];have:=W0.o.lt;exact this
        rcases hP with⟨l,g,F,rfl,hDg,hFg,T⟩|⟨l,rfl,T⟩
        .have x2:=(T.C (p:=af7 z 0) W7).T B
         have x3:=(T.C (p:=af7 (z+1) 0) W9).T C;have y2:=(T.F (p:=af7 z 0) W7).T f2;have y3:=(T.F (p:=af7 (z+1) 0) W9).T f3;have Km:af3 w X:=hbq.T (T.M hbq.size);obtain⟨E,G,J,L⟩:=MC l Pq.o ul.1 ul.2 uh.1 uh.2;have FT:Hid (Fit V ⟨c,a,lH Q,lH R⟩ (ab0 c+ab0 a)):=ax ⟨E,aa,G,J,L⟩;have Wa:=ax hFg;have O:∀i,i=z\/i=z+1->¬F i:=λi I H=>by have:=hFg i H;omega
         have d:=nG X (aq g) (af6 0) x2 x3;have Qk:=kT Km e2 (aq g) (af6 0);have t:Touch (λk=>k=z\/k=z+1) X ((X.setCell (af7 z 0) (aq g)).setCell (af7 (z+1) 0) (af6 0)):=((Touch.refl _ X).setCell (p:=af7 z 0) (.inl (.inl rfl)) _).setCell (p:=af7 (z+1) 0) (.inl (.inr rfl)) _;have DG6:Hid (vR ((X.setCell (af7 z 0) (aq g)).setCell (af7 (z+1) 0) (af6 0)) g F V ⟨c,a,lH Q,lH R⟩):=ax (vR.far hDg t (λk hk H=>O k H hk));have fz2:((X.setCell (af7 z 0) (aq g)).setCell (af7 (z+1) 0) (af6 0)).frozen? (af7 z 0)=false:=by simp only[gK];exact y2
         have fz3:((X.setCell (af7 z 0) (aq g)).setCell (af7 (z+1) 0) (af6 0)).frozen? (af7 (z+1) 0)=false:=by simp only[gK];exact y3
         have HRI:=ax l;obtain⟨t2,t3⟩:=d;clear E G J L hFg O t hDg l B C f2 f3;go_wp21;generalize (X.setCell (af7 z 0) (aq g)).setCell (af7 (z+1) 0) (af6 0)=w6 at *;have l26:=bH _ _ t2;have l36:=bH _ _ t3;refine WE (yk g F V ⟨c,a,lH Q,lH R⟩ (ab0 c+ab0 a) w6 DG6.o FT.o) ?_;rintro v7 w7 ⟨t,J⟩;have O7:=ax t;have DG7:Hid (vR w7 g F V ⟨c,a,lH Q,lH R⟩):=ax (Dg.K DG6.o J);have j:=Qk.T (J.M Qk.size);have M:=(J.C (p:=af7 z 0) l26).T t2;have r3':=(J.C (p:=af7 (z+1) 0) l36).T t3;have s2:=(J.F (p:=af7 z 0) l26).T fz2;have s3:=(J.F (p:=af7 (z+1) 0) l36).T fz3;have hwl:ab0 (z_ V c a (lH Q) (lH R))<=1000000000000:=by
          unfold z_ zg;have k1:=hM V;have k2:=hM (oF (lH Q));have k3:=hM (oF (lH R));have E:=hM (ab0 c:Int);have G:=hM (ab0 a:Int);have L:=p7 none c;have O:=tw a;simp only[aE];omega
         have EQ:=ax (lJ v7 v (z_ V c a (lH Q) (lH R)) bs w7 (hO.rd O7.o) (Rd.K HR.o j) hwl P);clear t t2 t3 fz2 fz3 x2 x3 y2 y3;by_cases L:z_ V c a (lH Q) (lH R)=bs
         .rw[bN L] at EQ
          have Wb:=ax (by rw[V'.o];unfold rM;rw[aH ⟨hd,HRI.o,L⟩]:kk bs=some ⟨V,lH Q,lH R,c,a⟩);clear L;go_wp2_with (go_at_call 170;refine RX EQ.o ?_;intro O t;have E:=bH _ _ M;have G:=bH _ _ r3';have D:=(t.C (p:=af7 z 0) E).T M;have x:=(t.C (p:=af7 (z+1) 0) G).T r3';have p2:=(t.F (p:=af7 z 0) E).T s2;have p3:=(t.F (p:=af7 (z+1) 0) G).T s3;have DG8:Hid (vR O g F V ⟨c,a,lH Q,lH R⟩):=ax (Dg.K DG7.o t);have M_:=j.T (t.M j.size));have d:=nG O (aq g) (af6 0) D x;refine(show Leaves prog Tryz.f271 _ (oq bs w) _ .returning _ from ?_);refine sf z (z+1) _ _ _ rfl rfl _ _ d.1 d.2 ?_;unfold oq;rw[Wb.o];have T8:Touch (λk=>k=z\/k=z+1) O ((O.setCell (af7 z 0) (aq g)).setCell (af7 (z+1) 0) (af6 0)):=((Touch.refl _ O).setCell (p:=af7 z 0) (.inl (.inl rfl)) _).setCell (p:=af7 (z+1) 0) (.inl (.inr rfl)) _;have hF8:∀k,F k->w.heap.size<=k:=λk hk=>by have:=Wa.o k hk;rw[ir] at this;omega
          exact⟨g,F,rfl,vR.far DG8.o T8 (λk hk H=>by have:=Wa.o k hk;rw[ir] at this;have a1:=WZ.o.lt;have a2:=W0.o.lt;rcases H with H|H<;>omega),hF8,kT M_ e2 _ _⟩
         .rw[bq L] at EQ
          have Y:=ax (by rw[V'.o];unfold rM;rw[aF (λh=>L h.2.2)]:kk bs=none);clear L;go_wp2_with (go_at_call 170;refine RX EQ.o ?_;intro O t;have E:=bH _ _ M;have G:=bH _ _ r3';have D:=(t.C (p:=af7 z 0) E).T M;have x:=(t.C (p:=af7 (z+1) 0) G).T r3';have p2:=(t.F (p:=af7 z 0) E).T s2;have p3:=(t.F (p:=af7 (z+1) 0) G).T s3;have M_:=j.T (t.M j.size));have d:=nG O (.pointer none) (af6 9) D x;exact NO.o _ _ rfl rfl d.1 d.2 (kT M_ e2 _ _) Y.o
        .have x2:=(T.C (p:=af7 z 0) W7).T B
         have x3:=(T.C (p:=af7 (z+1) 0) W9).T C;have y2:=(T.F (p:=af7 z 0) W7).T f2;have y3:=(T.F (p:=af7 (z+1) 0) W9).T f3;have Km:af3 w X:=hbq.T (T.M hbq.size);have Y:=ax (by rw[V'.o];unfold rM;rw[aF (λh=>by rw[l] at h;cases h.2.1)]:kk bs=none);have d:=nG X (.pointer none) (af6 1) x2 x3;have L:=nG ((X.setCell (af7 z 0) (.pointer none)).setCell (af7 (z+1) 0) (af6 1)) (.pointer none) (af6 9) d.1 d.2;have O:=kT (kT Km e2 (.pointer none) (af6 1)) e2 (.pointer none) (af6 9);have t:=ax L;have J:=ax O;clear d L O l B C f2 f3;go_wp21;exact NO.o _ _ rfl rfl t.o.1 t.o.2 J.o Y.o
       .have Y:=ax (by rw[V'.o];unfold rM;rw[aF (λh=>hd h.1)]:kk bs=none)
        have dd:decide ((1000:Int)<V)=true:=bN aa;go_wp2_with (go_at_call 343;refine RX A.o ?_;rintro r ⟨q,rfl⟩);have d:=nG (S.drewN q) (.pointer none) (af6 9) B C;exact NO.o _ _ rfl rfl d.1 d.2 (kT (below_drewN WY.o q) e2 _ _) Y.o
end
section
variable{d:Int}{s:St}{k:Nat}
def rC{w:World}{v:Value}{l:List Int}(h:jC .u8 w v l):(convert 37 9 v).run prog w=.ok (.string (strOfNums l)) w:=by
 obtain⟨A,c,rfl,_,_,f⟩:=h.form;cases A with
 | none=>
  have z:l=[]:=by
   rcases bo (ab0 l) with z|z
   .exact aV z
   .obtain⟨g,x,e,_⟩:=f z;cases e
  subst z;exact run_convert_bytes_nil w 37 5 underlying37 underlying5 _ _ _ underlying9
 | some a=>
  rcases bo (ab0 l) with z|z
  .have u:l=[]:=aV z
   subst u;obtain⟨b,x,t⟩:=a;cases t with
   | none=>exact run_convert_bytes_arg w 37 5 underlying37 underlying5 b x 0 c [] rfl (λi y=>absurd y aa) _ underlying9
   | some s=>rw[run_convert_bytes_string w 37 9 5 _ _ _ underlying37 underlying5 underlying9,run_bytesToString w _ _ c [] (by simp[loadCells,loadCellsFrom])];rfl
  .obtain⟨g,x,u,_,t⟩:=f z
   cases u
   exact run_convert_bytes_arg w 37 5 underlying37 underlying5 g x (ab0 l) c l rfl (λi y=>by
    rw[t i y];simp[List.getD,aL y]) _ underlying9
def lf.raw{l:List Mn}(h:lf l)(s:tot l<=18446744073709551615):oY l:=λm x=>by
 obtain⟨j,y,rfl⟩:=dt x;have z:=h _ (aP y);have v:=h.Bi y;have u:=(h.tq j).1;have t:=z.2.2;exact⟨z.1,z.2.1,aa,aa⟩
def RH(y:Fit d s k):jE (z_ d s.L s.W s.lo s.hi):=by
 have v:=lf.raw y.ok.ok (aa2 y.t);have sl:=j9 y.ok.Kc y.ok.lo1;have f:=j9 y.ok.hi0 y.ok.hi1;have S:=y.ok.len;have T:=y.k1;have X:=y.d0;have V:=y.d1;have c:∀(p:Option Int) (l:List Mn),oY l->(∀q,p=some q->-9223372036854775808<=q/\∀m∈l,q<=m.1)->jF l->jE (qI p l):=by
  intro p l
  induction l generalizing p with
  | nil=>intro _ _ _ b t;simp[qI] at t
  | cons m l ih=>
   intro v a Y;have z:=v m (aJ ..);have g:=aR.1 Y;simp only[qI];refine jE.append ?_ (jE.append (jl z.2.2.1 aa) (ih (some m.1) (λx u=>v x (aQ _ u)) (λq r=>by cases r;exact⟨z.1,λx u=>g.1 x u⟩) g.2));unfold wJ;cases p with
   | none=>exact jl (j9 z.1 z.2.1).1 (j9 z.1 z.2.1).2
   | some q=>have:=a q rfl;have U:=this.2 m (aJ ..);exact jl aa  aa
 have g:∀(l:List Mn),oY l->jE (sH l):=by
  intro l
  induction l with
  | nil=>intro _ b t;simp[sH] at t
  | cons m l ih=>
   intro v;have z:=v m (aJ ..);simp only[sH];exact jE.append (jl (j9 z.1 z.2.1).1 (j9 z.1 z.2.1).2) (jE.append (jl z.2.2.1 aa) (ih (λx u=>v x (aQ _ u))))
 unfold z_;refine jE.append (jl aa  aa) (jE.append (jl sl.1 sl.2) (jE.append (jl f.1 f.2) (jE.append (jl aa  aa) (jE.append ?_ (jE.append (jl aa  aa) ?_)))))
 .exact c none _ (λm z=>v m (dJ _ z)) (λq r=>by cases r) y.ok.rise
 .exact g _ (λm z=>v m (dG _ z))
def RI(z:Fit d s k)(t:k<=65536):kk (z_ d s.L s.W s.lo s.hi)=some ⟨d,s.lo,s.hi,s.L,s.W⟩:=by
 have x:=lf.raw z.ok.ok (aa2 z.t);have v:=z.d0;have u:=z.d1;have r:=z.ok.len;rw[Ke aa  aa z.ok.Kc z.ok.lo1 z.ok.hi0 z.ok.hi1 (λm y=>x m (dJ _ y)) z.ok.rise (λm y=>x m (dG _ y)) aa  aa,aH (MD z.ok z.t z.d0 z.d1)]
def JN{L W:List Mn}{lo hi:Int}(h:ab0 L+ab0 W<=1000000):ab0 (z_ d L W lo hi)<=1000000000:=by
 unfold z_ zg;have z:=hM d;have y:=hM (oF lo);have x:=hM (oF hi);have v:=hM (ab0 L:Int);have u:=hM (ab0 W:Int);have t:=p7 none L;have s:=tw W;simp only[aE];omega
def Ui(v:Value)(w:World)(h:jC .u8 w v (z_ d s.L s.W s.lo s.hi))(z:Fit d s k)(u:k<=65536):af4 af5 271 #[v] w λe x=>∃(g:Nat) (F:Nat->Prop),e=.returned (.tuple #[aq g,af6 0])/\vR x g F d s/\(∀k,F k->w.heap.size<=k)/\af3 w x:=by
 have t:=z.ok.len;refine(Pt v _ w h (RH z) (JN aa)).M ?_;intro e x y;unfold oq at y;rw[RI z u] at y;exact y
end
namespace D
def s_{P C:Ft->World->Prop}(S:kK P){F H:Ft}{er:Int}{w w1 w':World}{e:Ending}(y:af3 w w1)(x:∀k,F k->k<w.heap.size)(z:jx P C F H er w1 e w'):jx P C F H er w e w':=
 ⟨z.1,S.more z.2.1 (λ_ h=>h.imp id λh=>⟨bf y.size h.1,h.2⟩) (jt x (bf y.size z.2.2.2.size)),z.2.2.1,BF y z.2.2.2⟩
section
variable {sp : ie} {c t : Js} {x y a : Nat} {F Fy H : Ft} {cq : Value} {B : List Int}
def Pu{ac m:Nat}(v n:Int)(w:World)(h:jq (.d ac m) c x F w)(ok:im (.d ac m) c)(V:iT cq B a H w)(r:∀k,H k->¬F k)(R:-9223372036854775808<=v)(P:v<=9223372036854775807)(T:0<=n)(S:n<18446744073709551616):af4 af5 64 #[aq x,af6 v,.int .u64 n,cq] w (jx (jq (.d ac m) (ki (.d ac m) B v n c a).1 x) (iT cq B (ki (.d ac m) B v n c a).2) F H (mH (.d ac m) c v n) w):=by
 obtain⟨p,G,t,X,b,Y,s,d⟩:=h;have U:∀k,H k->¬G k:=λk y z=>r k y (s k z);refine(Az (Q:=λq y=>jx (jq (.d ac m) (ki (.d ac m) B v n c a).1 x) (iT cq B (ki (.d ac m) B v n c a).2) F H (mH (.d ac m) c v n) w (.returned q) y) t ?_).M ?_
 .refine RX (NM v n w X ok R P T S) ?_
  rintro y ⟨z,u⟩;obtain⟨g,f⟩:=B6 (c':=(ki (.d ac m) B v n c a).1) t b Y s d z (u.M λk e=>.inl e) r;exact⟨_,rfl,rfl,g,V.far u U,f⟩
 .rintro e y ⟨q,rfl,u⟩;exact u
def Uj(v n:Int)(w:World)(h:jq sp c x F w)(ok:im sp c)(S:iT cq B a H w)(hq:(∃q,sp=.k q)->cq≠.pointer none)(j:∀k,H k->¬F k)(O:-9223372036854775808<=v)(N:v<=9223372036854775807)(D:0<=n)(l:n<18446744073709551616):af4 af5 64 #[aq x,af6 v,.int .u64 n,cq] w (jx (jq sp (ki sp B v n c a).1 x) (iT cq B (ki sp B v n c a).2) F H (mH sp c v n) w):=by
 obtain⟨p,G,T,Y,W,i,A,o⟩:=h;have R:∀k,H k->¬G k:=λk E r=>j k E (A k r);have V:∀L M J e z,jx (rq sp L p) (iT cq B M) G H J w e z->jx (jq sp L x) (iT cq B M) F H J w e z:=λL M J e z y=>by
  obtain⟨E,r⟩:=B6 T W i A o y.2.1 y.2.2.2 j;exact⟨y.1,E,y.2.2.1,r⟩
 have low:=(jL sp c p).low Y;cases sp with
 | h lo hi dg u m gr=>
  refine(KU (Q:=λg z=>jx (jq (.h lo hi dg u m gr) (ki (.h lo hi dg u m gr) B v n c a).1 x) (iT cq B (ki (.h lo hi dg u m gr) B v n c a).2) F H (mH (.h lo hi dg u m gr) c v n) w (.returned g) z) T ?_).M ?_
  .refine RX (K4 v n w Y ok O N D l) ?_
   rintro z ⟨r,f⟩;exact⟨_,rfl,V _ _ _ _ _ (oS ⟨rfl,r,f⟩ (S.far f R))⟩
  .rintro e z ⟨g,rfl,y⟩;exact y
 | d ac m=>
  refine(Az (Q:=λg z=>jx (jq (.d ac m) (ki (.d ac m) B v n c a).1 x) (iT cq B (ki (.d ac m) B v n c a).2) F H (mH (.d ac m) c v n) w (.returned g) z) T ?_).M ?_
  .refine RX (NM v n w Y ok O N D l) ?_
   rintro z ⟨r,f⟩;exact⟨_,rfl,V _ _ _ _ _ (oS ⟨rfl,r,f⟩ (S.far f R))⟩
  .rintro e z ⟨g,rfl,y⟩;exact y
 | t d=>
  have I:=th.fit ok;have hd1:=I.d1;refine(KV (Q:=λg z=>jx (jq (.t d) (ki (.t d) B v n c a).1 x) (iT cq B (ki (.t d) B v n c a).2) F H (mH (.t d) c v n) w (.returned g) z) T ?_).M ?_
  .by_cases P:n=0\/281474976710656 - Go.Proofs.YtdicblkhpcphfaaGreat.tot (c.s.L++c.s.W)<n
   .refine RX (Qi v n w Y I aa O N D aa P) ?_
    intro z s;have X:mH (.t d) c v n=if n=0 then 4 else 6:=by
     simp only[mH];by_cases b:n=0
     .rw[aH b,aH b]
     .rw[aF b,aF b,aH (P.resolve_left b)]
    have K:ki (.t d) B v n c a=(c,a):=by
     simp only[ki];rw[aF (by rw[X];split<;>decide)]
    rw[X,K];exact⟨_,rfl,V c a _ _ _ (kD (jL (.t d) c p) Y rfl s (S.K s))⟩
   .have b:¬n=0:=λe=>P (.inl e)
    have C:¬281474976710656 - Go.Proofs.YtdicblkhpcphfaaGreat.tot (c.s.L++c.s.W)<n:=λe=>P (.inr e);refine RX (MX v n w Y I aa O N aa  aa) ?_;rintro z ⟨F',r,f,U⟩;have X:mH (.t d) c v n=0:=by simp only[mH];rw[aF b,aF C]
    have K:ki (.t d) B v n c a=({c with s:=c.s.add d v n},a):=by simp only[ki];rw[aH X]
    rw[X,K];refine⟨_,rfl,V _ _ _ _ _ ⟨rfl,?_,S.far U R,U.M λ_ h=>.inl h⟩⟩;exact(jL (.t d) {c with s:=c.s.add d v n} p).gr (F':=F') f r low U.size
  .rintro e z ⟨g,rfl,y⟩;exact y
 | k q=>
  refine(KX (Q:=λg z=>jx (jq (.k q) (ki (.k q) B v n c a).1 x) (iT cq B (ki (.k q) B v n c a).2) F H (mH (.k q) c v n) w (.returned g) z) T ?_).M ?_
  .have s:((n.toNat:Nat):Int)=n:=aa
   have C:=VW v n.toNat Y (pN.fit ok) S (hq ⟨q,rfl⟩) R (pN.q0 ok) (pN.q1 ok) aa;rw[s] at C;refine C.M ?_;rintro e z y;obtain⟨rfl,r,f,U⟩:=y;exact⟨_,rfl,V _ _ _ _ _ ⟨rfl,r,f,U⟩⟩
  .rintro e z ⟨g,rfl,y⟩;exact y
def uf(w:World)(h:jq sp c x F w)(ok:im sp c):af4 af5 18 #[aq x] w λe z=>e=.returned (.int .u64 (k_ sp c))/\w=z:=by
 obtain⟨p,G,v,s,f,a,b,g⟩:=h;cases sp with
 | h lo hi dg u m gr=>
  refine(DT (Q:=λy z=>y=.int .u64 (k_ (.h lo hi dg u m gr) c)/\w=z) v ?_).M ?_
  .refine Ix (NW w s) ?_
   exact⟨_,rfl,rfl,rfl⟩
  .rintro e z ⟨y,rfl,rfl,rfl⟩;exact⟨rfl,rfl⟩
 | d ac m=>
  refine(DU (Q:=λy z=>y=.int .u64 (k_ (.d ac m) c)/\w=z) v ?_).M ?_
  .refine Ix (NC w s ok) ?_
   exact⟨_,rfl,rfl,rfl⟩
  .rintro e z ⟨y,rfl,rfl,rfl⟩;exact⟨rfl,rfl⟩
 | t d=>
  refine(DV (Q:=λy z=>y=.int .u64 (k_ (.t d) c)/\w=z) v ?_).M ?_
  .refine Ix (total_any w s) ?_
   exact⟨_,rfl,rfl,rfl⟩
  .rintro e z ⟨y,rfl,rfl,rfl⟩;exact⟨rfl,rfl⟩
 | k q=>
  obtain⟨Y,X,r⟩:=s;refine(DW (Q:=λy z=>y=.int .u64 (k_ (.k q) c)/\w=z) v ?_).M ?_
  .refine Ix (K.total_any w r) ?_
   exact⟨_,rfl,rfl,rfl⟩
  .rintro e z ⟨y,rfl,rfl,rfl⟩;exact⟨rfl,rfl⟩
def xC(w:World)(h:jq sp c x F w)(ok:im sp c):af4 af5 54 #[aq x] w λe z=>∃v,e=.returned v/\OwnB w.heap.size z v (qM sp c)/\af3 w z:=by
 obtain⟨p,G,v,s,g,b,f,r⟩:=h;cases sp with
 | h lo hi dg u m gr=>
  refine GZ (Q:=λy z=>OwnB w.heap.size z y (qM (.h lo hi dg u m gr) c)/\af3 w z) v ?_;exact Ej w v s ok
 | d ac m=>
  refine G0 (Q:=λy z=>OwnB w.heap.size z y (qM (.d ac m) c)/\af3 w z) v ?_;exact yE w s ok
 | t d=>
  refine G4 (Q:=λy z=>OwnB w.heap.size z y (qM (.t d) c)/\af3 w z) v ?_;exact yk p G d c.s _ w s (th.fit ok)
 | k q=>
  refine G5 (Q:=λy z=>OwnB w.heap.size z y (qM (.k q) c)/\af3 w z) v ?_;obtain⟨Y,X,y⟩:=s;exact K.zc w y ((pN.fit ok).pk (a:=0)) (pN.bd ok) (aa2 (pN.q1 ok))
def Cf(w:World)(h:jq sp c x F w)(ok:im sp c):af4 af5 53 #[aq x] w λe g=>e=.returned sp.v/\af3 w g:=by
 obtain⟨p,G,s,v,b,Y,a,f⟩:=h;cases sp with
 | h lo hi dg u m gr=>exact sW s (λy z=>og y ((jL (.h lo hi dg u m gr) c p).K v z)) (λy z=>tR y ((jL (.h lo hi dg u m gr) c p).K v z))
 | d ac m=>exact sV s (λy z=>uY y ((jL (.d ac m) c p).K v z)) (λy z=>rR y ((jL (.d ac m) c p).K v z))
 | t d=>exact sT s (λy z=>nA y ((jL (.t d) c p).K v z))
 | k q=>exact sU s (λy z=>by
  obtain⟨X,V,r⟩:=(jL (.k q) c p).K v z;exact K.size_any y r)
def A9{p p2:Nat}{G G2:Ft}(w:World)(P:g7 w x 124 (sp.five p))(u:rq sp c p G w)(hFx:F x)(Wc:¬G x)(l:∀k,G k->F k)(hF:∀k,F k->k<w.heap.size)
 (M:g7 w y 124 (sp.five p2)) (s:rq sp t p2 G2 w) (n:(p2=p/\G2=G/\t=c)\/∀k,G k->¬G2 k) (ok:im sp c) (J:im sp t) (d:iT cq B a H w) (hq:∀q,sp=.k q->cq=.pointer none->K.jo q (K.jT c.L t.L)=none) (o:∀k,H k->¬F k) :
 af4 af5 45 #[aq x,aq y,cq] w (jx (jq sp (jb sp B t c a).1 x) (iT cq B (jb sp B t c a).2) F H (mn sp c t) w):=by
 have L:∀k,H k->¬G k:=λk T f=>o k T (l k f);have W:=(jL sp c p).low u;have S:∀N I D z e r,af3 w z->jx (rq sp N p) (iT cq B I) G H D z e r->jx (jq sp N x) (iT cq B I) F H D w e r:=λN I D z e r v g=>by
  have g:=s_ (jL sp N p) v W g;obtain⟨T,f⟩:=B6 P hFx Wc l hF g.2.1 g.2.2.2 o;exact⟨g.1,T,g.2.2.1,f⟩
 have b:∀z,af3 w z->rq sp c p G z:=λz v=>(jL sp c p).K u v;have X:∀z,af3 w z->rq sp t p2 G2 z:=λz v=>(jL sp t p2).K s v;have O:∀z,af3 w z->iT cq B a H z:=λz v=>d.K v;clear u s d;cases sp with
 | h lo hi dg u m gr=>
  refine(G9 (Q:=λV r=>jx (jq (.h lo hi dg u m gr) (jb (.h lo hi dg u m gr) B t c a).1 x) (iT cq B (jb (.h lo hi dg u m gr) B t c a).2) F H (mn (.h lo hi dg u m gr) c t) w (.returned V) r) P M (λz v=>og z (b z v)) (λz v=>tR z (b z v)) (λz v=>og z (X z v)) (λz v=>tR z (X z v)) (λz v=>?_)).M ?_
  .refine RX (Ol z (b z v) (X z v) ok J) ?_
   rintro r ⟨f,Y⟩;exact⟨_,rfl,S _ _ _ z _ _ v (oS ⟨rfl,f,Y⟩ ((O z v).far Y L))⟩
  .rintro e r ⟨V,rfl,g⟩;exact g
 | d ac m=>
  refine(G_ (Q:=λV r=>jx (jq (.d ac m) (jb (.d ac m) B t c a).1 x) (iT cq B (jb (.d ac m) B t c a).2) F H (mn (.d ac m) c t) w (.returned V) r) P M (λz v=>uY z (b z v)) (λz v=>rR z (b z v)) (λz v=>uY z (X z v)) (λz v=>rR z (X z v)) (λz v=>?_)).M ?_
  .refine(QL z (b z v) (X z v) ok J ?_).M ?_
   .rcases n with⟨T,_,_⟩|T
    .exact .inr T
    .exact .inl λk f Y=>T k Y f
   rintro e r ⟨rfl,f,Y⟩;exact⟨_,rfl,S _ _ _ z _ _ v (oS ⟨rfl,f,Y⟩ ((O z v).far Y L))⟩
  .rintro e r ⟨V,rfl,g⟩;exact g
 | t d=>
  have C:=th.fit ok;have A:=th.fit J;have hd1:=C.d1;have hxy':(p2=p/\G2=G/\t.s=c.s)\/∀k,G k->¬G2 k:=n.imp (λh=>⟨h.1,h.2.1,by rw[h.2.2]⟩) id;refine(G6 (Q:=λV r=>jx (jq (.t d) (jb (.t d) B t c a).1 x) (iT cq B (jb (.t d) B t c a).2) F H (mn (.t d) c t) w (.returned V) r) P M (λz v=>nA z (b z v)) (λz v=>nA z (X z v)) (λz v=>?_)).M ?_
  .by_cases U:281474976710656 - Go.Proofs.YtdicblkhpcphfaaGreat.tot (c.s.L++c.s.W)<Go.Proofs.YtdicblkhpcphfaaGreat.tot (t.s.L++t.s.W)\/Go.Proofs.YtdicblkhpcphfaaGreat.tot (t.s.L++t.s.W)=0
   .refine RX (Rt z (b z v) (X z v) C A U) ?_
    intro r R;have E:jb (.t d) B t c a=(c,a):=by
     simp only[jb];by_cases s:iO c.s t.s=0
     .rw[aH s]
      have j:Go.Proofs.YtdicblkhpcphfaaGreat.tot (t.s.L++t.s.W)=0:=by
       rcases U with U|U
       .unfold iO at s;rw[aH U] at s;cases s
       .exact U
      have:c.s.take d t.s=c.s:=by unfold St.take;rw[aH j]
      rw[this]
     .rw[aF s]
    rw[E];exact⟨_,rfl,S c a _ z _ _ v (kD (jL (.t d) c p) (b z v) rfl R ((O z v).K R))⟩
   .have h0:¬Go.Proofs.YtdicblkhpcphfaaGreat.tot (t.s.L++t.s.W)=0:=λe=>U (.inr e)
    have h6:¬281474976710656 - Go.Proofs.YtdicblkhpcphfaaGreat.tot (c.s.L++c.s.W)<Go.Proofs.YtdicblkhpcphfaaGreat.tot (t.s.L++t.s.W):=λe=>U (.inl e);have hnn:=A.ok.j7;refine RX (yT z (b z v) (X z v) hxy' C A aa  aa  aa) ?_;rintro r ⟨F',f,Y,R⟩;have j:iO c.s t.s=0:=by unfold iO;rw[aF h6]
    have E:jb (.t d) B t c a=({c with s:=c.s.take d t.s},a):=by simp only[jb];rw[aH j]
    have i:mn (.t d) c t=0:=j;rw[E,i];refine⟨_,rfl,S _ _ _ z _ _ v ⟨rfl,?_,(O z v).far R L,R.M λ_ h=>.inl h⟩⟩;exact(jL (.t d) {c with s:=c.s.take d t.s} p).gr (F':=F') Y f (λk hk=>aG (W k hk) v.size) R.size
  .rintro e r ⟨V,rfl,g⟩;exact g
 | k q=>
  refine(G7 (Q:=λV r=>jx (jq (.k q) (jb (.k q) B t c a).1 x) (iT cq B (jb (.k q) B t c a).2) F H (mn (.k q) c t) w (.returned V) r) P M (λz v=>by
   obtain⟨U,E,s⟩:=b z v;exact K.size_any z s) (λz v=>by
   obtain⟨U,E,s⟩:=X z v;exact K.size_any z s) (λz v=>?_)).M ?_
  .refine(Ud (b z v) (pN.fit ok) (X z v) (pN.fit J) (O z v) (hq q rfl) L (pN.q0 ok) (pN.q1 ok)).M ?_
   rintro e r g;obtain⟨rfl,f,Y,R⟩:=g;exact⟨_,rfl,S _ _ _ z _ _ v ⟨rfl,f,Y,R⟩⟩
  .rintro e r ⟨V,rfl,g⟩;exact g
def JO(w:World)(h:jq sp c x F w)(z:jq sp t y Fy w)(r:(y=x/\t=c)\/∀k,F k->¬Fy k)(ok:im sp c)(X:im sp t)(d:iT cq B a H w)(Y:∀q,sp=.k q->cq=.pointer none->K.jo q (K.jT c.L t.L)=none)(b:∀k,H k->¬F k):af4 af5 45 #[aq x,aq y,cq] w (jx (jq sp (jb sp B t c a).1 x) (iT cq B (jb sp B t c a).2) F H (mn sp c t) w):=by
 obtain⟨p,G,v,s,g,f,u,q⟩:=h;rcases r with⟨rfl,rfl⟩|r
 .exact A9 w v s g f u q v s (.inl ⟨rfl,rfl,rfl⟩) ok X d Y b
 .obtain⟨N,R,U,S,P,O,T,Q⟩:=z
  exact A9 w v s g f u q U S (.inr λk V z=>r k (u k V) (T k z)) ok X d Y b
end
def mkV:Value:=.agg #[.func (.func 180) #[] #[],.func (.func 181) #[] #[],.func (.func 182) #[] #[],.func (.func 183) #[] #[],
 .func (.func 184) #[] #[],.func (.func 185) #[] #[],.func (.func 186) #[] #[],.func (.func 187) #[] #[]]
def ox(w:World):af4 af5 108 #[] w (au w mkV):=by
 unfold mkV;go_in;go_wp2;refine ak ?_;exact⟨rfl,bw⟩
section
variable {R : Nat -> World -> Prop} {lo hi dg ac sz : Int} {gr : Bool}
def si{kd:Int}{mf:Nat}(Zc:(kd=1/\mf=180)\/(kd=2/\mf=182)\/(kd=3/\mf=184)\/(kd=4/\mf=186))(w:World)(E:∀y z,af3 w z->w.heap.size<=y->g7 z y 124 #[.int .u8 kd,.pointer none,.pointer none,.pointer none,.pointer none]->Calls prog mf #[aq y,iB kd lo hi dg gr ac sz] z λe x=>e=.returned (af6 0)/\R y x/\Touch (λj=>j=y) z x)
 (D:∀y z,R y z->af4 af5 53 #[aq y] z λe x=>e=.returned (iB kd lo hi dg gr ac sz)/\af3 z x)
 (F:∀y z x,R y z->af3 z x->R y x) :
 af4 af5 46 #[iB kd lo hi dg gr ac sz] w λe x=>∃y,e=.returned (.tuple #[aq y,af6 0])/\R y x/\af3 w x:=by
 obtain⟨J,hcs⟩:∃q:Array Value,q=#[.int .u8 kd,af6 lo,af6 hi,af6 dg,.bool gr,af6 ac,af6 sz]:=⟨_,rfl⟩;obtain⟨I,hfv⟩:∃q:Array Value,q=#[.int .u8 kd,.pointer none,.pointer none,.pointer none,.pointer none]:=⟨_,rfl⟩;have l:=λW=>oe kd W aa  aa;rcases Zc with⟨rfl,rfl⟩|⟨rfl,rfl⟩|⟨rfl,rfl⟩|⟨rfl,rfl⟩
 all_goals
  have n:=ax E;have i:=ax D;have Q:=ax F;clear E D F;unfold iB at *;have⟨b,y⟩:=ar (w.heap.size);have⟨s,u⟩:=ar (w.alloc (.cells J 33));have H:af3 w s:=by rw[<-u];exact bw
  have r:Hid (g7 s b 33 J):=by rw[<-u,<-y];exact ax (g7.new _ _ _)
  subst hcs;have t:s.heap.size=b+1:=by rw[<-u,<-y,aI]
  have v:=r.o.k0;have A:=ax (l s);have o:=ax y;go_in;go_upto_region 1 with fail;have O:=ax t;clear u y t;go_wp21;refine Ix A.o ?_;have⟨y,u⟩:=ar (s.alloc (.cells I 124));have z:af3 s y:=by rw[<-u];exact bw
  have q:af3 w y:=H.T (z.M H.size);have Y0:Hid (g7 y (b+1) 124 I):=by rw[<-u,<-O.o];exact ax (g7.new _ _ _)
  subst hfv;have C:=ax (r.o.K z);go_upto_region 4 with fail;try rw[u]
  try rw[O.o]
  clear u v z r;have r:=C;obtain⟨v,z,u,t,p,g,f⟩:=r.o.c7;have a:=ax v;have Y:=ax z;have X:=ax u;have V:=ax t;have U:=ax p;have T:=ax g;have S:=ax f;clear v z u t p g f;have v:b<y.heap.size:=r.o.lt;have u:¬(b=b+1):=aa;have G:w.heap.size<=b+1:=by have:=o.o;omega
  have k:Touch (λj=>j=b+1) y y.drew:=(Touch.refl _ y).drew;have B:af3 y y.drew:=(aC _ _).drew;have Z:=ax (λ(x:World) (z:(Touch (λj=>j=b+1) y) x)=>(aB (((g9 z 0 v u).T a.o)) (aB (((g9 z 1 v u).T Y.o)) (aB (((g9 z 2 v u).T X.o)) (aB (((g9 z 3 v u).T V.o)) (aB (((g9 z 4 v u).T U.o)) (aB (((g9 z 5 v u).T T.o)) (((g9 z 6 v u).T S.o)))))))));refine jh (Touch (λj=>j=b+1) y) (hQ 1 3 (hQ 6 2 (ik 0 (hQ 4 2 (ik 8 (hQ 9 1 [])))))) (k) ?_;iterate 5 refine ib ?_
  refine iz λK t=>?_;go_simp;refine RX (ox y.drew) ?_;intro p hbs;have g:af3 y p:=B.T hbs;have L:Touch (λj=>j=b+1) y p:=Touch.of_below g (aD _);have hb1:af3 w p:=q.T (g.M q.size);have c:=ax (n.o (b+1) p hb1 G (Y0.o.K g));unfold mkV;refine t _ _ (L) ?_;iterate 2 refine ib ?_
  refine iz λK t=>?_;go_simp;refine RX c.o ?_;rintro wt ⟨hr,ht⟩;have f:Touch (λj=>j=b+1) y wt:=L.T ht (λ_ h=>.inl h);have P:=ax hr;have N:=ax (q.T (f.below (λj d=>by rw[show j=b+1 from d];exact G) q.size));refine t _ _ (f) ?_;refine ib ?_;refine g4 ?_;have M:Touch (λj=>j=b+1) y wt.drew:=f.drew;have d:af3 wt wt.drew:=(aC _ _).drew;have m:=ax (i.o (b+1) wt.drew (Q.o _ _ _ P.o d));have zt:=N.o.size;clear c;go_upto_region 5 with fail;have Z:=ax (λ(x:World) (z:(Touch (λj=>j=b+1) y) x)=>(aB (((g9 z 0 v u).T a.o)) (aB (((g9 z 1 v u).T Y.o)) (aB (((g9 z 2 v u).T X.o)) (aB (((g9 z 3 v u).T V.o)) (aB (((g9 z 4 v u).T U.o)) (aB (((g9 z 5 v u).T T.o)) (((g9 z 6 v u).T S.o)))))))));refine jh (Touch (λj=>j=b+1) y) (hQ 0 4 (hQ 5 1 (ik 4 (hQ 6 2 [])))) (M) ?_;iterate 5 refine ib ?_
  refine iz λK t=>?_;go_simp;refine RX m.o ?_;intro wu z;have h:Touch (λj=>j=b+1) y wu:=tbl M z;have c:=ax (N.o.T ((d.T z).M zt));have j:=ax (Q.o _ _ _ P.o (d.T z));refine t _ _ (h) ?_;iterate 2 refine ib ?_
  refine g4 ?_;go_wp2;refine ak ?_;exact⟨_,rfl,j.o,c.o⟩
end
