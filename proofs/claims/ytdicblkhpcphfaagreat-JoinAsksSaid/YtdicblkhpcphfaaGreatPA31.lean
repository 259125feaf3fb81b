/- Parts. No condition. -/
import Derived.Test.YtdicblkhpcphfaaGreatPA30
set_option maxRecDepth 100000
set_option maxHeartbeats 0
set_option linter.all false
namespace Go.Proofs.YtdicblkhpcphfaaGreat
open Tryz Go.RowKit Go.Lib Go.Shelf
open _root_.List renaming length→ao
open _root_.Go renaming Calls→ar
open Tryz renaming prog→Oe
namespace D
variable{sp:i9}{base i o0 vb wb:Nat}{R S:Nat->Js}{X Y:Nat->Nat}{O1 Ow:Nat->Ft}{w w' w0:World}{H:Ft}{s':Js}{l:List wF}
structure lR(sp:i9)(base:Nat)(S R:Nat->Js)(X Y:Nat->Nat)(Ow:Nat->Ft)(wb vb:Nat)(w:World):Prop where
 win:∀i,i<2->iX sp (S i) (X i) (Ow i) w
 ref:∀i,i<2->iz sp (R i) (Y i) (Ow (2+i)) w
 ok:∀i,i<2->je sp (S i)
 SD:∀i,i<2->je sp (R i)
 uniq:∀a b k,Ow a k->Ow b k->a=b
 low:∀a k,Ow a k->base<=k/\k<w.heap.size
 rw:Ow 4 wb
 rv:Ow 4 vb
 cw:∀i,i<2->w.cell? ⟨wb,i,none⟩=some (j_ (X i))
 cv:∀i,i<2->w.cell? ⟨vb,i,none⟩=some (j_ (Y i))
def lR.stay(h:lR sp base S R X Y Ow wb vb w)(y:∀a k,Ow a k->w'.heap[k]?=w.heap[k]?)(x:w.heap.size<=w'.heap.size):lR sp base S R X Y Ow wb vb w':=
 ⟨λi z=>(h_ sp _ _).stay (h.win i z) (y i) x,λi z=>(iw sp _ _).stay (h.ref i z) (y _) x,h.ok,h.SD,h.uniq,λa k e=>⟨(h.low a k e).1,aR (h.low a k e).2 x⟩,h.rw,h.rv,
  λi z=>(bA (a:=⟨wb,i,none⟩) (y 4 wb h.rw)).trans (h.cw i z),λi z=>(bA (a:=⟨vb,i,none⟩) (y 4 vb h.rv)).trans (h.cv i z)⟩
def lR.keep(h:lR sp base S R X Y Ow wb vb w)(z:aq w w'):lR sp base S R X Y Ow wb vb w':=
 h.stay (λa k e=>z.block k (h.low a k e).2) z.size
def lR.BI(h:lR sp base S R X Y Ow wb vb w)(f:i<2)(g:base<=w.heap.size)(p:iX sp s' (X i) (Gr (Ow i) w w') w')(ok:je sp s')(r:Touch (λk=>Ow i k\/H k) w w')(q:∀k,H k->∀a,¬Ow a k) :
 lR sp base (Bu S i s') R X Y (vJ Ow i (Gr (Ow i) w w')) wb vb w':=by
 have t:∀a k,a≠i->Ow a k->w'.heap[k]?=w.heap[k]?:=λa k z e=>r.block k (h.low a k e).2 (λy=>y.elim (λy=>z (h.uniq a i k e y)) (λy=>q k y a e))
 have s:=r.size;refine⟨λj x=>?_,λj x=>?_,λj x=>?_,h.SD,λa b k z y=>?_,λa k e=>?_,?_,?_,λj x=>?_,λj x=>?_⟩
 ·by_cases e:j=i
  ·subst e;rw[tL,lH];exact p
  ·rw[tM e,i5 e];exact(h_ sp _ _).stay (h.win j x) (λk=>t j k e) s
 ·rw[i5 aa];exact(iw sp _ _).stay (h.ref j x) (λk=>t _ k aa) s
 ·by_cases e:j=i
  ·subst e;rw[tL];exact ok
  ·rw[tM e];exact h.ok j x
 ·by_cases v:a=i<;>by_cases u:b=i
  ·rw[v,u]
  ·rw[v,lH] at z;rw[i5 u] at y
   rcases z with z|z
   ·exact v.trans (h.uniq i b k z y)
   ·have:=(h.low b k y).2;omega
  ·rw[u,lH] at y;rw[i5 v] at z
   rcases y with y|y
   ·exact(h.uniq a i k z y).trans u.symm
   ·have:=(h.low a k z).2;omega
  ·rw[i5 v] at z;rw[i5 u] at y;exact h.uniq a b k z y
 ·by_cases v:a=i
  ·rw[v,lH] at e
   rcases e with e|e
   ·exact⟨(h.low i k e).1,aR (h.low i k e).2 s⟩
   ·omega
  ·rw[i5 v] at e;exact⟨(h.low a k e).1,aR (h.low a k e).2 s⟩
 ·rw[i5 aa];exact h.rw
 ·rw[i5 aa];exact h.rv
 ·exact(bA (a:=⟨wb,j,none⟩) (t 4 wb aa h.rw)).trans (h.cw j x)
 ·exact(bA (a:=⟨vb,j,none⟩) (t 4 vb aa h.rv)).trans (h.cv j x)
def lR.BJ(h:lR sp base S R X Y Ow wb vb w)(f:i<2)(g:base<=w.heap.size)(p:iz sp s' (Y i) (Gr (Ow (2+i)) w w') w')(ok:je sp s')(r:Touch (λk=>Ow (2+i) k\/H k) w w')(q:∀k,H k->∀a,¬Ow a k) :
 lR sp base S (Bu R i s') X Y (vJ Ow (2+i) (Gr (Ow (2+i)) w w')) wb vb w':=by
 have t:∀a k,a≠2+i->Ow a k->w'.heap[k]?=w.heap[k]?:=λa k z e=>r.block k (h.low a k e).2 (λy=>y.elim (λy=>z (h.uniq a _ k e y)) (λy=>q k y a e))
 have s:=r.size;refine⟨λj x=>?_,λj x=>?_,h.ok,λj x=>?_,λa b k z y=>?_,λa k e=>?_,?_,?_,λj x=>?_,λj x=>?_⟩
 ·rw[i5 aa];exact(h_ sp _ _).stay (h.win j x) (λk=>t _ k aa) s
 ·by_cases e:j=i
  ·subst e;rw[tL,lH];exact p
  ·rw[tM e,i5 aa];exact(iw sp _ _).stay (h.ref j x) (λk=>t _ k aa) s
 ·by_cases e:j=i
  ·subst e;rw[tL];exact ok
  ·rw[tM e];exact h.SD j x
 ·by_cases v:a=2+i<;>by_cases u:b=2+i
  ·rw[v,u]
  ·rw[v,lH] at z;rw[i5 u] at y
   rcases z with z|z
   ·exact v.trans (h.uniq _ b k z y)
   ·have:=(h.low b k y).2;omega
  ·rw[u,lH] at y;rw[i5 v] at z
   rcases y with y|y
   ·exact(h.uniq a _ k z y).trans u.symm
   ·have:=(h.low a k z).2;omega
  ·rw[i5 v] at z;rw[i5 u] at y;exact h.uniq a b k z y
 ·by_cases v:a=2+i
  ·rw[v,lH] at e
   rcases e with e|e
   ·exact⟨(h.low _ k e).1,aR (h.low _ k e).2 s⟩
   ·omega
  ·rw[i5 v] at e;exact⟨(h.low a k e).1,aR (h.low a k e).2 s⟩
 ·rw[i5 aa];exact h.rw
 ·rw[i5 aa];exact h.rv
 ·exact(bA (a:=⟨wb,j,none⟩) (t 4 wb aa h.rw)).trans (h.cw j x)
 ·exact(bA (a:=⟨vb,j,none⟩) (t 4 vb aa h.rv)).trans (h.cv j x)
def q9(Ow UK:Nat->Ft)(w w':World):Prop:=(∀a k,UK a k->Ow a k\/(w.heap.size<=k/\k<w'.heap.size))/\Touch (λk=>∃a,Ow a k) w w'
def q9.keep(h:q9 Ow O1 w0 w)(y:aq w w'):q9 Ow O1 w0 w':=
 ⟨λa k e=>(h.1 a k e).imp id (λz=>⟨z.1,aR z.2 y.size⟩),h.2.trans (Touch.of_below (F:=λk=>∃a,Ow a k) y (aD _)) (λ_ z=>.inl z)⟩
def q9.step{c:Nat}(h:q9 Ow O1 w0 w)(x:Touch (λk=>O1 c k\/H k) w w')(v:∀k,H k->w0.heap.size<=k):q9 Ow (vJ O1 c (Gr (O1 c) w w')) w0 w':=by
 have u:=h.2.size;have t:=x.size;refine⟨λa k e=>?_,h.2.trans x (λk z=>z.elim (λe=>(h.1 c k e).elim (λz=>.inl ⟨c,z⟩) (λz=>.inr z.1)) (λe=>.inr (v k e)))⟩
 by_cases y:a=c
 ·rw[y,lH] at e
  rcases e with e|e
  ·rw[y];exact(h.1 c k e).imp id (λz=>⟨z.1,aa⟩)
  ·exact .inr ⟨by omega,e.2⟩
 ·rw[i5 y] at e;exact(h.1 a k e).imp id (λz=>⟨z.1,aa⟩)
def q9.refl{Ow:Nat->Ft}{w w':World}(z:aq w w'):q9 Ow Ow w w':=⟨λ_ _ e=>.inl e,Touch.of_below z (aD _)⟩
def zb(o0:Nat)(w:World)(A:Option Addr)(l:List wF):Prop:=0<ao l->∃g off,A=some ⟨g,off,none⟩/\g<o0/\∀j (h:j<ao l),∃cv,
 w.cell? ⟨g,off+j * 5,none⟩=some (.int .u8 l[j].kd)/\w.cell? ⟨g,off+j * 5+1,none⟩=some (.bool l[j].who)/\w.cell? ⟨g,off+j * 5+2,none⟩=some (.int .i64 l[j].v)/\w.cell? ⟨g,off+j * 5+3,none⟩=some (.int .u64 l[j].n)/\w.cell? ⟨g,off+j * 5+4,none⟩=some cv/\Lt o0 w cv l[j].B
def vK(o0:Nat)(w:World)(v:Value)(l:List wF):Prop:=o0<=w.heap.size/\∃A c,v=.slice A (ao l) c/\ao l<=c/\c<=9223372036854775807/\zb o0 w A l
def zb.keep{A:Option Addr}(h:zb o0 w A l)(a:o0<=w.heap.size)(z:Below o0 w w'):zb o0 w' A l:=λu=>by
 obtain⟨g,x,c,y,b⟩:=h u;refine⟨g,x,c,y,λj p=>?_⟩
 obtain⟨v,t,s,r,q,f,d⟩:=b j p;exact⟨v,(z.cell (p:=⟨g,x+j * 5,none⟩) y).trans t,(z.cell (p:=⟨g,x+j * 5+1,none⟩) y).trans s,(z.cell (p:=⟨g,x+j * 5+2,none⟩) y).trans r,(z.cell (p:=⟨g,x+j * 5+3,none⟩) y).trans q,(z.cell (p:=⟨g,x+j * 5+4,none⟩) y).trans f,d.keep a z⟩
def vK.keep{v:Value}(h:vK o0 w v l)(z:Below o0 w w'):vK o0 w' v l:=by
 obtain⟨y,A,c,x,u,t,s⟩:=h;exact⟨bf y z.size,A,c,x,u,t,s.keep y z⟩
section
open Go.ChangeShapes Go.WideShapes Go.Deep
variable {H : Type} {enc : TypeId × Value -> H} {w : World} {base : Nat} {held : Bool}
def Ix{v:Value}{d:DataW H}{ps:List MemPlace}{r:Reach}{b0:Nat}
 (hval:Value.okWide prog w r b0 67 v) (h:DataW.Trod enc prog w base (λ_=>true) held 67 v d ps):∃l:List wF,vK w.heap.size w v l/\∀o∈l,o.fits:=by
 obtain⟨a0,Y,l,rfl⟩:=okWide_slice underlying67 hval;obtain⟨n,h⟩:=h
 rcases open_slice underlying67 h with⟨s,_⟩|⟨a,len,cap,m,q,D,Pl,s,_,e,hm,hmm,_,c⟩
 ·simp[Value.cells] at s
  obtain⟨rfl,rfl,rfl⟩:=s;exact⟨[],⟨aD _,none,0,rfl,aD _,aa,λh=>absurd h ad⟩,λo z=>by cases z⟩
 ·simp[Value.cells] at s
  obtain⟨rfl,rfl,rfl⟩:=s;simp only[if_true] at hmm;have y:prog.cellsOf 141=5:=by kernel_rfl
  have W:∀i,i<m->∃q:wF × Value,(w.cell? (a.add (i * 5))=some (.int .u8 q.1.kd)/\w.cell? (a.add (i * 5+1))=some (.bool q.1.who)/\w.cell? (a.add (i * 5+2))=some (.int .i64 q.1.v)/\w.cell? (a.add (i * 5+3))=some (.int .u64 q.1.n)/\w.cell? (a.add (i * 5+4))=some q.2)/\Lt w.heap.size w q.2 q.1.B/\q.1.fits:=by
   intro i g;obtain⟨o,t,p⟩:=c i g;rw[y] at t;obtain⟨_,u,x⟩:=World.cells?_some t;obtain⟨xs,k,hk,hxy,_,hxl,z⟩:=DataW.trod_struct underlying141 p
   match xs,hxl,o,u with
   | [y0,y1,y2,y3,y4],_,[v0,v1,v2,v3,v4],_=>
    have T:=z 0 _ rfl;have S:=z 1 _ rfl;have R:=z 2 _ rfl;have Q:=z 3 _ rfl;have P:=z 4 _ rfl;simp[show prog.cellsOf 5=1 by kernel_rfl,show prog.cellsOf 4=1 by kernel_rfl,show prog.cellsOf 2=1 by kernel_rfl,show prog.cellsOf 36=1 by kernel_rfl,show prog.cellsOf 37=1 by kernel_rfl] at T S R Q P
    have f:=x 0 aa
    have b:=x 1 aa
    have X:=x 2 aa
    have V:=x 3 aa
    have U:=x 4 aa
    rw[add_add] at f b X V U;obtain⟨x0,L,_,b0⟩:=gj (k:=.u8) underlying5 T;obtain⟨x1,K,_⟩:=DataW.trod_bool underlying4 S;obtain⟨x2,J,_,C⟩:=gj (k:=.i64) underlying2 R;obtain⟨F,I,_,B⟩:=gj (k:=.u64) underlying36 Q;obtain⟨x4,E,G,j,A⟩:=Lu P;simp only[List.cons.injEq,and_true] at L K J I G;subst L;subst K;subst J;subst I;subst G;refine⟨(⟨x0,x1,x2,F,E⟩,v4),⟨by simpa[y] using f,by simpa[y] using b,by simpa[y] using X,by simpa[y] using V,by simpa[y] using U⟩,j,?_⟩
    have M:=bounds_i64 C;have N:=bounds_u64 B;have O:=bounds_u8 b0;refine⟨O.1,O.2,M.1,M.2,N.1,by show F<18446744073709551616;have:=N.2;omega,A⟩
  obtain⟨f,z⟩:=choose_lt W;have u:ao ((List.range Y).map λi=>(f i).1)=Y:=ad
  refine⟨(List.range Y).map λi=>(f i).1,⟨aD _,some a,l,by rw[u],by rw[u];exact e,by unfold maxLen at hm;omega,λb=>?_⟩,λx c=>?_⟩
  ·rw[u] at b
   obtain⟨b,S,R⟩:=a;have T:R=none:=by simpa[Addr.add] using World.cell?_spot (z 0 aa).1.1
   subst T;refine⟨b,S,rfl,bV _ _ (z 0 aa).1.1,λj x=>?_⟩
   rw[u] at x;obtain⟨⟨t,p,x,X,V⟩,U,_⟩:=z j aa
   rw[add_plain] at t p x X V;simp only[fV,List.getElem_range];exact⟨_,t,p,x,X,V,U⟩
  ·obtain⟨i,g,rfl⟩:=gK.1 c
   have x:=ep.1 g;exact(z i aa).2.2
end
structure q_(sp:i9)(o0:Nat)(S R:Nat->Js)(X Y:Nat->Nat)(Mr Ow:Nat->Ft)(wb vb bx:Nat)(B:List Int)(dq:Value)(H HR:Ft)(w0 w:World):Prop where
 du:lR sp o0 S R X Y Ow wb vb w
 got:q9 Mr Ow w0 w
 hH:∀k,H k->bx<k/\k<w.heap.size/\∀a,¬Ow a k
 hR:∀k,HR k->bx<k/\k<w.heap.size/\∀a,¬Ow a k
 ap:∀k,H k->¬HR k
 rc:iM o0 dq B 0 HR w
 hb:w0.heap.size<=bx/\bx<w.heap.size/\∀a,¬Ow a bx
 bz:o0<=w0.heap.size
section
variable {sp : i9} {o0 : Nat} {S R : Nat -> Js} {X Y : Nat -> Nat} {Mr Ow : Nat -> Ft} {wb vb bx i : Nat} {B : List Int} {dq : Value} {H HR : Ft} {w0 w w' : World} {s' : Js}
def q_.keep(d:q_ sp o0 S R X Y Mr Ow wb vb bx B dq H HR w0 w)(z:aq w w'):q_ sp o0 S R X Y Mr Ow wb vb bx B dq H HR w0 w':=by
 have y:=z.size;have x:=d.got.2.size;have v:=d.bz;exact⟨d.du.keep z,d.got.keep z,λk e=>⟨(d.hH k e).1,aR (d.hH k e).2.1 y,(d.hH k e).2.2⟩,λk e=>⟨(d.hR k e).1,aR (d.hR k e).2.1 y,(d.hR k e).2.2⟩,d.ap,d.rc.keep aa z,⟨d.hb.1,aR d.hb.2.1 y,d.hb.2.2⟩,d.bz⟩
def DX{c k:Nat}(h:∀a,¬Ow a k)(x:k<w.heap.size):∀a,¬vJ Ow c (Gr (Ow c) w w') a k:=λa e=>by
 by_cases z:a=c
 ·rw[z,lH] at e
  exact e.elim (h c) (λy=>by omega)
 ·rw[i5 z] at e;exact h a e
def q_.BI(d:q_ sp o0 S R X Y Mr Ow wb vb bx B dq H HR w0 w)(u:i<2)(t:iX sp s' (X i) (Gr (Ow i) w w') w')(ok:je sp s')(y:Touch (λk=>Ow i k\/H k) w w') :
 q_ sp o0 (Bu S i s') R X Y Mr (vJ Ow i (Gr (Ow i) w w')) wb vb bx B dq H HR w0 w':=by
 have x:=y.size;have s:=d.got.2.size;have r:=d.bz;exact⟨d.du.BI u aa t ok y (λk e=>(d.hH k e).2.2),d.got.step y (λk e=>by have:=(d.hH k e).1;have:=d.hb.1;omega),
  λk e=>⟨(d.hH k e).1,aR (d.hH k e).2.1 x,DX (d.hH k e).2.2 (d.hH k e).2.1⟩,λk e=>⟨(d.hR k e).1,aR (d.hR k e).2.1 x,DX (d.hR k e).2.2 (d.hR k e).2.1⟩,d.ap,
  d.rc.far aa y (λk e z=>z.elim ((d.hR k e).2.2 i) (λv=>d.ap k v e)) (λk e=>e.elim (λz=>(d.du.low i k z).1) (λz=>by have:=(d.hH k z).1;have:=d.hb.1;omega)),
  ⟨d.hb.1,aR d.hb.2.1 x,DX d.hb.2.2 d.hb.2.1⟩,d.bz⟩
def q_.BJ(d:q_ sp o0 S R X Y Mr Ow wb vb bx B dq H HR w0 w)(y:i<2)(x:iz sp s' (Y i) (Gr (Ow (2+i)) w w') w')(ok:je sp s')(z:Touch (λk=>Ow (2+i) k\/HR k) w w') :
 lR sp o0 S (Bu R i s') X Y (vJ Ow (2+i) (Gr (Ow (2+i)) w w')) wb vb w'/\q9 Mr (vJ Ow (2+i) (Gr (Ow (2+i)) w w')) w0 w':=by
 have t:=z.size;have v:=d.got.2.size;have u:=d.bz;exact⟨d.du.BJ y aa x ok z (λk e=>(d.hR k e).2.2),d.got.step z (λk e=>by have:=(d.hR k e).1;have:=d.hb.1;omega)⟩
def BK(l:List Nat)(w w':World):Prop:=∀k∈l,w'.heap[k]?=w.heap[k]?
def BK.at_{l:List Nat}(h:BK l w w'){p:Addr}(z:p.block∈l):w'.cell? p=w.cell? p:=bA (h _ z)
def q_.Lw(d:q_ sp o0 S R X Y Mr Ow wb vb bx B dq H HR w0 w)(t:i<2)(u:Touch (λk=>Ow i k\/H k) w w'):BK [wb,vb,bx] w w':=λk v=>by
 have x:∀k,Ow 4 k->w'.heap[k]?=w.heap[k]?:=λk e=>u.block k (d.du.low 4 k e).2 (λy=>y.elim (λz=>by have:=d.du.uniq 4 i k e z;omega) (λz=>(d.hH k z).2.2 4 e))
 simp only[aS,cQ,or_false] at v
 rcases v with rfl|rfl|rfl
 ·exact x _ d.du.rw
 ·exact x _ d.du.rv
 ·exact u.block _ d.hb.2.1 (λy=>y.elim (d.hb.2.2 i) (λz=>by have:=(d.hH _ z).1;omega))
def q_.Lx(d:q_ sp o0 S R X Y Mr Ow wb vb bx B dq H HR w0 w)(t:i<2)(u:Touch (λk=>Ow (2+i) k\/HR k) w w'):BK [wb,vb,bx] w w':=λk v=>by
 have x:∀k,Ow 4 k->w'.heap[k]?=w.heap[k]?:=λk e=>u.block k (d.du.low 4 k e).2 (λy=>y.elim (λz=>by have:=d.du.uniq 4 (2+i) k e z;omega) (λz=>(d.hR k z).2.2 4 e))
 simp only[aS,cQ,or_false] at v
 rcases v with rfl|rfl|rfl
 ·exact x _ d.du.rw
 ·exact x _ d.du.rv
 ·exact u.block _ d.hb.2.1 (λy=>y.elim (d.hb.2.2 (2+i)) (λz=>by have:=(d.hR _ z).1;omega))
end
structure jL(wb vb bx i j x0 x1 y0 y1 kd n:Nat)(who:Bool)(v:Int)(cv:Value)(w:World):Prop where
 p0:w.cell? ⟨wb,i,none⟩=some (.pointer (some ⟨x0,0,none⟩))
 p1:w.cell? ⟨wb,j,none⟩=some (.pointer (some ⟨x1,0,none⟩))
 q0:w.cell? ⟨vb,i,none⟩=some (.pointer (some ⟨y0,0,none⟩))
 q1:w.cell? ⟨vb,j,none⟩=some (.pointer (some ⟨y1,0,none⟩))
 o0:w.cell? ⟨bx,0,none⟩=some (.int .u8 kd)
 o1:w.cell? ⟨bx,1,none⟩=some (.bool who)
 o2:w.cell? ⟨bx,2,none⟩=some (.int .i64 v)
 o3:w.cell? ⟨bx,3,none⟩=some (.int .u64 n)
 o4:w.cell? ⟨bx,4,none⟩=some cv
def jL.same{wb vb bx i j x0 x1 y0 y1 kd n:Nat}{who:Bool}{v:Int}{cv:Value}{w w':World}(h:jL wb vb bx i j x0 x1 y0 y1 kd n who v cv w)(y:BK [wb,vb,bx] w w'):jL wb vb bx i j x0 x1 y0 y1 kd n who v cv w':=by
 have u:∀k,w'.cell? ⟨wb,k,none⟩=w.cell? ⟨wb,k,none⟩:=λk=>y.at_ ad
 have x:∀k,w'.cell? ⟨vb,k,none⟩=w.cell? ⟨vb,k,none⟩:=λk=>y.at_ ad
 have z:∀k,w'.cell? ⟨bx,k,none⟩=w.cell? ⟨bx,k,none⟩:=λk=>y.at_ ad
 exact⟨(u _).trans h.p0,(u _).trans h.p1,(x _).trans h.q0,(x _).trans h.q1,(z _).trans h.o0,(z _).trans h.o1,(z _).trans h.o2,(z _).trans h.o3,(z _).trans h.o4⟩
end D
inductive Tr where
 | nil
 | rd (i:Nat) (t:Tr)
 | ef (i:Nat) (t:Tr)
 | two (i j:Nat) (t u:Tr)
def Tr.len:Tr->Nat
 | .nil=>0
 | .rd _ t=>t.len+1
 | .ef _ t=>t.len+1
 | .two _ _ t _=>t.len+1
section
variable {P : Program} {ops : Array Oper} {md : Region.Mode} {S : World -> Prop} {Q : Exit -> Act -> World -> Prop}
variable{a:Act}{w:World}{i:Nat}{r:Tr}{o:Oper}
def Ms(md:Region.Mode)(ops:Array Oper):Tr->Array Bool->Bool
 | .nil,listed=>(Region.ready md ops listed).isEmpty
 | .rd i r,listed=>(Region.ready md ops listed).contains i && Region.free md ops listed i && Ms md ops r (listed.setIfInBounds i true)
 | .ef i r,listed=>decide (Region.ready md ops listed=[i]) && Ms md ops r (listed.setIfInBounds i true)
 | .two i j r q,listed=>decide (Region.ready md ops listed=[i,j]) && decide (r.len=q.len) && Ms md ops r (listed.setIfInBounds i true) && Ms md ops q (listed.setIfInBounds j true)
def qn(P:Program)(ops:Array Oper)(Q:Exit->Act->World->Prop)(S:World->Prop):Tr->Act->World->Prop
 | .nil,a,w=>Q .normal a w
 | .rd i r,a,w=>∃o v,ops[i]?=some o/\YieldsIf P ops S o v a/\qn P ops Q S r (a.put o.dst v) w
 | .ef i r,a,w=>wpOp P ops Q i (λa' w'=>S w'/\qn P ops Q S r a' w') a w
 | .two i j r q,a,w=>wpOp P ops Q i (λa' w'=>S w'/\qn P ops Q S r a' w') a w/\wpOp P ops Q j (λa' w'=>S w'/\qn P ops Q S q a' w') a w
def pF(s:Region.noSelect ops=true)(u:∀c a w,¬Q (.panic c) a w):∀(t:Tr) (listed:Array Bool) (a:Act) (w:World),Ms md ops t listed=true->S w ->
 qn P ops Q S t a w->wpAnyH P md ops Q S t.len listed a w
 | .nil,listed,a,w,hB,_,h=>⟨by simpa[Ms] using hB,h⟩
 | .rd i r,listed,a,w,hB,hS,h=>by
  simp only[Ms,bQ] at hB;obtain⟨o,v,y,t,z⟩:=h;exact wpAnyH_take y s hB.1.2 hB.1.1 (λc a w x=>absurd x (u c _ w)) t hS (pF s u r _ _ w hB.2 hS z)
 | .ef i r,listed,a,w,hB,hS,h=>by
  simp only[Ms,bQ,a_] at hB;refine⟨λx=>(by rw[hB.1] at x;cases x),λj z=>?_⟩
  rw[hB.1] at z;have t:j=i:=by simpa using z
  subst t;exact wpOp_mono (λy v z=>⟨z.1,pF s u r _ y v hB.2 z.1 z.2⟩) h
 | .two i j r q,listed,a,w,hB,hS,h=>by
  simp only[Ms,bQ,a_] at hB;obtain⟨⟨⟨p,g⟩,f⟩,d⟩:=hB;refine⟨λx=>(by rw[p] at x;cases x),λk t=>?_⟩
  rw[p] at t;simp only[aS,cQ,or_false] at t
  rcases t with rfl|rfl
  ·exact wpOp_mono (λy v z=>⟨z.1,pF s u r _ y v f z.1 z.2⟩) h.1
  ·exact wpOp_mono (λy v z=>⟨z.1,by
    have:=pF s u q _ y v d z.1 z.2;rw[<-g] at this;exact this⟩) h.2
def mX{id:Nat}(S:World->Prop)(t:Tr)(x:P.follows .mixedOrders=true)
 (z:(Region.noSelect ops && decide (t.len=ops.size) && Ms .any ops t (Array.replicate ops.size false))=true)
 (y:S w.drew) (h:qn P ops (Calm Q) S t a w.drew):(Code.region id ops true).wp P Q a w:=by
 simp only[bQ,a_] at z;have H:=pF (Q:=Calm Q) z.1.1 (λ_ _ _ h=>h) t _ a _ z.2 y h
 rw[z.1.2] at H;exact ft Calm.imp (wp_region_any x (wpAny_of_held _ _ _ _ H))
def ir(s:ops[i]?=some o)(q:Region.wanted o (yielded ops a.tmps)=true)
 (h:∀R:Act->Prop,(∀z,qn P ops Q S r z w->R z)->∃v,(∀z,S z->nE v z ((execOp a.eval o).run P z))/\R (a.put o.dst v)):qn P ops Q S (.rd i r) a w:=by
 obtain⟨v,u,t⟩:=h _ (λ_ h=>h)
 refine⟨o,v,s,.inl ⟨q,λz x=>?_⟩,t⟩
 have y:=u z x;generalize (execOp a.eval o).run P z=x at *
 cases x with
 | ok n w''=>obtain⟨rfl,rfl⟩:=y;rfl
 | halt x w''=>exact y.elim
def jq(x:ops[i]?=some o)(v:Region.wanted o (yielded ops a.tmps)=true)
 (h:∀K:Act->World->Prop,(∀y z,S z->qn P ops Q S r y z->K y z)->o.wp P a w K Q):qn P ops Q S (.ef i r) a w:=by
 unfold qn wpOp;simp only[x,v,if_true];exact .inl (h _ λ_ _ z y=>⟨z,y⟩)
def nS{j:Nat}{q:Tr}{o2:Oper}(v:ops[i]?=some o)(t:Region.wanted o (yielded ops a.tmps)=true)(u:ops[j]?=some o2)(s:Region.wanted o2 (yielded ops a.tmps)=true)
 (h:∀K:Act->World->Prop,(∀y z,S z->qn P ops Q S r y z->K y z)->o.wp P a w K Q)
 (x:∀K:Act->World->Prop,(∀y z,S z->qn P ops Q S q y z->K y z)->o2.wp P a w K Q):qn P ops Q S (.two i j r q) a w:=by
 unfold qn wpOp;simp only[v,t,u,s,if_true];exact⟨.inl (h _ λ_ _ z x=>⟨z,x⟩),.inl (x _ λ_ _ z x=>⟨z,x⟩)⟩
def kP(h:Q .normal a w):qn P ops (Calm Q) S .nil a w:=h
end
namespace D
variable{sp:i9}{i k o0 vb wb x y:Nat}{S:Nat->Js}{X Y:Nat->Nat}{Ow:Nat->Ft}{W w:World}{cv:Value}{c:Js}{l:List wF}{F G:Ft}
def Sb{j:Nat}{B:List Int}(z c:Nat)(t:Bool)(v:Int)(oks:oU sp)(hsm:sp.small)(s:o0<=w.heap.size)(u:lR sp o0 S S X Y Ow wb vb w)
 (H:(t=false/\i=0/\j=1)\/(t=true/\i=1/\j=0)) (hkd:z<=255) (hc:c<18446744073709551616) (v0:-9223372036854775808<=v) (v1:v<=9223372036854775807) (f:Lt o0 w cv B) (d:K.QK B) :
 ar Oe 68 #[.slice (some ⟨wb,0,none⟩) 2 2,.slice (some ⟨vb,0,none⟩) 2 2,.agg #[.int .u8 z,.bool t,.int .i64 v,.int .u64 c,cv]] w λe V=>e=.returned (.bool true)/\∃y,lR sp o0 (NZ sp ⟨z,t,v,c,B⟩ S) (NZ sp ⟨z,t,v,c,B⟩ S) X Y y wb vb V/\q9 Ow y w V:=by
 obtain⟨g,r,rfl,_,_,_⟩:=f.rd.form;have b:i<2:=aa
 have n:j<2:=aa
 have Qe:Hid (∀y,vC sp ⟨z,t,v,c,B⟩ (S i) (S j)=y->Bu S i y=NZ sp ⟨z,t,v,c,B⟩ S):=ay (λy e=>by
  subst e;unfold NZ NX
  rcases H with⟨rfl,rfl,rfl⟩|⟨rfl,rfl,rfl⟩<;>rfl)
 have Hz:Hid (je sp (vC sp ⟨z,t,v,c,B⟩ (S i) (S j))):=ay (NY hsm ⟨by show(0:Int)<=(z:Int);omega,by show(z:Int)<=255;omega,v0,v1,by show(0:Int)<=(c:Int);omega,by show(c:Int)<18446744073709551616;omega,d.2⟩ (u.ok i b) (u.ok j n))
 have U:aq w (w.alloc (.cells #[.int .u8 z,.bool t,.int .i64 v,.int .u64 c,(.slice g (ao B) r)] 141)):=(aC _ _).alloc (aD _) _;have T:(w.alloc (.cells #[.int .u8 z,.bool t,.int .i64 v,.int .u64 c,(.slice g (ao B) r)] 141)).heap.size=w.heap.size+1:=ad
 have y:=gN.new w 141 #[.int .u8 z,.bool t,.int .i64 v,.int .u64 c,(.slice g (ao B) r)];have x:=u.keep U;have p:=f.keep s (U.mono s);have q:∀a,¬Ow a w.heap.size:=λa e=>by have:=(u.low a _ e).2;omega
 have O:=x.cw i b;have P:=x.cw j n;have Q:=x.cv i b;have R:=x.cv j n;have hmod:((z:Int) % 7)=((z % 7:Nat):Int):=aa
 have hji:(1:Int) - (i:Int)=(j:Int):=aa
 have YF:(i:Int)<2:=aa
 have YG:(j:Int)<2:=aa
 have m:=ay U;have VU:=ay q;have J:=ay x;have I:=ay p;have SE:=ay s;have QO:=ay d;have M:=ay T;clear u x f p s d U q T
 go_in
 go_upto_region 1 with fail;obtain⟨u,L⟩:=au (w.alloc (.cells #[.int .u8 z,.bool t,.int .i64 v,.int .u64 c,(.slice g (ao B) r)] 141));rw[L] at m J I M O P Q R y |-;obtain⟨f,d⟩:=au (w.heap.size);have VV:=ay d;rw[d] at y |-;have p:=y.k0;have T:=y.k1;have q:=y.k2;have s:=y.k3;have x:=y.k4;have U:=y.lt;have N:Hid (jL wb vb f i j (X i) (X j) (Y i) (Y j) z c t v (.slice g (ao B) r) u):=ay ⟨O,P,Q,R,p,T,q,s,x⟩;clear L d p q s x O P Q R y
 go_upto_if 11 with(fail)
 go_cut [7] (λx s=>x=.int .i64 (i:Int)/\u=s)
 case first=>
  rcases H with⟨rfl,rfl,rfl⟩|⟨rfl,rfl,rfl⟩
  ·go_wp2_with fail
   go_meet
   exact⟨rfl,rfl⟩
  ·go_wp2_with fail
   go_meet
   exact⟨rfl,rfl⟩
 case rest=>
 obtain⟨rfl,rfl⟩:=hcut;clear T H;have A:Hid (∀(s:World) (Q T:Nat) (H:Ft),aq u s->jB (.pointer (some ⟨Q,0,none⟩)) B 0 H s->iM o0 (.pointer (some ⟨T,0,none⟩)) B 0 (λk=>k=T) s->(∀k,H k->u.heap.size<=k)->u.heap.size<=T->(∀k,H k->k≠T) ->
  Hid (jB (.pointer (some ⟨Q,0,none⟩)) B 0 H s)/\Hid (q_ sp o0 S S X Y Ow Ow wb vb f B (.pointer (some ⟨T,0,none⟩)) H (λk=>k=T) w s)/\Hid (jL wb vb f i j (X i) (X j) (Y i) (Y j) z c t v (.slice g (ao B) r) s)):=ay (λs Q T H y O d F C E=>by
  have G:=VV.o;have h:=M.o;have L:=SE.o;have q:=J.o.low;have P:=O.low;have R:=d.low T rfl;refine⟨ay O,ay ⟨J.o.keep y,(q9.refl m.o).keep y,λk e=>?_,λk e=>?_,λk e p=>E k e p,d,⟨by omega,by have:=y.size;omega,λa e=>VU.o a (by rw[G];exact e)⟩,L⟩,ay ?_⟩
  ·have D:=F k e;have p:=P k e
   exact⟨by omega,p,λa W=>by have:=(q a k W).2;omega⟩
  ·rw[show k=T from e]
   exact⟨by omega,R,λa W=>by have:=(q a _ W).2;omega⟩
  ·exact N.o.same (λk p=>y.block k (by
    simp only[aS,cQ,or_false] at p
    rcases p with rfl|rfl|rfl
    ·exact(q 4 _ J.o.rw).2
    ·exact(q 4 _ J.o.rv).2
    ·exact U)))
 have P:Hid (∀s,aq u s->Lt o0 s (.slice g (ao B) r) B):=ay (λs y=>I.o.keep (by have:=M.o;have:=SE.o;omega) (y.mono (by have:=M.o;have:=SE.o;omega)))
 have ho0:o0<=u.heap.size:=by have:=M.o;have:=SE.o;omega
 clear I
 go_upto_region 4 with fail
 go_cut [8,9] (λx y s=>∃(Q T:Nat) (H:Ft),x=.pointer (some ⟨Q,0,none⟩)/\y=.pointer (some ⟨T,0,none⟩)/\Hid (jB (.pointer (some ⟨Q,0,none⟩)) B 0 H s)/\Hid (q_ sp o0 S S X Y Ow Ow wb vb f B (.pointer (some ⟨T,0,none⟩)) H (λk=>k=T) w s)/\Hid (jL wb vb f i j (X i) (X j) (Y i) (Y j) z c t v (.slice g (ao B) r) s))
 case first=>
  refine mX (λV=>aq u V) (.rd 0 (.rd 1 (.rd 3 (.rd 4 (.rd 5 (.two 2 6 (.rd 7 (.ef 6 (.rd 8 .nil))) (.ef 2 (.rd 7 (.rd 8 .nil))))))))) (by kernel_rfl) (by kernel_rfl) ((aC _ _).drew) ?_
  iterate 5
   refine ir ak  ak (λR y=>?_)
   apply br
   refine⟨λV d=>?_,?_⟩
   ·have I:=(d.cell (p:=⟨f,4,none⟩) U).trans N.o.o4
    exact Qv
   go_simp;refine y _ ?_;clear y R
  refine nS ak  ak  ak  ak (λK x=>?_) (λK x=>?_)
  go_simp;refine(xV (.slice g (ao B) r) B _ (P.o _ (aC _ u).drew).rd QO.o).mono ?_
  rintro e s ⟨Q,rfl,⟨H,O,F⟩,E⟩;have q:aq u s:=(aC _ u).drew.trans E;refine x _ _ (q) ?_
  clear x K
  iterate 1
   refine ir ak  ak (λR y=>?_)
   apply br
   refine⟨λV d=>?_,?_⟩
   ·have I:=(d.cell (p:=⟨f,4,none⟩) U).trans N.o.o4
    exact Qv
   go_simp;refine y _ ?_;clear y R
  refine jq ak  ak (λK x=>?_)
  go_simp;refine x _ _ ((q.alloc q.size _)) ?_
  clear x K
  iterate 1
   refine ir ak  ak (λR y=>?_)
   apply br
   refine⟨λV d=>?_,?_⟩
   ·have I:=(d.cell (p:=⟨f,4,none⟩) U).trans N.o.o4
    exact Qv
   go_simp;refine y _ ?_;clear y R
  refine kP ?_
  rotate_left
  go_simp;have L:aq u (u.drew.alloc (.cells #[(.slice g (ao B) r),.int .i64 0] 57)):=(aC _ u).drew.alloc (aD _) _;refine x _ _ (L) ?_
  clear x K;refine jq ak  ak (λK x=>?_)
  go_simp;refine(xV (.slice g (ao B) r) B _ (P.o _ L).rd QO.o).mono ?_
  rintro e s ⟨Q,rfl,⟨H,O,F⟩,E⟩;have q:aq u s:=L.trans (E.mono L.size);refine x _ _ (q) ?_
  clear x K
  iterate 2
   refine ir ak  ak (λR y=>?_)
   apply br
   refine⟨λV d=>?_,?_⟩
   ·have I:=(d.cell (p:=⟨f,4,none⟩) U).trans N.o.o4
    exact Qv
   go_simp;refine y _ ?_;clear y R
  refine kP ?_
  ·have D:=vE (o:=o0) (P.o u.drew (aC _ u).drew).rd QO.o ho0 (P.o u.drew (aC _ u).drew).own
   have G:(u.drew.alloc (.cells #[(.slice g (ao B) r),.int .i64 0] 57)).heap.size=u.heap.size+1:=ad
   have C:=D.keep aa E
   have I:∀k,H k->u.heap.size+1<=k:=λk e=>by have:=F k e;omega
   obtain⟨R,p,y⟩:=A.o s Q u.heap.size H q O C (λk e=>by have:=I k e;omega) (aD _) (λk e=>by have:=I k e;omega)
   go_wp2_with fail
   go_meet
   exact⟨Q,u.heap.size,H,rfl,rfl,R,p,y⟩
  ·have G:=q.size
   have D:=vE (o:=o0) (P.o s q).rd QO.o aa (P.o s q).own
   have I:aq s (s.alloc (.cells #[(.slice g (ao B) r),.int .i64 0] 57)):=(aC _ _).alloc (aD _) _;obtain⟨R,p,y⟩:=A.o _ Q s.heap.size H (q.trans (I.mono G)) (O.keep I) D (λk e=>F k e) G (λk e=>by have:=O.low k e;omega)
   go_wp2_with fail
   go_meet
   exact⟨Q,s.heap.size,H,rfl,rfl,R,p,y⟩
 case rest=>
 obtain⟨Q,T,H,rfl,rfl,y,l,VW⟩:=hcut;have O:Hid (q_ sp o0 S S X Y Ow Ow wb vb f B (.pointer (some ⟨T,0,none⟩)) H (λk=>k=T) w wc.drew):=ay (l.o.keep (aC _ _).drew)
 have Qf:Hid (jB (.pointer (some ⟨Q,0,none⟩)) B 0 H wc.drew):=ay (y.o.keep (aC _ _).drew);have E:Hid (jL wb vb f i j (X i) (X j) (Y i) (Y j) z c t v (.slice g (ao B) r) wc.drew):=ay (VW.o.same (λ_ _=>rfl))
 have b0:=VW.o.o0;clear y P J m M VU N U VV A;have F:=ay (l.o.du.ok i b);have Sc:=ay (l.o.du.ok j n);have UL:Hid (∀k,H k->¬Ow i k/\¬Ow j k):=ay (λk e=>⟨(l.o.hH k e).2.2 i,(l.o.hH k e).2.2 j⟩)
 obtain⟨m,U⟩:=au (z % 7);have ZY:m<7:=aa
 rw[U] at hmod;have UM:Hid ((z:Int) % 7=(m:Int)):=ay hmod;clear U
 by_cases e5:m=5
 ·subst e5
  have G:Hid (vC sp ⟨z,t,v,c,B⟩ (S i) (S j)=(jK sp B (S j) (S i) 0).1):=ay (by
   unfold vC;show(if (z:Int) % 7=5 then _ else _)=_
   rw[UM.o];rw[aH ab])
  have I:Hid (je sp ((jK sp B (S j) (S i) 0).1)):=ay (by rw[<-G.o];exact Hz.o)
  have J:=ay (FM wc.drew (O.o.du.win i b) (O.o.du.win j n) (.inr (λk e h=>by have:=O.o.du.uniq _ _ k e h;omega)) F.o Sc.o Qf.o (λq _ e=>by cases e) (λk e=>(UL.o k e).1))
  obtain⟨er,R⟩:=au (qm sp (S i) (S j));rw[R] at J;have A:=ay R;have o:Hid (IntKind.i64.wrap (j:Int)=(j:Int)):=ay (cy _ aa)
  clear R
  go_upto_region 7 with fail;clear b0;have Z:=ay (λ(V:World) (d:jL wb vb f i j (X i) (X j) (Y i) (Y j) z c t v (.slice g (ao B) r) V)=>(aF (o.o) (aF (d.p0) (aF (d.p1) (aF (d.q0) (d.q1))))))
  refine i' (λV=>jL wb vb f i j (X i) (X j) (Y i) (Y j) z c t v (.slice g (ao B) r) V) (gW 0 10 (gW 11 10 (ib 10 (ib 21 (gW 22 2 []))))) (E.o) ?_
  iterate 20 refine hC ?_
  refine iy λK x=>?_
  go_simp;refine(J.o).mono ?_
  rintro e L U;obtain⟨rfl,p,P,s⟩:=U;have y:=ay (O.o.BI b p I.o s);have M:Hid (jL wb vb f i j (X i) (X j) (Y i) (Y j) z c t v (.slice g (ao B) r) L):=ay (E.o.same (O.o.Lw b s));clear p P s;refine x _ _ (M.o) ?_
  clear x K;refine iy λK x=>?_
  go_simp;refine(BH L (y.o.du.ref i b) (y.o.du.ref j n) (.inr (λk e h=>by have:=y.o.du.uniq _ _ k e h;omega)) F.o Sc.o y.o.rc (λk e=>(y.o.hR k e).2.2 _) (by have:=y.o.got.2.size;have:=y.o.bz;omega) (λk e=>(y.o.du.low _ k e).1)).mono ?_
  rintro e C U;obtain⟨rfl,p,P,s⟩:=U;rw[A.o];have N:=ay (y.o.BJ b p I.o s);have D:Hid (jL wb vb f i j (X i) (X j) (Y i) (Y j) z c t v (.slice g (ao B) r) C):=ay (M.o.same (y.o.Lx b s));clear p P s;refine x _ _ (D.o) ?_
  clear x K
  iterate 2 refine hC ?_
  refine gM ?_
  try refine gQ ?_
  go_wp2;refine an ?_
  rw[<-Qe.o _ G.o];exact⟨by simp,_,N.o.1,N.o.2⟩
 by_cases W:m=6
 ·subst W
  have G:Hid (vC sp ⟨z,t,v,c,B⟩ (S i) (S j)=(jK sp B (S i) (S i) 0).1):=ay (by
   unfold vC;show(if (z:Int) % 7=5 then _ else _)=_
   rw[UM.o];rw[aG ab,aH ab])
  have I:Hid (je sp ((jK sp B (S i) (S i) 0).1)):=ay (by rw[<-G.o];exact Hz.o)
  have J:=ay (FM wc.drew (O.o.du.win i b) (O.o.du.win i b) (.inl ⟨rfl,rfl⟩) F.o F.o Qf.o (λq _ e=>by cases e) (λk e=>(UL.o k e).1))
  obtain⟨er,R⟩:=au (qm sp (S i) (S i));rw[R] at J;have A:=ay R;have o:Hid (IntKind.i64.wrap (j:Int)=(j:Int)):=ay (cy _ aa)
  clear R
  go_upto_region 9 with fail;clear b0;have Z:=ay (λ(V:World) (d:jL wb vb f i j (X i) (X j) (Y i) (Y j) z c t v (.slice g (ao B) r) V)=>(aF (o.o) (aF (d.p0) (aF (d.p1) (aF (d.q0) (d.q1))))))
  refine i' (λV=>jL wb vb f i j (X i) (X j) (Y i) (Y j) z c t v (.slice g (ao B) r) V) (gW 0 9 (gW 10 9 (ib 9 (ib 19 (gW 20 2 []))))) (E.o) ?_
  iterate 18 refine hC ?_
  refine iy λK x=>?_
  go_simp;refine(J.o).mono ?_
  rintro e L U;obtain⟨rfl,p,P,s⟩:=U;have y:=ay (O.o.BI b p I.o s);have M:Hid (jL wb vb f i j (X i) (X j) (Y i) (Y j) z c t v (.slice g (ao B) r) L):=ay (E.o.same (O.o.Lw b s));clear p P s;refine x _ _ (M.o) ?_
  clear x K;refine iy λK x=>?_
  go_simp;refine(BH L (y.o.du.ref i b) (y.o.du.ref i b) (.inl ⟨rfl,rfl⟩) F.o F.o y.o.rc (λk e=>(y.o.hR k e).2.2 _) (by have:=y.o.got.2.size;have:=y.o.bz;omega) (λk e=>(y.o.du.low _ k e).1)).mono ?_
  rintro e C U;obtain⟨rfl,p,P,s⟩:=U;rw[A.o];have N:=ay (y.o.BJ b p I.o s);have D:Hid (jL wb vb f i j (X i) (X j) (Y i) (Y j) z c t v (.slice g (ao B) r) C):=ay (M.o.same (y.o.Lx b s));clear p P s;refine x _ _ (D.o) ?_
  clear x K
  iterate 2 refine hC ?_
  refine gM ?_
  try refine gQ ?_
  go_wp2;refine an ?_
  rw[<-Qe.o _ G.o];exact⟨by simp,_,N.o.1,N.o.2⟩
 ·have G:Hid (vC sp ⟨z,t,v,c,B⟩ (S i) (S j)=(kl sp B v c (S i) 0).1):=ay (by
   unfold vC;show(if (z:Int) % 7=5 then _ else _)=_
   rw[UM.o,aG aa,aG aa])
  have I:Hid (je sp (kl sp B v c (S i) 0).1):=ay (by rw[<-G.o];exact Hz.o)
  have J:=ay (Qd v c wc.drew (O.o.du.win i b) F.o Qf.o (λ_ e=>by cases e) (λk e=>(UL.o k e).1) v0 v1 aa  aa)
  obtain⟨er,R⟩:=au (mW sp (S i) v c);rw[R] at J;have A:=ay R;have o:¬((m:Int)=5):=aa
  have q:¬((m:Int)=6):=aa
  clear R
  go_upto_region 10 with fail;clear b0;have Z:=ay (λ(V:World) (d:jL wb vb f i j (X i) (X j) (Y i) (Y j) z c t v (.slice g (ao B) r) V)=>(aF (d.p0) (aF (d.q0) (aF (d.o2) (d.o3)))))
  refine i' (λV=>jL wb vb f i j (X i) (X j) (Y i) (Y j) z c t v (.slice g (ao B) r) V) (gW 0 9 (gW 10 9 (ib 9 (ib 19 (gW 20 2 []))))) (E.o) ?_
  iterate 18 refine hC ?_
  refine iy λK x=>?_
  go_simp;refine(J.o).mono ?_
  rintro e L U;obtain⟨rfl,p,P,s⟩:=U;have y:=ay (O.o.BI b p I.o s);have M:Hid (jL wb vb f i j (X i) (X j) (Y i) (Y j) z c t v (.slice g (ao B) r) L):=ay (E.o.same (O.o.Lw b s));clear p P s;refine x _ _ (M.o) ?_
  clear x K;refine iy λK x=>?_
  go_simp;refine(N0 v c L (y.o.du.ref i b) F.o y.o.rc (λk e=>(y.o.hR k e).2.2 _) (by have:=y.o.got.2.size;have:=y.o.bz;omega) (λk e=>(y.o.du.low _ k e).1) v0 v1 aa  aa).mono ?_
  rintro e C U;obtain⟨rfl,p,P,s⟩:=U;rw[A.o];have N:=ay (y.o.BJ b p I.o s);have D:Hid (jL wb vb f i j (X i) (X j) (Y i) (Y j) z c t v (.slice g (ao B) r) C):=ay (M.o.same (y.o.Lx b s));clear p P s;refine x _ _ (D.o) ?_
  clear x K
  iterate 2 refine hC ?_
  refine gM ?_
  try refine gQ ?_
  go_wp2;refine an ?_
  rw[<-Qe.o _ G.o];exact⟨by simp,_,N.o.1,N.o.2⟩
def Ly(o:wF)(g:oU sp)(p:sp.small)(r:o0<=w.heap.size)(s:lR sp o0 S S X Y Ow wb vb w)(c:o.fits)(y:Lt o0 w cv o.B)(d:ao o.B<=200) :
 ar Oe 68 #[.slice (some ⟨wb,0,none⟩) 2 2,.slice (some ⟨vb,0,none⟩) 2 2,.agg #[.int .u8 o.kd,.bool o.who,.int .i64 o.v,.int .u64 o.n,cv]] w λe f=>e=.returned (.bool true)/\∃z,lR sp o0 (NZ sp o S) (NZ sp o S) X Y z wb vb f/\q9 Ow z w f:=by
 obtain⟨z,T,v,n,B⟩:=o;obtain⟨b,a,u,t,V,U,x⟩:=c;simp only at b a u t V U x y d |-;obtain⟨z,rfl⟩:∃q:Nat,z=(q:Int):=⟨z.toNat,aa⟩
 obtain⟨n,rfl⟩:∃q:Nat,n=(q:Int):=⟨n.toNat,aa⟩
 cases T with
 | false=>exact Sb (i:=0) (j:=1) z n false v g p r s (.inl ⟨rfl,rfl,rfl⟩) aa  aa u t y ⟨by omega,x⟩
 | true=>exact Sb (i:=1) (j:=0) z n true v g p r s (.inr ⟨rfl,rfl,rfl⟩) aa  aa u t y ⟨by omega,x⟩
def q9.below{UK:Nat->Ft}{w':World}{b:Nat}(h:q9 Ow UK w w')(z:∀a k,Ow a k->b<=k)(y:b<=w.heap.size):Below b w w':=h.2.below (λk ⟨a,e⟩=>z a k e) y
structure Qg(W:World)(sp:i9)(S:Nat->Js)(X Y:Nat->Nat)(wb vb:Nat)(w:World):Prop where
 duo:∃Ow,lR sp W.heap.size S S X Y Ow wb vb w
 below:aq W w
def Qg.act(h:Qg W sp S X Y wb vb w)(o:wF)(q:oU sp)(r:sp.small)(s:o.fits)(u:Lt W.heap.size w cv o.B)(t:ao o.B<=200) :
 ar Oe 68 #[.slice (some ⟨wb,0,none⟩) 2 2,.slice (some ⟨vb,0,none⟩) 2 2,.agg #[.int .u8 o.kd,.bool o.who,.int .i64 o.v,.int .u64 o.n,cv]] w λe y=>e=.returned (.bool true)/\Qg W sp (NZ sp o S) X Y wb vb y:=by
 obtain⟨⟨p,d⟩,z⟩:=h;refine(Ly o q r z.size d s u t).mono ?_
 rintro e y ⟨rfl,x,v,g⟩;exact⟨rfl,⟨x,v⟩,z.trans (g.below (λa k e=>(d.low a k e).1) z.size)⟩
def Qg.win(h:Qg W sp S X Y wb vb w)(z:i<2) :
 (∃F,iX sp (S i) (X i) F w)/\(∃F,iz sp (S i) (Y i) F w)/\je sp (S i)/\w.cell? ⟨wb,i,none⟩=some (.pointer (some ⟨X i,0,none⟩))/\w.cell? ⟨vb,i,none⟩=some (.pointer (some ⟨Y i,0,none⟩))/\wb<w.heap.size/\vb<w.heap.size:=by
 obtain⟨⟨y,d⟩,x⟩:=h;exact⟨⟨_,d.win i z⟩,⟨_,d.ref i z⟩,d.ok i z,d.cw i z,d.cv i z,(d.low 4 _ d.rw).2,(d.low 4 _ d.rv).2⟩
def vK.act{A:Option Addr}{c:Nat}(h:vK o0 w (.slice A (ao l) c) l)(f:i<ao l):∃g z y,A=some ⟨g,z,none⟩/\g<o0/\Lt o0 w y l[i].B /\
 w.cell? ⟨g,z+i * 5,none⟩=some (.int .u8 l[i].kd)/\w.cell? ⟨g,z+i * 5+1,none⟩=some (.bool l[i].who)/\w.cell? ⟨g,z+i * 5+2,none⟩=some (.int .i64 l[i].v)/\w.cell? ⟨g,z+i * 5+3,none⟩=some (.int .u64 l[i].n)/\w.cell? ⟨g,z+i * 5+4,none⟩=some y:=by
 obtain⟨_,b,a,e,_,_,q⟩:=h;injection e with e1 e2 e3;subst e1;obtain⟨g,z,rfl,p,d⟩:=q aa
 obtain⟨y,x,v,u,t,s,r⟩:=d i f;exact⟨g,z,y,rfl,p,r,x,v,u,t,s⟩
def i9.form(z:i9):∃(t s u x y r:Int) (v:Bool),z.v=iv t s u x v y r/\z.cs=[.int .u8 t,.int .i64 s,.int .i64 u,.int .i64 x,.bool v,.int .i64 y,.int .i64 r]:=by
 cases z<;>exact⟨_,_,_,_,_,_,_,rfl,rfl⟩
def rU{kd lo hi dg ac sz:Int}{gr:Bool}(T:sp.v=iv kd lo hi dg gr ac sz)(v:sp.cs=[.int .u8 kd,.int .i64 lo,.int .i64 hi,.int .i64 dg,.bool gr,.int .i64 ac,.int .i64 sz])(w:World)(h:iX sp c x F w)(M:iz sp c y G w)(ok:je sp c) :
 ar Oe 17 #[.pointer (some ⟨x,0,none⟩),.pointer (some ⟨y,0,none⟩)] w (aw w (.bool true)):=by
 have P:=ay (λW (z:aq w W)=>FK W ((h_ sp c x).keep h z) ok)
 have D:=ay (λW (z:aq w W)=>Bw W ((h_ sp c x).keep h z) ok)
 have E:=ay (λW (z:aq w W)=>xY W ((iw sp c y).keep M z) ok)
 have C:=ay (λW (z:aq w W)=>rR W ((h_ sp c x).keep h z) ok)
 have O:=ay (λW (z:aq w W)=>Lv W ((iw sp c y).keep M z) ok)
 obtain⟨p,k,z,_⟩:=M;have V:=z.lt;rw[v] at z;have r:=z.cell 0;have g:=z.cell 1;have f:=z.cell 2;have d:=z.cell 3;have b:=z.cell 4;have a:=z.cell 5;have Y:=z.cell 6;simp only[b8,cZ,aA,az,aB] at r g f d b a Y;have X:=ay (aF r (aF g (aF f (aF d (aF b (aF a Y))))));rw[T] at P;unfold iv at P;obtain⟨tt,s⟩:=au (rQ sp c);obtain⟨W,U⟩:=au (km sp c);rw[s] at D E;rw[U] at C O;obtain⟨st,t⟩:=au (strOfNums W);have S:=ay t;clear h z T v ok s U t r g f d b a Y
 go_in
 go_upto_region 1 with fail;have Z:=ay (λu (v:(λu=>aq w u) u)=>(aF ((v.cell (p:=⟨y,0,none⟩) V).trans X.o.1) (aF ((v.cell (p:=⟨y,1,none⟩) V).trans X.o.2.1) (aF ((v.cell (p:=⟨y,2,none⟩) V).trans X.o.2.2.1) (aF ((v.cell (p:=⟨y,3,none⟩) V).trans X.o.2.2.2.1) (aF ((v.cell (p:=⟨y,4,none⟩) V).trans X.o.2.2.2.2.1) (aF ((v.cell (p:=⟨y,5,none⟩) V).trans X.o.2.2.2.2.2.1) ((v.cell (p:=⟨y,6,none⟩) V).trans X.o.2.2.2.2.2.2))))))))
 refine mX (λu=>aq w u) (.rd 0 (.rd 2 (.rd 3 (.rd 4 (.rd 5 (.ef 1 (.rd 6 (.rd 7 (.rd 8 (.rd 10 (.ef 9 (.ef 11 (.rd 12 (.rd 13 (.rd 14 (.rd 15 (.rd 18 (.ef 16 (.two 17 19 (.ef 19 (.ef 20 (.rd 21 (.rd 22 (.rd 23 .nil))))) (.two 17 20 (.ef 20 (.rd 21 (.rd 22 (.rd 23 .nil)))) (.ef 17 (.rd 21 (.rd 22 (.rd 23 .nil)))))))))))))))))))))))) (by kernel_rfl) (by kernel_rfl) ((aC _ _).drew) ?_
 iterate 5
  refine ir ak  ak (λR t=>?_)
  apply br
  refine⟨λu v=>?_,?_⟩
  ·obtain⟨r,g,f,d,b,a,Y⟩:=Z.o u v
   exact Qv
  go_simp;refine t _ ?_;clear t R
 refine jq ak  ak (λK z=>?_)
 go_simp;refine(P.o _ (aC _ _).drew).mono ?_
 rintro e J ⟨rfl,m⟩;have U:aq w J:=(aC _ _).drew.trans m;refine z _ _ (U) ?_
 clear z K
 iterate 4
  refine ir ak  ak (λR t=>?_)
  apply br
  refine⟨λu v=>?_,?_⟩
  ·obtain⟨r,g,f,d,b,a,Y⟩:=Z.o u v
   exact Qv
  go_simp;refine t _ ?_;clear t R
 refine jq ak  ak (λK z=>?_)
 go_simp;refine(D.o J U).mono ?_
 rintro e w2 ⟨rfl,rfl⟩;refine z _ _ (U) ?_
 clear z K;refine jq ak  ak (λK z=>?_)
 go_simp;refine(E.o J U).mono ?_
 rintro e A ⟨rfl,o⟩;have T:aq w A:=U.trans (o.mono U.size);refine z _ _ (T) ?_
 clear z K
 iterate 5
  refine ir ak  ak (λR t=>?_)
  apply br
  refine⟨λu v=>?_,?_⟩
  ·obtain⟨r,g,f,d,b,a,Y⟩:=Z.o u v
   exact Qv
  go_simp;refine t _ ?_;clear t R
 refine jq ak  ak (λK z=>?_)
 go_simp;refine(C.o A T).mono ?_
 rintro e I ⟨h,rfl,B,n⟩;have q:aq w I:=T.trans (n.mono T.size);have j:=sK (gT.rd B);rw[S.o] at j;refine z _ _ (q) ?_
 clear z K;refine nS ak  ak  ak  ak (λK z=>?_) (λK z=>?_)
 go_simp;refine z _ _ (q) ?_
 clear z K;refine jq ak  ak (λK z=>?_)
 go_simp;refine(O.o I q).mono ?_
 rintro e H ⟨i,rfl,L,Q⟩;have s:aq w H:=q.trans (Q.mono q.size);have N:=sK (gT.rd L);rw[S.o] at N;refine z _ _ (s) ?_
 clear z K;refine jq ak  ak (λK z=>?_)
 go_simp;refine z _ _ (s) ?_
 clear z K
 iterate 3
  refine ir ak  ak (λR t=>?_)
  apply br
  refine⟨λu v=>?_,?_⟩
  ·obtain⟨r,g,f,d,b,a,Y⟩:=Z.o u v
   exact Qv
  go_simp;refine t _ ?_;clear t R
 refine kP ?_
 rotate_left
 go_simp;refine(O.o I q).mono ?_
 rintro e H ⟨i,rfl,L,Q⟩;have s:aq w H:=q.trans (Q.mono q.size);have N:=sK (gT.rd L);rw[S.o] at N;have l:=sK (jf.keep (gT.rd B) Q);rw[S.o] at l;refine z _ _ (s) ?_
 clear z K;refine nS ak  ak  ak  ak (λK z=>?_) (λK z=>?_)
 go_simp;refine z _ _ (s) ?_
 clear z K;refine jq ak  ak (λK z=>?_)
 go_simp;refine z _ _ (s) ?_
 clear z K
 iterate 3
  refine ir ak  ak (λR t=>?_)
  apply br
  refine⟨λu v=>?_,?_⟩
  ·obtain⟨r,g,f,d,b,a,Y⟩:=Z.o u v
   exact Qv
  go_simp;refine t _ ?_;clear t R
 refine kP ?_
 rotate_left
 go_simp;refine z _ _ (s) ?_
 clear z K;refine jq ak  ak (λK z=>?_)
 go_simp;refine z _ _ (s) ?_
 clear z K
 iterate 3
  refine ir ak  ak (λR t=>?_)
  apply br
  refine⟨λu v=>?_,?_⟩
  ·obtain⟨r,g,f,d,b,a,Y⟩:=Z.o u v
   exact Qv
  go_simp;refine t _ ?_;clear t R
 refine kP ?_
 all_goals
  try refine gQ ?_
  go_wp2;refine an ?_
  exact⟨by simp,s⟩
def DY(w:World)(h:iX sp c x F w)(z:iz sp c y G w)(ok:je sp c) :
 ar Oe 17 #[.pointer (some ⟨x,0,none⟩),.pointer (some ⟨y,0,none⟩)] w (aw w (.bool true)):=by
 cases sp with
 | h lo hi dg u m gr=>exact rU rfl rfl w h z ok
 | d a m=>exact rU rfl rfl w h z ok
 | t d=>exact rU rfl rfl w h z ok
 | k q=>exact rU rfl rfl w h z ok
def BL{v:Value}(w:World)(h:vK o0 w v l) :
 ar Oe 24 #[v] w λe T=>(∃g:Bool,e=.returned (.bool g)/\(g=false->∀i,i<100->(Y:i<ao l)->ao l[i].B<=200))/\aq w T:=by
 obtain⟨_,A,c,rfl,N,M,z⟩:=h;have p:=ay z;clear z
 go_in
 go_wp2
 go_loopg [3] (ao l) (λq z wr=>∃i:Nat,q=ao l - i/\i<=ao l/\i<=100/\z=.int .i64 (i:Int)/\w=wr/\Hid (∀j,j<i->(r:j<ao l)->ao l[j].B<=200))
 exact⟨0,aa,aa,aa,rfl,rfl,ay (λj r=>by omega)⟩
 case round=>
  obtain⟨i,z,Y,K,rfl,rfl,y⟩:=hrel;have f:=ay z;clear z
  by_cases V:i<ao l
  ·have X:(i:Int)<(ao l:Int):=aa
   by_cases O:i<100
   ·have a:(i:Int)<100:=aa
    obtain⟨g,U,rfl,L,t⟩:=p.o aa
    obtain⟨P,_,_,_,_,z,s⟩:=t i V;obtain⟨S,Q,rfl,b,R,_⟩:=s.rd.form;obtain⟨x,u⟩:=au (ao l[i].B);rw[u] at z b;have d:=ay u;have q:=ay z;clear t s u z;have z:w.cell? ⟨g,U+i * 5+4,none⟩=_:=q.o
    by_cases s:200<x
    ·have u:(x:Int) > 200:=aa
     go_wp2;refine an ?_
     exact⟨⟨true,rfl,λe=>by cases e⟩,aC _ _⟩
    ·have u:¬((x:Int) > 200):=aa
     go_wp2
     go_roundg (ao l - (i+1))
     case measure=>have:=f.o;omega
     case rel=>exact⟨i+1,rfl,aa,aa,ag,rfl,ay (λj r t=>by
      by_cases e:j=i
      ·subst e;rw[d.o];omega
      ·exact y.o j aa t)⟩
   ·have a:¬((i:Int)<100):=aa
    go_wp2;refine an ?_
    first
     | exact⟨⟨false,rfl,λ_ j x z=>y.o j aa z⟩,aC _ _⟩
     | exact⟨.inl ⟨rfl,λj x z=>y.o j aa z⟩,aC _ _⟩
  ·have X:¬((i:Int)<(ao l:Int)):=aa
   go_wp2;refine an ?_
   first
    | exact⟨⟨false,rfl,λ_ j x z=>y.o j aa z⟩,aC _ _⟩
    | exact⟨.inl ⟨rfl,λj x z=>y.o j aa z⟩,aC _ _⟩
def UN(c:Int):Int:=if bits .and .u32 c 1=1 then bits .xor .u32 (c / 2) 3988292384 else c / 2
def Sd:Nat->Int->Int
 | 0,c=>c
 | k+1,c=>UN (Sd k c)
def Mt(i:Int):Int:=Sd 8 i
def FN(c:Int):List Int->Int
 | []=>c
 | x::l=>FN (bits .xor .u32 (c / 256) (Mt (bits .xor .u8 (c % 256) x))) l
def Iy(l:List Int):Int:=bits .xor .u32 4294967295 (FN (bits .xor .u32 4294967295 0) l)
def lS(z:BinOp)(a b:Int):0<=bits z .u32 a b/\bits z .u32 a b<4294967296:=by
 unfold bits;simp only[IntKind.wrap_u32];omega
def DZ(z:BinOp)(a b:Int):0<=bits z .u8 a b/\bits z .u8 a b<256:=by
 unfold bits;simp only[show ∀n:Int,IntKind.u8.wrap n=n % 256 from λ_=>rfl]
 omega
def Lz:∀(l:List Int) {c:Int},0<=c->c<4294967296->0<=FN c l/\FN c l<4294967296
 | [],_,h0,h1=>⟨h0,h1⟩
 | _::l,_,_,_=>Lz l (lS _ _ _).1 (lS _ _ _).2
def BM:∀(l:List Int) (c x:Int),FN c (l++[x])=bits .xor .u32 (FN c l / 256) (Mt (bits .xor .u8 (FN c l % 256) x))
 | [],_,_=>rfl
 | y::l,c,x=>BM l _ x
def nT(k:Nat):List Int:=(List.range k).map (λi:Nat=>Mt (i:Int))++List.replicate (256 - k) 0
def xZ(h:k<=256):ao (nT k)=256:=by unfold nT;simp;omega
def Iz(h:k<256):(nT k).set k (Mt (k:Int))=nT (k+1):=by
 unfold nT;have e:List.replicate (256 - k) (0:Int)=0::List.replicate (256 - (k+1)) 0:=by
  rw[show 256 - k=(256 - (k+1))+1 by omega,ec]
 rw[e,List.set_append,aG ad,List.range_succ,eh,aO]
 simp
def LA(h:i<256):(nT 256)[i]?.getD 0=Mt (i:Int):=by
 unfold nT;rw[cO af]
 simp[h]
end D
end Go.Proofs.YtdicblkhpcphfaaGreat
