/- Parts. No condition. -/
import Derived.Test.YtdicblkhpcphfaaGreatPA10
set_option maxRecDepth 100000
set_option maxHeartbeats 0
set_option linter.all false
namespace Go.Proofs.YtdicblkhpcphfaaGreat
open Tryz Go.RowKit
open _root_.List renaming length→ao
open _root_.Go renaming Calls→ar
open Tryz renaming prog→Oe
namespace D
variable{w:World}{l:List Pr}{base c g j n:Nat}{F:Ft}{k:Int}
structure pn(l:List Pr):Prop where
 iJ:iE l
 pos:iu l
 key:∀p∈l,-1048576<=p.1/\p.1<=1048576
 tot:tot l<=4611686018427387904
 len:ao l<=100000
def EY(k:Int)(l:List Pr):Bool:=match l[kS k l]? with
 | some p=>p.1 == k
 | none=>false
def ln(g:Nat)(l:List Pr)(F:Ft)(w:World):Prop:=∃v,gN w g 381 #[v,.int .u64 (tot l)]/\gO il 0 w v l/\F g/\(∀k,v.ownBlock=some k->F k)/\∀k,F k->k<w.heap.size
def jl(g:Nat)(l:List Pr):lY (ln g l) where
 stay:=λ⟨v,x,u,z,y,t⟩ s r=>⟨v,(s g z).trans x,u.stay λk e=>s k (y k e),z,y,λk h=>aR (t k h) r⟩
 more:=λ⟨v,x,u,z,y,_⟩ h s=>⟨v,x,u,h g z,λk e=>h k (y k e),s⟩
 low:=λ⟨_,_,_,_,_,t⟩=>t
def qI(x n k:Int)(w:World)(y:-1048577<=x)(v:x<=1048577)(u:-1048577<=k)(t:k<=1048577) :
 ar Oe 380 #[.agg #[.int .i64 x,.int .u64 n],.int .i64 k] w (aw w (.int .i64 (x - k))):=by
 go_in
 go_wp2
 go_ret;exact⟨rfl,bw⟩
def j7{A:Option Addr}(h:jQ il w A l)(x:j<ao l):∃g z,A=some ⟨g,z,none⟩/\g<w.heap.size/\w.cell? ⟨g,z+j * 2,none⟩=some (.int .i64 l[j].1)/\w.cell? ⟨g,z+j * 2+1,none⟩=some (.int .u64 l[j].2):=by
 obtain⟨g,z,e,v,y⟩:=h aa
 exact⟨g,z,e,v,y j x 0 ab,y j x 1 ab⟩
def Af(v:Value)(k:Int)(l:List Pr)(w:World)(h:iA il w v l)(ok:pn l)(f:-1048577<=k)(d:k<=1048577) :
 ar Oe 379 #[v,.int .i64 k,.func (.func 380) #[] #[]] w (aw w (.tuple #[.int .i64 (kS k l:Nat),.bool (EY k l)])):=by
 obtain⟨A,c,rfl,_,_,z⟩:=h.form;have V:=ay z;have r:=ay ok;have I:=ok.len;clear h z ok
 go_in
 go_wp2
 go_loopg [9,10] (ao l) (λq x y wr=>∃i j:Nat,x=.int .i64 i/\y=.int .i64 j/\i<=j/\j<=ao l/\j - i<=q/\Hid (∀(t:Nat) (h:t<ao l),t<i->l[t].1<k)/\Hid (∀(t:Nat) (h:t<ao l),j<=t->k<=l[t].1)/\aq w wr)
 exact⟨0,ao l,rfl,rfl,aa,aa,aa,ay (λt h z=>absurd z aa),ay (λt h z=>absurd h aa),aC _ _⟩
 case round=>
  obtain⟨i,j,rfl,rfl,J,S,F,Y,X,y⟩:=hrel;have a:=y.size
  by_cases H:i<j
  ·have q:(i+j) / 2<ao l:=aa
   obtain⟨g,L,rfl,M,T,N⟩:=j7 (V.o.keep y) q;obtain⟨R,Q⟩:=r.o.key _ (aX q);have s:=bO.1 r.o.iJ;have b:Hid (∀t (h:t<ao l),t<(i+j) / 2->l[t].1<l[(i+j) / 2].1):=ay (λt h z=>s t _ h q z)
   have U:Hid (∀t (h:t<ao l),(i+j) / 2<=t->l[(i+j) / 2].1<=l[t].1):=ay (λt h z=>by
    rcases Nat.lt_or_eq_of_le z with u|rfl
    ·exact fi (s _ t q h u)
    ·exact cR _)
   clear s;have s:((i:Int)+(j:Int)) / 2=(((i+j) / 2:Nat):Int):=aa
   have p:=ay s;have G:i<=(i+j) / 2/\(i+j) / 2<j:=aa
   clear s;obtain⟨x,s⟩:=au (l[(i+j) / 2].1);rw[s] at b U T R Q;have O:=ay s;clear s;generalize l[(i+j) / 2].2=n at *
   by_cases E:x<k
   ·go_wp2_with fail
    refine(qI x n k _ aa  aa f d).mono ?_
    rintro e P ⟨rfl,s⟩
    go_wp2
    go_roundg (j - ((i+j) / 2+1))
    case measure=>omega
    case rel=>exact⟨(i+j) / 2+1,j,by rw[p.o];go_num,rfl,aa,S,aa,ay (λt h z=>by
     rcases bg t ((i+j) / 2) with u|u
     ·have:=b.o t h u;omega
     ·obtain rfl:t=(i+j) / 2:=aa
      have:=O.o;omega),X,y.trans (s.mono a)⟩
   ·go_wp2_with fail
    refine(qI x n k _ aa  aa f d).mono ?_
    rintro e P ⟨rfl,s⟩
    go_wp2
    go_roundg ((i+j) / 2 - i)
    exact⟨i,(i+j) / 2,rfl,by rw[p.o],aa,aa,aa,Y,ay (λt h z=>by have:=U.o t h z;omega),y.trans (s.mono a)⟩
    omega
  ·obtain rfl:j=i:=aa
   have u:j=kS k l:=GC k r.o.iJ j S Y.o X.o
   by_cases b:j<ao l
   ·obtain⟨g,L,rfl,M,T,N⟩:=j7 (V.o.keep y) b
    obtain⟨R,Q⟩:=r.o.key _ (aX b);have q:Hid (EY k l=(l[j].1 - k == 0)):=ay (by
     unfold EY;rw[<-u,aQ b];show(l[j].1 == k)=_
     rw[Bool.eq_iff_iff];simp;omega)
    have p:=ay u;clear u;have U:(j:Int)<(ao l:Int):=aa
    generalize l[j].1=x at *;generalize l[j].2=n at *
    go_wp2_with fail;refine(qI x n k _ aa  aa f d).mono ?_
    rintro e P ⟨rfl,s⟩
    go_wp2
    go_ret2
    exact⟨by rw[q.o,<-p.o];rfl,y.trans (s.mono a)⟩
   ·have q:Hid (EY k l=false):=ay (by
     unfold EY;rw[<-u,dm aa])
    have p:=ay u;clear u;have U:¬(j:Int)<(ao l:Int):=aa
    go_wp2
    go_ret2
    exact⟨by rw[q.o,<-p.o];rfl,y⟩
def so(k:Int)(w:World)(h:ln g l F w)(ok:pn l)(x:-1048577<=k)(u:k<=1048577) :
 ar Oe 318 #[.pointer (some ⟨g,0,none⟩),.int .i64 k] w (aw w (.tuple #[.int .i64 (kS k l:Nat),.bool (EY k l)])):=by
 obtain⟨v,z,y,_⟩:=h;have C:=ay (Af v k l w y.rd ok x u);have t:=z.k0;clear z y ok;generalize kS k l=p at *;generalize EY k l=f at *
 go_in
 go_wp2_with fail;refine(C.o).mono ?_
 rintro e y ⟨rfl,z⟩
 go_wp2
 go_ret2
 exact⟨rfl,z⟩
def CM(v:Value)(l:List Pr)(i:Nat)(x:Pr)(ub:Nat)(w:World)(h:gO il 0 w v l)(V:i<=ao l)(s:ao l<=100000)(t:gN w ub 192 #[.int .i64 x.1,.int .u64 x.2])(f:v.ownBlock≠some ub) :
 ar Oe 358 #[v,.int .i64 i,.slice (some ⟨ub,0,none⟩) 1 1] w λe u=>∃z,e=.returned z/\gO il 0 u z (mJ l i x)/\Touch (λk=>v.ownBlock=some k) w u/\∀k,z.ownBlock=some k->v.ownBlock=some k\/w.heap.size<=k:=by
 by_cases p:i=ao l
 ·subst p
  have g:iA il w (.slice (some ⟨ub,0,none⟩) 1 1) [x]:=iA.jj (l:=[x]) ad  ad (λ_=>⟨ub,0,rfl,t.lt,λj y q r=>by
   obtain rfl:j=0:=by simp at y;exact y
   simp only[db,cJ];rw[t.cell q];simp[il]⟩)
  refine(CL v 0 l x _ w h g s (bB _)).mono ?_
  rintro e u ⟨z,rfl,y,q,r⟩;exact⟨z,rfl,y,(Touch.refl _ _).grown q (λk e=>.inl e),r⟩
 ·obtain⟨g,c,rfl,_,X,a,Y⟩:=h.pos aa
  have d:ub≠g:=λe=>f (by rw[e];rfl)
  by_cases q:ao l+1<=c
  ·refine(Ad g c 0 l i x ub _ w h aa s q t d).mono ?_
   rintro e u ⟨z,rfl,y,r,b⟩;exact⟨z,rfl,y,b.mono (λk e=>by rw[e];rfl),λk e=>.inl (by rw[r] at e;exact e)⟩
  ·refine(Ae g c 0 l i x ub _ w h aa s aa t).mono ?_
   rintro e u ⟨z,rfl,y,r⟩;exact⟨z,rfl,y.more (bB _),Touch.of_below r (aD _),λk e=>.inr (y.lt k e).1⟩
def yF(h:gO il base w (.slice (some ⟨g,0,none⟩) n c) l)(z:j<ao l) :
 w.cell? ⟨g,j * 2,none⟩=some (.int .i64 l[j].1)/\w.cell? ⟨g,j * 2+1,none⟩=some (.int .u64 l[j].2):=⟨h.cellAt z 0 ab,h.cellAt z 1 ab⟩
def Ag(h:gO il base w (.slice (some ⟨g,0,none⟩) n c) l)(y:j<ao l)(m:Int) :
 gO il base (w.setCell ⟨g,j * 2+1,none⟩ (.int .u64 m)) (.slice (some ⟨g,0,none⟩) n c) (l.set j (l[j].1,m)):=by
 have t:n=ao l:=by obtain⟨A,r,s,_⟩:=h.form;injection s
 subst t;have z:=(eC h (j * 2+1) (.int .u64 m)).1;have e:(cellsE il l).set (j * 2+1) (.int .u64 m)=cellsE il (l.set j (l[j].1,m)):=by
  have:=uK il l j y (l[j].1,m);rw[<-this];show _=((cellsE il l).set (j * 2) (.int .i64 l[j].1)).set (j * 2+1) (.int .u64 m)
  congr 1
  refine(fR λi=>?_).symm
  rw[List.getElem?_set]
  split
  ·rename_i u;subst u
   have:=ll il l j y 0 ab
   rw[show j * il.k+0=j * 2 from rfl] at this
   rw[this]
   split
   ·rfl
   ·rename_i x
    have v:=hU il l;rw[v] at x;exact absurd (show j * 2<ao l * 2 by omega) x
  ·rfl
 rw[e] at z;unfold gO;rw[bD];exact z
def JM(l:List Pr)(i:Nat)(x:Pr)(h:i<=ao l):(mJ l i x)[i]?=some x:=by
 unfold mJ;rw[cU (by rw[aU];omega),aU,dk h];simp
def JN(h:EY k l=false)(n:Int):(mJ l (kS k l) (k,0)).set (kS k l) (k,0+n)=hO k n l:=by
 rw[z7,ER k n l];intro p z e;unfold EY at h;rw[z] at h;simp[e] at h
def EZ(h:EY k l=true):∃m,l[kS k l]?=some (k,m)/\∀n,l.set (kS k l) (k,m+n)=hO k n l:=by
 unfold EY at h
 cases hp:l[kS k l]? with
 | none=>rw[hp] at h;cases h
 | some p=>
  rw[hp] at h;obtain⟨a,m⟩:=p;have:a=k:=by simpa using h
  subst this;exact⟨m,rfl,λn=>(xk _ _ _ _ hp).symm⟩
def jm(l:List Pr)(k n:Int):Int:=if n=0 then 4 else if k < -1048576\/1048576<k then 5 else if 4611686018427387904<tot l+n then 6 else 0
def JO{n:Int}(ok:pn l)(h:jm l k n=0)(y:0<=n)(z:ao l<100000):pn (hO k n l):=by
 unfold jm at h
 split at h
 ·omega
 ·split at h
  ·omega
  ·split at h
   ·omega
   ·exact⟨tz ok.iJ,put_pos aa ok.pos,xl ok.key aa,by rw[pT];omega,by have:=(oj k n l).2;omega⟩
def MM(k n:Int)(w:World)(h:ln g l F w)(ok:pn l)(c:0<=n)(b:n<18446744073709551616)(x:jm l k n≠0) :
 ar Oe 285 #[.pointer (some ⟨g,0,none⟩),.int .i64 k,.int .u64 n] w λe p=>e=.returned (.int .i64 (jm l k n))/\w=p:=by
 obtain⟨v,y,t,_⟩:=h;have q:=y.k1;have a:=gP ok.pos;have Y:=ok.tot;have z:Hid (jm l k n=if n=0 then 4 else if k < -1048576\/1048576<k then 5 else if 4611686018427387904<tot l+n then 6 else 0):=ay rfl
 have u:=ay x;clear y t ok x;generalize jm l k n=f at *;generalize tot l=t at *
 by_cases y:n=0
 ·go_in
  go_wp2
  go_ret;exact⟨ie (by rw[z.o,aH y]),rfl⟩
 ·by_cases x:k < -1048576
  ·go_in
   go_wp2
   go_ret;exact⟨ie (by rw[z.o,aG y,aH (.inl x)]),rfl⟩
  ·by_cases s:1048576<k
   ·go_in
    go_wp2
    go_ret;exact⟨ie (by rw[z.o,aG y,aH (.inr s)]),rfl⟩
   ·have r:4611686018427387904<t+n:=by
     have:=u.o;rw[z.o,aG y,aG aa] at this
     split at this
     ·assumption
     ·omega
    have d:4611686018427387904 - t<n:=aa
    go_in
    go_wp2
    go_ret;exact⟨ie (by rw[z.o,aG y,aG aa,aH r]),rfl⟩
def JP(k n:Int)(w:World)(h:ln g l F w)(ok:pn l)(n0:0<=n)(z:jm l k n=0)(hl:ao l<100000) :
 ar Oe 285 #[.pointer (some ⟨g,0,none⟩),.int .i64 k,.int .u64 n] w λe K=>e=.returned (.int .i64 0)/\ln g (hO k n l) (Gr F w K) K/\Touch F w K:=by
 have hn:¬n=0/\-1048576<=k/\k<=1048576/\tot l+n<=4611686018427387904:=by
  unfold jm at z
  split at z
  ·omega
  ·split at z
   ·omega
   ·split at z
    ·omega
    ·omega
 obtain⟨hn0,hk0,hk1,ht⟩:=hn;have L:=sY k l;have o:=ay (so k w h ok aa  aa)
 have t0:=gP ok.pos;have h':=h;obtain⟨v,s,r,M,p,q⟩:=h';have c:=s.k1;have y:=pT k n l;obtain⟨l2,u⟩:=au (hO k n l);rw[u] at y |-;have H:=ay u;clear u;obtain⟨t,u⟩:=au (tot l);rw[u] at y ht t0 c;have zM:=ay y;have E:=ay u;have i:=ay h;have G:=ay ok.pos;have h5:¬4611686018427387904 - t<n:=aa
 clear s r ok h z u y
 go_in
 go_wp2_with fail;refine(o.o).mono ?_
 rintro e u ⟨rfl,V⟩;have s:=ay ((jl g l).keep i.o V);have hz1:=V.size;obtain⟨b,z,r,_,y,_⟩:=s.o;rw[E.o] at z;have f:=z.cell 0;have k1':=z.cell 1;have C:=z.frozen 0;have f1:=z.frozen 1;have Wz:=z.lt;simp only[aA,az,aB] at f k1';have P:=ay z;have X:=ay r;have O:=ay y;have W:=ay q;clear z r y p s c q
 -- the list that holds the key,at p,whose count goes up
 rcases U:EY k l with _|_
 case' false=>
  have d:=ay (JN U n);have a:=ay (JM l (kS k l) (k,0) L);have Y:=ay (pl l (kS k l) (k,0) L);have z:=yD (g:=u.heap.size) X.o (aD _);have I:=ay (CM b l (kS k l) (k,0) u.heap.size (u.alloc (.cells #[.int .i64 k,.int .u64 0] 192)) (X.o.alloc _) L aa (gN.new u _ _) z)
  clear U z;rw[H.o] at d;generalize kS k l=p at *
  go_wp2_with fail;refine(I.o).mono ?_
  rintro e J ⟨v2,rfl,S,R,D⟩;obtain⟨r,s,j,_,_,_,_⟩:=S.pos (by rw[Y.o];omega)
  rw[Y.o] at j;subst j;have B:aq u (u.alloc (.cells #[.int .i64 k,.int .u64 0] 192)):=bw;have hz2:=R.size;simp only[aI] at hz2;have q:gN J g 381 #[b,.int .u64 t]:=(R.block g af (λe=>own_ne P.o X.o ab e)).trans (P.o.alloc _)
  have f:=q.k0;have C:=q.frozen 0;have A:=own_ne q S ab
  have z:=q.gR 0 (.slice (some ⟨r,0,none⟩) (ao l+1) s);have y:=S.far (p:=⟨g,0,none⟩) A (.slice (some ⟨r,0,none⟩) (ao l+1) s);have N:Hid (Touch F w (J.setCell ⟨g,0,none⟩ (.slice (some ⟨r,0,none⟩) (ao l+1) s))):=ay (((yE V (yE B (R.mono (λk e=>O.o k e)))).setCell (p:=⟨g,0,none⟩) (.inl M) _))
  have Q:Hid (∀k,(Value.slice (some ⟨r,0,none⟩) (ao l+1) s).ownBlock=some k->F k\/w.heap.size<=k):=ay (λk e=>(D k e).imp (O.o k) (λh=>by simp at h;omega))
  have T:p<ao (mJ l p (k,0)):=by rw[Y.o];omega
  have hln:ao (mJ l p (k,0))<=100000:=by rw[Y.o];omega
  clear R D q A S B I;obtain⟨B,q⟩:=au (J.setCell ⟨g,0,none⟩ (.slice (some ⟨r,0,none⟩) (ao l+1) s));rw[q] at z y N;have S:=ay q;clear q;have q:=ay z;have R:=ay y;clear z y
  go_upto_region 10 with fail;rw[S.o];clear f C;have z:=q.o;have y:=R.o;generalize mJ l p (k,0)=D at *;generalize Value.slice (some ⟨r,0,none⟩) (ao l+1) s=v2 at *;obtain⟨m,x⟩:∃m:Int,0=m:=⟨_,rfl⟩;rw[x] at a d;have I:0<=m/\m+n<=4611686018427387904:=aa
 case' true=>
  obtain⟨m,x,r⟩:=EZ U;have d:=ay (r n);have a:=ay x;have T:=(cN.1 x).1;have I:0<=m/\m+n<=4611686018427387904:=by
   have s:=nm G.o _ (fB x);have q:=G.o _ (fB x);rw[E.o] at s;simp only at s q;omega
  clear U r x;rw[H.o] at d;generalize kS k l=p at *
  go_upto_region 10 with fail;have N:Hid (Touch F w u):=ay (Touch.of_below V (aD _));have Q:Hid (∀k,b.ownBlock=some k->F k\/w.heap.size<=k):=ay (λk e=>.inl (O.o k e))
  have z:gN u g 381 (#[b,.int .u64 t].setIfInBounds 0 b):=P.o;have y:=X.o;have hln:ao l<=100000:=aa
 all_goals
  obtain⟨x,D,I,_,J,A,_⟩:=y.pos aa
  subst I;have r:x≠g:=λe=>own_ne z y ab (by rw[e];rfl)
  have f:=z.cell 0;have c:=z.cell 1;have f1:=z.frozen 1;simp only[aY,bo,aA,az,aB] at f c;have s:=y.cellAt T 1 ab
  rw[(cN.1 a.o).2] at s;have R:=s;simp only[il,az,aB] at R;have B:=y.frozenAt (p * 2+1);have j:(p:Int)<(ao (_:List Pr):Int):=Int.ofNat_lt.2 T;have Y:=ay z;have S:=ay (Ag y T (m+n));clear z y s
  go_wp2
  go_ret;have s:=(Y.o.far (p:=⟨x,p * 2+1,none⟩) (λe=>r e.symm) (.int .u64 (m+n))).gR 1 (.int .u64 (t+n))
  have z:=S.o.far (p:=⟨g,1,none⟩) (λe=>r (bC e)) (.int .u64 (t+n))
  rw[(cN.1 a.o).2] at z;rw[d.o] at z;have y:=(N.o.setCell (p:=⟨x,p * 2+1,none⟩) (Q.o x rfl) (.int .u64 (m+n))).setCell (p:=⟨g,1,none⟩) (.inl M) (.int .u64 (t+n));refine⟨rfl,⟨_,?_,z,.inl M,λq e=>?_,ke W.o y.size⟩,y⟩
  ·rw[zM.o];exact s
  ·obtain rfl:x=q:=bC e
   exact(Q.o _ rfl).imp id (λh=>⟨h,by simp;exact J⟩)
def E0(v:Value)(l:List Pr)(w:World)(h:iA il w v l)(b:ao l<=1000000000) :
 ar Oe 392 #[v] w λe u=>∃z,e=.returned z/\gO il w.heap.size u z l/\aq w u:=by
 obtain⟨A,c,rfl,Y,d,x⟩:=h.form;have s:=ay h;clear h
 by_cases y:A=none
 ·subst y
  have z:l=[]:=by
   rcases bh (ao l) with z|z
   ·exact aN z
   ·obtain⟨g,t,e,_⟩:=x z;cases e
  subst z;clear x;have q:(binOp .eql 126 (.slice none 0 c) (.slice none 0 0)).run prog w=.ok (.bool true) w:=Lib.run_eql_slice_nil w _ _ _ _ _ _ _ underlying126
  go_in
  go_wp2
  go_ret;exact⟨_,rfl,gO.nil_ _ _,bw⟩
 ·obtain⟨a,rfl⟩:∃a,A=some a:=by
   cases A with
   | none=>exact absurd rfl y
   | some a=>exact⟨a,rfl⟩
  clear y x;have q:(binOp .eql 126 (.slice (some a) (ao l) c) (.slice none 0 0)).run prog w=.ok (.bool false) w:=Lib.run_eql_slice_nil w _ _ _ _ _ _ _ underlying126
  go_in
  go_wp2_with (at_builtin;refine nu pj rfl (.tmp 5) (.tmp 6) rfl (gO.lit (E:=il) w [] _ rfl _ rfl ab) rfl _ l rfl (s.o.keep (bw)) af ad ?_;intro X g z r f)
  have t:aq w g:=(dG (aC _ _) (aD _) _).grown r ad (λk p=>by have:=bC (show some w.heap.size=some k from p);omega)
  simp only[cZ] at z
  go_ret;exact⟨_,rfl,z,t⟩
def Rc{v:Value}(h:gO il base w v l){m:Nat}(r:m<ao l):∃g c,v=.slice (some ⟨g,0,none⟩) (ao l) c/\ao l<=c/\c<=9223372036854775807/\iA il w (.slice (some ⟨g,m * 2,none⟩) (ao l - m) (c - m)) (l.drop m):=by
 obtain⟨g,c,rfl,_,_,z,y⟩:=h.pos aa
 refine⟨g,c,rfl,z,y,?_⟩
 obtain⟨A,u,e,t,s,x⟩:=h.form;injection e with e1 e2 e3;subst e1;subst e3;rw[<-aZ];refine iA.jj (by rw[aZ];omega) aa ?_
 have:=x.drop rfl m
 rwa [cJ] at this
def sum_any(i:Nat)(w:World)(h:ln g l F w)(ok:pn l)(Q:i<=ao l)(z:0<i) :
 ar Oe 319 #[.pointer (some ⟨g,0,none⟩),.int .i64 i] w (aw w (.int .u64 (tot (l.take i)))):=by
 obtain⟨v,x,y,_⟩:=h;obtain⟨K,c,rfl,_,_,S,R⟩:=y.pos aa
 have X:=x.k0;have d:=ay y;have a:Hid (∀j (t:j<ao l),tot (l.take (j+1))=tot (l.take j)+l[j].2):=ay (λj t=>by rw[aM t,gY];simp)
 have r:Hid (∀j,0<=tot (l.take j)/\tot (l.take j)<=4611686018427387904):=ay (λj=>by
  have e:tot l=tot (l.take j)+tot (l.drop j):=by rw[<-gY,bK]
  have u:=gP (l:=l.take j) (λp z=>ok.pos p (cB z))
  have s:=gP (l:=l.drop j) (λp z=>ok.pos p (cu z))
  have:=ok.tot;omega)
 have O:(i:Int)<=(ao l:Int):=aa
 have P:(i:Int)<=(c:Int):=aa
 clear x y ok
 go_in
 go_wp2
 go_loopg [5,15] i (λq s x wr=>∃j:Nat,q=i - j/\j<=i/\x=.int .i64 j/\s=.int .u64 (tot (l.take j))/\aq w wr)
 exact⟨0,rfl,aa,rfl,rfl,aC _ _⟩
 case round=>
  obtain⟨j,y,t,rfl,rfl,u⟩:=hrel;have b:=ay y;have L:=u.size;clear y
  by_cases M:j<i
  ·have p:j<ao l:=aa
   obtain⟨U,T⟩:=yF (d.o.keep u) p;have y:=ay (a.o j p);have Y:=r.o j;have q:=r.o (j+1);rw[y.o] at q;have N:(j:Int)<(i:Int):=aa
   obtain⟨s,f⟩:=au (tot (l.take j));rw[f] at y Y q |-;clear f;generalize l[j].1=x at *;generalize l[j].2=n at *
   go_wp2
   go_roundg (i - (j+1))
   exact⟨j+1,rfl,aa,ag,by rw[y.o],bw⟩
   have:=b.o;omega
  ·obtain rfl:j=i:=aa
   go_wp2
   go_ret;exact⟨rfl,u⟩
def xn(w:World)(h:ln g l F w)(t:ao l<=100000) :
 ar Oe 357 #[.pointer (some ⟨g,0,none⟩)] w λe x=>∃z,e=.returned z/\gO il w.heap.size x z l/\aq w x:=by
 obtain⟨v,z,y,_⟩:=h;have C:=ay (E0 v l w y.rd aa)
 have u:=z.k0;clear z y
 go_in
 go_wp2_with fail;refine(C.o).mono ?_
 rintro e r ⟨s,rfl,y,z⟩
 go_wp2
 go_ret;exact⟨_,rfl,y,z⟩
def CO(w:World)(h:ln g l F w) :
 ar Oe 208 #[.pointer (some ⟨g,0,none⟩)] w λe u=>e=.returned (.int .u64 (tot l))/\w=u:=by
 obtain⟨v,z,y,_⟩:=h;have x:=z.k1;clear z y
 go_in
 go_wp2
 go_ret;exact⟨rfl,rfl⟩
def MN(m:Nat)(w:World)(h:ln g l F w)(ok:pn l)(hm:0<m)(hm1:m<=100000) :
 ar Oe 326 #[.pointer (some ⟨g,0,none⟩),.int .i64 m] w λe R=>e=.returned (.int .u64 (gV m l).2)/\ln g (gV m l).1 (Gr F w R) R/\Touch F w R:=by
 have C:=h;obtain⟨v,f,d,O,Za,Y⟩:=C;obtain⟨A,c,hv,_,_,_⟩:=d.form;have hlen:=ok.len
 by_cases W:ao l<=m
 ·have hcut:=lF W
  rw[hcut];subst hv;have y:=f.k0;have x:=ay h;have z:=ay Y;have k:max (m:Int) 1=m:=aa
  clear f d h ok Y hcut
  go_in
  go_wp2
  go_ret;have a:Touch F w w:=Touch.refl _ _;exact⟨rfl,(jl g l).more x.o (λ_ h=>.inl h) (ke z.o (aD _)),a⟩
 ·obtain⟨i,hi⟩:∃i,ao l=i+m:=⟨ao l - m,aa⟩
  obtain⟨sg,c,hv',hc1,hc2,V⟩:=Rc d (m:=i) aa
  subst hv';have hpos:0<i:=aa
  have Q:=ay (sum_any i w h ok aa hpos)
  have X:gV m l=(bump (tot (l.take i)) (l.drop i),tot (l.take i)):=by unfold gV;rw[show ao l - m=i by omega]
  have b:ao (l.drop i)=m:=by rw[aZ];omega
  obtain⟨q,r,z⟩:∃q r,l.drop i=q::r:=by
   cases hx:l.drop i with
   | nil=>rw[hx] at b;simp at b;omega
   | cons q r=>exact⟨q,r,rfl⟩
  obtain⟨x,n⟩:=q;have u:tot l=tot (l.take i)+tot (l.drop i):=by rw[<-gY,bK]
  have H:=gP (l:=l.take i) (λp t=>ok.pos p (cB t))
  have b1:=gP (l:=r) (λp t=>ok.pos p (cu (i:=i) (by rw[z];exact aP _ t)))
  have G:=ok.pos (x,n) (cu (i:=i) (by rw[z];exact aK ..))
  have E:=ok.tot;simp only at G;rw[X,z];rw[z] at V u b;rw[z] at X;obtain⟨s,M⟩:=au (tot (l.take i));rw[M] at Q u H |-;have N:bump s ((x,n)::r)=(x,n+s)::r:=rfl;have S:tot ((x,n+s)::r)=tot l:=by rw[jP,u,jP];omega
  rw[N];obtain⟨t,a⟩:=au (tot l);rw[a] at S f E u;rw[jP] at u;simp only at u;have J:=ay S;have y:=f.k0;have U:=ay f;have HO:=ay d;have K:=ay Y;have P:=ay V;have T:=ay b;rw[show ao l - i=m by omega] at P
  clear f d h ok Y X M z N S a b V;have k:max (m:Int) 1=m:=aa
  have S:=U.o.lt;rw[show ao l=i+m by omega] at y
  have Tc:(i:Int)<=(c:Int):=aa
  have hci:¬(c=i):=aa
  go_in
  go_wp2_with fail;refine(Q.o).mono ?_
  rintro e w1 ⟨rfl,X⟩;have D:=(X.cell (p:=⟨g,0,none⟩) S).trans y;have hz1:=X.size
  go_wp2_with fail;refine(E0 _ ((x,n)::r) _ (P.o.keep X) (by have:=T.o;omega)).mono ?_
  rintro e M ⟨v2,rfl,b,B⟩;obtain⟨z,a,rfl,WB,o,hc3,hc4⟩:=b.pos ad
  have V:aq w M:=X.trans (B.mono hz1);have WC:=(V.cell (p:=⟨g,0,none⟩) S).trans y;have UT:=(U.o.keep V).frozen 0;have N:z≠g:=aa
  have c1:M.cell? ⟨z,1,none⟩=some (.int .u64 n):=(yF b (j:=0) (by simp)).2
  have f2:=b.frozenAt 1;have L:=ay (U.o.keep V);have I:=ay b;rw[T.o];have hq2:n+s<=4611686018427387904:=aa
  clear D y b
  go_wp2
  go_ret;have D:=(L.o.gR 0 (.slice (some ⟨z,0,none⟩) m a)).far (p:=⟨z,1,none⟩) (λe=>N e.symm) (.int .u64 (n+s))
  have y:=Ag (I.o.far (p:=⟨g,0,none⟩) (λe=>N (bC e)) (.slice (some ⟨z,0,none⟩) m a)) (j:=0) (by simp) (n+s)
  have b:=((Touch.of_below (F:=F) V (aD _)).setCell (p:=⟨g,0,none⟩) (.inl O) (.slice (some ⟨z,0,none⟩) m a)).setCell (p:=⟨z,1,none⟩) (.inr (by show w.heap.size<=z;omega)) (.int .u64 (n+s))
  refine⟨rfl,⟨.slice (some ⟨z,0,none⟩) m a,?_,?_,.inl O,λq e=>?_,ke K.o b.size⟩,b⟩
  ·rw[J.o];exact D
  ·rw[T.o] at y;exact y.more (bB _)
  ·obtain rfl:z=q:=bC e
   exact .inr ⟨by omega,by simp;exact o⟩
def GI{α:Type}(E:uJ α)(F:Ft)(w:World)(v:Value)(l:List α):Prop:=∀W:World,(∀k,k<w.heap.size->¬F k->W.heap[k]?=w.heap[k]?)->w.heap.size<=W.heap.size->iA E W v l
section
variable {α : Type} {E : uJ α} {F : Ft} {w w' : World} {v : Value} {l : List α}
def E3(h:GI E F w v l):iA E w v l:=h w (λ_ _ _=>rfl) (aD _)
def jR(h:GI E F w v l)(z:aq w w'):GI E F w' v l:=λW x u=>h W (λk y t=>(x k (aR y z.size) t).trans (z.block k y)) (bf z.size u)
def kK(h:GI E F w v l)(z:Touch F w w'):iA E w' v l:=h w' z.block z.size
def E4{base:Nat}(h:gO E base w v l)(y:∀k,v.ownBlock=some k->¬F k):GI E F w v l:=λW z _=>(h.stay λk e=>z k (h.lt k e).2 (y k e)).rd
def MO{g off n c:Nat}{x:α}(h:iA E w (.slice (some ⟨g,off,none⟩) n c) (x::l)):iA E w (.slice (if c=1 then some ⟨g,off,none⟩ else some ⟨g,off+E.k,none⟩) (ao l) (c - 1)) l:=by
 obtain⟨A,u,e,y,t,v⟩:=h.form;injection e with e1 e2 e3;subst e1;subst e3;simp only[aJ] at y
 by_cases z:c=1
 ·rw[aH z]
  have:l=[]:=aN aa
  subst this;exact iA.jj ad aa jQ.nil
 ·rw[aG z]
  have:=v.drop rfl 1;rw[f'] at this;exact iA.jj aa  aa this
end
variable{F G:Ft}{w w':World}{c g h m n off:Nat}{l:List Pr}{f:Int}
def nH{α:Type}{E:uJ α}{v:Value}{l:List α}(h:GI E F w v l)(z:Touch F w w'):GI E F w' v l:=λW u t=>h W (λk x y=>(u k (aR x z.size) y).trans (z.block k x y)) (bf z.size t)
def ko{x m:Int}(h:iA il w (.slice (some ⟨g,off,none⟩) n c) ((x,m)::l)):w.cell? ⟨g,off,none⟩=some (.int .i64 x)/\w.cell? ⟨g,off+1,none⟩=some (.int .u64 m):=by
 obtain⟨A,u,e,s,r,v⟩:=h.form;injection e with e1 e2 e3;subst e1;obtain⟨t,p,e,q,z,y⟩:=j7 v (j:=0) (by simp)
 injection e with e;injection e with e1 e2;subst e1;subst e2;simp only[db,bP,bn] at z y;exact⟨z,y⟩
def ry{x:Pr}(h:GI il F w (.slice (some ⟨g,off,none⟩) n c) (x::l)):GI il F w (.slice (if c=1 then some ⟨g,off,none⟩ else some ⟨g,off+2,none⟩) (ao l) (c - 1)) l:=λW z y=>MO (h W z y)
def rz{B:Int}:∀(n:Nat) (a b:List Pr),ao a+ao b<=n->(∀p∈a,-B<=p.1/\p.1<=B)->(∀p∈b,-B<=p.1/\p.1<=B)->ao (lW a b)<=ao a+ao b/\∀p∈lW a b,-B<=p.1/\p.1<=B
 | _,[],b,_,_,hb=>by rw[zip_nil_left];exact⟨by simp,hb⟩
 | _,p::a,[],_,ha,_=>by rw[zip_nil_right];exact⟨by simp,ha⟩
 | 0,p::a,q::b,hn,_,_=>by simp at hn
 | n+1,p::a,q::b,hn,ha,hb=>by
  simp only[aJ] at hn;have u:=λx z=>ha x (aP p z)
  have t:=λx z=>hb x (aP q z)
  have s:=ha p (aK ..);have r:=hb q (aK ..)
  rcases el p.1 q.1 with h|h|h
  ·rw[CD a b h]
   obtain⟨v,y⟩:=rz n a (q::b) af u hb
   refine⟨by simp only[aJ] at *;omega,λx z=>?_⟩
   rcases aS.1 z with rfl|z
   ·exact s
   ·exact y x z
  ·rw[CG a b h]
   obtain⟨v,y⟩:=rz n a b aa u t
   refine⟨by simp only[aJ] at *;omega,λx z=>?_⟩
   rcases aS.1 z with rfl|z
   ·exact s
   ·exact y x z
  ·rw[CE a b h]
   obtain⟨v,y⟩:=rz n (p::a) b af ha t
   refine⟨by simp only[aJ] at *;omega,λx z=>?_⟩
   rcases aS.1 z with rfl|z
   ·exact r
   ·exact y x z
def MP{a b:List Pr}(z:pn a)(y:pn b)(x:tot a+tot b<=4611686018427387904)(v:ao a+ao b<=100000):pn (hX a b):=by
 have e:=yx z.iJ y.iJ z.pos y.pos;have k:=rz (B:=1048576) _ a b (aD _) z.key y.key;rw[e] at k;exact⟨lD z.iJ,kJ z.pos y.pos,k.2,by rw[mj];exact x,aa⟩
def CQ{m:List Pr}(w:World)(x:ln g l F w)(r:ln h m G w)(ok:pn l)(t:pn m)(f:4611686018427387904<tot l+tot m) :
 ar Oe 258 #[.pointer (some ⟨g,0,none⟩),.pointer (some ⟨h,0,none⟩)] w λe w'=>e=.returned (.int .i64 6)/\∃n,w'=w.drewN n:=by
 obtain⟨v,z,_⟩:=x;obtain⟨u,y,_⟩:=r;have q:=z.k1;have p:=y.k1;have d:=gP ok.pos;have c:=ok.tot;clear z y ok t;generalize tot l=t at *;generalize tot m=s at *;have z:4611686018427387904 - t<s:=aa
 have y:IntKind.u64.wrap (4611686018427387904 - t)=4611686018427387904 - t:=by rw[g_];omega
 go_in
 go_wp2_with fail
 go_quiet (fail)
 go_wp2
 go_ret;exact⟨rfl,_,rfl⟩
def GJ{m:List Pr}(w:World)(a:ln g l F w)(ht:ln h m G w)(ok:pn l)(y:pn m)(ho:tot l+tot m<=4611686018427387904)(hl:ao l+ao m<=100000) :
 ar Oe 258 #[.pointer (some ⟨g,0,none⟩),.pointer (some ⟨h,0,none⟩)] w λe w'=>e=.returned (.int .i64 0)/\ln g (hX l m) (Gr F w w') w'/\Touch F w w':=by
 have hs':=a;obtain⟨v,z,s,hFg,X,b⟩:=hs';obtain⟨u,t,x,_⟩:=ht;have D:=z.k1;have n:=t.k1;have k0:=z.k0;have k3:=t.k0;have t0:=gP ok.pos;have t2:=gP y.pos;have HZ:Hid (lW l m=hX l m):=ay (yx ok.iJ y.iJ ok.pos y.pos);have HT:Hid (tot (hX l m)=tot l+tot m):=ay (mj m l);obtain⟨N,r⟩:∃N:Ft,N=λk=>k=g\/w.heap.size<=k:=⟨_,rfl⟩
 have AA:Hid (GI il N w v l):=ay (E4 s (λk e h=>by
  rw[r] at h
  rcases h with h|h
  ·exact own_ne z s ab (by rw[e,h])
  ·have:=(s.lt k e).2;omega))
 have AB:Hid (GI il N w u m):=ay (E4 x (λk e h=>by
  rw[r] at h
  rcases h with h|h
  ·exact own_ne z x ab (by rw[e,h])
  ·have:=(x.lt k e).2;omega))
 have Y:Hid (∀k,N k<->k=g\/w.heap.size<=k):=ay (λk=>by rw[r])
 have WD:Hid (∀p,p∈l\/p∈m->0<=p.2/\p.2<=4611686018427387904):=ay (λp M=>by
  rcases M with M|M
  ·have d:=nm ok.pos p M;have f:=ok.pos p M;have q:=ok.tot;omega
  ·have d:=nm y.pos p M;have f:=y.pos p M;have q:=y.tot;omega)
 have HB:=ay z;have HC:=ay t;have WE:=ay b;have hgl:=z.lt;have U8:=t.lt;have WG:∃A c,v=.slice A (ao l) c:=by obtain⟨A,c,e,_⟩:=s.form;exact⟨A,c,e⟩
 have WH:∃A c,u=.slice A (ao m) c:=by obtain⟨A,c,e,_⟩:=x.form;exact⟨A,c,e⟩
 obtain⟨A0,c0,rfl⟩:=WG;obtain⟨B0,d0,rfl⟩:=WH;clear z t ok y a s x b X r;generalize hX l m=r at *;obtain⟨t,y⟩:=au (tot l);obtain⟨s,z⟩:=au (tot m);rw[y] at D t0 ho HT HB;rw[z] at n t2 ho HT HC;clear y z;have z:IntKind.u64.wrap (4611686018427387904 - t)=4611686018427387904 - t:=by rw[g_];omega
 go_in
 go_wp2_with fail
 go_quiet (fail)
 go_wp2_with fail
 go_quiet (fail)
 go_wp2_with fail;clear z
 go_loopg [5,6,7] (ao l+ao m) (λq x y z wr=>∃(T a b:List Pr),q=ao a+ao b/\ao T+q<=100000/\Hid (gO il w.heap.size wr x T)/\Hid (GI il N wr y a)/\Hid (GI il N wr z b)/\Hid (T++lW a b=r)/\Hid (∀p,p∈a\/p∈b->0<=p.2/\p.2<=4611686018427387904)/\aq w wr)
 exact⟨[],l,m,rfl,af,ay (gO.nil_ _ _),ay (jR AA.o (below_drewN (below_drewN (aC _ _) _) _)),ay (jR AB.o (below_drewN (below_drewN (aC _ _) _) _)),HZ,WD,below_drewN (below_drewN (aC _ _) _) _⟩
 case round=>
  obtain⟨T,a,b,z,hal,HU,HA,QC,HS,MQ,hb⟩:=hrel;have HQ:=ay z;rw[z] at hal;have hz:=hb.size;clear z;obtain⟨A1,c1,rfl,ha1,ha2,fa⟩:=(E3 HA.o).form;obtain⟨B1,d1,rfl,hb1,hb2,fb⟩:=(E3 QC.o).form;obtain⟨U1,e1,rfl,_,_,_⟩:=HU.o.form
  by_cases hab:0<ao a/\0<ao b
  ·obtain⟨ha0,hb0⟩:=hab
   obtain⟨p,a,rfl⟩:∃p z,a=p::z:=by cases a with|nil=>simp at ha0|cons p a=>exact⟨p,a,rfl⟩
   obtain⟨q,b,rfl⟩:∃p z,b=p::z:=by cases b with|nil=>simp at hb0|cons p a=>exact⟨p,a,rfl⟩
   obtain⟨ga,oa,rfl,hga,x0,x1⟩:=j7 fa (j:=0) (by simp)
   obtain⟨gb,ob,rfl,hgb,y0,y1⟩:=j7 fb (j:=0) (by simp)
   simp only[db,bP,bn] at x0 x1 y0 y1;simp only[aJ] at *;clear fa fb;obtain⟨d,V⟩:=p;obtain⟨i,X⟩:=q;simp only at x0 x1 y0 y1;have WI:(1:Int)<=(ao a:Int)+1:=aa
   have hz1b:(1:Int)<=(ao b:Int)+1:=aa
   rcases el d i with hc|hc|hc
   ·have HZ2:=ay (CD (p:=(d,V)) (q:=(i,X)) a b hc)
    go_wp2_with fail
    go_quiet (fail)
    clear x0 x1 y0 y1
    go_upto_region 11 with fail;obtain⟨H,O⟩:=au (wr.drewN nq);have y:aq wr H:=by rw[<-O];exact below_drewN (aC _ _) _
    have J:=ay (jR HA.o y);have L:=ay (jR QC.o y);have W:=ay (HU.o.keep y);have hb2:=hb.trans (y.mono hz);have hzw:=hb2.size;rw[O];clear O y;refine i' (Touch (λk=>w.heap.size<=k) H) (gW 0 4 (gW 6 2 (ib 4 (ib 5 (gW 8 2 []))))) ((Touch.refl _ _).drew) ?_
    iterate 6 refine hC (h:=λw' z=>by obtain⟨k0,D⟩:=ko (kK J.o (z.mono (λk h=>(Y.o k).2 (.inr h))));obtain⟨n,k3⟩:=ko (kK L.o (z.mono (λk h=>(Y.o k).2 (.inr h))));exact Qv) ?_
    refine iy λK f=>?_
    go_simp;refine f _ _ (((Touch.refl _ _).drew).alloc _) ?_
    clear f K;refine iy λK f=>?_
    refine EX pj (.tmp 67) (.tmp 71) rfl ((W.o.drew).alloc _) rfl _ [(d,V)] rfl (iA.hJ (E:=il) _ (d,V) _ rfl _ rfl _ ad) af ah ?_
    intro v7 C U I _;have R:Touch (λk=>w.heap.size<=k) H C:=(((Touch.refl _ _).drew).alloc _).grown I (λk e=>.inl (W.o.lt k e).1)
    have S:=ay U;obtain⟨U7,e7,rfl,_,_,_⟩:=U.form;clear U I
    go_simp;refine f _ _ (R) ?_
    clear f K
    iterate 2 refine hC (h:=λw' z=>by obtain⟨k0,D⟩:=ko (kK J.o (z.mono (λk h=>(Y.o k).2 (.inr h))));obtain⟨n,k3⟩:=ko (kK L.o (z.mono (λk h=>(Y.o k).2 (.inr h))));exact Qv) ?_
    refine gM ?_
    have hb7:aq w C:=tnew hb2 R (λ_ h=>h)
    have o:=R.mono (G:=N) (λk h=>(Y.o k).2 (.inr h))
    have B:ao (T++[(d,V)])=ao T+1:=ad
    rw[B] at S;have P:=ry (nH J.o o);have Q:=nH L.o o;generalize (if c1=1 then some (⟨ga,oa,none⟩:Addr) else some ⟨ga,oa+2,none⟩)=ba at P |-
    have CA':=ay P;have QD:=ay Q;clear P Q B
    go_wp2
    go_roundg (ao a+(ao b+1))
    exact⟨T++[(d,V)],a,(i,X)::b,rfl,by simp only[aE,aJ,aV];omega,S,CA',QD,ay (by rw[<-HS.o,HZ2.o];simp),ay (λp M=>MQ.o p (M.imp (λh=>by exact aP _ h) (λh=>by exact h))),hb7⟩
    have:=HQ.o;omega
   ·subst hc
    have HZ2:=ay (CG (p:=(d,V)) (q:=(d,X)) a b rfl);have hp1:=MQ.o (d,V) (.inl (aK ..));have hp2:=MQ.o (d,X) (.inr (aK ..));simp only at hp1 hp2;have Ml:Hid (IntKind.u64.wrap (V+X)=V+X):=ay (by rw[g_];omega)
    go_wp2_with fail
    go_quiet (fail)
    generalize nq=n1 at *
    go_wp2_with fail
    go_quiet (fail)
    clear x0 x1 y0 y1
    go_upto_region 8 with fail;obtain⟨H,O⟩:=au ((wr.drewN n1).drewN nq);have y:aq wr H:=by rw[<-O];exact below_drewN (below_drewN (aC _ _) _) _
    have J:=ay (jR HA.o y);have L:=ay (jR QC.o y);have W:=ay (HU.o.keep y);have hb2:=hb.trans (y.mono hz);have hzw:=hb2.size;rw[O];clear O y;refine i' (Touch (λk=>w.heap.size<=k) H) (gW 0 15 (ib 15 (ib 16 (gW 17 1 [])))) ((Touch.refl _ _).drew) ?_
    iterate 15 refine hC (h:=λw' z=>by obtain⟨k0,D⟩:=ko (kK J.o (z.mono (λk h=>(Y.o k).2 (.inr h))));obtain⟨n,k3⟩:=ko (kK L.o (z.mono (λk h=>(Y.o k).2 (.inr h))));have hws:=Ml.o;exact Qv) ?_
    refine iy λK f=>?_
    go_simp;refine f _ _ (((Touch.refl _ _).drew).alloc _) ?_
    clear f K;refine iy λK f=>?_
    refine EX pj (.tmp 36) (.tmp 51) rfl ((W.o.drew).alloc _) rfl _ [(d,V+X)] rfl (iA.hJ (E:=il) _ (d,V+X) _ rfl _ rfl _ ad) af ah ?_
    intro v7 C U I _;have R:Touch (λk=>w.heap.size<=k) H C:=(((Touch.refl _ _).drew).alloc _).grown I (λk e=>.inl (W.o.lt k e).1)
    have S:=ay U;obtain⟨U7,e7,rfl,_,_,_⟩:=U.form;clear U I
    go_simp;refine f _ _ (R) ?_
    clear f K;refine hC (h:=λw' z=>by obtain⟨k0,D⟩:=ko (kK J.o (z.mono (λk h=>(Y.o k).2 (.inr h))));obtain⟨n,k3⟩:=ko (kK L.o (z.mono (λk h=>(Y.o k).2 (.inr h))));have hws:=Ml.o;exact Qv) ?_
    refine gM ?_
    have hb7:aq w C:=tnew hb2 R (λ_ h=>h)
    have o:=R.mono (G:=N) (λk h=>(Y.o k).2 (.inr h))
    have B:ao (T++[(d,V+X)])=ao T+1:=ad
    rw[B] at S;have P:=ry (nH J.o o);have Q:=ry (nH L.o o);clear B
    rcases Decidable.em (c1=1) with e1|e1<;>rcases Decidable.em (d1=1) with e2|e2
    all_goals
     first|(subst e1;rw[aH rfl] at P)|rw[aG e1] at P
     first|(subst e2;rw[aH rfl] at Q)|rw[aG e2] at Q
     have CA':=ay P;have QD:=ay Q;clear P Q
     go_wp2_with fail
     go_quiet (fail)
     go_wp2
     go_roundg (ao a+ao b)
     exact⟨T++[(d,V+X)],a,b,rfl,by simp only[aE,aJ,aV];omega,S.o.drewN _,by first|exact jR CA'.o (below_drewN (aC _ _) _)|(have h:=CA'.o;rw[show ao a=0 by omega] at h;exact jR h (below_drewN (aC _ _) _)),by first|exact jR QD.o (below_drewN (aC _ _) _)|(have h:=QD.o;rw[show ao b=0 by omega] at h;exact jR h (below_drewN (aC _ _) _)),ay (by rw[<-HS.o,HZ2.o];simp),ay (λp M=>MQ.o p (M.imp (λh=>by exact aP _ h) (λh=>by exact aP _ h))),below_drewN hb7 _⟩
     have:=HQ.o;omega
   ·have HZ2:=ay (CE (p:=(d,V)) (q:=(i,X)) a b hc)
    go_wp2_with fail
    go_quiet (fail)
    generalize nq=n1 at *
    go_wp2_with fail
    go_quiet (fail)
    clear x0 x1 y0 y1
    go_upto_region 13 with fail;obtain⟨H,O⟩:=au ((wr.drewN n1).drewN nq);have y:aq wr H:=by rw[<-O];exact below_drewN (below_drewN (aC _ _) _) _
    have J:=ay (jR HA.o y);have L:=ay (jR QC.o y);have W:=ay (HU.o.keep y);have hb2:=hb.trans (y.mono hz);have hzw:=hb2.size;rw[O];clear O y;refine i' (Touch (λk=>w.heap.size<=k) H) (gW 0 4 (gW 6 2 (ib 4 (ib 5 (gW 8 2 []))))) ((Touch.refl _ _).drew) ?_
    iterate 6 refine hC (h:=λw' z=>by obtain⟨k0,D⟩:=ko (kK J.o (z.mono (λk h=>(Y.o k).2 (.inr h))));obtain⟨n,k3⟩:=ko (kK L.o (z.mono (λk h=>(Y.o k).2 (.inr h))));exact Qv) ?_
    refine iy λK f=>?_
    go_simp;refine f _ _ (((Touch.refl _ _).drew).alloc _) ?_
    clear f K;refine iy λK f=>?_
    refine EX pj (.tmp 85) (.tmp 89) rfl ((W.o.drew).alloc _) rfl _ [(i,X)] rfl (iA.hJ (E:=il) _ (i,X) _ rfl _ rfl _ ad) af ah ?_
    intro v7 C U I _;have R:Touch (λk=>w.heap.size<=k) H C:=(((Touch.refl _ _).drew).alloc _).grown I (λk e=>.inl (W.o.lt k e).1)
    have S:=ay U;obtain⟨U7,e7,rfl,_,_,_⟩:=U.form;clear U I
    go_simp;refine f _ _ (R) ?_
    clear f K
    iterate 2 refine hC (h:=λw' z=>by obtain⟨k0,D⟩:=ko (kK J.o (z.mono (λk h=>(Y.o k).2 (.inr h))));obtain⟨n,k3⟩:=ko (kK L.o (z.mono (λk h=>(Y.o k).2 (.inr h))));exact Qv) ?_
    refine gM ?_
    have hb7:aq w C:=tnew hb2 R (λ_ h=>h)
    have o:=R.mono (G:=N) (λk h=>(Y.o k).2 (.inr h))
    have B:ao (T++[(i,X)])=ao T+1:=ad
    rw[B] at S;have P:=nH J.o o;have Q:=ry (nH L.o o);generalize (if d1=1 then some (⟨gb,ob,none⟩:Addr) else some ⟨gb,ob+2,none⟩)=y at Q |-
    have CA':=ay P;have QD:=ay Q;clear P Q B
    go_wp2
    go_roundg ((ao a+1)+ao b)
    exact⟨T++[(i,X)],(d,V)::a,b,rfl,by simp only[aE,aJ,aV];omega,S,CA',QD,ay (by rw[<-HS.o,HZ2.o];simp),ay (λp M=>MQ.o p (M.imp (λh=>by exact h) (λh=>by exact aP _ h))),hb7⟩
    have:=HQ.o;omega
  ·have B:Hid (T++a++b=r/\(¬0<ao a\/¬0<ao b)):=ay (by
    refine⟨?_,aa⟩
    rw[<-HS.o]
    by_cases y:a=[]
    ·subst y;rw[zip_nil_left];simp
    ·have x:b=[]:=by
      cases b with
      | nil=>rfl
      | cons q b=>exact absurd ⟨eL.2 y,ad⟩ hab
     subst x;rw[zip_nil_right];simp)
   have x:=(hb.cell (p:=⟨g,1,none⟩) hgl).trans D;have y:=(hb.cell (p:=⟨h,1,none⟩) U8).trans n;have E:=ay x;have K2:=ay y;have J:=ay (HB.o.keep hb);have hgr:g<wr.heap.size:=aa
   have Ss:h<wr.heap.size:=aa
   have f1:=J.o.frozen 1;clear k0 D n k3 x y fa fb;have P:¬0<ao a\/(0<ao a/\¬0<ao b):=by have:=B.o.2;omega
   rcases P with P|⟨P,hcs'⟩
   all_goals
    go_upto_region 14 with fail;have Z:=ay (λ(w':World) (z:(aq wr) w')=>(aF ((z.cell (p:=⟨g,1,none⟩) hgr).trans E.o) ((z.cell (p:=⟨h,1,none⟩) Ss).trans K2.o)))
    refine yC (aq wr) 11 (yA 0 9 (QB 9 1 (yA 10 1 (CI 11 [])))) ((aC _ _).drew) ?_
    iterate 9 refine oQ ?_
    refine JG ?_
    refine oQ ?_
    refine yB λK f=>?_
    have D:wr.drew.cell? ⟨g,1,none⟩=_:=E.o;have k9:wr.drew.frozen? ⟨g,1,none⟩=_:=f1
    go_simp;refine f _ _ ?_
    clear f K;refine jk ?_
    rw[show IntKind.u64.wrap (t+s)=t+s by rw[g_];omega]
    have z:Touch N wr ((wr.setCell ⟨g,1,none⟩ (.int .u64 (t+s))).drew):=((Touch.refl _ _).setCell (p:=⟨g,1,none⟩) (.inl ((Y.o g).2 (.inl rfl))) _).drew;have x:=(J.o.gR 1 (.int .u64 (t+s))).drew;have y:=(HU.o.far (p:=⟨g,1,none⟩) (λe=>by have:=(HU.o.lt g e).1;omega) (.int .u64 (t+s))).drew
    have zN:w.heap.size<=((wr.setCell ⟨g,1,none⟩ (.int .u64 (t+s))).drew).heap.size:=bf hz z.size;have WJ:=ay ((Touch.of_below (F:=λk=>k=g\/w.heap.size<=k) hb (aD _)).trans z (λk h=>.inl ((Y.o k).1 h)))
    generalize (wr.setCell ⟨g,1,none⟩ (.int .u64 (t+s))).drew=w5 at *;have R5:=ay (kK HA.o z);have i:=ay x;have V:=ay y;have W:=ay z;clear x y z;have o:ao (T++a)+ao b<=1099511627776:=by rw[aE];omega
    go_wp2_with (first
     | (at_builtin
        refine nu pj rfl (.tmp 105) (.tmp 106) rfl V.o rfl _ a rfl R5.o aa zN ?_
        intro O d y z _;have x:=ay (W.o.trans ((Touch.refl N w5).grown z (λk e=>.inl ((Y.o k).2 (.inr (V.o.lt k e).1)))) (λ_ h=>.inl h))
        have j:=ay (ia i.o V.o ab z)
        have Q:=ay (WJ.o.grown z (λk e=>.inl (.inr (V.o.lt k e).1)))
        have X:=ay y;have H:=ay (kK QC.o x.o);have L:w.heap.size<=d.heap.size:=Q.o.size;clear y z)
     | (at_builtin
        refine nu pj rfl (.tmp 107) (.tmp 108) rfl X.o rfl _ b rfl H.o o L ?_
        intro v7 C U I _;have d:=ay (ia j.o X.o ab I)
        have R:=ay (Q.o.grown I (λk e=>.inl (.inr (X.o.lt k e).1)))
        rw[B.o.1] at U;have S:=ay U;have O:=d.o.cell 0;have f7:=d.o.frozen 0;simp only[aY,bm,bo,aA,az] at O;obtain⟨y,e7,x,_,_,_⟩:=U.form;generalize ao r=z at x;subst x;clear U I))
    go_ret;have L:=d.o.gR 0 (.slice y z e7);have O:=S.o.far (p:=⟨g,0,none⟩) (own_ne d.o S.o ab) (.slice y z e7)
    have Q:Touch F w (C.setCell ⟨g,0,none⟩ (.slice y z e7)):=have t:=R.o.setCell (p:=⟨g,0,none⟩) (.inl (.inl rfl)) (.slice y z e7);⟨t.os,t.tape,t.output,t.size,λk X x=>t.block k X (λh=>h.elim (λe=>x (e▸hFg)) (λh=>by omega))⟩
    refine⟨rfl,⟨.slice y z e7,?_,O.more (bB _),.inl hFg,λq e=>.inr ⟨(S.o.lt q e).1,?_⟩,ke WE.o Q.size⟩,Q⟩
    ·rw[HT.o];exact L
    ·have:=(S.o.lt q e).2;simpa using this
def tj(c m:Nat)(l:List Pr)(f:Int)(F:Ft)(w:World):Prop:=∃g G,gN w c 285 #[.int .i64 m,.pointer (some ⟨g,0,none⟩),.int .u64 f]/\ln g l G w/\F c/\¬G c/\(∀k,G k->F k)/\∀k,F k->k<w.heap.size
def kp(c m:Nat)(l:List Pr)(f:Int):lY (tj c m l f) where
 stay:=λ⟨g,G,x,v,z,u,y,t⟩ s r=>⟨g,G,(s c z).trans x,(jl g l).stay v (λk e=>s k (y k e)) r,z,u,y,λk h=>aR (t k h) r⟩
 more:=λ⟨g,G,x,v,z,u,y,_⟩ h s=>⟨g,G,x,v,h c z,u,λk e=>h k (y k e),s⟩
 low:=λ⟨_,_,_,_,_,_,_,t⟩=>t
def Mm(w:World)(c m:Nat)(l:List Pr)(f:Int):Prop:=∃g G,gN w c 285 #[.int .i64 m,.pointer (some ⟨g,0,none⟩),.int .u64 f]/\ln g l G w
def tj.r(h:tj c m l f F w):Mm w c m l f:=by
 obtain⟨g,G,z,y,_⟩:=h;exact⟨g,G,z,y⟩
def Mm.keep(h:Mm w c m l f)(z:aq w w'):Mm w' c m l f:=by
 obtain⟨g,G,y,x⟩:=h;exact⟨g,G,y.keep z,(jl g l).keep x z⟩
def Pg(m:Nat)(w:World)(v:2<=m)(u:m<=4096) :
 ar Oe 338 #[.int .i64 m] w λe z=>∃c,e=.returned (.tuple #[.pointer (some ⟨c,0,none⟩),.int .i64 0])/\tj c m [] 0 (Gr (λ_=>False) w z) z/\aq w z:=by
 go_in
 go_wp2
 go_ret2
 have x:=gN.new w 381 #[.slice none 0 0,.int .u64 0];have y:=gN.new (w.alloc (.cells #[.slice none 0 0,.int .u64 0] 381)) 285 #[.int .i64 m,.pointer (some ⟨w.heap.size,0,none⟩),.int .u64 0];rw[aI] at y;exact⟨_,rfl,⟨w.heap.size,λk=>k=w.heap.size,y,⟨.slice none 0 0,x.alloc _,gO.nil_ _ _,rfl,(λk e=>by cases e),(λk e=>by subst e;simp;omega)⟩,.inr ⟨by omega,ad⟩,aa,(λk e=>.inr ⟨by omega,by subst e;simp;omega⟩),λk h=>h.elim False.elim And.right⟩,bw⟩
def first_any(w:World)(h:Mm w c m l f)(r:ao l<=100000) :
 ar Oe 308 #[.pointer (some ⟨c,0,none⟩)] w (aw w (.tuple #[.int .i64 (jY l),.bool (decide (0<ao l))])):=by
 obtain⟨g,G,z,y⟩:=h;have C:=ay (xn w y r);have q:=z.k1;clear z y
 cases l with
 | nil=>
  have x:jY []=0:=rfl;have y:decide (0<ao ([]:List Pr))=false:=rfl;rw[x,y]
  go_in
  go_wp2_with fail;refine(C.o).mono ?_
  rintro e t ⟨v,rfl,z,u⟩;obtain⟨A,s,rfl,_,_,_⟩:=z.form;clear z
  go_wp2
  go_ret2
  exact⟨rfl,u⟩
 | cons p l=>
  have x:jY (p::l)=p.1:=rfl;have y:decide (0<ao (p::l))=true:=ad
  rw[x,y];clear x y
  go_in
  go_wp2_with fail;refine(C.o).mono ?_
  rintro e t ⟨v,rfl,z,u⟩;obtain⟨y,s,rfl,_,_,_,_⟩:=z.pos ad
  have x:t.cell? ⟨y,0,none⟩=some (.int .i64 p.1):=(yF z (j:=0) (by simp)).1
  clear z;have z:(0:Int)<((ao l:Nat):Int)+1:=aa
  have b:((((ao l:Nat):Int)+1) == 0)=false:=af
  simp only[aJ]
  go_wp2
  go_ret2
  exact⟨rfl,u⟩
end D
end Go.Proofs.YtdicblkhpcphfaaGreat
