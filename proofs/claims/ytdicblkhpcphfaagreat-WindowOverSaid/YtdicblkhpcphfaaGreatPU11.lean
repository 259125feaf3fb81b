/- Parts. -/
import Derived.Test.YtdicblkhpcphfaaGreatPU10
set_option maxRecDepth 100000
set_option maxHeartbeats 0
set_option linter.all false
namespace Go.Proofs.YtdicblkhpcphfaaGreat
open Tryz Go.RowKit
open _root_.List renaming length→ab0
open Go.IntKind renaming wrap→ad0
open _root_.Go renaming Calls→af4
open Tryz renaming prog→af5
namespace D
variable{w:World}{l:List Pr}{base c g j n:Nat}{F:Ft}{k:Int}
structure qP(l:List Pr):Prop where
 jk:ji l
 pos:i' l
 key:∀p∈l,-1048576<=p.1/\p.1<=1048576
 tot:tot l<=4611686018427387904
 len:ab0 l<=100000
def Mp(k:Int)(l:List Pr):Bool:=match l[qJ k l]? with
 | some p=>p.1 == k
 | none=>false
def mW(g:Nat)(l:List Pr)(F:Ft)(w:World):Prop:=∃v,g7 w g 381 #[v,.int .u64 (tot l)]/\g8 iF 0 w v l/\F g/\(∀k,v.ownBlock=some k->F k)/\∀k,F k->k<w.heap.size
def jK(g:Nat)(l:List Pr):kK (mW g l) where
 stay:=λ⟨v,x,u,z,y,t⟩ s r=>⟨v,(s g z).T x,u.stay λk e=>s k (y k e),z,y,λk h=>aG (t k h) r⟩
 more:=λ⟨v,x,u,z,y,_⟩ h s=>⟨v,x,u,h g z,λk e=>h k (y k e),s⟩
 low:=λ⟨_,_,_,_,_,t⟩=>t
def sR(x n k:Int)(w:World)(y:-1048577<=x)(v:x<=1048577)(u:-1048577<=k)(t:k<=1048577):af4 af5 380 #[.agg #[af6 x,.int .u64 n],af6 k] w (au w (af6 (x - k))):=by
 go_in;go_wp2;go_ret;exact⟨rfl,bw⟩
def j'{A:Option Addr}(h:ky iF w A l)(x:j<ab0 l):∃g z,A=some (af7 g z)/\g<w.heap.size/\w.cell? (af7 g (z+j * 2))=some (af6 l[j].1)/\w.cell? (af7 g (z+j * 2+1))=some (.int .u64 l[j].2):=by
 obtain⟨g,z,e,v,y⟩:=h aa;exact⟨g,z,e,v,y j x 0 ab,y j x 1 ab⟩
def Dy(v:Value)(k:Int)(l:List Pr)(w:World)(h:iQ iF w v l)(ok:qP l)(f:-1048577<=k)(d:k<=1048577):af4 af5 379 #[v,af6 k,.func (.func 380) #[] #[]] w (au w (.tuple #[af6 (qJ k l:Nat),.bool (Mp k l)])):=by
 obtain⟨A,c,rfl,_,_,z⟩:=h.form;have V:=ax z;have r:=ax ok;have I:=ok.len;clear h z ok;go_in;go_wp2;go_loopg [9,10] (ab0 l) (λq x y wr=>∃i j:Nat,x=af6 i/\y=af6 j/\i<=j/\j<=ab0 l/\j - i<=q/\Hid (∀(t:Nat) (h:t<ab0 l),t<i->l[t].1<k)/\Hid (∀(t:Nat) (h:t<ab0 l),j<=t->k<=l[t].1)/\af3 w wr)
 exact⟨0,ab0 l,rfl,rfl,aa,aa,aa,ax (λt h z=>absurd z aa),ax (λt h z=>absurd h aa),aC _ _⟩
 case round=>
  obtain⟨i,j,rfl,rfl,J,S,F,Y,X,y⟩:=hrel;have a:=y.size;by_cases H:i<j
  .have q:(i+j) / 2<ab0 l:=aa
   obtain⟨g,L,rfl,M,T,N⟩:=j' (V.o.K y) q;obtain⟨R,Q⟩:=r.o.key _ (aP q);have s:=ck.1 r.o.jk;have b:Hid (∀t (h:t<ab0 l),t<(i+j) / 2->l[t].1<l[(i+j) / 2].1):=ax (λt h z=>s t _ h q z);have U:Hid (∀t (h:t<ab0 l),(i+j) / 2<=t->l[(i+j) / 2].1<=l[t].1):=ax (λt h z=>by
    rcases fY z with u|rfl
    .exact e9 (s _ t q h u)
    .exact eB _)
   clear s;have s:((i:Int)+(j:Int)) / 2=(((i+j) / 2:Nat):Int):=aa;have p:=ax s;have G:i<=(i+j) / 2/\(i+j) / 2<j:=aa;clear s;have⟨x,s⟩:=ar (l[(i+j) / 2].1);rw[s] at b U T R Q;have O:=ax s;clear s;generalize l[(i+j) / 2].2=n at *;by_cases E:x<k
   .go_wp21
    refine RX (sR x n k _ aa  aa f d) ?_;intro P s;go_wp2;go_roundg (j - ((i+j) / 2+1))
    case measure=>omega
    case rel=>exact⟨(i+j) / 2+1,j,by rw[p.o];go_num,rfl,aa,S,aa,ax (λt h z=>by
     rcases bm t ((i+j) / 2) with u|u
     .have:=b.o t h u;omega
     .obtain rfl:t=(i+j) / 2:=aa
      have:=O.o;omega),X,y.T (s.M a)⟩
   .go_wp21
    refine RX (sR x n k _ aa  aa f d) ?_;intro P s;go_wp2;go_roundg ((i+j) / 2 - i)
    exact⟨i,(i+j) / 2,rfl,by rw[p.o],aa,aa,aa,Y,ax (λt h z=>by have:=U.o t h z;omega),y.T (s.M a)⟩;omega
  .obtain rfl:j=i:=aa
   have u:j=qJ k l:=Ko k r.o.jk j S Y.o X.o;by_cases b:j<ab0 l
   .obtain⟨g,L,rfl,M,T,N⟩:=j' (V.o.K y) b
    obtain⟨R,Q⟩:=r.o.key _ (aP b);have q:Hid (Mp k l=(l[j].1 - k == 0)):=ax (by
     unfold Mp;rw[<-u,aL b];show(l[j].1 == k)=_
     rw[Bool.eq_iff_iff];simp;omega)
    have p:=ax u;clear u;have U:(j:Int)<(ab0 l:Int):=aa;generalize l[j].1=x at *;generalize l[j].2=n at *;go_wp21;refine RX (sR x n k _ aa  aa f d) ?_;intro P s;go_wp2;go_ret2;exact⟨by rw[q.o,<-p.o];rfl,y.T (s.M a)⟩
   .have q:Hid (Mp k l=false):=ax (by
     unfold Mp;rw[<-u,dH aa])
    have p:=ax u;clear u;have U:¬(j:Int)<(ab0 l:Int):=aa;go_wp2;go_ret2;exact⟨by rw[q.o,<-p.o];rfl,y⟩
def Kv(k:Int)(w:World)(h:mW g l F w)(ok:qP l)(x:-1048577<=k)(u:k<=1048577):af4 af5 318 #[aq g,af6 k] w (au w (.tuple #[af6 (qJ k l:Nat),.bool (Mp k l)])):=by
 obtain⟨v,z,y,_⟩:=h;have C:=ax (Dy v k l w y.rd ok x u);have t:=z.k0;clear z y ok;generalize qJ k l=p at *;generalize Mp k l=f at *;go_in;go_wp21;refine RX C.o ?_;intro y z;go_wp2;go_ret2;exact⟨rfl,z⟩
def GH(v:Value)(l:List Pr)(i:Nat)(x:Pr)(ub:Nat)(w:World)(h:g8 iF 0 w v l)(V:i<=ab0 l)(s:ab0 l<=100000)(t:g7 w ub 192 #[af6 x.1,.int .u64 x.2])(f:v.ownBlock≠some ub):af4 af5 358 #[v,af6 i,.slice (some (af7 ub 0)) 1 1] w λe u=>∃z,e=.returned z/\g8 iF 0 u z (nW l i x)/\Touch (λk=>v.ownBlock=some k) w u/\∀k,z.ownBlock=some k->v.ownBlock=some k\/w.heap.size<=k:=by
 by_cases p:i=ab0 l
 .subst p
  have g:iQ iF w (.slice (some (af7 ub 0)) 1 1) [x]:=iQ.kn (l:=[x]) ad  ad (λ_=>⟨ub,0,rfl,t.lt,λj y q r=>by
   obtain rfl:j=0:=by simp at y;exact y
   simp only[dj,cG];rw[t.C q];simp[iF]⟩)
  refine WE (GG v 0 l x _ w h g s (bl _)) ?_;rintro z u ⟨y,q,r⟩;exact⟨z,rfl,y,(Touch.refl _ _).grown q (λk e=>.inl e),r⟩
 .obtain⟨g,c,rfl,_,X,a,Y⟩:=h.pos aa
  have d:ub≠g:=λe=>f (by rw[e];rfl);by_cases q:ab0 l+1<=c
  .refine WE (Dw g c 0 l i x ub _ w h aa s q t d) ?_
   rintro z u ⟨y,r,b⟩;exact⟨z,rfl,y,b.M (λk e=>by rw[e];rfl),λk e=>.inl (by rw[r] at e;exact e)⟩
  .refine WE (Dx g c 0 l i x ub _ w h aa s aa t) ?_
   rintro z u ⟨y,r⟩;exact⟨z,rfl,y.more (bl _),Touch.of_below r (aD _),λk e=>.inr (y.lt k e).1⟩
def GI(h:g8 iF base w (.slice (some (af7 g 0)) n c) l)(z:j<ab0 l):w.cell? (af7 g (j * 2))=some (af6 l[j].1)/\w.cell? (af7 g (j * 2+1))=some (.int .u64 l[j].2):=⟨h.cellAt z 0 ab,h.cellAt z 1 ab⟩
def Dz(h:g8 iF base w (.slice (some (af7 g 0)) n c) l)(y:j<ab0 l)(m:Int):g8 iF base (w.setCell (af7 g (j * 2+1)) (.int .u64 m)) (.slice (some (af7 g 0)) n c) (l.set j (l[j].1,m)):=by
 have t:n=ab0 l:=by obtain⟨A,r,s,_⟩:=h.form;injection s
 subst t;have z:=(eL h (j * 2+1) (.int .u64 m)).1;have e:(cellsE iF l).set (j * 2+1) (.int .u64 m)=cellsE iF (l.set j (l[j].1,m)):=by
  have:=yp iF l j y (l[j].1,m);rw[<-this];show _=((cellsE iF l).set (j * 2) (af6 l[j].1)).set (j * 2+1) (.int .u64 m)
  congr 1
  refine(gj λi=>?_).Y;rw[List.getElem?_set];split
  .rename_i u;subst u
   have:=mD iF l j y 0 ab;rw[show j * iF.k+0=j * 2 from rfl] at this;rw[this];split
   .rfl
   .rename_i x
    have v:=iA iF l;rw[v] at x;exact absurd (show j * 2<ab0 l * 2 by omega) x
  .rfl
 rw[e] at z;unfold g8;rw[aZ];exact z
def Nr(l:List Pr)(i:Nat)(x:Pr)(h:i<=ab0 l):(nW l i x)[i]?=some x:=by
 unfold nW;rw[cI (by rw[aU];omega),aU,dM h];simp
def Ns(h:Mp k l=false)(n:Int):(nW l (qJ k l) (k,0)).set (qJ k l) (k,0+n)=iu k n l:=by
 rw[Dm,I6 k n l];intro p z e;unfold Mp at h;rw[z] at h;simp[e] at h
def Qt(h:Mp k l=true):∃m,l[qJ k l]?=some (k,m)/\∀n,l.set (qJ k l) (k,m+n)=iu k n l:=by
 unfold Mp at h;cases hp:l[qJ k l]? with
 | none=>rw[hp] at h;cases h
 | some p=>
  rw[hp] at h;obtain⟨a,m⟩:=p;have:a=k:=by simpa using h
  subst this;exact⟨m,rfl,λn=>(Ao _ _ _ _ hp).Y⟩
def jH(l:List Pr)(k n:Int):Int:=if n=0 then 4 else if k < -1048576\/1048576<k then 5 else if 4611686018427387904<tot l+n then 6 else 0
def Nt{n:Int}(ok:qP l)(h:jH l k n=0)(y:0<=n)(z:ab0 l<100000):qP (iu k n l):=by
 unfold jH at h;split at h
 .omega
 .split at h
  .omega
  .split at h
   .omega
   .exact⟨xi ok.jk,put_pos aa ok.pos,Ap ok.key aa,by rw[p_];omega,by have:=(p' k n l).2;omega⟩
def Qu(k n:Int)(w:World)(h:mW g l F w)(ok:qP l)(c:0<=n)(b:n<18446744073709551616)(x:jH l k n≠0):af4 af5 285 #[aq g,af6 k,.int .u64 n] w λe p=>e=.returned (af6 (jH l k n))/\w=p:=by
 obtain⟨v,y,t,_⟩:=h;have q:=y.k1;have a:=g_ ok.pos;have Y:=ok.tot;have z:Hid (jH l k n=if n=0 then 4 else if k < -1048576\/1048576<k then 5 else if 4611686018427387904<tot l+n then 6 else 0):=ax rfl;have u:=ax x;clear y t ok x;generalize jH l k n=f at *;generalize tot l=t at *;by_cases y:n=0
 .go_in
  go_wp2;go_ret;exact⟨jz (by rw[z.o,aH y]),rfl⟩
 .by_cases x:k < -1048576
  .go_in
   go_wp2;go_ret;exact⟨jz (by rw[z.o,aF y,aH (.inl x)]),rfl⟩
  .by_cases s:1048576<k
   .go_in
    go_wp2;go_ret;exact⟨jz (by rw[z.o,aF y,aH (.inr s)]),rfl⟩
   .have r:4611686018427387904<t+n:=by
     have:=u.o;rw[z.o,aF y,aF aa] at this;split at this
     .assumption
     .omega
    have d:4611686018427387904 - t<n:=aa;go_in;go_wp2;go_ret;exact⟨jz (by rw[z.o,aF y,aF aa,aH r]),rfl⟩
def DA(k n:Int)(w:World)(h:mW g l F w)(ok:qP l)(n0:0<=n)(z:jH l k n=0)(hl:ab0 l<100000):af4 af5 285 #[aq g,af6 k,.int .u64 n] w λe K=>e=.returned (af6 0)/\mW g (iu k n l) (Gr F w K) K/\Touch F w K:=by
 have hn:¬n=0/\-1048576<=k/\k<=1048576/\tot l+n<=4611686018427387904:=by
  unfold jH at z;split at z
  .omega
  .split at z
   .omega
   .split at z
    .omega
    .omega
 obtain⟨hn0,hk0,hk1,ht⟩:=hn;have L:=I5 k l;have o:=ax (Kv k w h ok aa  aa);have t0:=g_ ok.pos;have h':=h;obtain⟨v,s,r,M,p,q⟩:=h';have c:=s.k1;have y:=p_ k n l;have⟨l2,u⟩:=ar (iu k n l);rw[u] at y |-;have H:=ax u;clear u;have⟨t,u⟩:=ar (tot l);rw[u] at y ht t0 c;have zI:=ax y;have E:=ax u;have i:=ax h;have G:=ax ok.pos;have h5:¬4611686018427387904 - t<n:=aa
 clear s r ok h z u y;go_in;go_wp21;refine RX o.o ?_;intro u V;have s:=ax ((jK g l).K i.o V);have hz1:=V.size;obtain⟨b,z,r,_,y,_⟩:=s.o;rw[E.o] at z;have f:=z.C 0;have k1':=z.C 1;have C:=z.F 0;have f1:=z.F 1;have XD:=z.lt;simp only[az,ay,aA] at f k1';have P:=ax z;have X:=ax r;have O:=ax y;have W:=ax q;clear z r y p s c q
 -- the list that holds the key,at p,whose count goes up
 rcases U:Mp k l with _|_
 case' false=>
  have d:=ax (Ns U n);have a:=ax (Nr l (qJ k l) (k,0) L);have Y:=ax (rh l (qJ k l) (k,0) L);have z:=BE (g:=u.heap.size) X.o (aD _);have I:=ax (GH b l (qJ k l) (k,0) u.heap.size (u.alloc (.cells #[af6 k,.int .u64 0] 192)) (X.o.alloc _) L aa (g7.new u _ _) z);clear U z;rw[H.o] at d;generalize qJ k l=p at *;go_wp21;refine WE I.o ?_;rintro v2 J ⟨S,R,D⟩;obtain⟨r,s,j,_,_,_,_⟩:=S.pos (by rw[Y.o];omega);rw[Y.o] at j;subst j;have B:af3 u (u.alloc (.cells #[af6 k,.int .u64 0] 192)):=bw;have hz2:=R.size;simp only[aI] at hz2;have q:g7 J g 381 #[b,.int .u64 t]:=(R.block g ae (λe=>own_ne P.o X.o ab e)).T (P.o.alloc _);have f:=q.k0;have C:=q.F 0;have A:=own_ne q S ab;have z:=q.hJ 0 (.slice (some (af7 r 0)) (ab0 l+1) s);have y:=S.far (p:=af7 g 0) A (.slice (some (af7 r 0)) (ab0 l+1) s);have N:Hid (Touch F w (J.setCell (af7 g 0) (.slice (some (af7 r 0)) (ab0 l+1) s))):=ax (((BF V (BF B (R.M (λk e=>O.o k e)))).setCell (p:=af7 g 0) (.inl M) _));have Q:Hid (∀k,(Value.slice (some (af7 r 0)) (ab0 l+1) s).ownBlock=some k->F k\/w.heap.size<=k):=ax (λk e=>(D k e).imp (O.o k) (λh=>by simp at h;omega));have T:p<ab0 (nW l p (k,0)):=by rw[Y.o];omega
  have hln:ab0 (nW l p (k,0))<=100000:=by rw[Y.o];omega
  clear R D q A S B I;have⟨B,q⟩:=ar (J.setCell (af7 g 0) (.slice (some (af7 r 0)) (ab0 l+1) s));rw[q] at z y N;have S:=ax q;clear q;have q:=ax z;have R:=ax y;clear z y;go_upto_region 10 with fail;rw[S.o];clear f C;have z:=q.o;have y:=R.o;generalize nW l p (k,0)=D at *;generalize Value.slice (some (af7 r 0)) (ab0 l+1) s=v2 at *;obtain⟨m,x⟩:∃m:Int,0=m:=⟨_,rfl⟩;rw[x] at a d;have I:0<=m/\m+n<=4611686018427387904:=aa
 case' true=>
  obtain⟨m,x,r⟩:=Qt U;have d:=ax (r n);have a:=ax x;have T:=(cV.1 x).1;have I:0<=m/\m+n<=4611686018427387904:=by
   have s:=mC G.o _ (fL x);have q:=G.o _ (fL x);rw[E.o] at s;simp only at s q;omega
  clear U r x;rw[H.o] at d;generalize qJ k l=p at *;go_upto_region 10 with fail;have N:Hid (Touch F w u):=ax (Touch.of_below V (aD _));have Q:Hid (∀k,b.ownBlock=some k->F k\/w.heap.size<=k):=ax (λk e=>.inl (O.o k e));have z:g7 u g 381 (#[b,.int .u64 t].setIfInBounds 0 b):=P.o;have y:=X.o;have hln:ab0 l<=100000:=aa
 all_goals
  obtain⟨x,D,I,_,J,A,_⟩:=y.pos aa;subst I;have r:x≠g:=λe=>own_ne z y ab (by rw[e];rfl);have f:=z.C 0;have c:=z.C 1;have f1:=z.F 1;simp only[bA,bS,az,ay,aA] at f c;have s:=y.cellAt T 1 ab;rw[(cV.1 a.o).2] at s;have R:=s;simp only[iF,ay,aA] at R;have B:=y.frozenAt (p * 2+1);have j:(p:Int)<(ab0 (_:List Pr):Int):=Int.ofNat_lt.2 T;have Y:=ax z;have S:=ax (Dz y T (m+n));clear z y s;go_wp2;go_ret;have s:=(Y.o.far (p:=af7 x (p * 2+1)) (λe=>r e.Y) (.int .u64 (m+n))).hJ 1 (.int .u64 (t+n));have z:=S.o.far (p:=af7 g 1) (λe=>r (bJ e)) (.int .u64 (t+n));rw[(cV.1 a.o).2] at z;rw[d.o] at z;have y:=(N.o.setCell (p:=af7 x (p * 2+1)) (Q.o x rfl) (.int .u64 (m+n))).setCell (p:=af7 g 1) (.inl M) (.int .u64 (t+n));refine⟨rfl,⟨_,?_,z,.inl M,λq e=>?_,jt W.o y.size⟩,y⟩
  .rw[zI.o];exact s
  .obtain rfl:x=q:=bJ e
   exact(Q.o _ rfl).imp id (λh=>⟨h,by simp;exact J⟩)
def I_(v:Value)(l:List Pr)(w:World)(h:iQ iF w v l)(b:ab0 l<=1000000000):af4 af5 392 #[v] w λe u=>∃z,e=.returned z/\g8 iF w.heap.size u z l/\af3 w u:=by
 obtain⟨A,c,rfl,Y,d,x⟩:=h.form;have s:=ax h;clear h;by_cases y:A=none
 .subst y
  have z:l=[]:=by
   rcases bo (ab0 l) with z|z
   .exact aV z
   .obtain⟨g,t,e,_⟩:=x z;cases e
  subst z;clear x;have q:(binOp .eql 126 (.slice none 0 c) (.slice none 0 0)).run prog w=.ok (.bool true) w:=Lib.run_eql_slice_nil w _ _ _ _ _ _ _ underlying126;go_in;go_wp2;go_ret;exact⟨_,rfl,g8.nil_ _ _,bw⟩
 .obtain⟨a,rfl⟩:∃a,A=some a:=by
   cases A with
   | none=>exact absurd rfl y
   | some a=>exact⟨a,rfl⟩
  clear y x;have q:(binOp .eql 126 (.slice (some a) (ab0 l) c) (.slice none 0 0)).run prog w=.ok (.bool false) w:=Lib.run_eql_slice_nil w _ _ _ _ _ _ _ underlying126;go_in;go_wp2_with (at_builtin;refine oM oB rfl (.tmp 5) (.tmp 6) rfl (g8.lit (E:=iF) w [] _ rfl _ rfl ab) rfl _ l rfl (s.o.K (bw)) ae ad ?_;intro X g z r f)
  have t:af3 w g:=(dD (aC _ _) (aD _) _).grown r ad (λk p=>by have:=bJ (show some w.heap.size=some k from p);omega);simp only[bB] at z;go_ret;exact⟨_,rfl,z,t⟩
def U4{v:Value}(h:g8 iF base w v l){m:Nat}(r:m<ab0 l):∃g c,v=.slice (some (af7 g 0)) (ab0 l) c/\ab0 l<=c/\c<=9223372036854775807/\iQ iF w (.slice (some (af7 g (m * 2))) (ab0 l - m) (c - m)) (l.drop m):=by
 obtain⟨g,c,rfl,_,_,z,y⟩:=h.pos aa;refine⟨g,c,rfl,z,y,?_⟩;obtain⟨A,u,e,t,s,x⟩:=h.form;injection e with e1 e2 e3;subst e1;subst e3;rw[<-aW];refine iQ.kn (by rw[aW];omega) aa ?_;have:=x.drop rfl m
 rwa [cG] at this
def sum_any(i:Nat)(w:World)(h:mW g l F w)(ok:qP l)(Q:i<=ab0 l)(z:0<i):af4 af5 319 #[aq g,af6 i] w (au w (.int .u64 (tot (l.take i)))):=by
 obtain⟨v,x,y,_⟩:=h;obtain⟨K,c,rfl,_,_,S,R⟩:=y.pos aa;have X:=x.k0;have d:=ax y;have a:Hid (∀j (t:j<ab0 l),tot (l.take (j+1))=tot (l.take j)+l[j].2):=ax (λj t=>by rw[aM t,h_];simp);have r:Hid (∀j,0<=tot (l.take j)/\tot (l.take j)<=4611686018427387904):=ax (λj=>by
  have e:tot l=tot (l.take j)+tot (l.drop j):=by rw[<-h_,bL]
  have u:=g_ (l:=l.take j) (λp z=>ok.pos p (cm z));have s:=g_ (l:=l.drop j) (λp z=>ok.pos p (cp z));have:=ok.tot;omega)
 have O:(i:Int)<=(ab0 l:Int):=aa;have P:(i:Int)<=(c:Int):=aa;clear x y ok;go_in;go_wp2;go_loopg [5,15] i (λq s x wr=>∃j:Nat,q=i - j/\j<=i/\x=af6 j/\s=.int .u64 (tot (l.take j))/\af3 w wr)
 exact⟨0,rfl,aa,rfl,rfl,aC _ _⟩
 case round=>
  obtain⟨j,y,t,rfl,rfl,u⟩:=hrel;have b:=ax y;have L:=u.size;clear y;by_cases M:j<i
  .have p:j<ab0 l:=aa
   obtain⟨U,T⟩:=GI (d.o.K u) p;have y:=ax (a.o j p);have Y:=r.o j;have q:=r.o (j+1);rw[y.o] at q;have N:(j:Int)<(i:Int):=aa;have⟨s,f⟩:=ar (tot (l.take j));rw[f] at y Y q |-;clear f;generalize l[j].1=x at *;generalize l[j].2=n at *
   go_wp2;go_roundg (i - (j+1))
   exact⟨j+1,rfl,aa,af,by rw[y.o],bw⟩;have:=b.o;omega
  .obtain rfl:j=i:=aa
   go_wp2;go_ret;exact⟨rfl,u⟩
def Ar(w:World)(h:mW g l F w)(t:ab0 l<=100000):af4 af5 357 #[aq g] w λe x=>∃z,e=.returned z/\g8 iF w.heap.size x z l/\af3 w x:=by
 obtain⟨v,z,y,_⟩:=h;have C:=ax (I_ v l w y.rd aa);have u:=z.k0;clear z y;go_in;go_wp21;refine WE C.o ?_;rintro s r ⟨y,z⟩;go_wp2;go_ret;exact⟨_,rfl,y,z⟩
def GJ(w:World)(h:mW g l F w):af4 af5 208 #[aq g] w λe u=>e=.returned (.int .u64 (tot l))/\w=u:=by
 obtain⟨v,z,y,_⟩:=h;have x:=z.k1;clear z y;go_in;go_wp2;go_ret;exact⟨rfl,rfl⟩
def Qv(m:Nat)(w:World)(h:mW g l F w)(ok:qP l)(hm:0<m)(hm1:m<=100000):af4 af5 326 #[aq g,af6 m] w λe R=>e=.returned (.int .u64 (hZ m l).2)/\mW g (hZ m l).1 (Gr F w R) R/\Touch F w R:=by
 have C:=h;obtain⟨v,f,d,O,hFv,Y⟩:=C;obtain⟨A,c,hv,_,_,_⟩:=d.form;have hlen:=ok.len;by_cases W:ab0 l<=m
 .have hcut:=lT W
  rw[hcut];subst hv;have y:=f.k0;have x:=ax h;have z:=ax Y;have k:max (m:Int) 1=m:=aa;clear f d h ok Y hcut;go_in;go_wp2;go_ret;have a:Touch F w w:=Touch.refl _ _;exact⟨rfl,(jK g l).more x.o (λ_ h=>.inl h) (jt z.o (aD _)),a⟩
 .obtain⟨i,hi⟩:∃i,ab0 l=i+m:=⟨ab0 l - m,aa⟩
  obtain⟨sg,c,hv',hc1,hc2,V⟩:=U4 d (m:=i) aa;subst hv';have hpos:0<i:=aa;have Q:=ax (sum_any i w h ok aa hpos);have X:hZ m l=(bump (tot (l.take i)) (l.drop i),tot (l.take i)):=by unfold hZ;rw[show ab0 l - m=i by omega]
  have b:ab0 (l.drop i)=m:=by rw[aW];omega
  obtain⟨q,r,z⟩:∃q r,l.drop i=q::r:=by
   cases hx:l.drop i with
   | nil=>rw[hx] at b;simp at b;omega
   | cons q r=>exact⟨q,r,rfl⟩
  obtain⟨x,n⟩:=q;have u:tot l=tot (l.take i)+tot (l.drop i):=by rw[<-h_,bL]
  have H:=g_ (l:=l.take i) (λp t=>ok.pos p (cm t));have b1:=g_ (l:=r) (λp t=>ok.pos p (cp (i:=i) (by rw[z];exact aQ _ t)));have G:=ok.pos (x,n) (cp (i:=i) (by rw[z];exact aJ ..));have E:=ok.tot;simp only at G;rw[X,z];rw[z] at V u b;rw[z] at X;have⟨s,M⟩:=ar (tot (l.take i));rw[M] at Q u H |-;have N:bump s ((x,n)::r)=(x,n+s)::r:=rfl;have S:tot ((x,n+s)::r)=tot l:=by rw[kx,u,kx];omega
  rw[N];have⟨t,a⟩:=ar (tot l);rw[a] at S f E u;rw[kx] at u;simp only at u;have J:=ax S;have y:=f.k0;have U:=ax f;have HO:=ax d;have K:=ax Y;have P:=ax V;have T:=ax b;rw[show ab0 l - i=m by omega] at P;clear f d h ok Y X M z N S a b V;have k:max (m:Int) 1=m:=aa;have S:=U.o.lt;rw[show ab0 l=i+m by omega] at y;have Uw:(i:Int)<=(c:Int):=aa;have hci:¬(c=i):=aa;go_in;go_wp21;refine RX Q.o ?_;intro w1 X;have D:=(X.C (p:=af7 g 0) S).T y;have hz1:=X.size;go_wp21;refine WE (I_ _ ((x,n)::r) _ (P.o.K X) (aa2 T.o)) ?_;rintro v2 M ⟨b,B⟩;obtain⟨z,a,rfl,ab6,o,hc3,hc4⟩:=b.pos ad;have V:af3 w M:=X.T (B.M hz1);have ab7:=(V.C (p:=af7 g 0) S).T y;have f0':=(U.o.K V).F 0;have N:z≠g:=aa;have c1:M.cell? (af7 z 1)=some (.int .u64 n):=(GI b (j:=0) (by simp)).2;have f2:=b.frozenAt 1;have L:=ax (U.o.K V);have I:=ax b;rw[T.o];have hq2:n+s<=4611686018427387904:=aa;clear D y b;go_wp2;go_ret;have D:=(L.o.hJ 0 (.slice (some (af7 z 0)) m a)).far (p:=af7 z 1) (λe=>N e.Y) (.int .u64 (n+s));have y:=Dz (I.o.far (p:=af7 g 0) (λe=>N (bJ e)) (.slice (some (af7 z 0)) m a)) (j:=0) (by simp) (n+s);have b:=((Touch.of_below (F:=F) V (aD _)).setCell (p:=af7 g 0) (.inl O) (.slice (some (af7 z 0)) m a)).setCell (p:=af7 z 1) (.inr (by show w.heap.size<=z;omega)) (.int .u64 (n+s));refine⟨rfl,⟨.slice (some (af7 z 0)) m a,?_,?_,.inl O,λq e=>?_,jt K.o b.size⟩,b⟩
  .rw[J.o];exact D
  .rw[T.o] at y;exact y.more (bl _)
  .obtain rfl:z=q:=bJ e
   exact .inr ⟨aa,by simp;exact o⟩
def Kw{α:Type}(E:vT α)(F:Ft)(w:World)(v:Value)(l:List α):Prop:=∀W:World,(∀k,k<w.heap.size->¬F k->W.heap[k]?=w.heap[k]?)->w.heap.size<=W.heap.size->iQ E W v l
section
variable {α : Type} {E : vT α} {F : Ft} {w w' : World} {v : Value} {l : List α}
def I'(h:Kw E F w v l):iQ E w v l:=h w (λ_ _ _=>rfl) (aD _)
def kA(h:Kw E F w v l)(z:af3 w w'):Kw E F w' v l:=λW x u=>h W (λk y t=>(x k (aG y z.size) t).T (z.block k y)) (bf z.size u)
def lZ(h:Kw E F w v l)(z:Touch F w w'):iQ E w' v l:=h w' z.block z.size
def Ja{base:Nat}(h:g8 E base w v l)(y:∀k,v.ownBlock=some k->¬F k):Kw E F w v l:=λW z _=>(h.stay λk e=>z k (h.lt k e).2 (y k e)).rd
def Qw{g off n c:Nat}{x:α}(h:iQ E w (.slice (some (af7 g off)) n c) (x::l)):iQ E w (.slice (if c=1 then some (af7 g off) else some (af7 g (off+E.k))) (ab0 l) (c - 1)) l:=by
 obtain⟨A,u,e,y,t,v⟩:=h.form;injection e with e1 e2 e3;subst e1;subst e3;simp only[aK] at y;by_cases z:c=1
 .rw[aH z]
  have:l=[]:=aV aa;subst this;exact iQ.kn ad aa ky.nil
 .rw[aF z]
  have:=v.drop rfl 1;rw[gZ] at this;exact iQ.kn aa  aa this
end
variable{F G:Ft}{w w':World}{c g h m n off:Nat}{l:List Pr}{f:Int}
def pt{α:Type}{E:vT α}{v:Value}{l:List α}(h:Kw E F w v l)(z:Touch F w w'):Kw E F w' v l:=λW u t=>h W (λk x y=>(u k (aG x z.size) y).T (z.block k x y)) (bf z.size t)
def lq{x m:Int}(h:iQ iF w (.slice (some (af7 g off)) n c) ((x,m)::l)):w.cell? (af7 g off)=some (af6 x)/\w.cell? (af7 g (off+1))=some (.int .u64 m):=by
 obtain⟨A,u,e,s,r,v⟩:=h.form;injection e with e1 e2 e3;subst e1;obtain⟨t,p,e,q,z,y⟩:=j' v (j:=0) (by simp);injection e with e;injection e with e1 e2;subst e1;subst e2;simp only[dj,cF,bZ] at z y;exact⟨z,y⟩
def tJ{x:Pr}(h:Kw iF F w (.slice (some (af7 g off)) n c) (x::l)):Kw iF F w (.slice (if c=1 then some (af7 g off) else some (af7 g (off+2))) (ab0 l) (c - 1)) l:=λW z y=>Qw (h W z y)
def tK{B:Int}:∀(n:Nat) (a b:List Pr),ab0 a+ab0 b<=n->(∀p∈a,-B<=p.1/\p.1<=B)->(∀p∈b,-B<=p.1/\p.1<=B)->ab0 (nf a b)<=ab0 a+ab0 b/\∀p∈nf a b,-B<=p.1/\p.1<=B
 | _,[],b,_,_,hb=>by rw[zip_nil_left];exact⟨ad,hb⟩
 | _,p::a,[],_,ha,_=>by rw[zip_nil_right];exact⟨ad,ha⟩
 | 0,p::a,q::b,hn,_,_=>by simp at hn
 | n+1,p::a,q::b,hn,ha,hb=>by
  simp only[aK] at hn;have u:=λx z=>ha x (aQ p z);have t:=λx z=>hb x (aQ q z);have s:=ha p (aJ ..);have r:=hb q (aJ ..);rcases gn p.1 q.1 with h|h|h
  .rw[Gv a b h]
   obtain⟨v,y⟩:=tK n a (q::b) ae u hb;refine⟨by simp only[aK] at *;omega,λx z=>?_⟩;rcases aS.1 z with rfl|z
   .exact s
   .exact y x z
  .rw[Gx a b h]
   obtain⟨v,y⟩:=tK n a b aa u t;refine⟨by simp only[aK] at *;omega,λx z=>?_⟩;rcases aS.1 z with rfl|z
   .exact s
   .exact y x z
  .rw[Gw a b h]
   obtain⟨v,y⟩:=tK n (p::a) b ae ha t;refine⟨by simp only[aK] at *;omega,λx z=>?_⟩;rcases aS.1 z with rfl|z
   .exact r
   .exact y x z
def Qx{a b:List Pr}(z:qP a)(y:qP b)(x:tot a+tot b<=4611686018427387904)(v:ab0 a+ab0 b<=100000):qP (iC a b):=by
 have e:=Bw z.jk y.jk z.pos y.pos;have k:=tK (B:=1048576) _ a b (aD _) z.key y.key;rw[e] at k;exact⟨mL z.jk,lS z.pos y.pos,k.2,by rw[lR];exact x,aa⟩
def GK{m:List Pr}(w:World)(x:mW g l F w)(r:mW h m G w)(ok:qP l)(t:qP m)(f:4611686018427387904<tot l+tot m):af4 af5 258 #[aq g,aq h] w λe w'=>e=.returned (af6 6)/\∃n,w'=w.drewN n:=by
 obtain⟨v,z,_⟩:=x;obtain⟨u,y,_⟩:=r;have q:=z.k1;have p:=y.k1;have d:=g_ ok.pos;have c:=ok.tot;clear z y ok t;generalize tot l=t at *;generalize tot m=s at *;have z:4611686018427387904 - t<s:=aa;have y:ad0 .u64 (4611686018427387904 - t)=4611686018427387904 - t:=by rw[iy];omega
 go_in;go_wp21
 go_quiet (fail)
 go_wp2;go_ret;exact⟨rfl,_,rfl⟩
def Kx{m:List Pr}(w:World)(a:mW g l F w)(ht:mW h m G w)(ok:qP l)(y:qP m)(ho:tot l+tot m<=4611686018427387904)(hl:ab0 l+ab0 m<=100000):af4 af5 258 #[aq g,aq h] w λe w'=>e=.returned (af6 0)/\mW g (iC l m) (Gr F w w') w'/\Touch F w w':=by
 have hs':=a;obtain⟨v,z,s,hFg,X,b⟩:=hs';obtain⟨u,t,x,_⟩:=ht;have D:=z.k1;have n:=t.k1;have k0:=z.k0;have k3:=t.k0;have t0:=g_ ok.pos;have t2:=g_ y.pos;have HZ:Hid (nf l m=iC l m):=ax (Bw ok.jk y.jk ok.pos y.pos);have HT:Hid (tot (iC l m)=tot l+tot m):=ax (lR m l);obtain⟨N,r⟩:∃N:Ft,N=λk=>k=g\/w.heap.size<=k:=⟨_,rfl⟩;have AA:Hid (Kw iF N w v l):=ax (Ja s (λk e h=>by
  rw[r] at h;rcases h with h|h
  .exact own_ne z s ab (by rw[e,h])
  .have:=(s.lt k e).2;omega))
 have AB:Hid (Kw iF N w u m):=ax (Ja x (λk e h=>by
  rw[r] at h;rcases h with h|h
  .exact own_ne z x ab (by rw[e,h])
  .have:=(x.lt k e).2;omega))
 have Y:Hid (∀k,N k<->k=g\/w.heap.size<=k):=ax (λk=>by rw[r]);have HPB:Hid (∀p,p∈l\/p∈m->0<=p.2/\p.2<=4611686018427387904):=ax (λp M=>by
  rcases M with M|M
  .have d:=mC ok.pos p M;have f:=ok.pos p M;have q:=ok.tot;omega
  .have d:=mC y.pos p M;have f:=y.pos p M;have q:=y.tot;omega)
 have HB:=ax z;have HC:=ax t;have HFL:=ax b;have hgl:=z.lt;have hhl:=t.lt;have hvf:∃A c,v=.slice A (ab0 l) c:=by obtain⟨A,c,e,_⟩:=s.form;exact⟨A,c,e⟩
 have huf:∃A c,u=.slice A (ab0 m) c:=by obtain⟨A,c,e,_⟩:=x.form;exact⟨A,c,e⟩
 obtain⟨A0,c0,rfl⟩:=hvf;obtain⟨B0,d0,rfl⟩:=huf;clear z t ok y a s x b X r;generalize iC l m=r at *;have⟨t,y⟩:=ar (tot l);have⟨s,z⟩:=ar (tot m);rw[y] at D t0 ho HT HB;rw[z] at n t2 ho HT HC;clear y z;have z:ad0 .u64 (4611686018427387904 - t)=4611686018427387904 - t:=by rw[iy];omega
 go_in;go_wp21
 go_quiet (fail)
 go_wp21
 go_quiet (fail)
 go_wp21;clear z
 go_loopg [5,6,7] (ab0 l+ab0 m) (λq x y z wr=>∃(T a b:List Pr),q=ab0 a+ab0 b/\ab0 T+q<=100000/\Hid (g8 iF w.heap.size wr x T)/\Hid (Kw iF N wr y a)/\Hid (Kw iF N wr z b)/\Hid (T++nf a b=r)/\Hid (∀p,p∈a\/p∈b->0<=p.2/\p.2<=4611686018427387904)/\af3 w wr)
 exact⟨[],l,m,rfl,ae,ax (g8.nil_ _ _),ax (kA AA.o (below_drewN (below_drewN (aC _ _) _) _)),ax (kA AB.o (below_drewN (below_drewN (aC _ _) _) _)),HZ,HPB,below_drewN (below_drewN (aC _ _) _) _⟩
 case round=>
  obtain⟨T,a,b,z,hal,HU,HA,Jb,HS,Qy,hb⟩:=hrel;have HQ:=ax z;rw[z] at hal;have hz:=hb.size;clear z;obtain⟨A1,c1,rfl,ha1,ha2,fa⟩:=(I' HA.o).form;obtain⟨B1,d1,rfl,hb1,hb2,fb⟩:=(I' Jb.o).form;obtain⟨U1,e1,rfl,_,_,_⟩:=HU.o.form;by_cases hab:0<ab0 a/\0<ab0 b
  .obtain⟨ha0,hb0⟩:=hab
   obtain⟨p,a,rfl⟩:∃p z,a=p::z:=by cases a with|nil=>simp at ha0|cons p a=>exact⟨p,a,rfl⟩
   obtain⟨q,b,rfl⟩:∃p z,b=p::z:=by cases b with|nil=>simp at hb0|cons p a=>exact⟨p,a,rfl⟩
   obtain⟨ga,oa,rfl,hga,x0,x1⟩:=j' fa (j:=0) (by simp);obtain⟨gb,ob,rfl,hgb,y0,y1⟩:=j' fb (j:=0) (by simp);simp only[dj,cF,bZ] at x0 x1 y0 y1;simp only[aK] at *;clear fa fb;obtain⟨d,V⟩:=p;obtain⟨i,X⟩:=q;simp only at x0 x1 y0 y1;have ab8:(1:Int)<=(ab0 a:Int)+1:=aa;have hz1b:(1:Int)<=(ab0 b:Int)+1:=aa;rcases gn d i with hc|hc|hc
   .have HZ2:=ax (Gv (p:=(d,V)) (q:=(i,X)) a b hc)
    go_wp21
    go_quiet (fail)
    clear x0 x1 y0 y1;go_upto_region 11 with fail;have⟨H,O⟩:=ar (wr.drewN nq);have y:af3 wr H:=by rw[<-O];exact below_drewN (aC _ _) _
    have J:=ax (kA HA.o y);have L:=ax (kA Jb.o y);have W:=ax (HU.o.K y);have hb2:=hb.T (y.M hz);have hzw:=hb2.size;rw[O];clear O y;refine jh (Touch (λk=>w.heap.size<=k) H) (hQ 0 4 (hQ 6 2 (ik 4 (ik 5 (hQ 8 2 []))))) ((Touch.refl _ _).drew) ?_;iterate 6 refine ib (h:=λw' z=>by obtain⟨k0,D⟩:=lq (lZ J.o (z.M (λk h=>(Y.o k).2 (.inr h))));obtain⟨n,k3⟩:=lq (lZ L.o (z.M (λk h=>(Y.o k).2 (.inr h))));exact af8) ?_
    refine iz λK f=>?_;go_simp;refine f _ _ (((Touch.refl _ _).drew).alloc _) ?_;refine iz λK f=>?_;refine yq oB (.tmp 67) (.tmp 71) rfl ((W.o.drew).alloc _) rfl _ [(d,V)] rfl (iQ.ig (E:=iF) _ (d,V) _ rfl _ rfl _ ad) ae ag ?_;intro v7 C U I _;have R:Touch (λk=>w.heap.size<=k) H C:=(((Touch.refl _ _).drew).alloc _).grown I (λk e=>.inl (W.o.lt k e).1);have S:=ax U;obtain⟨U7,e7,rfl,_,_,_⟩:=U.form;clear U I;go_simp;refine f _ _ (R) ?_;iterate 2 refine ib (h:=λw' z=>by obtain⟨k0,D⟩:=lq (lZ J.o (z.M (λk h=>(Y.o k).2 (.inr h))));obtain⟨n,k3⟩:=lq (lZ L.o (z.M (λk h=>(Y.o k).2 (.inr h))));exact af8) ?_
    refine g4 ?_;have hb7:af3 w C:=tnew hb2 R (λ_ h=>h);have o:=R.M (G:=N) (λk h=>(Y.o k).2 (.inr h));have B:ab0 (T++[(d,V)])=ab0 T+1:=ad;rw[B] at S;have P:=tJ (pt J.o o);have Q:=pt L.o o;generalize (if c1=1 then some ((af7 ga oa):Addr) else some (af7 ga (oa+2)))=ba at P |-
    have CA':=ax P;have Ux:=ax Q;clear P Q B;go_wp2;go_roundg (ab0 a+(ab0 b+1))
    exact⟨T++[(d,V)],a,(i,X)::b,rfl,by simp only[aE,aK,aY];omega,S,CA',Ux,ax (by rw[<-HS.o,HZ2.o];simp),ax (λp M=>Qy.o p (M.imp (λh=>by exact aQ _ h) (λh=>by exact h))),hb7⟩;have:=HQ.o;omega
   .subst hc
    have HZ2:=ax (Gx (p:=(d,V)) (q:=(d,X)) a b rfl);have hp1:=Qy.o (d,V) (.inl (aJ ..));have hp2:=Qy.o (d,X) (.inr (aJ ..));simp only at hp1 hp2;have Ky:=ax (by rw[iy];omega:ad0 .u64 (V+X)=V+X);go_wp21
    go_quiet (fail)
    generalize nq=n1 at *;go_wp21
    go_quiet (fail)
    clear x0 x1 y0 y1;go_upto_region 8 with fail;have⟨H,O⟩:=ar ((wr.drewN n1).drewN nq);have y:af3 wr H:=by rw[<-O];exact below_drewN (below_drewN (aC _ _) _) _
    have J:=ax (kA HA.o y);have L:=ax (kA Jb.o y);have W:=ax (HU.o.K y);have hb2:=hb.T (y.M hz);have hzw:=hb2.size;rw[O];clear O y;refine jh (Touch (λk=>w.heap.size<=k) H) (hQ 0 15 (ik 15 (ik 16 (hQ 17 1 [])))) ((Touch.refl _ _).drew) ?_;iterate 15 refine ib (h:=λw' z=>by obtain⟨k0,D⟩:=lq (lZ J.o (z.M (λk h=>(Y.o k).2 (.inr h))));obtain⟨n,k3⟩:=lq (lZ L.o (z.M (λk h=>(Y.o k).2 (.inr h))));have hws:=Ky.o;exact af8) ?_
    refine iz λK f=>?_;go_simp;refine f _ _ (((Touch.refl _ _).drew).alloc _) ?_;refine iz λK f=>?_;refine yq oB (.tmp 36) (.tmp 51) rfl ((W.o.drew).alloc _) rfl _ [(d,V+X)] rfl (iQ.ig (E:=iF) _ (d,V+X) _ rfl _ rfl _ ad) ae ag ?_;intro v7 C U I _;have R:Touch (λk=>w.heap.size<=k) H C:=(((Touch.refl _ _).drew).alloc _).grown I (λk e=>.inl (W.o.lt k e).1);have S:=ax U;obtain⟨U7,e7,rfl,_,_,_⟩:=U.form;clear U I;go_simp;refine f _ _ (R) ?_;refine ib (h:=λw' z=>by obtain⟨k0,D⟩:=lq (lZ J.o (z.M (λk h=>(Y.o k).2 (.inr h))));obtain⟨n,k3⟩:=lq (lZ L.o (z.M (λk h=>(Y.o k).2 (.inr h))));have hws:=Ky.o;exact af8) ?_;refine g4 ?_;have hb7:af3 w C:=tnew hb2 R (λ_ h=>h);have o:=R.M (G:=N) (λk h=>(Y.o k).2 (.inr h));have B:ab0 (T++[(d,V+X)])=ab0 T+1:=ad;rw[B] at S;have P:=tJ (pt J.o o);have Q:=tJ (pt L.o o);clear B;rcases Decidable.em (c1=1) with e1|e1<;>rcases Decidable.em (d1=1) with e2|e2
    all_goals
     first|(subst e1;rw[aH rfl] at P)|rw[aF e1] at P
     first|(subst e2;rw[aH rfl] at Q)|rw[aF e2] at Q
     have CA':=ax P;have Ux:=ax Q;clear P Q;go_wp21
     go_quiet (fail)
     go_wp2;go_roundg (ab0 a+ab0 b)
     exact⟨T++[(d,V+X)],a,b,rfl,by simp only[aE,aK,aY];omega,S.o.drewN _,by first|exact kA CA'.o (below_drewN (aC _ _) _)|(have h:=CA'.o;rw[show ab0 a=0 by omega] at h;exact kA h (below_drewN (aC _ _) _)),by first|exact kA Ux.o (below_drewN (aC _ _) _)|(have h:=Ux.o;rw[show ab0 b=0 by omega] at h;exact kA h (below_drewN (aC _ _) _)),ax (by rw[<-HS.o,HZ2.o];simp),ax (λp M=>Qy.o p (M.imp (λh=>by exact aQ _ h) (λh=>by exact aQ _ h))),below_drewN hb7 _⟩;have:=HQ.o;omega
   .have HZ2:=ax (Gw (p:=(d,V)) (q:=(i,X)) a b hc)
    go_wp21
    go_quiet (fail)
    generalize nq=n1 at *;go_wp21
    go_quiet (fail)
    clear x0 x1 y0 y1;go_upto_region 13 with fail;have⟨H,O⟩:=ar ((wr.drewN n1).drewN nq);have y:af3 wr H:=by rw[<-O];exact below_drewN (below_drewN (aC _ _) _) _
    have J:=ax (kA HA.o y);have L:=ax (kA Jb.o y);have W:=ax (HU.o.K y);have hb2:=hb.T (y.M hz);have hzw:=hb2.size;rw[O];clear O y;refine jh (Touch (λk=>w.heap.size<=k) H) (hQ 0 4 (hQ 6 2 (ik 4 (ik 5 (hQ 8 2 []))))) ((Touch.refl _ _).drew) ?_;iterate 6 refine ib (h:=λw' z=>by obtain⟨k0,D⟩:=lq (lZ J.o (z.M (λk h=>(Y.o k).2 (.inr h))));obtain⟨n,k3⟩:=lq (lZ L.o (z.M (λk h=>(Y.o k).2 (.inr h))));exact af8) ?_
    refine iz λK f=>?_;go_simp;refine f _ _ (((Touch.refl _ _).drew).alloc _) ?_;refine iz λK f=>?_;refine yq oB (.tmp 85) (.tmp 89) rfl ((W.o.drew).alloc _) rfl _ [(i,X)] rfl (iQ.ig (E:=iF) _ (i,X) _ rfl _ rfl _ ad) ae ag ?_;intro v7 C U I _;have R:Touch (λk=>w.heap.size<=k) H C:=(((Touch.refl _ _).drew).alloc _).grown I (λk e=>.inl (W.o.lt k e).1);have S:=ax U;obtain⟨U7,e7,rfl,_,_,_⟩:=U.form;clear U I;go_simp;refine f _ _ (R) ?_;iterate 2 refine ib (h:=λw' z=>by obtain⟨k0,D⟩:=lq (lZ J.o (z.M (λk h=>(Y.o k).2 (.inr h))));obtain⟨n,k3⟩:=lq (lZ L.o (z.M (λk h=>(Y.o k).2 (.inr h))));exact af8) ?_
    refine g4 ?_;have hb7:af3 w C:=tnew hb2 R (λ_ h=>h);have o:=R.M (G:=N) (λk h=>(Y.o k).2 (.inr h));have B:ab0 (T++[(i,X)])=ab0 T+1:=ad;rw[B] at S;have P:=pt J.o o;have Q:=tJ (pt L.o o);generalize (if d1=1 then some ((af7 gb ob):Addr) else some (af7 gb (ob+2)))=y at Q |-
    have CA':=ax P;have Ux:=ax Q;clear P Q B;go_wp2;go_roundg ((ab0 a+1)+ab0 b)
    exact⟨T++[(i,X)],(d,V)::a,b,rfl,by simp only[aE,aK,aY];omega,S,CA',Ux,ax (by rw[<-HS.o,HZ2.o];simp),ax (λp M=>Qy.o p (M.imp (λh=>by exact h) (λh=>by exact aQ _ h))),hb7⟩;have:=HQ.o;omega
  .have B:Hid (T++a++b=r/\(¬0<ab0 a\/¬0<ab0 b)):=ax (by
    refine⟨?_,aa⟩;rw[<-HS.o];by_cases y:a=[]
    .subst y;rw[zip_nil_left];simp
    .have x:b=[]:=by
      cases b with
      | nil=>rfl
      | cons q b=>exact absurd ⟨eR.2 y,ad⟩ hab
     subst x;rw[zip_nil_right];simp)
   have x:=(hb.C (p:=af7 g 1) hgl).T D;have y:=(hb.C (p:=af7 h 1) hhl).T n;have E:=ax x;have K2:=ax y;have J:=ax (HB.o.K hb);have hgr:g<wr.heap.size:=aa;have WN:h<wr.heap.size:=aa;have f1:=J.o.F 1;clear k0 D n k3 x y fa fb;have P:¬0<ab0 a\/(0<ab0 a/\¬0<ab0 b):=by have:=B.o.2;omega
   rcases P with P|⟨P,hcs'⟩
   all_goals
    go_upto_region 14 with fail;have Z:=ax (λ(w':World) (z:(af3 wr) w')=>(aB ((z.C (p:=af7 g 1) hgr).T E.o) ((z.C (p:=af7 h 1) WN).T K2.o)));refine qd (af3 wr) 11 (pW 0 9 (FH 9 1 (pW 10 1 (o_ 11 [])))) ((aC _ _).drew) ?_;iterate 9 refine kz ?_
    refine sQ ?_;refine kz ?_;refine qc λK f=>?_;have D:wr.drew.cell? (af7 g 1)=_:=E.o;have k9:wr.drew.frozen? (af7 g 1)=_:=f1;go_simp;refine f _ _ ?_;refine iq ?_;rw[show ad0 .u64 (t+s)=t+s by rw[iy];omega];have z:Touch N wr ((wr.setCell (af7 g 1) (.int .u64 (t+s))).drew):=((Touch.refl _ _).setCell (p:=af7 g 1) (.inl ((Y.o g).2 (.inl rfl))) _).drew;have x:=(J.o.hJ 1 (.int .u64 (t+s))).drew;have y:=(HU.o.far (p:=af7 g 1) (λe=>by have:=(HU.o.lt g e).1;omega) (.int .u64 (t+s))).drew;have IZ:w.heap.size<=((wr.setCell (af7 g 1) (.int .u64 (t+s))).drew).heap.size:=bf hz z.size;have T5w:=ax ((Touch.of_below (F:=λk=>k=g\/w.heap.size<=k) hb (aD _)).T z (λk h=>.inl ((Y.o k).1 h)));generalize (wr.setCell (af7 g 1) (.int .u64 (t+s))).drew=w5 at *;have R5:=ax (lZ HA.o z);have i:=ax x;have V:=ax y;have W:=ax z;clear x y z;have o:ab0 (T++a)+ab0 b<=1099511627776:=by rw[aE];omega
    go_wp2_with (first
     | (at_builtin
        refine oM oB rfl (.tmp 105) (.tmp 106) rfl V.o rfl _ a rfl R5.o aa IZ ?_;intro O d y z _;have x:=ax (W.o.T ((Touch.refl N w5).grown z (λk e=>.inl ((Y.o k).2 (.inr (V.o.lt k e).1)))) (λ_ h=>.inl h));have j:=ax (iG i.o V.o ab z);have Q:=ax (T5w.o.grown z (λk e=>.inl (.inr (V.o.lt k e).1)));have X:=ax y;have H:=ax (lZ Jb.o x.o);have L:w.heap.size<=d.heap.size:=Q.o.size;clear y z)
     | (at_builtin
        refine oM oB rfl (.tmp 107) (.tmp 108) rfl X.o rfl _ b rfl H.o o L ?_;intro v7 C U I _;have d:=ax (iG j.o X.o ab I);have R:=ax (Q.o.grown I (λk e=>.inl (.inr (X.o.lt k e).1)));rw[B.o.1] at U;have S:=ax U;have O:=d.o.C 0;have f7:=d.o.F 0;simp only[bA,bR,bS,az,ay] at O;obtain⟨y,e7,x,_,_,_⟩:=U.form;generalize ab0 r=z at x;subst x;clear U I))
    go_ret;have L:=d.o.hJ 0 (.slice y z e7);have O:=S.o.far (p:=af7 g 0) (own_ne d.o S.o ab) (.slice y z e7);have Q:Touch F w (C.setCell (af7 g 0) (.slice y z e7)):=have t:=R.o.setCell (p:=af7 g 0) (.inl (.inl rfl)) (.slice y z e7);⟨t.os,t.tape,t.output,t.size,λk X x=>t.block k X (λh=>h.elim (λe=>x (e▸hFg)) (λh=>by omega))⟩
    refine⟨rfl,⟨.slice y z e7,?_,O.more (bl _),.inl hFg,λq e=>.inr ⟨(S.o.lt q e).1,?_⟩,jt HFL.o Q.size⟩,Q⟩
    .rw[HT.o];exact L
    .have:=(S.o.lt q e).2;simpa using this
def yw{k n:Int}:∀{l:List Pr},(∀p∈l,p.1<k)->iu k n l=l++[(k,n)]
 | [],_=>rfl
 | p::l,h=>by
  unfold iu;rw[aH (h p (aJ ..)),yw λq z=>h q (aQ _ z)];rfl
def Nu(h:ji l){j:Nat}(z:j<ab0 l):iu l[j].1 l[j].2 (l.take j)=l.take (j+1):=by
 rw[yw,aM z];intro p x;obtain⟨i,y,rfl⟩:=gQ.1 x;rw[gw];rw[aU] at y;exact ck.1 h i j aa z aa
def yx(h:qP l)(j:Nat):qP (l.take j):=by
 have e:tot l=tot (l.take j)+tot (l.drop j):=by rw[<-h_,bL]
 have y:=g_ (l:=l.drop j) (λp z=>h.pos p (cp z));exact⟨h.jk.sublist (List.take_sublist _ _),λp z=>h.pos p (cm z),λp z=>h.key p (cm z),by have:=h.tot;omega,by have:=h.len;rw[aU];omega⟩
def S5(v:Value)(l:List Pr)(w:World)(h:iQ iF w v l)(ok:qP l)(Q:ab0 l<100000):af4 af5 441 #[v] w λe r=>∃g,e=.returned (.tuple #[aq g,af6 0])/\mW g l (Gr (λ_=>False) w r) r/\af3 w r:=by
 obtain⟨A,c,rfl,_,_,x⟩:=h.form;have d:=ax x;have b:Hid (∀j (y:j<ab0 l),qP (l.take j)/\jH (l.take j) l[j].1 l[j].2=0/\iu l[j].1 l[j].2 (l.take j)=l.take (j+1)/\0<l[j].2/\l[j].2<=4611686018427387904):=ax (λj y=>by
  have z:=Nu ok.jk y;have u:=yx ok (j+1);have t:=p_ l[j].1 l[j].2 (l.take j);rw[z] at t;have q:=u.tot;have s:=ok.pos _ (aP y);have p:=ok.key _ (aP y);have f:=g_ (yx ok j).pos;refine⟨yx ok j,?_,z,s,aa⟩;unfold jH;rw[aF aa,aF aa,aF aa])
 clear h x ok;go_in;go_wp2;go_loopg [12] (ab0 l) (λq x wr=>∃j:Nat,q=ab0 l - j/\j<=ab0 l/\x=af6 j/\Hid (mW w.heap.size (l.take j) (Gr (λ_=>False) w wr) wr)/\af3 w wr)
 exact⟨0,rfl,aa,rfl,ax ⟨.slice none 0 0,g7.new _ _ _,g8.nil_ _ _,.inr ⟨aD _,ad⟩,(λk e=>by cases e),λk h=>h.elim False.elim And.right⟩,bw⟩
 case round=>
  obtain⟨j,z,y,rfl,u,t⟩:=hrel;have a:=ax z;have O:=t.size;clear z;by_cases p:j<ab0 l
  .obtain⟨g,L,rfl,S,U,T⟩:=j' (d.o.K t) p
   obtain⟨z,s,q,N,M⟩:=b.o j p;have R:(j:Int)<(ab0 l:Int):=aa;have P:=u.o.choose_spec.1.lt;have X:af3 w (wr.alloc (.cells #[af6 l[j].1,.int .u64 l[j].2] 192)):=bw;have C:=ax (DA l[j].1 l[j].2 (wr.alloc (.cells #[af6 l[j].1,.int .u64 l[j].2] 192)) ((jK _ _).K u.o (dD (aC _ _) (aD _) _)) z aa s (by rw[aU];omega));rw[q] at C;clear z s q;generalize l[j].1=x at *;generalize l[j].2=n at *;go_wp21;refine RX C.o ?_;rintro q ⟨f,s⟩;have Y:Hid (mW w.heap.size (l.take (j+1)) (Gr (λ_=>False) w q) q):=ax ((jK _ _).more f (λk z=>by
    rcases z with(z|z)|z
    .exact z.elim
    .exact .inr ⟨z.1,by have:=s.size;simp at this;omega⟩
    .exact .inr ⟨by have:=z.1;simp at this;omega,z.2⟩) (λk z=>z.elim False.elim And.right))
   have V:af3 w q:=tnew X s (λk z=>z.elim False.elim And.left);clear f s;go_wp2;go_roundg (ab0 l - (j+1))
   exact⟨j+1,rfl,aa,af,Y,V⟩;have:=a.o;omega
  .obtain rfl:j=ab0 l:=aa
   rw[bc (aD _)] at u;go_wp2;go_ret2;exact⟨_,rfl,u.o,t⟩
def uX(c m:Nat)(l:List Pr)(f:Int)(F:Ft)(w:World):Prop:=∃g G,g7 w c 285 #[af6 m,aq g,.int .u64 f]/\mW g l G w/\F c/\¬G c/\(∀k,G k->F k)/\∀k,F k->k<w.heap.size
def nD(c m:Nat)(l:List Pr)(f:Int):kK (uX c m l f) where
 stay:=λ⟨g,G,x,v,z,u,y,t⟩ s r=>⟨g,G,(s c z).T x,(jK g l).stay v (λk e=>s k (y k e)) r,z,u,y,λk h=>aG (t k h) r⟩
 more:=λ⟨g,G,x,v,z,u,y,_⟩ h s=>⟨g,G,x,v,h c z,u,λk e=>h k (y k e),s⟩
 low:=λ⟨_,_,_,_,_,_,_,t⟩=>t
def PS(w:World)(c m:Nat)(l:List Pr)(f:Int):Prop:=∃g G,g7 w c 285 #[af6 m,aq g,.int .u64 f]/\mW g l G w
def uX.r(h:uX c m l f F w):PS w c m l f:=by
 obtain⟨g,G,z,y,_⟩:=h;exact⟨g,G,z,y⟩
def PS.K(h:PS w c m l f)(z:af3 w w'):PS w' c m l f:=by
 obtain⟨g,G,y,x⟩:=h;exact⟨g,G,y.K z,(jK g l).K x z⟩
def Nv(m:Nat)(w:World)(v:2<=m)(u:m<=4096):af4 af5 338 #[af6 m] w λe z=>∃c,e=.returned (.tuple #[aq c,af6 0])/\uX c m [] 0 (Gr (λ_=>False) w z) z/\af3 w z:=by
 go_in;go_wp2;go_ret2;have x:=g7.new w 381 #[.slice none 0 0,.int .u64 0];have y:=g7.new (w.alloc (.cells #[.slice none 0 0,.int .u64 0] 381)) 285 #[af6 m,.pointer (some (af7 (w.heap.size) 0)),.int .u64 0];rw[aI] at y;exact⟨_,rfl,⟨w.heap.size,λk=>k=w.heap.size,y,⟨.slice none 0 0,x.alloc _,g8.nil_ _ _,rfl,(λk e=>by cases e),(λk e=>by subst e;simp;omega)⟩,.inr ⟨aa,ad⟩,aa,(λk e=>.inr ⟨aa,by subst e;simp;omega⟩),λk h=>h.elim False.elim And.right⟩,bw⟩
def first_any(w:World)(h:PS w c m l f)(r:ab0 l<=100000):af4 af5 308 #[aq c] w (au w (.tuple #[af6 (mj l),.bool (decide (0<ab0 l))])):=by
 obtain⟨g,G,z,y⟩:=h;have C:=ax (Ar w y r);have q:=z.k1;clear z y;cases l with
 | nil=>
  have x:mj []=0:=rfl;have y:decide (0<ab0 ([]:List Pr))=false:=rfl;rw[x,y];go_in;go_wp21;refine WE C.o ?_;rintro v t ⟨z,u⟩;obtain⟨A,s,rfl,_,_,_⟩:=z.form;clear z;go_wp2;go_ret2;exact⟨rfl,u⟩
 | cons p l=>
  have x:mj (p::l)=p.1:=rfl;have y:decide (0<ab0 (p::l))=true:=ad;rw[x,y];clear x y;go_in;go_wp21;refine WE C.o ?_;rintro v t ⟨z,u⟩;obtain⟨y,s,rfl,_,_,_,_⟩:=z.pos ad;have x:t.cell? (af7 y 0)=some (af6 p.1):=(GI z (j:=0) (by simp)).1;clear z;have z:(0:Int)<((ab0 l:Nat):Int)+1:=aa;have b:((((ab0 l:Nat):Int)+1) == 0)=false:=ae;simp only[aK];go_wp2;go_ret2;exact⟨rfl,u⟩
