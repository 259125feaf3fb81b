/- Parts. No condition. -/
import Derived.Test.YtdicblkhpcphfaaGreatPA06
import Derived.Defers
import Derived.Recover
set_option maxRecDepth 100000
set_option maxHeartbeats 0
set_option linter.all false
namespace Go.Proofs.YtdicblkhpcphfaaGreat
open Tryz Go.RowKit Go.Lib
open _root_.List renaming length→ao
open _root_.Go renaming Calls→ar
open Tryz renaming prog→Oe
variable{g k:Nat}{F:Nat->Prop}{d:Int}{s:St}
def qE(w:World)(g:Nat)(F:Nat->Prop)(d:Int)(s:St):Prop:=oO w g F d s.L s.W s.lo s.hi
def Jy(a n:Int)(w:World)(h:zO w g F d s)(z:Fit d s k)(f:k<100000000)(u:-9223372036854775808<=a)(t:a<=9223372036854775807)(c:0<n)(b:n<=281474976710656 - tot (s.L++s.W)) :
 ar Oe 132 #[.pointer (some ⟨g,0,none⟩),.int .i64 a,.int .u64 n] w λe v=>e=.returned (.int .i64 0)/\∃y:Nat->Prop,(∀k,y k->F k\/w.heap.size<=k)/\zO v g y d (s.add d a n)/\Touch F w v:=by
 have:=add_any a n w h z.ok.ok ⟨z.ok.wk,z.ok.lo1⟩ ⟨z.ok.hi0,z.ok.hi1⟩ ⟨u,t⟩ ⟨by omega,by have:=z.ok.i7;omega⟩ (by have:=z.ok.len;omega) z.t (by have:=z.d0;omega) z.d1
 refine this.mono ?_
 intro e v x;simp only[aG (show ¬n=0 by omega),aG (show ¬281474976710656 - tot (s.L++s.W)<n by omega)] at x
 obtain⟨x,y,r,q,p⟩:=x;refine⟨x,y,r,?_,p⟩
 unfold zO;rw[St.Oh];exact q
def MI(a n:Int)(w:World)(h:zO w g F d s)(z:Fit d s k)(p:k<100000000)(u:-9223372036854775808<=a)(t:a<=9223372036854775807)(r:0<=n)(q:n<=18446744073709551615)(f:n=0\/281474976710656 - tot (s.L++s.W)<n) :
 ar Oe 132 #[.pointer (some ⟨g,0,none⟩),.int .i64 a,.int .u64 n] w (aw w (.int .i64 (if n=0 then 4 else 6))):=by
 have:=add_any a n w h z.ok.ok ⟨z.ok.wk,z.ok.lo1⟩ ⟨z.ok.hi0,z.ok.hi1⟩ ⟨u,t⟩ ⟨r,q⟩ (by have:=z.ok.len;omega) z.t (by have:=z.d0;omega) z.d1
 refine this.mono ?_
 intro e v y
 by_cases x:n=0
 ·simp only[aH x] at y |-;exact y
 ·simp only[aG x,aH (show 281474976710656 - tot (s.L++s.W)<n by omega)] at y |-;exact y
def MJ(a n:Int)(w:World)(h:qE w g F d s)(z:Fit d s k)(p:n=0\/281474976710656 - tot (s.L++s.W)<n) :
 ar Oe 93 #[.pointer (some ⟨g,0,none⟩),.int .i64 a,.int .u64 n] w (aw w (.int .i64 (if n=0 then 4 else 6))):=by
 have x:=ay h;have V:=z.ok.i7;have U:=z.t;have u:ao s.L+ao s.W<=1099511627776:=by have:=z.ok.len;have:=z.k1;omega
 have t:=ay z.ok.ok;clear h
 by_cases y:n=0
 ·subst y
  go_in
  go_wp2;refine an ?_
  exact⟨rfl,bw⟩
 ·simp only[aG y]
  have Y:281474976710656 - tot (s.L++s.W)<n:=aa
  have c:(n == 0)=false:=by simpa using y
  clear p y
  go_in
  go_wp2_with fail;refine(jx g F d s.lo s.hi s.L s.W _ x.o u).mono ?_
  rintro e T ⟨v,rfl,o,q⟩;have r:=ay o;have X:=q.size;clear o
  go_wp2_with fail;refine(hY v _ _ r.o.rd t.o aa).mono ?_
  rintro e S ⟨rfl,b⟩
  go_wp2;refine an ?_
  exact⟨rfl,bw⟩
def uy(a n:Int)(w:World)(h:qE w g F d s)(z:Fit d s k)(hk:k<100000000)(a0:-9223372036854775808<=a)(a1:a<=9223372036854775807)(n0:0<n)(n1:n<=281474976710656 - tot (s.L++s.W)) :
 ar Oe 93 #[.pointer (some ⟨g,0,none⟩),.int .i64 a,.int .u64 n] w λe R=>e=.returned (.int .i64 0)/\∃q:Nat->Prop,(∀k,q k->F k\/w.heap.size<=k)/\qE R g q d (s.add d a n)/\Touch F w R:=by
 obtain⟨L,W,S,r⟩:=s;have G:Hid (oO w g F d L W S r):=ay h;have t0:0<=tot (L++W):=z.ok.i7;have t1:tot (L++W)<=281474976710656:=z.t;have hkl:ao L+ao W<=k:=z.ok.len;replace n1:n<=281474976710656 - tot (L++W):=n1;have HL:ao L+ao W<=1099511627776:=aa
 have hl:ao L+ao W<100000000:=aa
 have HO:Hid (kg (L++W)):=ay z.ok.ok;have d0:=z.d0;have d1:=z.d1;have hb0:(n == 0)=false:=af
 have M:Hid (∀T,aq w T->ar Oe 114 #[.pointer (some ⟨g,0,none⟩),.int .i64 a,.int .i64 a] T λe R=>e=.returned (.tuple #[])/\oO R g F d L W (if tot (L++W)=0 then a else min S a) (if tot (L++W)=0 then a else max r a)/\Touch (λk=>k=g) T R):=by
  intro T x;have:=wX a a T (oO.keep G.o x) aa
  have e:(ao L+ao W=0)<->tot (L++W)=0:=by
   have y:=z.ok.r_;simp only at y;rw[y];constructor
   ·intro h;exact aN (by rw[aE];exact h)
   ·intro h;rw[<-aE,h];rfl
  simp only[e] at this;exact this
 have K:Hid (St.add d ⟨L,W,S,r⟩ a n=⟨iU d L W (a,n),l_ d W (a,n),if tot (L++W)=0 then a else min S a,if tot (L++W)=0 then a else max r a⟩):=rfl
 generalize (if tot (L++W)=0 then a else min S a)=lo1 at M K
 generalize (if tot (L++W)=0 then a else max r a)=hi1 at M K
 clear h z
 go_in
 go_wp2_with fail;refine(jx g F d S r L W _ G.o HL).mono ?_
 rintro e T ⟨v,rfl,o,hb1⟩;have O1:=ay o;have hz1:=hb1.size;clear o
 go_wp2_with fail;refine(hY v _ _ O1.o.rd HO.o aa).mono ?_
 rintro e w2 ⟨rfl,hb2⟩;have hz2:=hb2.size;have wo:aq w w2:=hb1.trans (hb2.mono hz1)
 go_wp2_with fail;refine(M.o _ wo).mono ?_
 rintro e E ⟨rfl,⟨Cs,wv1,z,x,y,u⟩,H⟩;obtain⟨B,cb,rfl,nb,mb,t⟩:=y.form;have q2:=z.k2;have r2:=z.frozen 2;have hlt3:=z.lt;have hz3:=H.size;have SV:=z.kr x ab
 have I:=z.kr y ab
 have B1:=ay z;have h:=ay x;have o:=ay y;have m:=ay u;clear z x y u t
 go_upto_region 7 with(first|(at_builtin;go_must (refine iI rfl (.tmp 23) (.tmp 27) rfl 0 (.slice B (ao W) cb) W rfl (o.o.alloc _) _ [(a,n)] rfl (kR.one _ (a,n)) (by simp only[bu];omega) (bB _) ?_);intro v1 f y b c;have z:=(b.block g (by rw[aI];omega) (λe=>I e.symm)).trans (B1.o.alloc (.cells #[.int .i64 a,.int .u64 n] 216));obtain⟨t,u,rfl,n4,m4,x⟩:=y.form;have l:=gN.cell z 2;have j:=gN.cell z 0;have u2:=gN.frozen z 2;simp only[aA,aB,az] at j l;have Y:Hid (gN f g _ _):=ay z;have A:=ay y;clear z y x;go_simp))
 have P:Hid (∃q:Nat->Prop,(∀k,q k->F k\/w.heap.size<=k)/\oO (f.setCell ⟨g,2,none⟩ (.slice t (ao W+1) u)) g q d L (W++[(a,n)]) lo1 hi1/\Touch F w (f.setCell ⟨g,2,none⟩ (.slice t (ao W+1) u))):=by
  obtain⟨N,O,C,D,Q⟩:=m.o;have hlen3:ao (W++[(a,n)])=ao W+1:=ad
  have U:=A.o;rw[hlen3] at U c;have T3:Touch F w E:=(Touch.of_below (F:=F) wo (aD _)).trans H (λi r=>by subst r;exact .inl N)
  have T4:Touch F w f:=(T3.alloc (.cells #[.int .i64 a,.int .u64 n] 216)).grown b (λz V=>.inl (C z V))
  have X:=T4.setCell (p:=⟨g,2,none⟩) (.inl N) (.slice t (ao W+1) u);have Ct:∀z,(Value.slice t (ao W+1) u).ownBlock=some z->F z\/z=E.heap.size+1:=λz e=>by
   rcases c with y|y
   ·exact .inl (C z (by rw[<-y];exact e))
   ·rw[y] at e;simp only[aI,aW] at e;exact .inr e.symm
  have SN:E.heap.size+1<=f.heap.size:=by have:=b.size;rw[aI] at this;exact this
  have OY:(Value.slice t (ao W+1) u).ownBlock≠some g:=λe=>by
   rcases c with y|y
   ·exact I (by rw[<-y];exact e)
   ·rw[y] at e;simp only[aI,aW] at e;omega
  have J:g7 0 f Cs L:=(h.o.alloc (.cells #[.int .i64 a,.int .u64 n] 216)).stay λz e=>b.block z (by rw[aI];have:=Q z (O z e);omega) (λq=>D z q.symm e)
  refine⟨λz=>F z\/(Value.slice t (ao W+1) u).ownBlock=some z,?_,⟨Cs,_,Y.o.gR 2 _,J.far (p:=⟨g,2,none⟩) (λe=>Y.o.kr J ab e) _,?_,.inl N,λz e=>.inl (O z e),λz e=>.inr e,?_,?_⟩,X⟩
  ·rintro z (x|e)
   ·exact .inl x
   ·rcases Ct z e with x|x
    ·exact .inl x
    ·exact .inr aa
  ·have:=U.far (p:=⟨g,2,none⟩) OY (.slice t (ao W+1) u)
   exact this
  ·intro z e q
   rcases c with y|y
   ·exact D z (by rw[<-y];exact e) q
   ·rw[y] at e;simp only[aI,aW] at e
    have:=Q z (O z q);omega
  ·intro z V
   rw[bW]
   rcases V with x|e
   ·have:=Q z x;omega
   ·exact(U.lt z e).2
 have y:=Y.o.gR 2 (.slice t (ao W+1) u);have v0:=y.cell 0;have C:=y.cell 2;simp only[aA,aB,az,aY,bm,bo] at v0 C;clear y j l u2 SV I q2 r2 b c;generalize f.setCell ⟨g,2,none⟩ (.slice t (ao W+1) u)=D at *;clear Y A h B1 o m H G M O1;have x:kg (L++(W++[(a,n)])):=by
  rw[<-aO];exact HO.o.append (λm y=>by simp only[ct] at y;subst y;exact⟨a0,a1,n0⟩)
 have G:=ay x;have H:Hid (tot (L++(W++[(a,n)]))=tot (L++W)+n):=by show _=_;simp only[gY,tot];omega
 clear x
 by_cases U:d<=(ao W:Int)+1
 ·have c:Hid (iU d L W (a,n)=jM d (L++(W++[(a,n)]))/\l_ d W (a,n)=[]):=by unfold iU l_;rw[aH U,aH U];exact⟨rfl,rfl⟩
  obtain⟨Q,p,q,x⟩:=P.o;have b:ao L+ao (W++[(a,n)])<=100000000:=by simp only[aE,bu];omega
  have y:tot (L++(W++[(a,n)]))<=281474976710656:=by rw[H.o];omega
  have I:=ay (λnq=>ux g Q d lo1 hi1 L (W++[(a,n)]) (D.drewN nq) (q.keep (below_drewN (aC _ _) nq)) G.o b y aa d1)
  have X:=ay x;have V:=ay p;clear p q x b y P
  go_quiet (fail)
  go_wp2_with fail;refine(I.o _).mono ?_
  rintro e j ⟨rfl,J,Y,b,y⟩;have M:=ay Y;have N:=ay b;have O:=ay y;have A:=X.o.size;clear Y b y
  go_wp2;refine an ?_
  refine⟨rfl,J,?_,?_,?_⟩
  ·intro z b
   rcases M.o z b with y|y
   ·exact V.o z y
   ·exact .inr (by rw[hN] at y;omega)
  ·rw[K.o]
   unfold qE;simp only;rw[c.o.1,c.o.2];exact N.o
  ·exact(X.o.drewN _).trans O.o (λi r=>V.o i r)
 ·have c:Hid (iU d L W (a,n)=L/\l_ d W (a,n)=W++[(a,n)]):=by unfold iU l_;rw[aG U,aG U];exact⟨rfl,rfl⟩
  obtain⟨Q,p,q,x⟩:=P.o;have y:=ay q;have X:=ay x;have V:=ay p;clear p q x P
  go_quiet (fail)
  go_wp2;refine an ?_
  refine⟨rfl,Q,V.o,?_,X.o.drewN _⟩
  rw[K.o];unfold qE;simp only;rw[c.o.1,c.o.2];exact y.o.keep (below_drewN (aC _ _) _)
section
def O9(a:Int)(z:0<=a)(y:a<18446744073709551616):bits .xor .u64 a 0=a:=by
 show IntKind.u64.wrap ((BitVec.ofInt 64 a ^^^ BitVec.ofInt 64 0).toNat:Int)=_
 rw[show BitVec.ofInt 64 0=0#64 from rfl,BitVec.xor_zero,eO,g_]
 omega
def O_(a:Int)(z:0<=a)(y:a<18446744073709551616):bits .xor .u64 a 18446744073709551615=18446744073709551615 - a:=by
 show IntKind.u64.wrap ((BitVec.ofInt 64 a ^^^ BitVec.ofInt 64 18446744073709551615).toNat:Int)=_
 rw[show BitVec.ofInt 64 18446744073709551615=BitVec.allOnes 64 from ab,BitVec.xor_allOnes,BitVec.toNat_not,eO,g_]
 omega
def O'(a:Int)(z:0<=a)(y:a<9223372036854775808):bits .xor .i64 a 0=a:=by
 show IntKind.i64.wrap ((BitVec.ofInt 64 a ^^^ BitVec.ofInt 64 0).toNat:Int)=_
 rw[show BitVec.ofInt 64 0=0#64 from rfl,BitVec.xor_zero,eO]
 simp only[aL];omega
def Pa(a:Int)(z:0<=a)(y:a<9223372036854775808):bits .xor .i64 a (-1)=-a - 1:=by
 show IntKind.i64.wrap ((BitVec.ofInt 64 a ^^^ BitVec.ofInt 64 (-1)).toNat:Int)=_
 rw[show BitVec.ofInt 64 (-1)=BitVec.allOnes 64 from ab,BitVec.xor_allOnes,BitVec.toNat_not,eO]
 have e:((2 ^ 64 - 1 - (a % ((2 ^ 64:Nat):Int)).toNat:Nat):Int)=-a - 1+18446744073709551616:=aa
 rw[e];simp only[aL];omega
def Pb(n:Int)(z:0<=n)(y:n<18446744073709551616):bits .and .u64 n 1=n % 2:=by
 obtain⟨m,rfl⟩:=bL z;have h:=bits_and_u64_nat m 1 aa  aa
 rw[Nat.and_one_is_mod] at h;have e:((1:Nat):Int)=1:=rfl;rw[e] at h;rw[h];omega
def zQ(v:Int)(w:World)(y:-9223372036854775808<=v)(x:v<=9223372036854775807) :
 ar Oe 443 #[.int .i64 v] w λe z=>e=.returned (.int .u64 (qs v))/\w=z:=by
 go_in
 go_wp2
 go_ret;refine⟨ie ?_,rfl⟩
 unfold qs
 by_cases h:0<=v
 ·rw[aH h,show IntKind.u64.wrap (v / 9223372036854775808)=0 by rw[g_];omega,show IntKind.u64.wrap (IntKind.u64.wrap v * 2)=2 * v by simp only[g_];omega]
  exact O9 _ aa  aa
 ·rw[aG h,show IntKind.u64.wrap (v / 9223372036854775808)=18446744073709551615 by rw[g_];omega,show IntKind.u64.wrap (IntKind.u64.wrap v * 2)=18446744073709551616+2 * v by simp only[g_];omega]
  rw[O_ _ aa  aa]
  omega
def uz(n:Int)(w:World)(z:0<=n)(y:n<18446744073709551616) :
 ar Oe 444 #[.int .u64 n] w λe x=>e=.returned (.int .i64 (wm n))/\w=x:=by
 go_in
 go_wp2
 go_ret;refine⟨ie ?_,rfl⟩
 unfold wm;rw[Pb n z y]
 by_cases h:n % 2=0
 ·rw[aH h,h,show wrap64 (-wrap64 0)=0 by simp[wrap64]]
  exact O' _ aa  aa
 ·rw[aG h,show n % 2=1 by omega,show wrap64 (-wrap64 1)=-1 by simp[wrap64]]
  exact Pa _ aa  aa
def wY(v:Int):0<=ub v/\ub v<18446744073709551616:=by unfold ub;omega
def yq{v:Int}(z:-9223372036854775808<=v)(y:v<=9223372036854775807):wrap64 (ub v)=v:=by unfold ub wrap64;omega
def Jz(g y:Nat)(v s:Int)(bs:List Int)(w:World)(h:Wr 373 y w g bs)(t:-9223372036854775808<=v)(r:v<=9223372036854775807)(c:ao bs<=1000000000000) :
 ar Oe 407 #[.pointer (some ⟨g,0,none⟩),.int .u64 (ub v),.int .i64 s] w λe x=>e=.returned (.tuple #[])/\Wr 373 y x g (bs++zg v)/\Below y w x:=by
 have Y:=yq t r;have q:=qB t r;have p:=ay (lL g y (qs v) s bs w h q.1 q.2 c);have f:=ay (zQ v w t r);clear h;have d:Hid (zg v=hZ (qs v)):=ay rfl;generalize qs v=z at *;generalize ub v=u at *
 go_in
 go_wp2_with (first|(go_at_call 443;refine(f.o).mono ?_;rintro e x ⟨rfl,rfl⟩)|(go_at_call 405;refine(p.o).mono ?_;rintro e x ⟨rfl,b,a⟩))
 refine cp (v:=.tuple #[]) (by simp[results,Tryz.results407,go_sem, *];try rfl) rfl ?_
 exact⟨rfl,by rw[d.o];exact b,a⟩
def Wr.new(t:TypeId)(w:World)(z:Nat)(y:z<=w.heap.size):Wr t z (w.alloc (.cells #[.slice none 0 0] t)) w.heap.size []:=
 ⟨y,_,gN.new _ _ _,gT.nil_ _ _ _ _⟩
def zR(k K:Nat)(c:UInt8)(n:Int)(t:List Int)(v:Value)(w:World)(h:VZ k (c.toNat:Int))(r:jf .u64 w v [n])(Wi:0<=n)(Wj:n<18446744073709551616)(x:mY k=K)
 (M:∀z w,(callFunc K z).run prog w=.ok (.enter K z) w)
 (u:∀(g y:Nat) (w:World),Wr 373 y w g []->Calls prog K #[.pointer (some ⟨g,0,none⟩),.int .u64 n,.int .i64 0] w λe z=>e=.returned (.tuple #[])/\Wr 373 y z g t/\Below y w z) :
 ar Oe 195 #[.string ⟨#[c]⟩,v] w λe z=>∃v,e=.returned (.tuple #[v,.int .i64 0])/\OwnB w.heap.size z v t/\aq w z:=by
 obtain⟨A,O,rfl,R,L,s⟩:=r.form;obtain⟨X,P,rfl,T,y⟩:=s.at_ (j:=0) (by simp)
 simp only[bu,bn,bP] at R y |-;have f:=ay y;have H:=ay h;have b:=ay u;clear r s y h u;have d:Hid (∀w,ar Oe 276 #[.int .u8 (c.toNat:Int)] w λe z=>e=.returned (.tuple #[.agg #[.int .u8 (c.toNat:Int),.int .i64 0,.func (.func K) #[] #[],.func (.func (se k)) #[] #[]],.bool true])/\aq w z):=λw=>by
  rw[<-x];exact jZ k (c.toNat:Int) w H.o
 clear x
 go_in
 go_wp2_with fail;refine(ud k c w H.o).mono ?_
 rintro e y ⟨rfl,V⟩;have Q:=V.size
 go_wp2_with fail;obtain⟨g,x⟩:=au (y.heap.size);have s:=ay (Wr.new 373 y w.heap.size Q);have U:aq w (y.alloc (.cells #[.slice none 0 0] 373)):=bw;rw[x] at s |-;generalize y.alloc (.cells #[.slice none 0 0] 373)=D at *;clear x
 go_loopg [25] 1 (λq i wr=>∃j:Nat,q=1 - j/\j<=1/\i=.int .i64 j/\Hid (Wr 373 w.heap.size wr g (if j=0 then [] else t))/\aq w wr)
 exact⟨0,rfl,aa,rfl,s,U⟩
 case round=>
  obtain⟨j,x,J,rfl,q,u⟩:=hrel;have a:=ay x;have G:=u.size;clear x
  by_cases I:j<1
  ·obtain rfl:j=0:=aa
   have N:=(u.cell (p:=⟨X,P,none⟩) T).trans f.o
   go_wp2_with (first
    | (go_at_call 276;refine(d.o _).mono ?_;rintro e C ⟨rfl,x⟩;have F:=x.size)
    | (go_at_fn K;refine((b.o g w.heap.size _ ((q.o.keep x).keep ((aC _ _).alloc (aD _) _))).mono ?_);rintro e B ⟨rfl,r,S⟩;have E:=S.size;have Y:=ay r;clear r))
   go_roundg 0
   exact⟨1,rfl,aa,ag,Y,bw⟩
   have:=a.o;omega
  ·have S:j=1:=aa
   subst S;obtain⟨N,v,r,x⟩:=q.o;have Y:=r.k0;rw[aG aa] at x
   have p:=ay x;clear r x
   go_wp2
   go_ret2
   exact⟨v,rfl,p.o,u⟩
def uB(n:Int)(v:Value)(w:World)(t:jf .u64 w v [n])(z:0<=n)(y:n<18446744073709551616) :
 ar Oe 195 #[.string ⟨#[118]⟩,v] w λe x=>∃v,e=.returned (.tuple #[v,.int .i64 0])/\OwnB w.heap.size x v (hZ n)/\aq w x:=
 zR 7 405 118 n (hZ n) v w Gp t z y rfl (λ_ _=>rfl) (λg u w h=>lL g u n 0 [] w h z y ad)
def uC(x:Int)(v:Value)(w:World)(s:jf .u64 w v [ub x])(u:-9223372036854775808<=x)(t:x<=9223372036854775807) :
 ar Oe 195 #[.string ⟨#[122]⟩,v] w λe z=>∃v,e=.returned (.tuple #[v,.int .i64 0])/\OwnB w.heap.size z v (zg x)/\aq w z:=
 zR 8 407 122 (ub x) (zg x) v w QU s (wY x).1 (wY x).2 rfl (λ_ _=>rfl) (λg y w h=>Jz g y x 0 [] w h u t ad)
def Touch.cell{F:Nat->Prop}{w w':World}(h:Touch F w w'){k o:Nat}(y:k<w.heap.size)(z:¬F k):w'.cell? ⟨k,o,none⟩=w.cell? ⟨k,o,none⟩:=
 bA (a:=⟨k,o,none⟩) (h.block k y z)
def GA(c:Int)(w:World)(h:c=118\/c=122) :
 ar Oe 251 #[.int .u8 c] w λe z=>e=.returned (.tuple #[.int .i64 0,.bool false])/\w=z:=by
 rcases h with rfl|rfl
 all_goals
  go_in
  go_wp2
  go_ret2
  exact⟨rfl,rfl⟩
def wZ(x:Int)(w:World)(v:-9223372036854775808<=x)(t:x<=9223372036854775807) :
 ar Oe 252 #[.int .u64 (ub x)] w λe y=>e=.returned (.int .u64 (qs x))/\w=y:=by
 have s:=wY x;have z:Hid (qs x=if ub x<9223372036854775808 then 2 * ub x else 2 * (18446744073709551615 - ub x)+1):=by show _=_;unfold qs ub;(repeat' split)<;>omega
 generalize ub x=u at *
 by_cases h:u<9223372036854775808
 ·rw[aH h] at z
  go_in
  go_wp2
  go_ret;exact⟨ie z.o.symm,rfl⟩
 ·rw[aG h] at z
  go_in
  go_wp2
  go_ret;exact⟨ie (by rw[z.o]),rfl⟩
def rl(c n x:Int)(w:World)(g:(c=118/\x=n/\0<=n/\n<18446744073709551616)\/(c=122/\n=ub x/\-9223372036854775808<=x/\x<=9223372036854775807)) :
 ar Oe 163 #[.int .u8 c,.int .u64 n] w λe a=>∃v,e=.returned (.tuple #[v,.bool true])/\OwnB w.heap.size a v (if c=118 then hZ x else zg x)/\aq w a:=by
 obtain⟨m,d,H,E,t⟩:∃m,(if c=118 then x else qs x)=m/\0<=m/\m<18446744073709551616/\(if c=118 then hZ x else zg x)=hZ m:=by
  rcases g with⟨rfl,rfl,z,u⟩|⟨rfl,rfl,z,u⟩
  ·exact⟨_,rfl,by simpa using z,by simpa using u,ad⟩
  ·have:=qB z u
   exact⟨_,rfl,by simpa using this.1,by simpa using this.2,by simp[zg]⟩
 rw[t];clear t;have N:=λw=>ay (GA c w (by rcases g with h|h;exact .inl h.1;exact .inr h.1))
 have K:(c == 110)=false:=by rcases g with h|h<;>simp[h.1]
 rcases g with⟨rfl,rfl,z,u⟩|⟨rfl,rfl,z,u⟩
 all_goals
  try simp only[if_true] at d
  try (have L:=ay (wZ x w z u))
  try simp only[show((122:Int)=118)=False by simp,if_false] at d
  first|(have I:m=x:=d.symm;subst I)|subst d
  try (generalize qs x=m at *)
  try (generalize ub x=n at *)
  clear K
  go_in
  go_wp2_with (first|(go_at_call 251;refine((N _).o).mono ?_;rintro e a ⟨rfl,rfl⟩)|(go_at_call 252;refine(L.o).mono ?_;rintro e a ⟨rfl,rfl⟩))
  go_loopg [8,11] 9 (λk b v wr=>∃(q:Int) (y:List Int),k<=9/\v=.int .u64 q/\0<=q/\q<2 * 128 ^ k/\ao y<=9 - k/\Hid (y++lj k q=hZ m)/\OwnB w.heap.size wr b y/\aq w wr)
  exact⟨m,[],aa,rfl,H,aa,ad,ay rfl,gT.nil_ _ _ _ _,aC _ _⟩
  case round=>
   obtain⟨q,y,f,rfl,A,P,F,T,v,X⟩:=hrel;have p:=ay v;have C:=X.size;have S:ao y+1<=1099511627776:=aa
   obtain⟨G,B,Q,_,_,_⟩:=(gT.rd v).form;clear v
   by_cases R:127<q
   ·obtain⟨r,rfl⟩:∃r,gk=r+1:=by
     rcases bh gk with z|z
     ·subst z;simp at P;omega
     ·exact⟨gk - 1,aa⟩
    have D:q<18446744073709551616:=by
     have u:(2:Int) * 128 ^ (r+1)<=2 * 128 ^ 9:=by
      have:(128:Int) ^ (r+1)<=128 ^ 9:=by
       have v:(128:Nat) ^ (r+1)<=128 ^ 9:=bJ aa  aa
       exact_mod_cast v
      omega
     omega
    have t:=ay (pN r q R);have J:q / 128<2 * 128 ^ r:=ck aa (by rw[bG,<-ch];exact P)
    have M:=ay (show q % 128+128=128+q % 128 by omega)
    clear Q
    go_wp2_with (first
     | (at_builtin
        go_must (refine jO rfl (.tmp 60) (.tmp 65) rfl w.heap.size u8 y rfl (gT.alloc p.o _) _ [128+q % 128] rfl (jf.hJ _ _ _ _ _ rfl) S (by simp only[aI];omega) ?_)
        intro O U s v Y;have V:aq w U:=(X.alloc aa _).grown v (by simp only[aI];omega) (λk f=>(gT.lt p.o k f).1)
        have b:=ay s;clear s v Y))
    go_roundg r
    exact⟨q / 128,y++[128+q % 128],aa,rfl,aa,J,af,ay (by rw[aO,<-T.o,t.o,M.o];rfl),b.o,V⟩
    omega
   ·have t:=ay (pO gk q R)
    clear Q
    go_wp2_with (first
     | (at_builtin
        go_must (refine jO rfl (.tmp 69) (.tmp 72) rfl w.heap.size u8 y rfl (gT.alloc p.o _) _ [q] rfl (jf.hJ _ _ _ _ _ rfl) S (by simp only[aI];omega) ?_)
        intro O U s v Y;have V:aq w U:=(X.alloc aa _).grown v (by simp only[aI];omega) (λk f=>(gT.lt p.o k f).1)
        have b:=ay s;clear s v Y))
    go_ret2
    exact⟨O,rfl,by rw[<-T.o,t.o];exact b.o,V⟩
end
section
variable{w w':World}{a g j:Nat}{bs l r:List Int}{part x:Int}
def yr(v:Value)(l:List Int)(w:World)(h:jf .u8 w v l)(V:ao l<=1000000000000) :
 ar Oe 129 #[v] w λe s=>∃z,e=.returned z/\OwnB w.heap.size s z l/\aq w s:=by
 obtain⟨A,c,rfl,U,X,x⟩:=h.form;have r:=ay h;clear h
 by_cases y:A=none
 ·subst y
  have z:l=[]:=by
   rcases bh (ao l) with z|z
   ·exact aN z
   ·obtain⟨g,u,e,_⟩:=x z;cases e
  subst z;clear x;have f:(binOp .eql 37 (.slice none 0 c) (.slice none 0 0)).run prog w=.ok (.bool true) w:=Lib.run_eql_slice_nil w _ _ _ _ _ _ _ underlying37
  go_in
  go_wp2
  go_ret;exact⟨_,rfl,gT.nil_ _ _ _ _,bw⟩
 ·obtain⟨a,rfl⟩:∃a,A=some a:=by
   cases A with
   | none=>exact absurd rfl y
   | some a=>exact⟨a,rfl⟩
  clear y x;have u:∀W:World,OwnB W.heap.size (W.alloc (.cells #[] 5)) (.slice (some ⟨W.heap.size,0,none⟩) 0 0) []:=λW=>
   ⟨rfl,.inr ⟨W.heap.size,0,_,rfl,aD _,cm _ _,ad,by unfold maxLen;omega,rfl,ad⟩⟩
  have z:=ay u;clear u;have f:(binOp .eql 37 (.slice (some a) (ao l) c) (.slice none 0 0)).run prog w=.ok (.bool false) w:=Lib.run_eql_slice_nil w _ _ _ _ _ _ _ underlying37
  go_in
  go_wp2_with (first
   | (at_builtin
      go_must (refine jO rfl (.tmp 5) (.tmp 6) rfl w.heap.size _ [] rfl (z.o w) _ l rfl (Rd.alloc r.o _) af ad ?_)
      intro b Y t u p;have g:aq w Y:=((aC _ _).alloc (aD _) _).grown u ad (λk d=>(gT.lt (z.o w) k d).1)
      have q:=ay t;clear t u p))
  go_ret;exact⟨b,rfl,q.o,g⟩
def hM(w:World)(g:Nat)(bs:List Int)(a:Nat):Prop:=∃v,gN w g 462 #[v,.int .i64 a]/\OwnB 0 w v bs/\a<=ao bs
def hM.lt{w:World}{g:Nat}{bs:List Int}{a:Nat}(h:hM w g bs a):g<w.heap.size:=by
 obtain⟨v,z,_⟩:=h;exact z.lt
def hM.keep(h:hM w g bs a)(z:aq w w'):hM w' g bs a:=by
 obtain⟨v,y,x,u⟩:=h;exact⟨v,y.keep z,gT.keep x z,u⟩
def hM.drewN(h:hM w g bs a)(n:Nat):hM (w.drewN n) g bs a:=h
def hM.put(h:hM w g bs a)(z:Nat)(u:z<=ao bs):hM (w.setCell ⟨g,1,none⟩ (.int .i64 z)) g bs z:=by
 obtain⟨v,y,x,t⟩:=h;exact⟨v,y.gR 1 _,x.far (λe=>y.t_ x ab e) _,u⟩
def zS(v:Value)(bs:List Int)(w:World)(h:jf .u8 w v bs)(r:ao bs<=1000000000000) :
 ar Oe 295 #[v] w λe x=>∃g,e=.returned (.pointer (some ⟨g,0,none⟩))/\w.heap.size<=g/\hM x g bs 0/\aq w x:=by
 have u:=ay (yr v bs w h r);clear h
 go_in
 go_wp2_with fail;refine(u.o).mono ?_
 rintro e p ⟨d,rfl,z,s⟩;have t:=ay z;have q:=s.size;obtain⟨g,f,y,_,_,_⟩:=(gT.rd z).form;generalize ao bs=N at y;subst y;clear z
 go_wp2
 go_ret;refine⟨p.heap.size,rfl,q,⟨_,gN.new _ _ _,gT.lift (gT.alloc t.o _) (λ_ _=>bB _),bB _⟩,bw⟩
def pP(g:Nat)(bs:List Int)(a:Nat)(w:World)(h:hM w g bs a)(UU:ao bs<=1000000000000) :
 ar Oe 343 #[.pointer (some ⟨g,0,none⟩)] w λe u=>e=.returned (.int .i64 ((ao bs:Int) - a))/\∃n,u=w.drewN n:=by
 obtain⟨v,z,y,q⟩:=h;obtain⟨t,p,rfl,_,_,_⟩:=(gT.rd y).form;obtain⟨s,r⟩:=z.c2;have x:IntKind.i64.wrap ((ao bs:Int) - a)=(ao bs:Int) - a:=cy _ aa
 clear z y
 go_in
 go_wp2_with fail
 go_quiet (fail)
 clear x
 go_wp2
 go_ret;exact⟨rfl,_,rfl⟩
def yt(x y:Int)(j:Nat)(f:j<=9)(r:0<=x)(q:x<128 ^ j)(p:0<=y)(d:y<128)(g:j=9->y<=1) :
 bits .or .u64 x (IntKind.u64.wrap (y * 2 ^ (7 * j)))=x+128 ^ j * y:=by
 obtain⟨a,rfl⟩:=bL r;obtain⟨b,rfl⟩:=bL p;have z:(2:Nat) ^ (7 * j)=128 ^ j:=by rw[Nat.pow_mul]
 have s:b * 2 ^ (7 * j)<18446744073709551616:=by
  rw[z]
  by_cases u:j=9
  ·subst u;have:=g rfl;omega
  ·have v:(128:Nat) ^ j<=128 ^ 8:=bJ aa  aa
   have t:b * 128 ^ j<=127 * 128 ^ 8:=cT aa v
   omega
 have u:a<2 ^ (7 * j):=by rw[z];exact_mod_cast q
 have t:a<18446744073709551616:=by
  have v:(128:Nat) ^ j<=128 ^ 9:=bJ aa  aa
  rw[z] at u;omega
 have v:((b:Int) * 2 ^ (7 * j))=((b * 2 ^ (7 * j):Nat):Int):=ad
 rw[v,show IntKind.u64.wrap ((b * 2 ^ (7 * j):Nat):Int)=((b * 2 ^ (7 * j):Nat):Int) from by rw[g_];omega,bits_or_u64_nat a _ t s]
 have h:=ez u b;rw[Nat.or_comm,cL b,<-h,z];simp
 omega
def jV(l:List Int)(j:Nat)(part:Int):Prop:=iH l=(tw (10 - j) (l.drop j)).map (λp=>(part+128 ^ j * p.1,p.2))
def jV.start(l:List Int):jV l 0 0:=by
 unfold jV iH
 cases h:tw 10 l with
 | none=>simp[h]
 | some p=>simp[h]
def jV.more(h:jV l j part)(z:l.drop j=x::r)(v:j<9)(y:127<x):jV l (j+1) (part+128 ^ j * (x - 128)):=by
 unfold jV at *;have e:l.drop (j+1)=r:=by
  have:=bq List.tail z
  simpa[List.tail_drop] using this
 rw[h,z,show 10 - j=(9 - j)+1 by omega,tw,aG aa,aH y,e,show 10 - (j+1)=9 - j by omega]
 cases hu:tw (9 - j) r with
 | none=>simp
 | some p=>
  simp only[ee,aW,fM,and_true];rw[ch,eW,bG];omega
def jV.last(h:jV l j part)(z:l.drop j=x::r)(u:j<=9)(v:¬(j=9/\1<x))(y:¬127<x)(t:¬(x=0/\0<j)):iH l=some (part+128 ^ j * x,r):=by
 unfold jV at h;rw[h,z,show 10 - j=(9 - j)+1 by omega,tw,aG aa,aG y,aG aa]
 rfl
def jV.none_(h:jV l j part)(z:l.drop j=[])(y:j<=9):iH l=none:=by
 unfold jV at h;rw[h,z,show 10 - j=(9 - j)+1 by omega]
 simp[tw]
def jV.bad(h:jV l j part)(y:l.drop j=x::r)(t:j<=9)(z:(j=9/\1<x)\/(¬127<x/\x=0/\0<j)):iH l=none:=by
 unfold jV at h;rw[h,y,show 10 - j=(9 - j)+1 by omega,tw]
 rcases z with z|⟨z,v,u⟩
 ·rw[aH aa];rfl
 ·rw[aG aa,aG z,aH aa];rfl
def pf(w:World)(n g i:Nat)(v:Value):Touch (λk=>k=g) w ((w.drewN n).setCell ⟨g,i,none⟩ v):=((Touch.refl (λk=>k=g) w).drewN n).setCell (p:=⟨g,i,none⟩) (.inl rfl) v
def m8(w:World)(n g:Nat):Touch (λk=>k=g) w (w.drewN n):=(Touch.refl (λk=>k=g) w).drewN n
def Q6(e:Int):Prop:=e=20\/e=21
def mI(w:World)(g:Nat)(bs:List Int)(a:Nat)(f:Int->Int)(e:Ending)(w':World):Prop:=
 match iH (bs.drop a) with
 | some p=>e=.returned (.tuple #[.int .u64 (f p.1),.int .i64 0])/\hM w' g bs (ao bs - ao p.2)/\Touch (λk=>k=g) w w'
 | none=>∃er,e=.returned (.tuple #[.int .u64 (f 0),.int .i64 er])/\Q6 er/\hM w' g bs a/\Touch (λk=>k=g) w w'
def zT(g:Nat)(s:Int)(bs:List Int)(a:Nat)(w:World)(h:hM w g bs a)(z:oc bs)(hlen:ao bs<=1000000000000) :
 ar Oe 406 #[.pointer (some ⟨g,0,none⟩),.int .i64 s] w (mI w g bs a id):=by
 have H:=ay h;obtain⟨v,t,d,k⟩:=h;obtain⟨e,k1,rfl,_,m1,P⟩:=(gT.rd d).form;have m:=t.k0;have o:=t.k1;have fz:=t.frozen 1;have D:=ay P;have C:=ay z;clear t d P z
 go_in
 go_wp2
 go_loopg [6,7] 10 (λq n i wr=>∃(j:Nat) (z:Int),q=10 - j/\j<=9/\a+j<=ao bs/\i=.int .i64 j/\n=.int .u64 z/\(0<=z/\z<128 ^ j)/\Hid (jV (bs.drop a) j z)/\∃nq,wr=w.drewN nq)
 exact⟨0,0,rfl,aa,aa,rfl,rfl,⟨by omega,ad⟩,ay (jV.start _),0,rfl⟩
 case round=>
  obtain⟨j,z,X,O,haj,rfl,rfl,⟨U,T⟩,c,nq,rfl⟩:=hrel;have A:=ay X;clear X;have G:=cy ((a:Int)+(j:Int)) aa
  have p64:z<9223372036854775808:=by
   have t:(128:Int) ^ j<=128 ^ 9:=by
    have d:(128:Nat) ^ j<=128 ^ 9:=bJ aa  aa
    exact_mod_cast d
   omega
  by_cases N:a+j<ao bs
  ·obtain⟨gb,ob,rfl,hgb,e0⟩:=D.o.at_ N
   have Y:(bs.drop a).drop j=bs[a+j]::bs.drop (a+j+1):=by rw[dU];exact cr N
   have b:=ay Y;have F:=C.o bs[a+j] (aX N);have u:((a:Int)+(j:Int)).toNat=a+j:=aa
   have Y2:(0:Int)<=(a:Int)+(j:Int):=aa
   have Y7:(a:Int)+(j:Int)<(ao bs:Int):=aa
   have W:decide ((ao bs:Int)<=(a:Int)+(j:Int))=false:=cj aa
   have y:ao (bs.drop (a+j+1))=ao bs - (a+j+1):=aZ;have R:=ay y;clear Y y;generalize bs.drop (a+j+1)=r at *;generalize bs[a+j]=x at *;have a7:=OU x F.1 F.2
   go_wp2_with fail
   go_quiet (fail)
   go_wp2_with fail
   go_quiet (fail)
   clear G u
   by_cases u:j=9/\1<x
   ·obtain⟨rfl,y⟩:=u
    have f:Hid (iH (bs.drop a)=none):=ay (c.o.bad b.o aa (.inl ⟨rfl,y⟩))
    go_wp2
    go_ret2
    unfold mI;rw[f.o];exact⟨21,rfl,.inr rfl,H.o,m8 w _ g⟩
   ·have l:=ay u
    have M:(((j:Int) == 9) && decide ((1:Int)<x))=false:=by
     by_cases p:j=9
     ·have:decide ((1:Int)<x)=false:=cj (λh=>u ⟨p,h⟩)
      rw[this];simp
     ·have:((j:Int) == 9)=false:=b9.2 aa
      rw[this];rfl
    by_cases L:127<x
    ·have Q:j<9:=aa
     have E:((j:Int) == 9)=false:=b9.2 aa
     have y:=yt z (x % 128) j aa U T aa  aa  aa
     have V:=c.o.more b.o Q L;rw[show x - 128=x % 128 by omega] at V
     have J:=ay y;have S:=ay V;have K:Hid (0<=z+128 ^ j * (x % 128)/\z+128 ^ j * (x % 128)<128 ^ (j+1)):=by
      have t:(0:Int)<128 ^ j:=dH aa
      have d:(128:Int) ^ j * (x % 128)<=128 ^ j * 127:=bH aa  aa
      have k:0<=(128:Int) ^ j * (x % 128):=cG aa  aa
      exact ay ⟨by omega,by rw[ch];omega⟩
     clear y V M u
     go_wp2
     go_roundg (10 - (j+1))
     exact⟨j+1,_,rfl,aa,aa,ag,by rw[J.o],K.o,S,_,rfl⟩
     have:=A.o;omega
    ·by_cases V:x=0/\0<j
     ·have f:Hid (iH (bs.drop a)=none):=ay (c.o.bad b.o O (.inr ⟨L,V.1,V.2⟩))
      obtain⟨rfl,S⟩:=V;have Q:decide ((0:Int)<(j:Int))=true:=cz aa
      clear M u
      by_cases p:j=9
      ·subst p
       go_wp2
       go_ret2
       unfold mI;rw[f.o];exact⟨21,rfl,.inr rfl,H.o,m8 w _ g⟩
      ·have E:((j:Int) == 9)=false:=b9.2 aa
       go_wp2
       go_ret2
       unfold mI;rw[f.o];exact⟨21,rfl,.inr rfl,H.o,m8 w _ g⟩
     ·have i:=c.o.last b.o O u L V
      have y:=yt z (x % 128) j aa U T aa  aa (by intro p;omega)
      rw[show x % 128=x by omega] at y
      have S:=ay i;have J:=ay y;have Y8:x % 128=x:=aa
      have Q:∀(n:Nat) (q:Int),q=((a+j+1:Nat):Int)->Hid (hM ((w.drewN n).setCell ⟨g,1,none⟩ (.int .i64 q)) g bs (a+j+1)):=λn q X=>by
       subst X;exact ay ((H.o.drewN n).put (a+j+1) aa)
      clear M u
      by_cases p:j=9
      ·obtain rfl:x=1:=by have:=l.o;omega
       subst p;have P:decide ((1:Int)<1)=false:=ab
       have K:bits .or .u64 z 9223372036854775808=z+128 ^ 9 * 1:=by
        have h:=yt z 1 9 aa U T aa  aa  aa
        rwa [show IntKind.u64.wrap (1 * 2 ^ (7 * 9))=9223372036854775808 from by rw[g_];decide +kernel] at h
       have I:=ay K;clear y K
       go_wp2
       go_ret2
       unfold mI;rw[S.o];refine⟨by rw[<-I.o];rfl,?_,pf w _ g 1 _⟩
       simp only;rw[R.o,show ao bs - (ao bs - (a+9+1))=a+9+1 by omega]
       exact(Q _ _ aa).o
      ·have E:((j:Int) == 9)=false:=b9.2 aa
       by_cases K:x=0
       ·obtain rfl:j=0:=aa
        subst K;have I:bits .or .u64 z 0=z+128 ^ 0 * 0:=by
         have h:=yt z 0 0 aa U T aa  aa  aa
         rwa [show IntKind.u64.wrap (0 * 2 ^ (7 * 0))=0 from by rw[g_];decide +kernel] at h
        have B:=ay I;clear y I
        go_wp2
        go_ret2
        unfold mI;rw[S.o];refine⟨by rw[<-B.o];rfl,?_,pf w _ g 1 _⟩
        simp only;rw[R.o,show ao bs - (ao bs - (a+0+1))=a+0+1 by omega]
        exact(Q _ _ aa).o
       ·have I:(x == 0)=false:=b9.2 K
        clear K
        go_wp2
        go_ret2
        unfold mI;rw[S.o];refine⟨rfl,?_,pf w _ g 1 _⟩
        simp only;rw[R.o,show ao bs - (ao bs - (a+j+1))=a+j+1 by omega]
        exact(Q _ _ aa).o
  ·have Y:(bs.drop a).drop j=[]:=by rw[dU];exact de aa
   have f:Hid (iH (bs.drop a)=none):=ay (c.o.none_ Y O);have W:decide ((ao bs:Int)<=(a:Int)+(j:Int))=true:=cz aa
   go_wp2_with fail
   go_quiet (fail)
   clear G
   go_wp2
   go_ret2
   unfold mI;rw[f.o];exact⟨20,rfl,.inl rfl,H.o,(m8 w _ g).drewN _⟩
def mI.first{w1:World}{f:Int->Int}{e:Ending}(s:aq w w1)(h:mI w1 g bs a f e w'):mI w g bs a f e w':=by
 have v:∀{x:World},Touch (λk=>k=g) w1 x->Touch (λk=>k=g) w x:=λt=>(Touch.of_below s (aD _)).trans t (λi z=>.inl z)
 unfold mI at *
 cases hu:iH (bs.drop a) with
 | none=>rw[hu] at h;obtain⟨u,z,y,x,t⟩:=h;exact⟨u,z,y,x,v t⟩
 | some p=>rw[hu] at h;obtain⟨z,y,x⟩:=h;exact⟨z,y,v x⟩
def JA(g:Nat)(s:Int)(bs:List Int)(a:Nat)(w:World)(h:hM w g bs a)(t:oc bs)(Y:ao bs<=1000000000000) :
 ar Oe 408 #[.pointer (some ⟨g,0,none⟩),.int .i64 s] w (mI w g bs a (λn=>ub (wm n))):=by
 have y:=zT g s bs a w h t Y;unfold mI at *
 cases hu:iH (bs.drop a) with
 | none=>
  simp only[hu] at y |-;have q:=ay y;have x:=λw=>ay (uz 0 w aa  aa)
  have z:Hid (ub (wm 0)=0):=ay ab
  have r:Hid (wm 0=0):=ay ab
  rw[z.o];rw[r.o] at x;clear y hu h t
  go_in
  go_wp2_with fail;refine(q.o).mono ?_
  rintro e d ⟨p,rfl,f,v,u⟩;simp only[id]
  go_wp2_with fail;refine((x d).o).mono ?_
  rintro e X ⟨rfl,rfl⟩
  go_wp2
  go_ret2
  exact⟨p,rfl,f,v,u⟩
 | some p=>
  have f:=lK (t.drop a) hu;obtain⟨z,r⟩:=p;simp only[hu] at y f |-;have q:=ay y;have x:=λw=>ay (uz z w f.1 f.2)
  have c:Hid (IntKind.u64.wrap (wm z)=ub (wm z)):=ay (g_ _);rw[<-c.o];clear y hu h t c
  go_in
  go_wp2_with fail;refine(q.o).mono ?_
  rintro e d ⟨rfl,v,u⟩;simp only[id];have c:=ay v;have b:=ay u;clear v u
  go_wp2_with fail;refine((x d).o).mono ?_
  rintro e X ⟨rfl,rfl⟩
  go_wp2
  go_ret2
  exact⟨rfl,c.o,b.o⟩
def w_(k K:Nat)(c:Int)(f:Int->Int)(g:Nat)(bs:List Int)(a:Nat)(w:World)(h:hM w g bs a)(v:VZ k c)(y:se k=K)
 (b:∀z w,(callFunc K z).run prog w=.ok (.enter K z) w)
 (x:∀w,hM w g bs a->Calls prog K #[.pointer (some ⟨g,0,none⟩),.int .i64 0] w (mI w g bs a f)) :
 ar Oe 330 #[.pointer (some ⟨g,0,none⟩),.int .u8 c] w (mI w g bs a f):=by
 have H:=ay h;have s:=ay x;have t:Hid (ar Oe 276 #[.int .u8 c] w λe z=>e=.returned (.tuple #[.agg #[.int .u8 c,.int .i64 0,.func (.func (mY k)) #[] #[],.func (.func K) #[] #[]],.bool true])/\aq w z):=by
  rw[<-y];exact ay (jZ k c w v)
 clear h x y v
 go_in
 go_wp2_with fail;refine(t.o).mono ?_
 rintro e d ⟨rfl,q⟩;have Y:=q.size;have u:∀z,aq w (d.alloc (.cells z 377)):=λz=>bw
 go_wp2_with (go_at_fn K;refine(s.o _ (H.o.keep (u _))).mono ?_)
 rintro e X z;have v:=ay (mI.first (u _) z);unfold mI at z
 cases hu:iH (bs.drop a) with
 | none=>
  rw[hu] at z;obtain⟨p,rfl,r,y,x⟩:=z;clear hu r y x
  go_wp2
  go_ret2
  exact v.o
 | some p=>
  rw[hu] at z;obtain⟨rfl,y,x⟩:=z;clear hu y x
  go_wp2
  go_ret2
  exact v.o
def qF(g:Nat)(bs:List Int)(a:Nat)(w:World)(h:hM w g bs a)(z:oc bs)(y:ao bs<=1000000000000) :
 ar Oe 330 #[.pointer (some ⟨g,0,none⟩),.int .u8 118] w (mI w g bs a id):=
 w_ 7 406 118 id g bs a w h Gp rfl (λ_ _=>rfl) (λw h=>zT g 0 bs a w h z y)
def Cv(g:Nat)(bs:List Int)(a:Nat)(w:World)(h:hM w g bs a)(z:oc bs)(y:ao bs<=1000000000000) :
 ar Oe 330 #[.pointer (some ⟨g,0,none⟩),.int .u8 122] w (mI w g bs a (λn=>ub (wm n))):=
 w_ 8 408 122 _ g bs a w h QU rfl (λ_ _=>rfl) (λw h=>JA g 0 bs a w h z y)
def UW{m:Nat}(h:r=bs.drop m):bs.drop (ao bs - ao r)=r:=by
 subst h;rw[aZ]
 rcases fs m (ao bs) with h|h
 ·rw[show ao bs - (ao bs - m)=m by omega]
 ·rw[show ao bs - (ao bs - m)=ao bs by omega,de (aD _),de h]
def my{z:Int}(h:iH (bs.drop a)=some (z,r)):bs.drop (ao bs - ao r)=r:=by
 obtain⟨_,j,y⟩:=sd h;exact UW (m:=a+j) (by rw[<-dU];exact y)
def tt{a b:World}(y:Touch (λk=>k=g) w a)(x:Touch (λk=>k=g) a b):Touch (λk=>k=g) w b:=y.trans x (λ_i z=>.inl z)
def Cw{m:List Int}(x:ao l=ao m)(h:∀i (z:i<ao l) (y:i<ao m),l[i]=m[i]):l=m:=List.ext_getElem x λi z y=>h i z y
def sj(u v:Value)(l m:List Int)(w:World)(x:jf .u8 w u l)(t:jf .u8 w v m)(M:ao l<=1000000000000)(L:ao m<=1000000000000) :
 ar Oe 170 #[u,v] w (aw w (.bool (decide (l=m)))):=by
 obtain⟨A,S,rfl,_,_,z⟩:=x.form;obtain⟨B,R,rfl,_,_,y⟩:=t.form;have d:=ay z;have c:=ay y;clear x t z y
 by_cases p:ao l=ao m
 ·have a:((ao l:Int) != (ao m:Int))=false:=by rw[p];simp
  have g:=ay p;clear p
  go_in
  go_wp2
  go_loopg [13] (ao l) (λq i wr=>∃j:Nat,q=ao l - j/\j<=ao l/\i=.int .i64 j/\Hid (∀i (z:i<ao l) (t:i<ao m),i<j->l[i]=m[i])/\∃n,wr=w.drewN n)
  exact⟨0,rfl,aa,rfl,ay (λi z t q=>absurd q aa),0,rfl⟩
  case round=>
   obtain⟨j,y,N,rfl,f,n,rfl⟩:=hrel;have b:=ay y;clear y
   by_cases V:j<ao l
   ·have U:j<ao m:=by have:=g.o;omega
    obtain⟨P,I,rfl,_,Q⟩:=d.o.at_ V;obtain⟨O,H,rfl,_,X⟩:=c.o.at_ U;have K:(j:Int)<(ao l:Int):=aa
    have J:(j:Int)<(ao m:Int):=aa
    by_cases s:l[j]=m[j]
    ·have y:Hid (∀i (z:i<ao l) (t:i<ao m),i<j+1->l[i]=m[i]):=ay (λi z t q=>by
      rcases bg i j with h|h
      ·exact f.o i z t h
      ·obtain rfl:i=j:=aa
       exact s)
     rw[<-s] at X;have Y:(l[j] != l[j])=false:=ad
     generalize l[j]=x at *;clear s
     go_wp2_with fail
     go_quiet (fail)
     go_wp2
     go_roundg (ao l - (j+1))
     exact⟨j+1,rfl,aa,ag,y,_,rfl⟩
     have:=b.o;omega
    ·have r:Hid (decide (l=m)=false):=ay (cj (λh=>s (by subst h;rfl)))
     have Y:(l[j] != m[j])=true:=by simpa using s
     generalize l[j]=x at *;generalize m[j]=y at *;clear s
     go_wp2_with fail
     go_quiet (fail)
     go_wp2
     go_ret;exact⟨nw r.o.symm,bw⟩
   ·have r:Hid (decide (l=m)=true):=ay (cz (Cw g.o (λi z t=>f.o i z t aa)))
    go_wp2
    go_ret;exact⟨nw r.o.symm,bw⟩
 ·have a:((ao l:Int) != (ao m:Int))=true:=af
  have r:Hid (decide (l=m)=false):=ay (cj (λh=>p (by rw[h])))
  clear p
  go_in
  go_wp2
  go_ret;exact⟨nw r.o.symm,bw⟩
end
end Go.Proofs.YtdicblkhpcphfaaGreat
