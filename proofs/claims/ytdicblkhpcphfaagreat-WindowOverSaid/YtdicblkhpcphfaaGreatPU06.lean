/- Parts. -/
import Derived.Test.YtdicblkhpcphfaaGreatPU05
import Derived.Defers
import Derived.Recover
set_option maxRecDepth 100000
set_option maxHeartbeats 0
set_option linter.all false
namespace Go.Proofs.YtdicblkhpcphfaaGreat
open Tryz Go.RowKit Go.Lib
open _root_.List renaming length→ab0
open Go.IntKind renaming wrap→ad0
open _root_.Go renaming Calls→af4
open Tryz renaming prog→af5
variable{g k:Nat}{F:Nat->Prop}{d:Int}{s:St}
def uP(w:World)(g:Nat)(F:Nat->Prop)(d:Int)(s:St):Prop:=q8 w g F d s.L s.W s.lo s.hi
def MX(a n:Int)(w:World)(h:vR w g F d s)(z:Fit d s k)(f:k<100000000)(u:-9223372036854775808<=a)(t:a<=9223372036854775807)(c:0<n)(b:n<=281474976710656 - tot (s.L++s.W)):af4 af5 132 #[aq g,af6 a,.int .u64 n] w λe v=>e=.returned (af6 0)/\∃y:Nat->Prop,(∀k,y k->F k\/w.heap.size<=k)/\vR v g y d (s.add d a n)/\Touch F w v:=by
 have:=add_any a n w h z.ok.ok ⟨z.ok.Kc,z.ok.lo1⟩ ⟨z.ok.hi0,z.ok.hi1⟩ ⟨u,t⟩ ⟨aa,by have:=z.ok.j7;omega⟩ (aa2 z.ok.len) z.t (aa2 z.d0) z.d1;refine this.M ?_;intro e v x;simp only[aF (show ¬n=0 by omega),aF (show ¬281474976710656 - tot (s.L++s.W)<n by omega)] at x;obtain⟨x,y,r,q,p⟩:=x;refine⟨x,y,r,?_,p⟩;unfold vR;rw[St.R9];exact q
def Qi(a n:Int)(w:World)(h:vR w g F d s)(z:Fit d s k)(p:k<100000000)(u:-9223372036854775808<=a)(t:a<=9223372036854775807)(r:0<=n)(q:n<=18446744073709551615)(f:n=0\/281474976710656 - tot (s.L++s.W)<n):af4 af5 132 #[aq g,af6 a,.int .u64 n] w (au w (af6 (if n=0 then 4 else 6))):=by
 have:=add_any a n w h z.ok.ok ⟨z.ok.Kc,z.ok.lo1⟩ ⟨z.ok.hi0,z.ok.hi1⟩ ⟨u,t⟩ ⟨r,q⟩ (aa2 z.ok.len) z.t (aa2 z.d0) z.d1;refine this.M ?_;intro e v y;by_cases x:n=0
 .simp only[aH x] at y |-;exact y
 .simp only[aF x,aH (show 281474976710656 - tot (s.L++s.W)<n by omega)] at y |-;exact y
def Qj(a n:Int)(w:World)(h:uP w g F d s)(z:Fit d s k)(p:n=0\/281474976710656 - tot (s.L++s.W)<n):af4 af5 93 #[aq g,af6 a,.int .u64 n] w (au w (af6 (if n=0 then 4 else 6))):=by
 have x:=ax h;have V:=z.ok.j7;have U:=z.t;have u:ab0 s.L+ab0 s.W<=1099511627776:=by have:=z.ok.len;have:=z.k1;omega
 have t:=ax z.ok.ok;clear h;by_cases y:n=0
 .subst y
  go_in;go_wp2;refine ak ?_;exact⟨rfl,bw⟩
 .simp only[aF y]
  have Y:281474976710656 - tot (s.L++s.W)<n:=aa;have c:(n == 0)=false:=by simpa using y
  clear p y;go_in;go_wp21;refine WE (kN g F d s.lo s.hi s.L s.W _ x.o u) ?_;rintro v T ⟨o,q⟩;have r:=ax o;have X:=q.size;clear o;go_wp21;refine RX (iJ v _ _ r.o.rd t.o aa) ?_;intro S b;go_wp2;refine ak ?_;exact⟨rfl,bw⟩
def yd(a n:Int)(w:World)(h:uP w g F d s)(z:Fit d s k)(hk:k<100000000)(a0:-9223372036854775808<=a)(a1:a<=9223372036854775807)(n0:0<n)(n1:n<=281474976710656 - tot (s.L++s.W)):af4 af5 93 #[aq g,af6 a,.int .u64 n] w λe R=>e=.returned (af6 0)/\∃q:Nat->Prop,(∀k,q k->F k\/w.heap.size<=k)/\uP R g q d (s.add d a n)/\Touch F w R:=by
 obtain⟨L,W,S,r⟩:=s;have G:Hid (q8 w g F d L W S r):=ax h;have t0:0<=tot (L++W):=z.ok.j7;have t1:tot (L++W)<=281474976710656:=z.t;have hkl:ab0 L+ab0 W<=k:=z.ok.len;replace n1:n<=281474976710656 - tot (L++W):=n1;have HL:ab0 L+ab0 W<=1099511627776:=aa;have hl:ab0 L+ab0 W<100000000:=aa;have HO:Hid (lf (L++W)):=ax z.ok.ok;have d0:=z.d0;have d1:=z.d1;have hb0:(n == 0)=false:=ae;have M:Hid (∀T,af3 w T->af4 af5 114 #[aq g,af6 a,af6 a] T λe R=>e=.returned (.tuple #[])/\q8 R g F d L W (if tot (L++W)=0 then a else min S a) (if tot (L++W)=0 then a else max r a)/\Touch (λk=>k=g) T R):=by
  intro T x;have:=Aj a a T (q8.K G.o x) aa;have e:(ab0 L+ab0 W=0)<->tot (L++W)=0:=by
   have y:=z.ok.sF;simp only at y;rw[y];constructor
   .intro h;exact aV (by rw[aE];exact h)
   .intro h;rw[<-aE,h];rfl
  simp only[e] at this;exact this
 have K:Hid (St.add d ⟨L,W,S,r⟩ a n=⟨jD d L W (a,n),nu d W (a,n),if tot (L++W)=0 then a else min S a,if tot (L++W)=0 then a else max r a⟩):=rfl;generalize (if tot (L++W)=0 then a else min S a)=lo1 at M K;generalize (if tot (L++W)=0 then a else max r a)=hi1 at M K;clear h z;go_in;go_wp21;refine WE (kN g F d S r L W _ G.o HL) ?_;rintro v T ⟨o,hb1⟩;have O1:=ax o;have hz1:=hb1.size;clear o;go_wp21;refine RX (iJ v _ _ O1.o.rd HO.o aa) ?_;intro w2 hb2;have hz2:=hb2.size;have Bq:af3 w w2:=hb1.T (hb2.M hz1);go_wp21;refine RX (M.o _ Bq) ?_;rintro E ⟨⟨Gj,wv1,z,x,y,u⟩,H⟩;obtain⟨B,cb,rfl,nb,mb,t⟩:=y.form;have q2:=z.k2;have r2:=z.F 2;have hlt3:=z.lt;have hz3:=H.size;have Xt:=z.kY x ab;have I:=z.kY y ab;have B1:=ax z;have h:=ax x;have o:=ax y;have m:=ax u;clear z x y u t;go_upto_region 7 with(first|(at_builtin;go_must (refine iP rfl (.tmp 23) (.tmp 27) rfl 0 (.slice B (ab0 W) cb) W rfl (o.o.alloc _) _ [(a,n)] rfl (mS.one _ (a,n)) (by simp only[bh];omega) (bl _) ?_);intro v1 f y b c;have z:=(b.block g (by rw[aI];omega) (λe=>I e.Y)).T (B1.o.alloc (.cells #[af6 a,.int .u64 n] 216));obtain⟨t,u,rfl,n4,m4,x⟩:=y.form;have l:=g7.C z 2;have j:=g7.C z 0;have u2:=g7.F z 2;simp only[az,aA,ay] at j l;have Y:Hid (g7 f g _ _):=ax z;have A:=ax y;clear z y x;go_simp));have P:Hid (∃q:Nat->Prop,(∀k,q k->F k\/w.heap.size<=k)/\q8 (f.setCell (af7 g 2) (.slice t (ab0 W+1) u)) g q d L (W++[(a,n)]) lo1 hi1/\Touch F w (f.setCell (af7 g 2) (.slice t (ab0 W+1) u))):=by
  obtain⟨N,O,C,D,Q⟩:=m.o;have hlen3:ab0 (W++[(a,n)])=ab0 W+1:=ad;have U:=A.o;rw[hlen3] at U c;have T3:Touch F w E:=(Touch.of_below (F:=F) Bq (aD _)).T H (λi r=>by subst r;exact .inl N);have T4:Touch F w f:=(T3.alloc (.cells #[af6 a,.int .u64 n] 216)).grown b (λz V=>.inl (C z V));have X:=T4.setCell (p:=af7 g 2) (.inl N) (.slice t (ab0 W+1) u);have Gk:∀z,(Value.slice t (ab0 W+1) u).ownBlock=some z->F z\/z=E.heap.size+1:=λz e=>by
   rcases c with y|y
   .exact .inl (C z (by rw[<-y];exact e))
   .rw[y] at e;simp only[aI,bg] at e;exact .inr e.Y
  have Xs:E.heap.size+1<=f.heap.size:=by have:=b.size;rw[aI] at this;exact this
  have SL:(Value.slice t (ab0 W+1) u).ownBlock≠some g:=λe=>by
   rcases c with y|y
   .exact I (by rw[<-y];exact e)
   .rw[y] at e;simp only[aI,bg] at e;omega
  have J:ic 0 f Gj L:=(h.o.alloc (.cells #[af6 a,.int .u64 n] 216)).stay λz e=>b.block z (by rw[aI];have:=Q z (O z e);omega) (λq=>D z q.Y e);refine⟨λz=>F z\/(Value.slice t (ab0 W+1) u).ownBlock=some z,?_,⟨Gj,_,Y.o.hJ 2 _,J.far (p:=af7 g 2) (λe=>Y.o.kY J ab e) _,?_,.inl N,λz e=>.inl (O z e),λz e=>.inr e,?_,?_⟩,X⟩
  .rintro z (x|e)
   .exact .inl x
   .rcases Gk z e with x|x
    .exact .inl x
    .exact .inr aa
  .have:=U.far (p:=af7 g 2) SL (.slice t (ab0 W+1) u)
   exact this
  .intro z e q
   rcases c with y|y
   .exact D z (by rw[<-y];exact e) q
   .rw[y] at e;simp only[aI,bg] at e
    have:=Q z (O z q);omega
  .intro z V
   rw[bT];rcases V with x|e
   .have:=Q z x;omega
   .exact(U.lt z e).2
 have y:=Y.o.hJ 2 (.slice t (ab0 W+1) u);have v0:=y.C 0;have C:=y.C 2;simp only[az,aA,ay,bA,bR,bS] at v0 C;clear y j l u2 Xt I q2 r2 b c;generalize f.setCell (af7 g 2) (.slice t (ab0 W+1) u)=D at *;clear Y A h B1 o m H G M O1;have x:lf (L++(W++[(a,n)])):=by
  rw[<-aN];exact HO.o.append (λm y=>by simp only[bQ] at y;subst y;exact⟨a0,a1,n0⟩)
 have G:=ax x;have H:Hid (tot (L++(W++[(a,n)]))=tot (L++W)+n):=by show _=_;simp only[h_,tot];omega
 clear x;by_cases U:d<=(ab0 W:Int)+1
 .have c:Hid (jD d L W (a,n)=qT d (L++(W++[(a,n)]))/\nu d W (a,n)=[]):=by unfold jD nu;rw[aH U,aH U];exact⟨rfl,rfl⟩
  obtain⟨Q,p,q,x⟩:=P.o;have b:ab0 L+ab0 (W++[(a,n)])<=100000000:=by simp only[aE,bh];omega
  have y:tot (L++(W++[(a,n)]))<=281474976710656:=by rw[H.o];omega
  have I:=ax (λnq=>yc g Q d lo1 hi1 L (W++[(a,n)]) (D.drewN nq) (q.K (below_drewN (aC _ _) nq)) G.o b y aa d1);have X:=ax x;have V:=ax p;clear p q x b y P;go_quiet (fail)
  go_wp21;refine RX (I.o _) ?_
  rintro j ⟨J,Y,b,y⟩;have M:=ax Y;have N:=ax b;have O:=ax y;have A:=X.o.size;clear Y b y;go_wp2;refine ak ?_;refine⟨rfl,J,?_,?_,?_⟩
  .intro z b
   rcases M.o z b with y|y
   .exact V.o z y
   .exact .inr (by rw[ir] at y;omega)
  .rw[K.o]
   unfold uP;simp only;rw[c.o.1,c.o.2];exact N.o
  .exact(X.o.drewN _).T O.o (λi r=>V.o i r)
 .have c:Hid (jD d L W (a,n)=L/\nu d W (a,n)=W++[(a,n)]):=by unfold jD nu;rw[aF U,aF U];exact⟨rfl,rfl⟩
  obtain⟨Q,p,q,x⟩:=P.o;have y:=ax q;have X:=ax x;have V:=ax p;clear p q x P;go_quiet (fail)
  go_wp2;refine ak ?_;refine⟨rfl,Q,V.o,?_,X.o.drewN _⟩;rw[K.o];unfold uP;simp only;rw[c.o.1,c.o.2];exact y.o.K (below_drewN (aC _ _) _)
section
def SM(a:Int)(z:0<=a)(y:a<18446744073709551616):bits .xor .u64 a 0=a:=by
 show ad0 .u64 ((BitVec.ofInt 64 a ^^^ BitVec.ofInt 64 0).toNat:Int)=_
 rw[show BitVec.ofInt 64 0=0#64 from rfl,BitVec.xor_zero,e_,iy];omega
def SN(a:Int)(z:0<=a)(y:a<18446744073709551616):bits .xor .u64 a 18446744073709551615=18446744073709551615 - a:=by
 show ad0 .u64 ((BitVec.ofInt 64 a ^^^ BitVec.ofInt 64 18446744073709551615).toNat:Int)=_
 rw[show BitVec.ofInt 64 18446744073709551615=BitVec.allOnes 64 from ab,BitVec.xor_allOnes,BitVec.toNat_not,e_,iy];omega
def SO(a:Int)(z:0<=a)(y:a<9223372036854775808):bits .xor .i64 a 0=a:=by
 show ad0 .i64 ((BitVec.ofInt 64 a ^^^ BitVec.ofInt 64 0).toNat:Int)=_
 rw[show BitVec.ofInt 64 0=0#64 from rfl,BitVec.xor_zero,e_];simp only[aO];omega
def SP(a:Int)(z:0<=a)(y:a<9223372036854775808):bits .xor .i64 a (-1)=-a - 1:=by
 show ad0 .i64 ((BitVec.ofInt 64 a ^^^ BitVec.ofInt 64 (-1)).toNat:Int)=_
 rw[show BitVec.ofInt 64 (-1)=BitVec.allOnes 64 from ab,BitVec.xor_allOnes,BitVec.toNat_not,e_];have e:((2 ^ 64 - 1 - (a % ((2 ^ 64:Nat):Int)).toNat:Nat):Int)=-a - 1+18446744073709551616:=aa;rw[e];simp only[aO];omega
def SQ(n:Int)(z:0<=n)(y:n<18446744073709551616):bits .and .u64 n 1=n % 2:=by
 obtain⟨m,rfl⟩:=bO z;have h:=bits_and_u64_nat m 1 aa  aa;rw[Nat.and_one_is_mod] at h;have e:((1:Nat):Int)=1:=rfl;rw[e] at h;rw[h];omega
def Da(v:Int)(w:World)(y:-9223372036854775808<=v)(x:v<=9223372036854775807):af4 af5 443 #[af6 v] w λe z=>e=.returned (.int .u64 (oF v))/\w=z:=by
 go_in;go_wp2;go_ret;refine⟨jz ?_,rfl⟩;unfold oF;by_cases h:0<=v
 .rw[aH h,show ad0 .u64 (v / 9223372036854775808)=0 by rw[iy];omega,show ad0 .u64 (ad0 .u64 v * 2)=2 * v by simp only[iy];omega]
  exact SM _ aa  aa
 .rw[aF h,show ad0 .u64 (v / 9223372036854775808)=18446744073709551615 by rw[iy];omega,show ad0 .u64 (ad0 .u64 v * 2)=18446744073709551616+2 * v by simp only[iy];omega]
  rw[SN _ aa  aa];omega
def sK(n:Int)(w:World)(z:0<=n)(y:n<18446744073709551616):af4 af5 444 #[.int .u64 n] w λe x=>e=.returned (af6 (lH n))/\w=x:=by
 go_in;go_wp2;go_ret;refine⟨jz ?_,rfl⟩;unfold lH;rw[SQ n z y];by_cases h:n % 2=0
 .rw[aH h,h,show wrap64 (-wrap64 0)=0 by simp[wrap64]]
  exact SO _ aa  aa
 .rw[aF h,show n % 2=1 by omega,show wrap64 (-wrap64 1)=-1 by simp[wrap64]]
  exact SP _ aa  aa
def IY(v:Int):0<=ub v/\ub v<18446744073709551616:=by unfold ub;omega
def oG{v:Int}(z:-9223372036854775808<=v)(y:v<=9223372036854775807):wrap64 (ub v)=v:=by unfold ub wrap64;omega
def Db(g y:Nat)(v s:Int)(x:List Int)(w:World)(h:Wr 373 y w g x)(r:-9223372036854775808<=v)(q:v<=9223372036854775807)(b:ab0 x<=1000000000000):af4 af5 407 #[aq g,.int .u64 (ub v),af6 s] w λe t=>e=.returned (.tuple #[])/\Wr 373 y t g (x++zg v)/\Below y w t:=by
 have X:=oG r q;have p:=j9 r q;have f:=ax (tv g y (oF v) s x w h p.1 p.2 b);have d:=ax (Da v w r q);clear h;have c:Hid (zg v=il (oF v)):=ax rfl;generalize oF v=z at *;generalize ub v=u at *;go_in;go_wp2_with (first|(go_at_call 443;refine Ix d.o ?_)|(go_at_call 405;refine RX f.o ?_;rintro t ⟨a,Y⟩))
 refine ct (v:=.tuple #[]) (by simp[results,Tryz.results407,go_sem, *];try rfl) rfl ?_;exact⟨rfl,by rw[c.o];exact a,Y⟩
def Wr.new(t:TypeId)(w:World)(z:Nat)(y:z<=w.heap.size):Wr t z (w.alloc (.cells #[.slice none 0 0] t)) w.heap.size []:=
 ⟨y,_,g7.new _ _ _,hO.nil_ _ _ _ _⟩
def Dc(k K:Nat)(c:UInt8)(n:Int)(t:List Int)(v:Value)(w:World)(h:VZ k (c.toNat:Int))(r:jC .u64 w v [n])(_n0:0<=n)(_n1:n<18446744073709551616)(x:pZ k=K)
 (M:∀z w,(callFunc K z).run prog w=.ok (.enter K z) w)
 (u:∀(g y:Nat) (w:World),Wr 373 y w g []->Calls prog K #[aq g,.int .u64 n,af6 0] w λe z=>e=.returned (.tuple #[])/\Wr 373 y z g t/\Below y w z) :
 af4 af5 195 #[.string ⟨#[c]⟩,v] w λe z=>∃v,e=.returned (.tuple #[v,af6 0])/\OwnB w.heap.size z v t/\af3 w z:=by
 obtain⟨A,O,rfl,R,L,s⟩:=r.form;obtain⟨X,P,rfl,T,y⟩:=s.at_ (j:=0) (by simp);simp only[bh,bZ,cF] at R y |-;have f:=ax y;have H:=ax h;have b:=ax u;clear r s y h u;have d:Hid (∀w,af4 af5 276 #[.int .u8 (c.toNat:Int)] w λe z=>e=.returned (.tuple #[.agg #[.int .u8 (c.toNat:Int),af6 0,.func (.func K) #[] #[],.func (.func (sG k)) #[] #[]],.bool true])/\af3 w z):=λw=>by
  rw[<-x];exact my k (c.toNat:Int) w H.o
 clear x;go_in;go_wp21;refine RX (Gb k c w H.o) ?_;intro y V;have Q:=V.size;go_wp21;have⟨g,x⟩:=ar (y.heap.size);have s:=ax (Wr.new 373 y w.heap.size Q);have U:af3 w (y.alloc (.cells #[.slice none 0 0] 373)):=bw;rw[x] at s |-;generalize y.alloc (.cells #[.slice none 0 0] 373)=D at *;clear x
 go_loopg [25] 1 (λq i wr=>∃j:Nat,q=1 - j/\j<=1/\i=af6 j/\Hid (Wr 373 w.heap.size wr g (if j=0 then [] else t))/\af3 w wr)
 exact⟨0,rfl,aa,rfl,s,U⟩
 case round=>
  obtain⟨j,x,J,rfl,q,u⟩:=hrel;have a:=ax x;have G:=u.size;clear x;by_cases I:j<1
  .obtain rfl:j=0:=aa
   have N:=(u.C (p:=af7 X P) T).T f.o
   go_wp2_with (first
    | (go_at_call 276;refine RX (d.o _) ?_;intro C x;have F:=x.size)
    | (go_at_fn K;refine((b.o g w.heap.size _ ((q.o.K x).K ((aC _ _).alloc (aD _) _))).M ?_);rintro e B ⟨rfl,r,S⟩;have E:=S.size;have Y:=ax r;clear r))
   go_roundg 0
   exact⟨1,rfl,aa,af,Y,bw⟩;have:=a.o;omega
  .have S:j=1:=aa
   subst S;obtain⟨N,v,r,x⟩:=q.o;have Y:=r.k0;rw[aF aa] at x;have p:=ax x;clear r x;go_wp2;go_ret2;exact⟨v,rfl,p.o,u⟩
def yf(n:Int)(v:Value)(w:World)(t:jC .u64 w v [n])(z:0<=n)(y:n<18446744073709551616):af4 af5 195 #[.string ⟨#[118]⟩,v] w λe x=>∃v,e=.returned (.tuple #[v,af6 0])/\OwnB w.heap.size x v (il n)/\af3 w x:=
 Dc 7 405 118 n (il n) v w Qa t z y rfl (λ_ _=>rfl) (λg u w h=>tv g u n 0 [] w h z y ad)
def yg(x:Int)(v:Value)(w:World)(s:jC .u64 w v [ub x])(u:-9223372036854775808<=x)(t:x<=9223372036854775807):af4 af5 195 #[.string ⟨#[122]⟩,v] w λe z=>∃v,e=.returned (.tuple #[v,af6 0])/\OwnB w.heap.size z v (zg x)/\af3 w z:=
 Dc 8 407 122 (ub x) (zg x) v w UQ s (IY x).1 (IY x).2 rfl (λ_ _=>rfl) (λg y w h=>Db g y x 0 [] w h u t ad)
def Touch.C{F:Nat->Prop}{w w':World}(h:Touch F w w'){k o:Nat}(y:k<w.heap.size)(z:¬F k):w'.cell? (af7 k o)=w.cell? (af7 k o):=
 bn (a:=af7 k o) (h.block k y z)
def Kl(c:Int)(w:World)(h:c=118\/c=122):af4 af5 251 #[.int .u8 c] w λe z=>e=.returned (.tuple #[af6 0,.bool false])/\w=z:=by
 rcases h with rfl|rfl
 all_goals
  go_in;go_wp2;go_ret2;exact⟨rfl,rfl⟩
def Ak(x:Int)(w:World)(v:-9223372036854775808<=x)(t:x<=9223372036854775807):af4 af5 252 #[.int .u64 (ub x)] w λe y=>e=.returned (.int .u64 (oF x))/\w=y:=by
 have s:=IY x;have z:Hid (oF x=if ub x<9223372036854775808 then 2 * ub x else 2 * (18446744073709551615 - ub x)+1):=by show _=_;unfold oF ub;(repeat' split)<;>omega
 generalize ub x=u at *;by_cases h:u<9223372036854775808
 .rw[aH h] at z
  go_in;go_wp2;go_ret;exact⟨jz z.o.Y,rfl⟩
 .rw[aF h] at z
  go_in;go_wp2;go_ret;exact⟨jz (by rw[z.o]),rfl⟩
def tB(c n x:Int)(w:World)(g:(c=118/\x=n/\0<=n/\n<18446744073709551616)\/(c=122/\n=ub x/\-9223372036854775808<=x/\x<=9223372036854775807)):af4 af5 163 #[.int .u8 c,.int .u64 n] w λe a=>∃v,e=.returned (.tuple #[v,.bool true])/\OwnB w.heap.size a v (if c=118 then il x else zg x)/\af3 w a:=by
 obtain⟨m,d,H,E,t⟩:∃m,(if c=118 then x else oF x)=m/\0<=m/\m<18446744073709551616/\(if c=118 then il x else zg x)=il m:=by
  rcases g with⟨rfl,rfl,z,u⟩|⟨rfl,rfl,z,u⟩
  .exact⟨_,rfl,by simpa using z,by simpa using u,ad⟩
  .have:=j9 z u
   exact⟨_,rfl,by simpa using this.1,by simpa using this.2,by simp[zg]⟩
 rw[t];clear t;have N:=λw=>ax (Kl c w (by rcases g with h|h;exact .inl h.1;exact .inr h.1));have K:(c == 110)=false:=by rcases g with h|h<;>simp[h.1]
 rcases g with⟨rfl,rfl,z,u⟩|⟨rfl,rfl,z,u⟩
 all_goals
  try simp only[if_true] at d
  try (have L:=ax (Ak x w z u))
  try simp only[show((122:Int)=118)=False by simp,if_false] at d
  first|(have I:m=x:=d.Y;subst I)|subst d
  try (generalize oF x=m at *)
  try (generalize ub x=n at *)
  clear K;go_in;go_wp2_with (first|(go_at_call 251;refine Ix (N _).o ?_)|(go_at_call 252;refine Ix L.o ?_))
  go_loopg [8,11] 9 (λk b v wr=>∃(q:Int) (y:List Int),k<=9/\v=.int .u64 q/\0<=q/\q<2 * 128 ^ k/\ab0 y<=9 - k/\Hid (y++ko k q=il m)/\OwnB w.heap.size wr b y/\af3 w wr)
  exact⟨m,[],aa,rfl,H,aa,ad,ax rfl,hO.nil_ _ _ _ _,aC _ _⟩
  case round=>
   obtain⟨q,y,f,rfl,A,P,F,T,v,X⟩:=hrel;have p:=ax v;have C:=X.size;have S:ab0 y+1<=1099511627776:=aa;obtain⟨G,B,Q,_,_,_⟩:=(hO.rd v).form;clear v;by_cases R:127<q
   .obtain⟨r,rfl⟩:∃r,gk=r+1:=by
     rcases bo gk with z|z
     .subst z;simp at P;omega
     .exact⟨gk - 1,aa⟩
    have D:q<18446744073709551616:=by
     have u:(2:Int) * 128 ^ (r+1)<=2 * 128 ^ 9:=by
      have:(128:Int) ^ (r+1)<=128 ^ 9:=by
       have v:(128:Nat) ^ (r+1)<=128 ^ 9:=bM aa  aa
       exact_mod_cast v
      omega
     omega
    have t:=ax (nL r q R);have J:q / 128<2 * 128 ^ r:=cj aa (by rw[bF,<-ch];exact P);have M:=ax (show q % 128+128=128+q % 128 by omega);clear Q
    go_wp2_with (first
     | (at_builtin
        go_must (refine kv rfl (.tmp 60) (.tmp 65) rfl w.heap.size u8 y rfl (hO.alloc p.o _) _ [128+q % 128] rfl (jC.ig _ _ _ _ _ rfl) S (by simp only[aI];omega) ?_)
        intro O U s v Y;have V:af3 w U:=(X.alloc aa _).grown v (by simp only[aI];omega) (λk f=>(hO.lt p.o k f).1);have b:=ax s;clear s v Y))
    go_roundg r
    exact⟨q / 128,y++[128+q % 128],aa,rfl,aa,J,ae,ax (by rw[aN,<-T.o,t.o,M.o];rfl),b.o,V⟩;omega
   .have t:=ax (nM gk q R)
    clear Q
    go_wp2_with (first
     | (at_builtin
        go_must (refine kv rfl (.tmp 69) (.tmp 72) rfl w.heap.size u8 y rfl (hO.alloc p.o _) _ [q] rfl (jC.ig _ _ _ _ _ rfl) S (by simp only[aI];omega) ?_)
        intro O U s v Y;have V:af3 w U:=(X.alloc aa _).grown v (by simp only[aI];omega) (λk f=>(hO.lt p.o k f).1);have b:=ax s;clear s v Y))
    go_ret2;exact⟨O,rfl,by rw[<-T.o,t.o];exact b.o,V⟩
end
section
variable{w w':World}{a g j:Nat}{bs l r:List Int}{part x:Int}
def tC(v:Value)(l:List Int)(w:World)(h:jC .u8 w v l)(V:ab0 l<=1000000000000):af4 af5 129 #[v] w λe s=>∃z,e=.returned z/\OwnB w.heap.size s z l/\af3 w s:=by
 obtain⟨A,c,rfl,U,X,x⟩:=h.form;have r:=ax h;clear h;by_cases y:A=none
 .subst y
  have z:l=[]:=by
   rcases bo (ab0 l) with z|z
   .exact aV z
   .obtain⟨g,u,e,_⟩:=x z;cases e
  subst z;clear x;have f:(binOp .eql 37 (.slice none 0 c) (.slice none 0 0)).run prog w=.ok (.bool true) w:=Lib.run_eql_slice_nil w _ _ _ _ _ _ _ underlying37;go_in;go_wp2;go_ret;exact⟨_,rfl,hO.nil_ _ _ _ _,bw⟩
 .obtain⟨a,rfl⟩:∃a,A=some a:=by
   cases A with
   | none=>exact absurd rfl y
   | some a=>exact⟨a,rfl⟩
  clear y x;have u:∀W:World,OwnB W.heap.size (W.alloc (.cells #[] 5)) (.slice (some (af7 (W.heap.size) 0)) 0 0) []:=λW=>
   ⟨rfl,.inr ⟨W.heap.size,0,_,rfl,aD _,cH _ _,ad,by unfold maxLen;omega,rfl,ad⟩⟩
  have z:=ax u;clear u;have f:(binOp .eql 37 (.slice (some a) (ab0 l) c) (.slice none 0 0)).run prog w=.ok (.bool false) w:=Lib.run_eql_slice_nil w _ _ _ _ _ _ _ underlying37;go_in
  go_wp2_with (first
   | (at_builtin
      go_must (refine kv rfl (.tmp 5) (.tmp 6) rfl w.heap.size _ [] rfl (z.o w) _ l rfl (Rd.alloc r.o _) ae ad ?_)
      intro b Y t u p;have g:af3 w Y:=((aC _ _).alloc (aD _) _).grown u ad (λk d=>(hO.lt (z.o w) k d).1);have q:=ax t;clear t u p))
  go_ret;exact⟨b,rfl,q.o,g⟩
def hT(w:World)(g:Nat)(bs:List Int)(a:Nat):Prop:=∃v,g7 w g 462 #[v,af6 a]/\OwnB 0 w v bs/\a<=ab0 bs
def hT.lt{w:World}{g:Nat}{bs:List Int}{a:Nat}(h:hT w g bs a):g<w.heap.size:=by
 obtain⟨v,z,_⟩:=h;exact z.lt
def hT.K(h:hT w g bs a)(z:af3 w w'):hT w' g bs a:=by
 obtain⟨v,y,x,u⟩:=h;exact⟨v,y.K z,hO.K x z,u⟩
def hT.drewN(h:hT w g bs a)(n:Nat):hT (w.drewN n) g bs a:=h
def hT.put(h:hT w g bs a)(z:Nat)(u:z<=ab0 bs):hT (w.setCell (af7 g 1) (af6 z)) g bs z:=by
 obtain⟨v,y,x,t⟩:=h;exact⟨v,y.hJ 1 _,x.far (λe=>y.Bl x ab e) _,u⟩
def q_(v:Value)(z:List Int)(w:World)(h:jC .u8 w v z)(q:ab0 z<=1000000000000):af4 af5 295 #[v] w λe u=>∃g,e=.returned (aq g)/\w.heap.size<=g/\hT u g z 0/\af3 w u:=by
 have t:=ax (tC v z w h q);clear h;go_in;go_wp21;refine WE t.o ?_;rintro c g ⟨y,r⟩;have s:=ax y;have p:=r.size;obtain⟨f,d,x,_,_,_⟩:=(hO.rd y).form;generalize ab0 z=N at x;subst x;clear y;go_wp2;go_ret;refine⟨g.heap.size,rfl,p,⟨_,g7.new _ _ _,hO.lift (hO.alloc s.o _) (λ_ _=>bl _),bl _⟩,bw⟩
def mA(g:Nat)(z:List Int)(a:Nat)(w:World)(h:hT w g z a)(aa3:ab0 z<=1000000000000):af4 af5 343 #[aq g] w λe t=>e=.returned (af6 ((ab0 z:Int) - a))/\∃n,t=w.drewN n:=by
 obtain⟨v,y,x,p⟩:=h;obtain⟨s,f,rfl,_,_,_⟩:=(hO.rd x).form;obtain⟨r,q⟩:=y.c2;have u:ad0 .i64 ((ab0 z:Int) - a)=(ab0 z:Int) - a:=cy _ aa;clear y x;go_in;go_wp21
 go_quiet (fail)
 clear u;go_wp2;go_ret;exact⟨rfl,_,rfl⟩
def tD(g:Nat)(y:List Int)(a:Nat)(w:World)(h:hT w g y a):af4 af5 331 #[aq g] w λe t=>e=.returned (af6 a)/\w=t:=by
 obtain⟨v,z,u,s⟩:=h;have x:=z.k1;clear z u;go_in;go_wp2;go_ret;exact⟨rfl,rfl⟩
def uQ(x y:Int)(j:Nat)(f:j<=9)(r:0<=x)(q:x<128 ^ j)(p:0<=y)(d:y<128)(g:j=9->y<=1):bits .or .u64 x (ad0 .u64 (y * 2 ^ (7 * j)))=x+128 ^ j * y:=by
 obtain⟨a,rfl⟩:=bO r;obtain⟨b,rfl⟩:=bO p;have z:(2:Nat) ^ (7 * j)=128 ^ j:=by rw[Nat.pow_mul]
 have s:b * 2 ^ (7 * j)<18446744073709551616:=by
  rw[z];by_cases u:j=9
  .subst u;have:=g rfl;omega
  .have v:(128:Nat) ^ j<=128 ^ 8:=bM aa  aa
   have t:b * 128 ^ j<=127 * 128 ^ 8:=cL aa v;omega
 have u:a<2 ^ (7 * j):=by rw[z];exact_mod_cast q
 have t:a<18446744073709551616:=by
  have v:(128:Nat) ^ j<=128 ^ 9:=bM aa  aa;rw[z] at u;omega
 have v:((b:Int) * 2 ^ (7 * j))=((b * 2 ^ (7 * j):Nat):Int):=ad;rw[v,show ad0 .u64 ((b * 2 ^ (7 * j):Nat):Int)=((b * 2 ^ (7 * j):Nat):Int) from by rw[iy];omega,bits_or_u64_nat a _ t s];have h:=dT u b;rw[Nat.or_comm,cJ b,<-h,z];simp;omega
def kE(l:List Int)(j:Nat)(part:Int):Prop:=hU l=(w_ (10 - j) (l.drop j)).map (λp=>(part+128 ^ j * p.1,p.2))
def kE.start(l:List Int):kE l 0 0:=by
 unfold kE hU;cases h:w_ 10 l with
 | none=>simp[h]
 | some p=>simp[h]
def kE.more(h:kE l j part)(z:l.drop j=x::r)(v:j<9)(y:127<x):kE l (j+1) (part+128 ^ j * (x - 128)):=by
 unfold kE at *;have e:l.drop (j+1)=r:=by
  have:=bu List.tail z;simpa[List.tail_drop] using this
 rw[h,z,show 10 - j=(9 - j)+1 by omega,w_,aF aa,aH y,e,show 10 - (j+1)=9 - j by omega];cases hu:w_ (9 - j) r with
 | none=>simp
 | some p=>
  simp only[df,bg,fs,and_true];rw[ch,eQ,bF];omega
def kE.last(h:kE l j part)(z:l.drop j=x::r)(u:j<=9)(v:¬(j=9/\1<x))(y:¬127<x)(t:¬(x=0/\0<j)):hU l=some (part+128 ^ j * x,r):=by
 unfold kE at h;rw[h,z,show 10 - j=(9 - j)+1 by omega,w_,aF aa,aF y,aF aa];rfl
def kE.none_(h:kE l j part)(z:l.drop j=[])(y:j<=9):hU l=none:=by
 unfold kE at h;rw[h,z,show 10 - j=(9 - j)+1 by omega];simp[w_]
def kE.bad(h:kE l j part)(y:l.drop j=x::r)(t:j<=9)(z:(j=9/\1<x)\/(¬127<x/\x=0/\0<j)):hU l=none:=by
 unfold kE at h;rw[h,y,show 10 - j=(9 - j)+1 by omega,w_];rcases z with z|⟨z,v,u⟩
 .rw[aH aa];rfl
 .rw[aF aa,aF z,aH aa];rfl
def nU(w:World)(n g i:Nat)(v:Value):Touch (λk=>k=g) w ((w.drewN n).setCell (af7 g i) v):=((Touch.refl (λk=>k=g) w).drewN n).setCell (p:=af7 g i) (.inl rfl) v
def oH(w:World)(n g:Nat):Touch (λk=>k=g) w (w.drewN n):=(Touch.refl (λk=>k=g) w).drewN n
def UT(e:Int):Prop:=e=20\/e=21
def mU(w:World)(g:Nat)(bs:List Int)(a:Nat)(f:Int->Int)(e:Ending)(w':World):Prop:=
 match hU (bs.drop a) with
 | some p=>e=.returned (.tuple #[.int .u64 (f p.1),af6 0])/\hT w' g bs (ab0 bs - ab0 p.2)/\Touch (λk=>k=g) w w'
 | none=>∃er,e=.returned (.tuple #[.int .u64 (f 0),af6 er])/\UT er/\hT w' g bs a/\Touch (λk=>k=g) w w'
def Dd(g:Nat)(s:Int)(z:List Int)(a:Nat)(w:World)(h:hT w g z a)(y:jE z)(hlen:ab0 z<=1000000000000):af4 af5 406 #[aq g,af6 s] w (mU w g z a id):=by
 have H:=ax h;obtain⟨v,p,c,k⟩:=h;obtain⟨A1,k1,rfl,_,m1,O⟩:=(hO.rd c).form;have o:=p.k0;have W:=p.k1;have fz:=p.F 1;have C:=ax O;have B:=ax y;clear p c O y;go_in;go_wp2;go_loopg [6,7] 10 (λq n i wr=>∃(j:Nat) (y:Int),q=10 - j/\j<=9/\a+j<=ab0 z/\i=af6 j/\n=.int .u64 y/\(0<=y/\y<128 ^ j)/\Hid (kE (z.drop a) j y)/\∃nq,wr=w.drewN nq)
 exact⟨0,0,rfl,aa,aa,rfl,rfl,⟨aa,ad⟩,ax (kE.start _),0,rfl⟩
 case round=>
  obtain⟨j,y,V,N,haj,rfl,rfl,⟨T,S⟩,b,nq,rfl⟩:=hrel;have l:=ax V;clear V;have F:=cy ((a:Int)+(j:Int)) aa;have p64:y<9223372036854775808:=by
   have p:(128:Int) ^ j<=128 ^ 9:=by
    have c:(128:Nat) ^ j<=128 ^ 9:=bM aa  aa
    exact_mod_cast c
   omega
  by_cases M:a+j<ab0 z
  .obtain⟨gb,ob,rfl,hgb,e0⟩:=C.o.at_ M
   have X:(z.drop a).drop j=z[a+j]::z.drop (a+j+1):=by rw[cQ];exact b_ M
   have Y:=ax X;have E:=B.o z[a+j] (aP M);have u:((a:Int)+(j:Int)).toNat=a+j:=aa;have aj0:(0:Int)<=(a:Int)+(j:Int):=aa;have aj1:(a:Int)+(j:Int)<(ab0 z:Int):=aa;have i:decide ((ab0 z:Int)<=(a:Int)+(j:Int))=false:=bq aa;have x:ab0 (z.drop (a+j+1))=ab0 z - (a+j+1):=aW;have Q:=ax x;clear X x;generalize z.drop (a+j+1)=r at *;generalize z[a+j]=x at *;have a7:=MO x E.1 E.2;go_wp21
   go_quiet (fail)
   go_wp21
   go_quiet (fail)
   clear F u;by_cases t:j=9/\1<x
   .obtain⟨rfl,u⟩:=t
    have d:Hid (hU (z.drop a)=none):=ax (b.o.bad Y.o aa (.inl ⟨rfl,u⟩));go_wp2;go_ret2;unfold mU;rw[d.o];exact⟨21,rfl,.inr rfl,H.o,oH w _ g⟩
   .have m:=ax t
    have L:(((j:Int) == 9) && decide ((1:Int)<x))=false:=by
     by_cases f:j=9
     .have:decide ((1:Int)<x)=false:=bq (λh=>t ⟨f,h⟩)
      rw[this];simp
     .have:((j:Int) == 9)=false:=bV.2 aa
      rw[this];rfl
    by_cases K:127<x
    .have P:j<9:=aa
     have D:((j:Int) == 9)=false:=bV.2 aa;have u:=uQ y (x % 128) j aa T S aa  aa  aa;have U:=b.o.more Y.o P K;rw[show x - 128=x % 128 by omega] at U;have I:=ax u;have R:=ax U;have J:Hid (0<=y+128 ^ j * (x % 128)/\y+128 ^ j * (x % 128)<128 ^ (j+1)):=by
      have p:(0:Int)<128 ^ j:=dp aa;have c:(128:Int) ^ j * (x % 128)<=128 ^ j * 127:=bX aa  aa;have k:0<=(128:Int) ^ j * (x % 128):=cX aa  aa;exact ax ⟨aa,by rw[ch];omega⟩
     clear u U L t;go_wp2;go_roundg (10 - (j+1))
     exact⟨j+1,_,rfl,aa,aa,af,by rw[I.o],J.o,R,_,rfl⟩;have:=l.o;omega
    .by_cases U:x=0/\0<j
     .have d:Hid (hU (z.drop a)=none):=ax (b.o.bad Y.o N (.inr ⟨K,U.1,U.2⟩))
      obtain⟨rfl,R⟩:=U;have P:decide ((0:Int)<(j:Int))=true:=bN aa;clear L t;by_cases f:j=9
      .subst f
       go_wp2;go_ret2;unfold mU;rw[d.o];exact⟨21,rfl,.inr rfl,H.o,oH w _ g⟩
      .have D:((j:Int) == 9)=false:=bV.2 aa
       go_wp2;go_ret2;unfold mU;rw[d.o];exact⟨21,rfl,.inr rfl,H.o,oH w _ g⟩
     .have e:=b.o.last Y.o N t K U
      have u:=uQ y (x % 128) j aa T S aa  aa (by intro f;omega);rw[show x % 128=x by omega] at u;have R:=ax e;have I:=ax u;have hm8:x % 128=x:=aa;have P:∀(n:Nat) (q:Int),q=((a+j+1:Nat):Int)->Hid (hT ((w.drewN n).setCell (af7 g 1) (af6 q)) g z (a+j+1)):=λn q V=>by
       subst V;exact ax ((H.o.drewN n).put (a+j+1) aa)
      clear L t;by_cases f:j=9
      .obtain rfl:x=1:=by have:=m.o;omega
       subst f;have O:decide ((1:Int)<1)=false:=ab;have J:bits .or .u64 y 9223372036854775808=y+128 ^ 9 * 1:=by
        have h:=uQ y 1 9 aa T S aa  aa  aa
        rwa [show ad0 .u64 (1 * 2 ^ (7 * 9))=9223372036854775808 from by rw[iy];decide +kernel] at h
       have G:=ax J;clear u J;go_wp2;go_ret2;unfold mU;rw[R.o];refine⟨by rw[<-G.o];rfl,?_,nU w _ g 1 _⟩;simp only;rw[Q.o,show ab0 z - (ab0 z - (a+9+1))=a+9+1 by omega];exact(P _ _ aa).o
      .have D:((j:Int) == 9)=false:=bV.2 aa
       by_cases J:x=0
       .obtain rfl:j=0:=aa
        subst J;have G:bits .or .u64 y 0=y+128 ^ 0 * 0:=by
         have h:=uQ y 0 0 aa T S aa  aa  aa
         rwa [show ad0 .u64 (0 * 2 ^ (7 * 0))=0 from by rw[iy];decide +kernel] at h
        have A:=ax G;clear u G;go_wp2;go_ret2;unfold mU;rw[R.o];refine⟨by rw[<-A.o];rfl,?_,nU w _ g 1 _⟩;simp only;rw[Q.o,show ab0 z - (ab0 z - (a+0+1))=a+0+1 by omega];exact(P _ _ aa).o
       .have G:(x == 0)=false:=bV.2 J
        clear J;go_wp2;go_ret2;unfold mU;rw[R.o];refine⟨rfl,?_,nU w _ g 1 _⟩;simp only;rw[Q.o,show ab0 z - (ab0 z - (a+j+1))=a+j+1 by omega];exact(P _ _ aa).o
  .have X:(z.drop a).drop j=[]:=by rw[cQ];exact db aa
   have d:Hid (hU (z.drop a)=none):=ax (b.o.none_ X N);have i:decide ((ab0 z:Int)<=(a:Int)+(j:Int))=true:=bN aa;go_wp21
   go_quiet (fail)
   clear F;go_wp2;go_ret2;unfold mU;rw[d.o];exact⟨20,rfl,.inl rfl,H.o,(oH w _ g).drewN _⟩
def mU.first{w1:World}{f:Int->Int}{e:Ending}(s:af3 w w1)(h:mU w1 g bs a f e w'):mU w g bs a f e w':=by
 have v:∀{x:World},Touch (λk=>k=g) w1 x->Touch (λk=>k=g) w x:=λt=>(Touch.of_below s (aD _)).T t (λi z=>.inl z);unfold mU at *;cases hu:hU (bs.drop a) with
 | none=>rw[hu] at h;obtain⟨u,z,y,x,t⟩:=h;exact⟨u,z,y,x,v t⟩
 | some p=>rw[hu] at h;obtain⟨z,y,x⟩:=h;exact⟨z,y,v x⟩
def MY(g:Nat)(s:Int)(x:List Int)(a:Nat)(w:World)(h:hT w g x a)(q:jE x)(X:ab0 x<=1000000000000):af4 af5 408 #[aq g,af6 s] w (mU w g x a (λn=>ub (lH n))):=by
 have y:=Dd g s x a w h q X;unfold mU at *;cases hu:hU (x.drop a) with
 | none=>
  simp only[hu] at y |-;have f:=ax y;have v:=λw=>ax (sK 0 w aa  aa)
  have z:Hid (ub (lH 0)=0):=ax ab;have r:Hid (lH 0=0):=ax ab;rw[z.o];rw[r.o] at v;clear y hu h q;go_in;go_wp21;refine WE f.o ?_;rintro p c ⟨d,u,t⟩;simp only[id];go_wp21;refine Ix (v c).o ?_;go_wp2;go_ret2;exact⟨p,rfl,d,u,t⟩
 | some p=>
  have d:=jm (q.drop a) hu;obtain⟨z,r⟩:=p;simp only[hu] at y d |-;have f:=ax y;have v:=λw=>ax (sK z w d.1 d.2)
  have b:Hid (ad0 .u64 (lH z)=ub (lH z)):=ax (iy _);rw[<-b.o];clear y hu h q b;go_in;go_wp21;refine RX f.o ?_;rintro c ⟨u,t⟩;simp only[id];have b:=ax u;have Y:=ax t;clear u t;go_wp21;refine Ix (v c).o ?_;go_wp2;go_ret2;exact⟨rfl,b.o,Y.o⟩
def Al(k K:Nat)(c:Int)(f:Int->Int)(g:Nat)(y:List Int)(a:Nat)(w:World)(h:hT w g y a)(u:VZ k c)(x:sG k=K)
 (Y:∀z w,(callFunc K z).run prog w=.ok (.enter K z) w)
 (v:∀w,hT w g y a->Calls prog K #[aq g,af6 0] w (mU w g y a f)) :
 af4 af5 330 #[aq g,.int .u8 c] w (mU w g y a f):=by
 have H:=ax h;have r:=ax v;have s:Hid (af4 af5 276 #[.int .u8 c] w λe z=>e=.returned (.tuple #[.agg #[.int .u8 c,af6 0,.func (.func (pZ k)) #[] #[],.func (.func K) #[] #[]],.bool true])/\af3 w z):=by
  rw[<-x];exact ax (my k c w u)
 clear h v x u;go_in;go_wp21;refine RX s.o ?_;intro b d;have X:=d.size;have t:∀z,af3 w (b.alloc (.cells z 377)):=λz=>bw;go_wp2_with (go_at_fn K;refine(r.o _ (H.o.K (t _))).M ?_)
 rintro e V z;have u:=ax (mU.first (t _) z);unfold mU at z;cases hu:hU (y.drop a) with
 | none=>
  rw[hu] at z;obtain⟨p,rfl,q,x,v⟩:=z;clear hu q x v;go_wp2;go_ret2;exact u.o
 | some p=>
  rw[hu] at z;obtain⟨rfl,x,v⟩:=z;clear hu x v;go_wp2;go_ret2;exact u.o
def p9(g:Nat)(z:List Int)(a:Nat)(w:World)(h:hT w g z a)(y:jE z)(x:ab0 z<=1000000000000):af4 af5 330 #[aq g,.int .u8 118] w (mU w g z a id):=
 Al 7 406 118 id g z a w h Qa rfl (λ_ _=>rfl) (λw h=>Dd g 0 z a w h y x)
def sL(g:Nat)(z:List Int)(a:Nat)(w:World)(h:hT w g z a)(y:jE z)(x:ab0 z<=1000000000000):af4 af5 330 #[aq g,.int .u8 122] w (mU w g z a (λn=>ub (lH n))):=
 Al 8 408 122 _ g z a w h UQ rfl (λ_ _=>rfl) (λw h=>MY g 0 z a w h y x)
def Xu{m:Nat}(h:r=bs.drop m):bs.drop (ab0 bs - ab0 r)=r:=by
 subst h;rw[aW];rcases fI m (ab0 bs) with h|h
 .rw[show ab0 bs - (ab0 bs - m)=m by omega]
 .rw[show ab0 bs - (ab0 bs - m)=ab0 bs by omega,db (aD _),db h]
def i7{z:Int}(h:hU (bs.drop a)=some (z,r)):bs.drop (ab0 bs - ab0 r)=r:=by
 obtain⟨_,j,y⟩:=lI h;exact Xu (m:=a+j) (by rw[<-cQ];exact y)
def tt{a b:World}(y:Touch (λk=>k=g) w a)(x:Touch (λk=>k=g) a b):Touch (λk=>k=g) w b:=y.T x (λ_i z=>.inl z)
def Gn{m:List Int}(x:ab0 l=ab0 m)(h:∀i (z:i<ab0 l) (y:i<ab0 m),l[i]=m[i]):l=m:=eK x λi z y=>h i z y
def lJ(u v:Value)(l m:List Int)(w:World)(x:jC .u8 w u l)(t:jC .u8 w v m)(M:ab0 l<=1000000000000)(L:ab0 m<=1000000000000):af4 af5 170 #[u,v] w (au w (.bool (decide (l=m)))):=by
 obtain⟨A,S,rfl,_,_,z⟩:=x.form;obtain⟨B,R,rfl,_,_,y⟩:=t.form;have d:=ax z;have c:=ax y;clear x t z y;by_cases p:ab0 l=ab0 m
 .have a:((ab0 l:Int) != (ab0 m:Int))=false:=by rw[p];simp
  have g:=ax p;clear p;go_in;go_wp2;go_loopg [13] (ab0 l) (λq i wr=>∃j:Nat,q=ab0 l - j/\j<=ab0 l/\i=af6 j/\Hid (∀i (z:i<ab0 l) (t:i<ab0 m),i<j->l[i]=m[i])/\∃n,wr=w.drewN n)
  exact⟨0,rfl,aa,rfl,ax (λi z t q=>absurd q aa),0,rfl⟩
  case round=>
   obtain⟨j,y,N,rfl,f,n,rfl⟩:=hrel;have b:=ax y;clear y;by_cases V:j<ab0 l
   .have U:j<ab0 m:=by have:=g.o;omega
    obtain⟨P,I,rfl,_,Q⟩:=d.o.at_ V;obtain⟨O,H,rfl,_,X⟩:=c.o.at_ U;have K:(j:Int)<(ab0 l:Int):=aa;have J:(j:Int)<(ab0 m:Int):=aa;by_cases s:l[j]=m[j]
    .have y:Hid (∀i (z:i<ab0 l) (t:i<ab0 m),i<j+1->l[i]=m[i]):=ax (λi z t q=>by
      rcases bm i j with h|h
      .exact f.o i z t h
      .obtain rfl:i=j:=aa
       exact s)
     rw[<-s] at X;have Y:(l[j] != l[j])=false:=ad;generalize l[j]=x at *;clear s;go_wp21
     go_quiet (fail)
     go_wp2;go_roundg (ab0 l - (j+1))
     exact⟨j+1,rfl,aa,af,y,_,rfl⟩;have:=b.o;omega
    .have r:Hid (decide (l=m)=false):=ax (bq (λh=>s (by subst h;rfl)))
     have Y:(l[j] != m[j])=true:=by simpa using s
     generalize l[j]=x at *;generalize m[j]=y at *;clear s;go_wp21
     go_quiet (fail)
     go_wp2;go_ret;exact⟨ph r.o.Y,bw⟩
   .have r:Hid (decide (l=m)=true):=ax (bN (Gn g.o (λi z t=>f.o i z t aa)))
    go_wp2;go_ret;exact⟨ph r.o.Y,bw⟩
 .have a:((ab0 l:Int) != (ab0 m:Int))=true:=ae
  have r:Hid (decide (l=m)=false):=ax (bq (λh=>p (by rw[h])));clear p;go_in;go_wp2;go_ret;exact⟨ph r.o.Y,bw⟩
end
