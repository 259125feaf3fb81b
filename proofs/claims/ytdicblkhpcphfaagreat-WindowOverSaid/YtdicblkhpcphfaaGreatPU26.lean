/- Parts. -/
import Derived.Test.YtdicblkhpcphfaaGreatPU25
import Derived.Deep.SlicePairs
set_option maxRecDepth 100000
set_option maxHeartbeats 0
set_option linter.all false
namespace Go.Proofs.YtdicblkhpcphfaaGreat
open Tryz Go.RowKit Go.Lib Go.Shelf
open _root_.List renaming length→ab0
open Go.IntKind renaming wrap→ad0
open _root_.Go renaming Calls→af4
open Tryz renaming prog→af5
namespace D
variable{q:Value}{B:List Int}{a o:Nat}{F H:Ft}{w w':World}{C P:Ft->World->Prop}{er:Int}{e:Ending}
def iT.stay(h:iT q B a H w)(z:∀k,H k->w'.heap[k]?=w.heap[k]?)(u:w.heap.size<=w'.heap.size):iT q B a H w':=by
 rcases h with h|⟨cg,r,cv,e,t,y,x,v,s⟩
 .exact .inl h
 .exact .inr ⟨cg,r,cv,e,t.stay (z _ y) (z _ x) (λk e=>z k (v k e)) u,y,x,v,λk h=>aG (s k h) u⟩
def iT.low(h:iT q B a H w):∀k,H k->k<w.heap.size:=by
 rcases h with⟨_,_,_,h⟩|⟨cg,r,cv,e,x,v,u,t,z⟩
 .exact λk y=>absurd y (h k)
 .exact z
def iT.K(h:iT q B a H w)(z:af3 w w'):iT q B a H w':=h.stay (λk y=>z.block k (h.low k y)) z.size
def iT.far(h:iT q B a H w)(y:Touch F w w')(x:∀k,H k->¬F k):iT q B a H w':=h.stay (λk z=>y.block k (h.low k z) (x k z)) y.size
def iT.nil_(w:World):iT (.pointer none) [] 0 (λ_=>False) w:=.inl ⟨rfl,rfl,rfl,λ_ h=>h⟩
def iI.stay(h:iI o q B a H w)(x:∀k,H k->w'.heap[k]?=w.heap[k]?)(p:∀k,k<o->w'.heap[k]?=w.heap[k]?)(v:w.heap.size<=w'.heap.size):iI o q B a H w':=by
 obtain⟨u,t,e,s,z,y,r⟩:=h;exact⟨u,t,e,s.stay (x _ z) (λk e=>(y k e).elim (p k) (x k)) v,z,y,λk h=>aG (r k h) v⟩
def iI.low(h:iI o q B a H w):∀k,H k->k<w.heap.size:=by
 obtain⟨y,x,e,v,u,t,z⟩:=h;exact z
def iI.K(h:iI o q B a H w)(x:o<=w.heap.size)(z:af3 w w'):iI o q B a H w':=h.stay (λk y=>z.block k (h.low k y)) (λk y=>z.block k aa) z.size
def iI.far(h:iI o q B a H w)(t:o<=w.heap.size)(y:Touch F w w')(v:∀k,H k->¬F k)(x:∀k,F k->o<=k):iI o q B a H w':=
 h.stay (λk z=>y.block k (h.low k z) (v k z)) (λk z=>y.block k aa (λu=>by have:=x k u;omega)) y.size
def kD(S:kK P)(h:P F w)(x:e=.returned (af6 er))(z:af3 w w')(y:C H w'):jx P C F H er w e w':=
 ⟨x,S.more (S.K h z) (λ_ h=>.inl h) (jt (S.low h) z.size),y,Touch.of_below z (aD _)⟩
def oS(h:wM P F er w e w')(z:C H w'):jx P C F H er w e w':=⟨h.1,h.2.1,z,h.2.2.M λ_ h=>.inl h⟩
section
variable {G H F' : Ft} {w w' : World} {p q n cg r led a o p2 i6 : Nat} {cv lv cq : Value} {B : List Int} {s0 : K.KS} {vs : List K.Sv} {L M : K.LL} {G2 : Ft}
def JF(z:K.BY G w p q n cg r cv B s0 F' w' lv vs (K.je q B s0))(g:n=K.wt s0.1)(s:∀k,G k->k<w.heap.size)(v:H cg)(y:H r)(u:∀k,cv.ownBlock=some k->H k)(t:∀k,H k->k<w.heap.size):jx (λG w=>K.AL G w p q (K.je q B s0).1 (K.je q B s0).2.1) (iT (jw cg) B (K.je q B s0).2.2) G H 0 w (.returned (af6 0)) w':=by
 have f:Touch (λk=>G k\/H k) w w':=z.touch.M λx d=>d.imp id λe=>by rw[show x=r from e];exact y
 refine⟨rfl,(ru p q _ _).gr (w:=w) ⟨lv,vs,?_⟩ z.sub s z.touch.size,.inr ⟨cg,r,cv,rfl,z.co,v,y,u,λk h=>aG (t k h) z.touch.size⟩,f⟩;rw[K.yU,<-g];exact z.st
def EF{dg:Nat}{dv:Value}(z:K.vk G w p q dg dv B s0 F' w' lv vs (K.je q B s0))(t:∀k,G k->k<w.heap.size)(y:H dg)(v:∀k,dv.ownBlock=some k->k<o\/H k)(u:∀k,H k->k<w.heap.size):jx (λG w=>K.OO G w p q (K.je q B s0).1 (K.je q B s0).2.1) (iI o (jw dg) B (K.je q B s0).2.2) G H 0 w (.returned (af6 0)) w':=by
 have s:Touch (λk=>G k\/H k) w w':=z.touch.M λx r=>r.imp id λe=>by rw[show x=dg from e];exact y
 exact⟨rfl,(oQ p q _ _).gr (w:=w) ⟨lv,vs,z.st⟩ z.sub t z.touch.size,⟨dg,dv,rfl,z.co,y,v,λk h=>aG (u k h) z.touch.size⟩,s⟩
def VW(v:Int)(n:Nat)(h:K.AL G w p q L led)(d:K.Fit q L led)(g:iT cq B a H w)(R:cq≠.pointer none)(f:∀k,H k->¬G k)(P:8<=q)(U:q<=4096)(T:n<18446744073709551616):af4 af5 133 #[aq p,af6 v,.int .u64 n,cq] w (jx (λG w=>K.AL G w p q (K.pK q B v n (L,led,a)).1 (K.pK q B v n (L,led,a)).2.1) (iT cq B (K.pK q B v n (L,led,a)).2.2) G H (K.qL L n) w):=by
 have V:=(ru p q L led).low h;have c:=h;obtain⟨lv,vs,b⟩:=h;have O:=d.cnt aa U;have Q:=d.ok.JB;unfold K.pK;by_cases y:n=0
 .subst y
  have e:K.qL L 0=4:=rfl;rw[e,aF ab];refine Ix (K.add_zero p v _ w) ?_;exact kD (ru p q _ _) c rfl (aC _ _) g
 .by_cases s:281474976710656<K.wt L+n
  .have e:K.qL L n=6:=by unfold K.qL;rw[aF y,aH s]
   rw[e,aF ab];refine Ix (K.add_over v n _ w b Q s T) ?_;exact kD (ru p q _ _) c rfl (aC _ _) g
  .have e:K.qL L n=0:=by unfold K.qL;rw[aF y,aF s]
   rw[e,aH rfl];rcases g with⟨Y,_⟩|⟨cg,r,cv,rfl,X,x,u,t,z⟩
   .exact absurd Y R
   .refine RX (K.Ra v w b X ⟨f _ x,f _ u,λk e=>⟨f _ (t k e),z _ (t k e)⟩,z _ x,z _ u⟩ d.pk rfl aa  aa  aa  aa  aa) ?_
    rintro w' ⟨F',N,M,S,_⟩;exact JF S (K.BQ _ _ aa).Y V x u t z
def Uc(v:Int)(n:Nat)(h:K.OO G w p q L led)(z:K.Fit q L led)(r:iI o cq B a H w)(f:∀k,H k->¬G k)(O:o<=w.heap.size)(U:∀k,G k->o<=k)(Q:8<=q)(X:q<=4096)(V:n<18446744073709551616):af4 af5 94 #[aq p,af6 v,.int .u64 n,cq] w (jx (λG w=>K.OO G w p q (K.pK q B v n (L,led,a)).1 (K.pK q B v n (L,led,a)).2.1) (iI o cq B (K.pK q B v n (L,led,a)).2.2) G H (K.qL L n) w):=by
 have Y:=(oQ p q L led).low h;have g:=h;obtain⟨lv,vs,c⟩:=h;have P:=z.cnt aa X;have T:=z.ok.JB;unfold K.pK;by_cases y:n=0
 .subst y
  have e:K.qL L 0=4:=rfl;rw[e,aF ab];refine Ix (K.Lz p v _ w) ?_;exact kD (oQ p q _ _) g rfl (aC _ _) r
 .by_cases s:281474976710656<K.wt L+n
  .have e:K.qL L n=6:=by unfold K.qL;rw[aF y,aH s]
   rw[e,aF ab];refine Ix (K.LA v n _ w c T z.ok.s5 s V) ?_;exact kD (oQ p q _ _) g rfl (aC _ _) r
  .have e:K.qL L n=0:=by unfold K.qL;rw[aF y,aF s]
   rw[e,aH rfl];obtain⟨S,R,rfl,b,x,u,t⟩:=r;refine RX (K.yd v w c b ⟨f _ x,λk e=>⟨λd=>(u k e).elim (λh=>by have:=U k d;omega) (λh=>f k h d),(u k e).elim (λh=>by omega) (t k)⟩,t _ x⟩ z.pk aa  aa  aa  aa  aa) ?_;rintro w' ⟨F',N,M,d⟩;exact EF d Y x u t
def Ud(h:K.AL G w p q L led)(x:K.Fit q L led)(y:K.AL G2 w p2 q M i6)(v:K.Fit q M i6)(Y:iT cq B a H w)(O:cq=.pointer none->K.jo q (K.jT L M)=none)(g:∀k,H k->¬G k)(I:8<=q)(V:q<=4096):af4 af5 106 #[aq p,aq p2,cq] w (jx (λG w=>K.AL G w p q (K.kW q B (M,i6) (L,led,a)).1 (K.kW q B (M,i6) (L,led,a)).2.1) (iT cq B (K.kW q B (M,i6) (L,led,a)).2.2) G H (K.iO L M) w):=by
 have c:=(ru p q L led).low h;have R:=h;obtain⟨lv,vs,f⟩:=h;obtain⟨E,C,d⟩:=y;have G:=x.cnt aa V;have F:=v.cnt aa V;unfold K.kW;by_cases s:281474976710656<K.wt L+K.wt M
 .have e:K.iO L M=6:=by unfold K.iO;rw[aH s]
  rw[e,aF ab];refine RX (K.LG _ w f d x.ok.JB v.ok.JB s) ?_;rintro w' ⟨z,rfl⟩;have u:af3 w (w.drewN z):=below_drewN (aC _ _) _;exact kD (ru p q _ _) R rfl u (Y.K u)
 .have e:K.iO L M=0:=by unfold K.iO;rw[aF s]
  rw[e,aH rfl];rcases Y with⟨rfl,rfl,rfl,P⟩|⟨cg,r,cv,rfl,Q,y,u,t,z⟩
  .have X:=O rfl
   refine RX (K.LZ (a:=0) (b:=0) w f d x.pk v.pk rfl rfl aa  aa  aa  aa X) ?_;rintro w' ⟨F',U,S,N,J,D,T⟩;rw[K.qj X];refine⟨rfl,(ru p q _ _).gr (w:=w) ⟨U,S,?_⟩ J c T.size,.inl ⟨rfl,rfl,rfl,P⟩,T.M λ_ h=>.inl h⟩;rw[K.tW];exact N
  .refine RX (K.yT w f d Q ⟨g _ y,g _ u,λk e=>⟨g _ (t k e),z _ (t k e)⟩,z _ y,z _ u⟩ x.pk (v.pk (a:=0)) rfl rfl aa  aa  aa  aa) ?_
   rintro w' ⟨F',U,S,b,_⟩;exact JF b (K.tW _ _).Y c y u t z
def Rr(h:K.OO G w p q L led)(u:K.Fit q L led)(y:K.OO G2 w p2 q M i6)(t:K.Fit q M i6)(s:iI o cq B a H w)(r:∀k,H k->¬G k)(V:o<=w.heap.size)(U:∀k,G k->o<=k)(R:8<=q)(f:q<=4096):af4 af5 52 #[aq p,aq p2,cq] w (jx (λG w=>K.OO G w p q (K.kW q B (M,i6) (L,led,a)).1 (K.kW q B (M,i6) (L,led,a)).2.1) (iI o cq B (K.kW q B (M,i6) (L,led,a)).2.2) G H (K.iO L M) w):=by
 have X:=(oQ p q L led).low h;have b:=h;obtain⟨lv,vs,d⟩:=h;obtain⟨N,I,c⟩:=y;have Q:=u.cnt aa f;have P:=t.cnt aa f;unfold K.kW;by_cases v:281474976710656<K.wt L+K.wt M
 .have e:K.iO L M=6:=by unfold K.iO;rw[aH v]
  rw[e,aF ab];refine RX (K.H4 _ w d c (u.pk (a:=0)) (t.pk (a:=0)) v) ?_;rintro w' ⟨z,rfl⟩;have x:af3 w (w.drewN z):=below_drewN (aC _ _) _;exact kD (oQ p q _ _) b rfl x (s.K V x)
 .have e:K.iO L M=0:=by unfold K.iO;rw[aF v]
  rw[e,aH rfl];obtain⟨T,S,rfl,Y,y,z,x⟩:=s;refine RX (K.vm w d c Y ⟨r _ y,λk e=>⟨λg=>(z k e).elim (λh=>by have:=U k g;omega) (λh=>r k h g),(z k e).elim (λh=>by omega) (x k)⟩,x _ y⟩ u.pk (t.pk (a:=0)) aa  aa  aa  aa) ?_;rintro w' ⟨F',O,J,g⟩;exact EF g X y z x
end
end D
variable{l:List Mn}{d done n w:Int}
def H9(d n:Int):Int->List Mn->Prop
 | _,[]=>True
 | _,[_]=>True
 | done,a::b::r=>(∃m,0<m/\m<=b.2/\tr d n done (a.2+m)=false)/\H9 d n (done+a.2) (b::r)
def wm(d n:Int):∀(l:List Mn) (done:Int) (now:Mn),lf l->∃b r,jO d n l done now=b::r/\now.2<=b.2
 | [],_,now,_=>⟨now,[],rfl,eB _⟩
 | m::l,done,now,ho=>by
  have x:=(ho m (aJ ..)).2.2;unfold jO;split
  .obtain⟨b,r,z,y⟩:=wm d n l done (mo now.1 m.1 m.2 (now.2+m.2),now.2+m.2) ho.tail
   exact⟨b,r,z,by simp only at y;omega⟩
  .exact⟨now,_,rfl,eB _⟩
def s7(d n:Int):∀(l:List Mn) (done:Int) (now:Mn),lf l->H9 d n done (jO d n l done now)
 | [],_,_,_=>trivial
 | m::l,done,now,ho=>by
  have u:=(ho m (aJ ..)).2.2;unfold jO;split
  .exact s7 d n l done _ ho.tail
  .rename_i v
   obtain⟨b,r,y,x⟩:=wm d n l (done+now.2) m ho.tail;have z:=s7 d n l (done+now.2) m ho.tail;rw[y] at z |-;exact⟨⟨m.2,u,x,by simpa using v⟩,z⟩
def Rs(d:Int)(h:lf l):H9 d (tot l) 0 (qT d l):=by
 unfold qT;have:=h.jk;cases hs:jk l with
 | nil=>trivial
 | cons m s=>rw[hs] at this;exact s7 d (tot l) s 0 m this.tail
def Pc(h:tr d n done w=false)(r:0<n)(y:0<=done)(q:0<w)(s:2 * done+w<=n):2 * done<=w * (d - 1):=by
 unfold tr at h;have x:(2 * done+w) * (2 * n - 2 * done - w)<w * d * n:=by simpa using h
 have v:(2 * done+w) * n<=(2 * done+w) * (2 * n - 2 * done - w):=bX aa  aa;have z:(2 * done+w) * n<w * d * n:=aa;have u:2 * done+w<w * d:=f' z aa;have t:w * (d - 1)=w * d - w:=by rw[Int.mul_sub,Int.mul_one]
 omega
def L7(h:tr d n done w=false)(r:0<n)(_d0:0<=done)(_w0:0<w)(x:n<=2 * done+w)(s:2 * done+w<=2 * n):2 * (n - done)<=w * (d+1):=by
 unfold tr at h;have v:(2 * done+w) * (2 * n - 2 * done - w)<w * d * n:=by simpa using h
 have z:n * (2 * n - 2 * done - w)<=(2 * done+w) * (2 * n - 2 * done - w):=bU x aa;have y:(2 * n - 2 * done - w) * n<w * d * n:=by rw[cd] at z;omega
 have u:2 * n - 2 * done - w<w * d:=f' y aa;have t:w * (d+1)=w * d+w:=by rw[eQ,Int.mul_one]
 omega
def H9.Sz{a b:Mn}{r:List Mn}(h:H9 d n done (a::b::r)):H9 d n (done+a.2+b.2) r:=by
 obtain⟨_,z⟩:=h;cases r with
 | nil=>trivial
 | cons c r=>exact z.2
def EG{d n:Int}(z:0<n)(y:1<=d):∀(K:Nat) (P:List Mn) (done:Int),H9 d n done P->lf P->0<=done->2 * K<=ab0 P->2 * (done+tot (P.take (2 * K)))<=n->2 * K * done<=tot (P.take (2 * K)) * (d - 1)
 | 0,P,done,_,_,_,_,_=>by simp[tot]
 | K+1,[],_,_,_,_,h,_=>by simp only[aY] at h;omega
 | K+1,[_],_,_,_,_,h,_=>by simp only[bh] at h;omega
 | K+1,a::b::r,done,hg,ho,h0,hl,ht=>by
  have t:=(ho a (aJ ..)).2.2;have s:=(ho b ad).2.2;have e:2 * (K+1)=2 * K+1+1:=aa;rw[e,cE,cE] at ht |-;simp only[tot] at ht |-;have f:=(ho.tail.tail.take (2 * K)).g_;have c:=EG z y K r (done+a.2+b.2) hg.Sz ho.tail.tail aa (by simp only[aK] at hl;omega) aa
  obtain⟨⟨m,Y,X,u⟩,_⟩:=hg;have p:=Pc u z h0 aa  aa;have g:(a.2+m) * (d - 1)<=(a.2+b.2) * (d - 1):=bU aa  aa;have q:2 * (K:Int) * done<=2 * (K:Int) * (done+a.2+b.2):=bX aa  aa;have x:(a.2+(b.2+tot (r.take (2 * K)))) * (d - 1)=(a.2+b.2) * (d - 1)+tot (r.take (2 * K)) * (d - 1):=by rw[<-f_,dk]
  have v:2 * ((K+1:Nat):Int) * done=2 * (K:Int) * done+2 * done:=by
   have:2 * ((K+1:Nat):Int)=2 * (K:Int)+2:=aa;rw[this,dk]
  rw[x,v];omega
def AW{d n:Int}(z:0<n)(y:1<=d):∀(K:Nat) (P:List Mn) (done:Int),H9 d n done P->lf P->n<=2 * done->done+tot P=n->2 * K<=ab0 P->2 * K * tot (P.drop (2 * K))<=tot (P.take (2 * K)) * (d+1)
 | 0,P,done,_,_,_,_,_=>by simp[tot]
 | K+1,[],_,_,_,_,_,h=>by simp only[aY] at h;omega
 | K+1,[_],_,_,_,_,_,h=>by simp only[bh] at h;omega
 | K+1,a::b::r,done,hg,ho,h0,hn,hl=>by
  have s:=(ho a (aJ ..)).2.2;have q:=(ho b ad).2.2;have e:2 * (K+1)=2 * K+1+1:=aa;rw[e,cE,cE,aX,aX];simp only[tot] at hn |-;have c:=(ho.tail.tail.take (2 * K)).g_;have f:=(ho.tail.tail.drop (2 * K)).g_;have t:=h_ (r.take (2 * K)) (r.drop (2 * K));rw[bL] at t;have Y:=AW z y K r (done+a.2+b.2) hg.Sz ho.tail.tail aa  aa (by simp only[aK] at hl;omega)
  obtain⟨⟨m,X,V,u⟩,_⟩:=hg;have p:=L7 u z aa  aa  aa  aa;have g:(a.2+m) * (d+1)<=(a.2+b.2) * (d+1):=bU aa  aa;have x:(a.2+(b.2+tot (r.take (2 * K)))) * (d+1)=(a.2+b.2) * (d+1)+tot (r.take (2 * K)) * (d+1):=by rw[<-f_,dk]
  have v:2 * ((K+1:Nat):Int) * tot (r.drop (2 * K))=2 * (K:Int) * tot (r.drop (2 * K))+2 * tot (r.drop (2 * K)):=by
   have:2 * ((K+1:Nat):Int)=2 * (K:Int)+2:=aa;rw[this,dk]
  rw[x,v];omega
def H9.drop{d n:Int}:∀(i:Nat) (P:List Mn) (done:Int),H9 d n done P->H9 d n (done+tot (P.take i)) (P.drop i)
 | 0,P,done,h=>by simpa[tot] using h
 | i+1,[],done,_=>trivial
 | i+1,[a],done,_=>by simp[H9]
 | i+1,a::b::r,done,h=>by
  have:=H9.drop i (b::r) (done+a.2) h.2;rw[cE,aX];simp only[tot];rw[<-f_];exact this
def wo{d n:Int}{D:Nat}(x:(D:Int)=d)(v:0<n)(z:1<=d):∀(j:Nat) (P:List Mn) (done:Int),H9 d n done P->lf P->0<=done->2 * D * j<=ab0 P->2 * (done+tot (P.take (2 * D * j)))<=n->2 ^ j * done<=done+tot (P.take (2 * D * j))
 | 0,P,done,_,_,_,_,_=>by simp[tot]
 | j+1,P,done,hg,ho,h0,hl,ht=>by
  have e:2 * D * (j+1)=2 * D+2 * D * j:=by rw[fX,cW];omega
  rw[e] at hl ht |-;have t:P.take (2 * D+2 * D * j)=P.take (2 * D)++(P.drop (2 * D)).take (2 * D * j):=by rw[List.take_add]
  rw[t,h_] at ht |-;have s:=(ho.take (2 * D)).g_;have f:=((ho.drop (2 * D)).take (2 * D * j)).g_;have y:=EG v z D P done hg ho h0 aa  aa
  have r:=wo x v z j (P.drop (2 * D)) (done+tot (P.take (2 * D))) (hg.drop (2 * D)) (ho.drop _) aa (by rw[aW];omega) aa;have q:done<=tot (P.take (2 * D)):=by
   rw[x] at y;have p:2 * d * done<=tot (P.take (2 * D)) * (d - 1):=y;have g:tot (P.take (2 * D)) * (d - 1)<=tot (P.take (2 * D)) * (2 * d):=bX aa s;have u:done * (2 * d)<=tot (P.take (2 * D)) * (2 * d):=by rw[cd done];omega
   exact gd u aa
  have p:(2:Int) ^ j * (2 * done)<=2 ^ j * (done+tot (P.take (2 * D))):=bX aa (e9 (dp aa));have u:(2:Int) ^ (j+1) * done=2 ^ j * (2 * done):=by rw[ch,bF]
  rw[u];omega
def t_{d n:Int}{D:Nat}(y:(D:Int)=d+1)(x:0<n)(z:1<=d):∀(j:Nat) (P:List Mn) (done:Int),H9 d n done P->lf P->n<=2 * done->done+tot P=n->2 * D * j<=ab0 P->2 ^ j * tot (P.drop (2 * D * j))<=tot P
 | 0,P,done,_,_,_,_,_=>by simp
 | j+1,P,done,hg,ho,h0,hn,hl=>by
  have e:2 * D * (j+1)=2 * D+2 * D * j:=by rw[fX,cW];omega
  rw[e] at hl |-;have s:=h_ (P.take (2 * D)) (P.drop (2 * D));rw[bL] at s;have r:=(ho.take (2 * D)).g_;have g:=(ho.drop (2 * D)).g_;have v:=AW x z D P done hg ho h0 hn aa
  have u:=t_ y x z j (P.drop (2 * D)) (done+tot (P.take (2 * D))) (hg.drop (2 * D)) (ho.drop _) aa  aa (by rw[aW];omega);rw[cQ] at u;have q:tot (P.drop (2 * D))<=tot (P.take (2 * D)):=by
   rw[y] at v;have t:tot (P.drop (2 * D)) * (2 * (d+1))<=tot (P.take (2 * D)) * (2 * (d+1)):=by
    have p:tot (P.take (2 * D)) * (d+1)<=tot (P.take (2 * D)) * (2 * (d+1)):=bX aa r;rw[cd (tot (P.drop (2 * D)))];omega
   exact gd t aa
  have t:(2:Int) ^ (j+1) * tot (P.drop (2 * D+2 * D * j))=2 * (2 ^ j * tot (P.drop (2 * D+2 * D * j))):=by rw[ch,cd (2 ^ j) 2,bF]
  rw[t];omega
def wy:∀{l:List Mn},lf l->(ab0 l:Int)<=tot l
 | [],_=>by simp[tot]
 | m::l,h=>by
  have:=wy h.tail;have:=(h m (aJ ..)).2.2;simp only[tot,aK];omega
def JG{lo hi:Int}(h:lf l)(g:∀m∈l,lo<=m.1/\m.1<=hi)(v:1<=d)(N:tot l<=281474976710656):(ab0 (qT d l):Int)<=194 * d+99:=by
 have u:=Rs d h;have z:=(xJ d lo hi h g).1;have t:=wY d l;cases hP:qT d l with
 | nil=>simp only[aY];omega
 | cons a r=>
  rw[hP] at u z t;have S:=(z a (aJ ..)).2.2;have O:=z.tail.g_;simp only[tot] at t;have y:=u.drop 1;simp only[cE,dm,aX,bj,tot] at y;generalize tot l=n at *;obtain⟨D,x⟩:∃D:Nat,(D:Int)=d:=⟨d.toNat,aa⟩;have q:0<n:=aa;rw[show(0:Int)+(a.2+0)=a.2 by omega] at y;simp only[aK];by_cases U:ab0 r<2 * D * 48
  .have:((2 * D * 48:Nat):Int)=96 * d:=by rw[<-x];omega
   omega
  .have c:=wo x q v 48 r a.2 y z.tail aa  aa
   have P:¬2 * (a.2+tot (r.take (2 * D * 48)))<=n:=λp=>by
    have:=c p;have e:(2:Int) ^ 48=281474976710656:=ab;rw[e] at this;omega
   have X:=h_ (r.take (2 * D * 48)) (r.drop (2 * D * 48));rw[bL] at X;have f:=y.drop (2 * D * 48);have s:=z.tail.drop (2 * D * 48);have R:ab0 (r.drop (2 * D * 48))=ab0 r - 2 * D * 48:=aW ..;generalize r.drop (2 * D * 48)=Q at *;generalize tot (r.take (2 * D * 48))=V at *;by_cases T:ab0 Q<=2 * (D+1) * 49
   .have b:((2 * (D+1) * 49:Nat):Int)=98 * d+98:=by rw[<-x];omega
    omega
   .have Y:=t_ (D:=D+1) aa q v 49 Q (a.2+V) f s aa  aa  aa
    have b:=wy (s.drop (2 * (D+1) * 49));rw[aW] at b;have e:(2:Int) ^ 49=562949953421312:=ab;rw[e] at Y;omega
section
def yT{g gt:Nat}{F Ft:Nat->Prop}{d:Int}{s t:St}{k kt:Nat}(w:World)(h:vR w g F d s)(p:vR w gt Ft d t)(b:(gt=g/\Ft=F/\t=s)\/(∀k,F k->¬Ft k))(y:Fit d s k)(x:Fit d t kt)(hk:k+kt<=100000000)
 (hcap:tot (t.L++t.W)<=281474976710656 - tot (s.L++s.W)) (hne:0<tot (t.L++t.W)) :
 af4 af5 105 #[aq g,aq gt] w λe u=>e=.returned (af6 0)/\∃V:Nat->Prop,(∀k,V k->F k\/w.heap.size<=k)/\vR u g V d (s.take d t)/\Touch F w u:=by
 have H:=ax h;have HT:=ax p;have s0:=y.ok.j7;have s1:=y.t;have d0:=y.d0;have d1:=y.d1;have hls:=y.ok.len;have hlt:=x.ok.len;have HB1:=ax (aB (aB y.ok.Kc y.ok.lo1) (aB y.ok.hi0 y.ok.hi1));have HB2:=ax (aB (aB x.ok.Kc x.ok.lo1) (aB x.ok.hi0 x.ok.hi1));have zC:Hid (lf (s.L++(s.W++(t.L++t.W)))):=by show lf _;rw[<-aN];exact y.ok.ok.append x.ok.ok
 have zI:Hid (tot (s.L++(s.W++(t.L++t.W)))=tot (s.L++s.W)+tot (t.L++t.W)):=by show _=_;rw[<-aN,h_]
 have HST:Hid (s.take d t=⟨qT d (s.L++(s.W++(t.L++t.W))),[],if tot (s.L++s.W)=0 then t.lo else min s.lo t.lo,if tot (s.L++s.W)=0 then t.hi else max s.hi t.hi⟩):=by show s.take d t=_;unfold St.take;rw[aF aa]
 have HX:=ax b;obtain⟨slv,swv,v,_⟩:=id h;obtain⟨tlv,Zm,z,_⟩:=id p;have hg:=v.lt;have hgt:=z.lt;have Y:=v.k0;have a:=v.k5;have c:=z.k0;have q:=z.k3;have r:=z.k4;have f:=z.k5;have Y3:=ax q;have Y4:=ax r;have U:(tot (t.L++t.W) == 0)=false:=bV.2 aa;have X:decide (281474976710656 - tot (s.L++s.W)<tot (t.L++t.W))=false:=bq aa;have EW:=ax (fe (281474976710656 - tot (s.L++s.W)) aa);clear h p b v z q r y x;go_in;go_wp21
 go_quiet (fail)
 go_wp21;have y:=EW.o
 go_quiet (fail)
 clear y;go_upto_region 10 with fail;have Z:=ax (λ(u:World) (y:af3 w u)=>(aB ((y.C (p:=af7 gt 3) hgt).T Y3.o) ((y.C (p:=af7 gt 4) hgt).T Y4.o)));refine kr (λu=>af3 w u) 9 (hQ 0 9 []) ((below_drewN (aC _ _) _).drew) ?_;iterate 9 refine jG ?_
 refine hN ?_;simp only[aX,bj];go_wp21;refine RX (C' t.lo t.hi _ (Dg.K H.o (below_drewN (aC _ _) _).drew) HB1.o.1 HB1.o.2 HB2.o.1 HB2.o.2 ⟨s0,aa⟩) ?_;rintro v ⟨x,r⟩;have W:Hid (Touch (λk=>k=g) w v):=ax ((Touch.of_below (F:=λk=>k=g) (below_drewN (aC w.heap.size w) _).drew (aD _)).T r (λi O=>.inl O));have b:Hid (∃lo2 hi2:Int,Dg v gt Ft d t.L t.W lo2 hi2 (tot (t.L++t.W))):=by
  rcases HX.o with⟨rfl,rfl,rfl⟩|q
  .exact⟨_,_,x⟩
  .exact⟨t.lo,t.hi,Dg.stay HT.o (λk hk=>W.o.block k (Dg.low HT.o k hk) (λe=>q g (Dg.mem H.o) (e▸hk))) W.o.size⟩
 have Q6:=ax x;clear x r Y a c f X U;go_wp21;refine g6 ?_;obtain⟨lo2,hi2,tlv,Zm,z,c,f,X⟩:=b.o;obtain⟨A,ca,rfl,na,ma,Y⟩:=c.form;obtain⟨B,cb,rfl,nb,mb,a⟩:=f.form;have n:=z.lt;have q:=z.k1;have r:=z.k2;have x:=z.k5;have Q1:=ax q;have Q2:=ax r;have Q5:=ax x;have TL:=ax c.rd;have TW:=ax f.rd;have ae4:g<v.heap.size:=Dg.lt Q6.o;clear z c f X Y a q r x b;go_wp21;have Z:=ax (λ(u:World) (y:af3 v u)=>(aB ((y.C (p:=af7 gt 1) n).T Q1.o) ((y.C (p:=af7 gt 2) n).T Q2.o)));refine jh (λu=>af3 v u) (hQ 0 8 (ik 8 (ik 9 (hQ 10 1 [])))) ((aC _ _).drew) ?_;iterate 8 refine ib ?_
 refine iz λK R=>?_;go_simp;refine R _ _ (((aC _ _).drew).alloc ag _) ?_;refine iz λK R=>?_;go_simp;have hrow:vQ (v.drew.alloc (.cells #[.slice A (ab0 t.L) ca,.slice B (ab0 t.W) cb] 109)) v.heap.size [t.L,t.W]:=Br (TL.o.K (((aC _ _).drew).alloc ag _)) (TW.o.K (((aC _ _).drew).alloc ag _));refine WE (yb v.heap.size [t.L,t.W] _ ag hrow ad ae) ?_;rintro v3 x ⟨z,hb3⟩;have T:af3 v x:=(((aC _ _).drew).alloc ag _).T (hb3.M ag);have hz3:=T.size;rw[show([t.L,t.W]:List (List Mn)).flatten=t.L++t.W by simp] at z;have O3:=ax z;clear z;refine R _ _ (T) ?_;refine ib ?_;refine g4 ?_;obtain⟨l,j,rfl,n9,m9,z⟩:=O3.o.form;clear z;have X3:=ax (Dg.K Q6.o T);have a:=(T.C (p:=af7 gt 5) n).T Q5.o;obtain⟨C,wv3,z,q,r,f⟩:=X3.o;obtain⟨B3,cb3,rfl,nb3,mb3,b⟩:=r.form;have c:=z.k5;have u5:=z.F 5;have Xt:=z.kY q ab;have E:=z.kY r ab;have BB3:=ax z;have L3:=ax q;have W3:=ax r;have HF:=ax f;have VX:=ax (fe (tot (s.L++s.W)+tot (t.L++t.W)) aa);clear z q r f b;go_wp21;have Z:=ax (λ(u:World) (y:af3 x u)=>(aB ((y.C (p:=af7 g 5) (by show g<_;omega)).T c) (aB ((y.C (p:=af7 gt 5) (by show gt<_;omega)).T a) (VX.o))));refine kr (λu=>af3 x u) 11 (hQ 0 11 []) ((aC _ _).drew) ?_;iterate 11 refine jG ?_
 refine hN ?_;simp only[aX,bj];go_wp21;refine g6 ?_;have O3':Hid (ic (v.drew.alloc (.cells #[.slice A (ab0 t.L) ca,.slice B (ab0 t.W) cb] 109)).heap.size x (.slice l (ab0 t.L+ab0 t.W) j) (t.L++t.W)):=by have:=O3.o;rw[aE] at this;exact this
 go_upto_region 13 with fail;have T3:Hid (Touch (λk=>k=g) w (x.setCell (af7 g 5) (.int .u64 (tot (s.L++s.W)+tot (t.L++t.W)))).drew):=ax ((touch_of (T) W.o).setCell (p:=af7 g 5) (.inl rfl) (.int .u64 (tot (s.L++s.W)+tot (t.L++t.W)))).drew;have y:(x.setCell (af7 g 5) (.int .u64 (tot (s.L++s.W)+tot (t.L++t.W)))).drew.heap.size=x.heap.size:=by show(x.setCell _ _).heap.size=_;exact bT ..
 have Gp:x.heap.size<=(x.setCell (af7 g 5) (.int .u64 (tot (s.L++s.W)+tot (t.L++t.W)))).drew.heap.size:=by rw[y];exact aD _
 have X:Hid (g7 (x.setCell (af7 g 5) (.int .u64 (tot (s.L++s.W)+tot (t.L++t.W)))).drew g _ _):=ax (BB3.o.hJ 5 (.int .u64 (tot (s.L++s.W)+tot (t.L++t.W))));have L4:Hid (ic 0 (x.setCell (af7 g 5) (.int .u64 (tot (s.L++s.W)+tot (t.L++t.W)))).drew C s.L):=ax (L3.o.far (p:=af7 g 5) Xt _);have X4:Hid (ic 0 (x.setCell (af7 g 5) (.int .u64 (tot (s.L++s.W)+tot (t.L++t.W)))).drew (.slice B3 (ab0 s.W) cb3) s.W):=ax (W3.o.far (p:=af7 g 5) E _);have M4:Hid (ic v.heap.size (x.setCell (af7 g 5) (.int .u64 (tot (s.L++s.W)+tot (t.L++t.W)))).drew (.slice l (ab0 t.L+ab0 t.W) j) (t.L++t.W)):=ax ((O3'.o.more ag).far (p:=af7 g 5) (λe=>by have h9:=(O3'.o.lt _ e).1;simp only[aI,dL] at h9;have h8:v.heap.size<=g:=(by show _<=((af7 g 5):Addr).block;omega);omega) _);have J:Hid (∀z,F z->z<(x.setCell (af7 g 5) (.int .u64 (tot (s.L++s.W)+tot (t.L++t.W)))).drew.heap.size):=λz f=>(by rw[y];exact HF.o.2.2.2.2 z f);clear y c u5 a;generalize (x.setCell (af7 g 5) (.int .u64 (tot (s.L++s.W)+tot (t.L++t.W)))).drew=h at *;have U:=X.o.C 2;have Q:=X.o.F 2;simp only[az,aA,ay,bA,bR,bS] at U;have y:ab0 (t.L++t.W)=ab0 t.L+ab0 t.W:=aE ..;have Zn:=ax y;clear y;have Pd:ab0 s.W+ab0 (t.L++t.W)<=1099511627776:=by rw[Zn.o];omega
 go_upto_region 14 with(first|(at_builtin;go_must (refine iP rfl (.tmp 74) (.tmp 75) rfl 0 (.slice B3 (ab0 s.W) cb3) s.W rfl X4.o (.slice l (ab0 t.L+ab0 t.W) j) (t.L++t.W) rfl M4.o.rd Pd (bl _) ?_);intro v5 c b Y a;have y:=(Y.block g X.o.lt (λe=>E e.Y)).T X.o;obtain⟨q,r,rfl,n5,m5,S⟩:=b.form;have m:=g7.C y 2;have u2:=g7.F y 2;simp only[az,aA,ay,bA,bR,bS] at m;have N:Hid (g7 c g _ _):=ax y;have D:=ax b;clear y b S U Q;go_simp));have o:Hid (∃(V:Nat->Prop),(∀k,V k->F k\/w.heap.size<=k)/\Dg (c.setCell (af7 g 2) (.slice q (ab0 s.W+(ab0 t.L+ab0 t.W)) r)) g V d s.L (s.W++(t.L++t.W)) (if tot (s.L++s.W)=0 then t.lo else min s.lo t.lo) (if tot (s.L++s.W)=0 then t.hi else max s.hi t.hi) (tot (s.L++(s.W++(t.L++t.W))))/\Touch F w (c.setCell (af7 g 2) (.slice q (ab0 s.W+(ab0 t.L+ab0 t.W)) r))):=by
  obtain⟨P,Q,G,I,p5⟩:=HF.o;have hlen3:ab0 (s.W++(t.L++t.W))=ab0 s.W+(ab0 t.L+ab0 t.W):=ad;have S:=D.o;rw[hlen3] at S a;have T5:Touch F w c:=(T3.o.M (λi (O:i=g)=>O▸P)).grown Y (λz U=>.inl (G z U));have V:=T5.setCell (p:=af7 g 2) (.inl P) (.slice q (ab0 s.W+(ab0 t.L+ab0 t.W)) r);have Gk:∀z,(Value.slice q (ab0 s.W+(ab0 t.L+ab0 t.W)) r).ownBlock=some z->F z\/z=h.heap.size:=λz e=>by
   rcases a with y|y
   .exact .inl (G z (by rw[<-y];exact e))
   .rw[y] at e;simp only[bg] at e;exact .inr e.Y
  have Xs:h.heap.size<=c.heap.size:=Y.size;have hg4:=X.o.lt;have SL:(Value.slice q (ab0 s.W+(ab0 t.L+ab0 t.W)) r).ownBlock≠some g:=λe=>by
   rcases a with y|y
   .exact E (by rw[<-y];exact e)
   .rw[y] at e;simp only[bg] at e;omega
  have L:ic 0 c C s.L:=L4.o.stay λz e=>Y.block z (J.o z (Q z e)) (λb=>I z b.Y e);have M:=N.o;rw[<-zI.o] at M;refine⟨λz=>F z\/(Value.slice q (ab0 s.W+(ab0 t.L+ab0 t.W)) r).ownBlock=some z,?_,⟨C,_,M.hJ 2 _,L.far (p:=af7 g 2) (λe=>N.o.kY L ab e) _,S.far (p:=af7 g 2) SL (.slice q (ab0 s.W+(ab0 t.L+ab0 t.W)) r),.inl P,λz e=>.inl (Q z e),λz e=>.inr e,?_,?_⟩,V⟩
  .rintro z (f|e)
   .exact .inl f
   .rcases Gk z e with f|f
    .exact .inl f
    .exact .inr (aa2 T3.o.size)
  .intro z e b
   rcases a with y|y
   .exact I z (by rw[<-y];exact e) b
   .rw[y] at e;simp only[bg] at e
    have:=J.o z (Q z b);omega
  .intro z U
   rw[bT];rcases U with f|e
   .have:=J.o z f;omega
   .exact(S.lt z e).2
 clear N D m u2 Y a;generalize c.setCell (af7 g 2) (.slice q (ab0 s.W+(ab0 t.L+ab0 t.W)) r)=L at *;obtain⟨M,S,U,Y⟩:=o.o;have a:ab0 s.L+ab0 (s.W++(t.L++t.W))<=100000000:=by simp only[aE];omega
 have b:tot (s.L++(s.W++(t.L++t.W)))<=281474976710656:=by rw[zI.o];omega
 have y:s.L++(s.W++(t.L++t.W))≠[]:=λe=>by have:=zI.o;rw[e] at this;simp only[tot] at this;omega
 have N:=ax (Ai g M d _ _ s.L (s.W++(t.L++t.W)) L U zC.o y a b aa d1);have V:=ax Y;have Q:=ax S;clear S U Y a b y o;go_wp21;refine RX N.o ?_;rintro G ⟨P,a,b,y⟩;have S:=ax a;have U:=ax b;have Y:=ax y;have I:=V.o.size;clear a b y;go_wp2;refine ak ?_;refine⟨rfl,P,?_,?_,V.o.T Y.o (λi O=>Q.o i O)⟩
 .intro z b
  rcases S.o z b with y|y
  .exact Q.o z y
  .exact .inr aa
 .rw[HST.o]
  unfold vR;simp only[bP,wY];exact U.o
end
section
def vm{g gt:Nat}{F Ft:Nat->Prop}{d:Int}{s t:St}{k kt:Nat}(w:World)(h:uP w g F d s)(q:uP w gt Ft d t)(_hx:(gt=g/\Ft=F/\t=s)\/(∀k,F k->¬Ft k))(z:Fit d s k)(r:Fit d t kt)(hk:k+kt<=100000000)
 (hcap:tot (t.L++t.W)<=281474976710656 - tot (s.L++s.W)) (hne:0<tot (t.L++t.W)) :
 af4 af5 51 #[aq g,aq gt] w λe x=>e=.returned (af6 0)/\∃y:Nat->Prop,(∀k,y k->F k\/w.heap.size<=k)/\uP x g y d (s.take d t)/\Touch F w x:=by
 have H:=ax h;have HT:=ax q;have s0:=z.ok.j7;have s1:=z.t;have d0:=z.d0;have d1:=z.d1;have hls:=z.ok.len;have hlt:=r.ok.len;have HO1:=ax z.ok.ok;have HO2:=ax r.ok.ok;have zC:Hid (lf (s.L++(s.W++(t.L++t.W)))):=by show lf _;rw[<-aN];exact z.ok.ok.append r.ok.ok
 have zI:Hid (tot (s.L++(s.W++(t.L++t.W)))=tot (s.L++s.W)+tot (t.L++t.W)):=by show _=_;rw[<-aN,h_]
 have b:(ab0 s.L+ab0 s.W=0)<->tot (s.L++s.W)=0:=by
  rw[z.ok.sF];constructor
  .intro h;exact aV (by rw[aE];exact h)
  .intro h;rw[<-aE,h];rfl
 have O:Hid (∀v,q8 v g F d s.L s.W s.lo s.hi->af4 af5 114 #[aq g,af6 t.lo,af6 t.hi] v λe x=>e=.returned (.tuple #[])/\q8 x g F d s.L s.W (if tot (s.L++s.W)=0 then t.lo else min s.lo t.lo) (if tot (s.L++s.W)=0 then t.hi else max s.hi t.hi)/\Touch (λk=>k=g) v x):=by
  intro v u;have:=Aj t.lo t.hi v u aa;simp only[b] at this;exact this
 have N:Hid (s.take d t=⟨qT d (s.L++(s.W++(t.L++t.W))),[],if tot (s.L++s.W)=0 then t.lo else min s.lo t.lo,if tot (s.L++s.W)=0 then t.hi else max s.hi t.hi⟩):=by show s.take d t=_;unfold St.take;rw[aF aa]
 generalize (if tot (s.L++s.W)=0 then t.lo else min s.lo t.lo)=lo1 at O N;generalize (if tot (s.L++s.W)=0 then t.hi else max s.hi t.hi)=hi1 at O N;have X:ab0 t.L+ab0 t.W≠0:=λe=>by
  have:t.L++t.W=[]:=aV (by rw[aE];exact e);rw[this] at hne;simp[tot] at hne
 have hlb:(((ab0 t.L:Int)+(ab0 t.W:Int)) == 0)=false:=bV.2 aa;obtain⟨slv,swv,p,_⟩:=id h;obtain⟨tlv,Zm,u,_⟩:=id q;have hg:=p.lt;have hgt:=u.lt;have a:=p.k0;have Y:=u.k0;have f:=u.k3;have c:=u.k4;have Y3:=ax f;have Y4:=ax c;clear h q _hx p u f c z r b X;go_in;go_wp21
 go_quiet (fail)
 go_wp21;have z:=λq=>ax (kN gt Ft d t.lo t.hi t.L t.W (w.drewN q) (q8.K HT.o (below_drewN (aC _ _) q)) aa)
 refine WE (z _).o ?_;rintro v1 v ⟨u,r⟩;clear z;have h:af3 w v:=(below_drewN (aC _ _) _).T r;have hz1:=h.size;obtain⟨B,W,rfl,n1,m1,S⟩:=u.form;have z:ab0 (t.L++t.W)=ab0 t.L+ab0 t.W:=aE ..;have m:=ax (by rw[z] at u;exact u:ic w.heap.size v (.slice B (ab0 t.L+ab0 t.W) W) (t.L++t.W));rw[z];have Zn:=ax z;clear u S r z;go_wp21;refine RX (iJ _ (t.L++t.W) v m.o.rd HO2.o aa) ?_;intro w2 R;have J:af3 w w2:=h.T (R.M hz1);have hz2:=J.size;go_wp21;refine WE (kN g F d s.lo s.hi s.L s.W w2 (q8.K H.o J) aa) ?_;rintro v3 w3 ⟨z,K⟩;have hbw3:af3 w w3:=J.T (K.M hz2);have hz3:=hbw3.size;have O3:=ax z;clear z;go_wp21;refine RX (iJ v3 (s.L++s.W) w3 O3.o.rd HO1.o aa) ?_;intro U hb4;have X:af3 w U:=hbw3.T (hb4.M hz3);have Gp:=X.size;have M:=ax (m.o.K ((R.T (K.M R.size)).T (hb4.M (aa6 R.size K.size))));have D4:=ax (q8.K H.o X);have c:=(X.C (p:=af7 gt 3) hgt).T Y3.o;have b:=(X.C (p:=af7 gt 4) hgt).T Y4.o;clear a Y;go_upto_region 8 with fail;have Z:=ax (λ(x:World) (z:af3 U x)=>(aB ((z.C (p:=af7 gt 3) (by show gt<_;omega)).T c) ((z.C (p:=af7 gt 4) (by show gt<_;omega)).T b)));refine kr (λx=>af3 U x) 9 (hQ 0 9 []) ((aC _ _).drew) ?_;iterate 9 refine jG ?_
 refine hN ?_;simp only[aX,bj];go_wp21;refine RX (O.o _ (q8.K D4.o (aC _ _).drew)) ?_;rintro C ⟨⟨WT,wv5,z,Y,u,f⟩,r⟩;have n:Hid (Touch (λk=>k=g) w C):=ax ((Touch.of_below (F:=λk=>k=g) X.drew (aD _)).T r (λi V=>.inl V));obtain⟨B5,cb5,rfl,nb5,mb5,Q⟩:=u.form;have O5:=ax (M.o.stay λk e=>r.block k (M.o.lt k e).2 (λa=>by have:=(M.o.lt k e).1;omega));have T:=z.k2;have I:=z.F 2;have l:=z.kY u ab;have P:=ax z;have L5:=ax Y;have X5:=ax u;have HF:=ax f;clear z Y u f Q r c b;go_wp21;refine g6 ?_;have Pd:ab0 s.W+ab0 (t.L++t.W)<=1099511627776:=by rw[Zn.o];omega
 go_upto_region 10 with(first|(at_builtin;go_must (refine iP rfl (.tmp 41) (.tmp 42) rfl 0 (.slice B5 (ab0 s.W) cb5) s.W rfl X5.o (.slice B (ab0 t.L+ab0 t.W) W) (t.L++t.W) rfl O5.o.rd Pd (bl _) ?_);intro v6 f c Y b;have z:=(Y.block g P.o.lt (λe=>l e.Y)).T P.o;obtain⟨u,r,rfl,n6,m6,L⟩:=c.form;have s2:=g7.C z 2;have u2:=g7.F z 2;simp only[az,aA,ay] at s2;have Q:Hid (g7 f g _ _):=ax z;have o:=ax c;clear z c L T I;go_simp));have A:Hid (∃(y:Nat->Prop),(∀k,y k->F k\/w.heap.size<=k)/\q8 (f.setCell (af7 g 2) (.slice u (ab0 s.W+(ab0 t.L+ab0 t.W)) r)) g y d s.L (s.W++(t.L++t.W)) lo1 hi1/\Touch F w (f.setCell (af7 g 2) (.slice u (ab0 s.W+(ab0 t.L+ab0 t.W)) r))):=by
  obtain⟨G,E,p3,p4,D⟩:=HF.o;have hlen3:ab0 (s.W++(t.L++t.W))=ab0 s.W+(ab0 t.L+ab0 t.W):=ad;have L:=o.o;rw[hlen3] at L b;have T6:Touch F w f:=(n.o.M (λi (V:i=g)=>V▸G)).grown Y (λz I=>.inl (p3 z I));have T:=T6.setCell (p:=af7 g 2) (.inl G) (.slice u (ab0 s.W+(ab0 t.L+ab0 t.W)) r);have Gk:∀z,(Value.slice u (ab0 s.W+(ab0 t.L+ab0 t.W)) r).ownBlock=some z->F z\/z=C.heap.size:=λz e=>by
   rcases b with y|y
   .exact .inl (p3 z (by rw[<-y];exact e))
   .rw[y] at e;simp only[bg] at e;exact .inr e.Y
  have Xs:C.heap.size<=f.heap.size:=Y.size;have hg4:=P.o.lt;have SL:(Value.slice u (ab0 s.W+(ab0 t.L+ab0 t.W)) r).ownBlock≠some g:=λe=>by
   rcases b with y|y
   .exact l (by rw[<-y];exact e)
   .rw[y] at e;simp only[bg] at e;omega
  have j:ic 0 f WT s.L:=L5.o.stay λz e=>Y.block z (D z (E z e)) (λa=>p4 z a.Y e);refine⟨λz=>F z\/(Value.slice u (ab0 s.W+(ab0 t.L+ab0 t.W)) r).ownBlock=some z,?_,⟨WT,_,Q.o.hJ 2 _,j.far (p:=af7 g 2) (λe=>Q.o.kY j ab e) _,L.far (p:=af7 g 2) SL (.slice u (ab0 s.W+(ab0 t.L+ab0 t.W)) r),.inl G,λz e=>.inl (E z e),λz e=>.inr e,?_,?_⟩,T⟩
  .rintro z (c|e)
   .exact .inl c
   .rcases Gk z e with c|c
    .exact .inl c
    .exact .inr (aa2 n.o.size)
  .intro z e a
   rcases b with y|y
   .exact p4 z (by rw[<-y];exact e) a
   .rw[y] at e;simp only[bg] at e
    have:=D z (E z a);omega
  .intro z I
   rw[bT];rcases I with c|e
   .have:=D z c;omega
   .exact(L.lt z e).2
 clear Q o s2 u2 Y b;generalize f.setCell (af7 g 2) (.slice u (ab0 s.W+(ab0 t.L+ab0 t.W)) r)=D at *;obtain⟨L,S,c,b⟩:=A.o;have Y:ab0 s.L+ab0 (s.W++(t.L++t.W))<=100000000:=by simp only[aE];omega
 have Q:tot (s.L++(s.W++(t.L++t.W)))<=281474976710656:=by rw[zI.o];omega
 have E:=ax (yc g L d _ _ s.L (s.W++(t.L++t.W)) D c zC.o Y Q aa d1);have T:=ax b;have y:=ax S;clear S c b Y Q A;go_wp21;refine RX E.o ?_;rintro j ⟨S,c,b,Y⟩;have Q:=ax c;have I:=ax b;have G:=ax Y;have A:=T.o.size;clear c b Y;go_wp2;refine ak ?_;refine⟨rfl,S,?_,?_,T.o.T G.o (λi V=>y.o i V)⟩
 .intro z b
  rcases Q.o z b with c|c
  .exact y.o z c
  .exact .inr aa
 .rw[N.o]
  unfold uP;exact I.o
end
section
variable{g gt k kt:Nat}{F Ft:Nat->Prop}{d:Int}{s t:St}
def iO(s t:St):Int:=if 281474976710656 - tot (s.L++s.W)<tot (t.L++t.W) then 6 else 0
def Rt(w:World)(h:vR w g F d s)(f:vR w gt Ft d t)(z:Fit d s k)(Zo:Fit d t kt)
 (r:281474976710656 - tot (s.L++s.W)<tot (t.L++t.W)\/tot (t.L++t.W)=0) :
 af4 af5 105 #[aq g,aq gt] w (au w (af6 (iO s t))):=by
 obtain⟨U,T,y,_⟩:=h;obtain⟨S,R,x,_⟩:=f;have b:=y.k0;have a:=y.k5;have Y:=x.k0;have q:=x.k5;have X:=z.ok.j7;have V:=z.t;have v:=ax (fe (281474976710656 - tot (s.L++s.W)) aa);clear y x z Zo;by_cases z:281474976710656 - tot (s.L++s.W)<tot (t.L++t.W)
 .have x:Hid (iO s t=6):=aH z
  have p:decide (281474976710656 - tot (s.L++s.W)<tot (t.L++t.W))=true:=bN z;clear r;go_in;go_wp21
  go_quiet (fail)
  go_wp21;have y:=v.o
  go_quiet (fail)
  clear y;go_wp2;go_ret;exact⟨jz x.o.Y,bw⟩
 .have x:Hid (iO s t=0):=aF z
  have u:tot (t.L++t.W)=0:=aa;have p:decide (281474976710656 - tot (s.L++s.W)<0)=false:=bq aa;rw[u] at q;clear r u z;go_in;go_wp21
  go_quiet (fail)
  go_wp21;have y:=v.o
  go_quiet (fail)
  clear y;go_wp2;go_ret;exact⟨jz x.o.Y,bw⟩
def Pe(w:World)(h:uP w g F d s)(C:uP w gt Ft d t)(y:Fit d s k)(z:Fit d t kt)
 (r:281474976710656 - tot (s.L++s.W)<tot (t.L++t.W)\/tot (t.L++t.W)=0) :
 af4 af5 51 #[aq g,aq gt] w (au w (af6 (iO s t))):=by
 have H:=ax h;have B:=ax C;have s0:=y.ok.j7;have s1:=y.t;have t0:=z.ok.j7;have t1:=z.t;have hls:ab0 s.L+ab0 s.W<=100000000:=by have:=y.ok.len;have:=y.k1;omega
 have hlt:ab0 t.L+ab0 t.W<=100000000:=by have:=z.ok.len;have:=z.k1;omega
 have I:=ax y.ok.ok;have G:=ax z.ok.ok;have P:tot (t.L++t.W)=0->ab0 t.L+ab0 t.W=0:=λe=>by rw[<-aE,z.ok.sF.1 e];rfl
 obtain⟨slv,swv,v,_⟩:=h;obtain⟨tlv,Zm,u,_⟩:=C;have o:=v.k0;have n:=u.k0;have Y:=λq=>ax (kN gt Ft d t.lo t.hi t.L t.W (w.drewN q) (q8.K B.o (below_drewN (aC _ _) q)) aa);have A:(281474976710656 - tot (s.L++s.W)<tot (t.L++t.W)/\iO s t=6)\/(tot (t.L++t.W)=0/\iO s t=0/\¬281474976710656 - tot (s.L++s.W)<tot (t.L++t.W)):=by
  by_cases x:281474976710656 - tot (s.L++s.W)<tot (t.L++t.W)
  .exact .inl ⟨x,aH x⟩
  .exact .inr ⟨aa,aF x,x⟩
 clear v u y z r;rcases A with⟨x,v⟩|⟨E,v,x⟩
 .have U:=ax v
  clear v P;go_in;go_wp21
  go_quiet (fail)
  go_wp21;refine WE (Y _).o ?_
  rintro l c ⟨y,r⟩;have u:af3 w c:=(below_drewN (aC _ _) _).T r;have O:=u.size;have X:=ax y;clear y r Y;go_wp21;refine RX (iJ _ (t.L++t.W) c X.o.rd G.o aa) ?_;intro b T;have z:af3 w b:=u.T (T.M O);have N:=z.size;go_wp21;refine WE (kN g F d s.lo s.hi s.L s.W b (q8.K H.o z) aa) ?_;rintro L a ⟨f,S⟩;have p:af3 w a:=z.T (S.M N);have M:=p.size;have V:=ax f;clear f;go_wp21;refine RX (iJ L (s.L++s.W) a V.o.rd I.o aa) ?_;intro K R;have Q:af3 w K:=p.T (R.M M);go_wp2;go_ret;exact⟨jz U.o.Y,Q⟩
 .have U:=ax v
  have D:=P E;have J:Hid (ab0 (t.L++t.W)=0):=by show _=0;rw[aE];exact D
  clear v P E D;go_in;go_wp21
  go_quiet (fail)
  go_wp21;refine WE (Y _).o ?_
  rintro l c ⟨y,r⟩;have u:af3 w c:=(below_drewN (aC _ _) _).T r;have O:=u.size;obtain⟨W,i,rfl,j,m1,D⟩:=y.form;have X:=ax y;rw[J.o];rw[J.o] at X;clear y r Y D j;go_wp21;refine RX (iJ _ (t.L++t.W) c X.o.rd G.o aa) ?_;intro b T;have z:af3 w b:=u.T (T.M O);have N:=z.size;go_wp21;refine WE (kN g F d s.lo s.hi s.L s.W b (q8.K H.o z) aa) ?_;rintro L a ⟨f,S⟩;have p:af3 w a:=z.T (S.M N);have M:=p.size;have V:=ax f;clear f;go_wp21;refine RX (iJ L (s.L++s.W) a V.o.rd I.o aa) ?_;intro K R;have Q:af3 w K:=p.T (R.M M);go_wp2;go_ret;exact⟨jz U.o.Y,Q⟩
end
def vR.far{w w':World}{g:Nat}{F1 F2:Nat->Prop}{d:Int}{s:St}(h:vR w g F1 d s)(y:Touch F2 w w')(v:∀k,F1 k->¬F2 k):vR w' g F1 d s:=
 Dg.stay h (λk z=>y.block k (Dg.low h k z) (λx=>v k z x)) y.size
section
def St.Ok.take{d:Int}{s t:St}{k kt:Nat}(h:s.Ok d k)(z:t.Ok d kt)(b:0<d)(u:tot (t.L++t.W)≠0)(Y:tot (s.L++s.W)+tot (t.L++t.W)<=281474976710656):∃y:Nat,(y:Int)<=194 * d+99/\(s.take d t).Ok d y/\tot ((s.take d t).L++(s.take d t).W)=tot (s.L++s.W)+tot (t.L++t.W):=by
 have q:s.take d t=⟨qT d (s.L++(s.W++(t.L++t.W))),[],if tot (s.L++s.W)=0 then t.lo else min s.lo t.lo,if tot (s.L++s.W)=0 then t.hi else max s.hi t.hi⟩:=by
  unfold St.take;rw[aF u]
 have v:(if tot (s.L++s.W)=0 then t.lo else min s.lo t.lo)<=t.lo/\(tot (s.L++s.W)≠0->(if tot (s.L++s.W)=0 then t.lo else min s.lo t.lo)<=s.lo)/\-9223372036854775808<=(if tot (s.L++s.W)=0 then t.lo else min s.lo t.lo)/\(if tot (s.L++s.W)=0 then t.lo else min s.lo t.lo)<=9223372036854775807:=by
  have:=h.Kc;have:=z.Kc;have:=z.lo1;split<;>refine⟨aa,aa,aa,aa⟩
 have x:t.hi<=(if tot (s.L++s.W)=0 then t.hi else max s.hi t.hi)/\(tot (s.L++s.W)≠0->s.hi<=(if tot (s.L++s.W)=0 then t.hi else max s.hi t.hi))/\(if tot (s.L++s.W)=0 then t.hi else max s.hi t.hi)<=9223372036854775807/\-9223372036854775808<=(if tot (s.L++s.W)=0 then t.hi else max s.hi t.hi):=by
  have:=h.hi1;have:=z.hi1;have:=z.hi0;split<;>refine⟨aa,aa,aa,aa⟩
 have p:lf (s.L++(s.W++(t.L++t.W))):=by
  rw[<-aN];exact h.ok.append z.ok
 have a:s.L++(s.W++(t.L++t.W))≠[]:=by
  rw[<-aN];intro e;have:=List.append_eq_nil_iff.1 e;rw[this.2] at u;exact u rfl
 have g:∀m∈s.L++(s.W++(t.L++t.W)),(if tot (s.L++s.W)=0 then t.lo else min s.lo t.lo)<=m.1/\m.1<=(if tot (s.L++s.W)=0 then t.hi else max s.hi t.hi):=by
  intro m f;rw[<-aN] at f;rcases cz.1 f with y|y
  .have c:=h.bd m y
   have r:tot (s.L++s.W)≠0:=λe=>by rw[h.sF.1 e] at y;cases y
   have:=v.2.1 r;have:=x.2.1 r;omega
  .have c:=z.bd m y
   omega
 have f:tot (s.L++(s.W++(t.L++t.W)))=tot (s.L++s.W)+tot (t.L++t.W):=by rw[<-aN,h_]
 have r:=JG p g (by omega:1<=d) aa;have y:=xJ d _ _ p g;refine⟨ab0 (qT d (s.L++(s.W++(t.L++t.W)))),r,?_,?_⟩
 .rw[q]
  exact⟨by simpa using y.1,by simpa using y.2.2,v.2.2.1,v.2.2.2,x.2.2.2,x.2.2.1,λe=>absurd (by simpa using e) (IG d a),ad,by simpa using b,y.2.1⟩
 .rw[q]
  simp[wY,f]
end
namespace K
variable{L:LL}{x:Int}{h:Nat}
def L8{K led:Nat}(h:Fit K L led)(x:8<=K)(v:K<=4096)(z:ab0 L=0->led=0):jB K L led:=
 ⟨aa,aa,h.ok.s5,h.ok.led,z,h.ok.top,λj y=>by rw[bY];exact⟨qi h.none j y,h.ok.jk j⟩,h.ok.JB⟩
def Pf(h:ab0 L=0):wt L=0:=by rw[aV h];rfl
def mc:x∈rp L<->∃h,x∈lvl L h:=by
 unfold rp;rw[List.mem_flatten];constructor
 .rintro ⟨l,v,y⟩
  obtain⟨h,z,rfl⟩:=dt v;exact⟨h,by rw[kZ z];exact y⟩
 .rintro ⟨h,y⟩
  rcases bm h (ab0 L) with z|z
  .exact⟨L[h],aP z,by rw[<-kZ z];exact y⟩
  .rw[pF z] at y;cases y
def Ca{vs:List Int}(v:x∈rp (lN L h vs)):x∈rp L\/x∈vs:=by
 obtain⟨j,z⟩:=mc.1 v;rw[l_] at z;split at z
 .rcases N6.1 z with y|y
  .exact .inl (mc.2 ⟨_,y⟩)
  .exact .inr y
 .exact .inl (mc.2 ⟨_,z⟩)
def Pg{y:Nat}(t:h<ab0 L)(q:y<=1)(u:x∈rp (mu L h y)):x∈rp L:=by
 unfold mu at u;rcases Ca u with z|z
 .obtain⟨j,v⟩:=mc.1 z
  rw[nF _ _ _ _ t] at v;split at v
  .exact mc.2 ⟨h,cp v⟩
  .exact mc.2 ⟨j,v⟩
 .unfold N_ at z
  obtain⟨i,s,rfl⟩:=gS.1 z;have r:=eG.1 s;have v:2 * i+y<ab0 (lvl L h):=aa;rw[List.getD,aL v,br];exact mc.2 ⟨h,aP v⟩
def AX{k:Nat}{B:List Int}{s:KS}(z:x∈rp (je k B s).1):x∈rp s.1:=by
 have:=sY (k:=k) (B:=B) (P:=λt=>∀x∈rp t.1,x∈rp s.1) (λt h y e=>λx z=>y x (Pg (lE e).1 (rX B t.2.2) z)) (s:=s) (λx z=>z);exact this x z
def EH:∀(f h m:Nat) (L:LL) (v:Int) {x:Int},x∈rp (pe f h m L v)->x∈rp L\/x=v
 | 0,_,_,_,_,x,hx=>.inl hx
 | f+1,h,m,L,v,x,hx=>by
  rw[pe] at hx;split at hx
  .exact .inl hx
  .rcases EH f _ _ _ v hx with z|z
   .split at z
    .rcases Ca z with y|y
     .exact .inl y
     .exact .inr (by simpa using y)
    .exact .inl z
   .exact .inr z
def AY(M L:LL):∀j {x:Int},x∈rp (takeN M j L)->x∈rp L\/x∈rp M
 | 0,_,hx=>.inl hx
 | j+1,x,hx=>by
  rw[takeN] at hx;rcases Ca hx with z|z
  .exact AY M L j z
  .exact .inr (mc.2 ⟨j,z⟩)
