/- Parts. No condition. -/
import Derived.Test.YtdicblkhpcphfaaGreatPA27
set_option maxRecDepth 100000
set_option maxHeartbeats 0
set_option linter.all false
namespace Go.Proofs.YtdicblkhpcphfaaGreat
open Tryz Go.RowKit Go.Lib Go.Shelf
open _root_.List renaming length→ao
open _root_.Go renaming Calls→ar
open Tryz renaming prog→Oe
namespace K
def Is{F G:Nat->Prop}{g h k n m led iD a b:Nat}{lv DC:Value}{vs vs2:List Sv}{L M:LL}(w:World)(u:oy F w g k n led lv vs L)(z:oy G w h k m iD DC vs2 M)
 (y:jn (L,led,a)) (v:jn (M,iD,b)) (f:n=wt L) (p:m=wt M) (hnm:n+m<=281474976710656) (hcn:cnt L+cnt M<=900000) (c:2<=k) (hk:k<=1000000) (s:iY k (jS L M)=none) :
 ar Oe 106 #[.pointer (some ⟨g,0,none⟩),.pointer (some ⟨h,0,none⟩),.pointer none] w λe r=>e=.returned (.int .i64 0)/\∃t x q,oy t r g k (n+m) (min (led+iD) 4611686018427387904) x q (jS L M)/\(∀x,t x->F x\/w.heap.size<=x)/\(∀x,F x->t x)/\Touch F w r:=by
 have V:=ay (qc y v aa hcn)
 have HT:=ay z;have O:=ay u;have Ch:=ay s;have Mp:=ay y.iJ;have OF:led<=4611686018427387904:=y.led;have OG:iD<=4611686018427387904:=v.led;have hlenL:ao L<=49:=y.len;have OI:ao M<=49:=v.len;have S:=u.cell0;have d:=u.cell2;have t:=z.cell0;have q:=z.cell2;have o:=ay z.cell2;have W:=ay z.u';have E:=z.blk.lt;have hcM:cnt M<=1000000000:=aa
 clear u z y v f p s
 go_in
 go_wp2_with fail
 go_quiet (fail)
 go_wp2_with fail
 go_quiet (fail)
 go_upto_region 7 with fail;clear S d t q;have Z:=ay (λ(r:World) (z:aq w r)=>(aF ((z.cell (p:=⟨h,2,none⟩) E).trans o.o) ((z.cell (p:=⟨h,3,none⟩) E).trans W.o)))
 refine i' (λr=>aq w r) (gW 0 1 (gW 2 8 (ib 1 (gW 10 3 [])))) (bw) ?_
 iterate 9 refine hC ?_
 refine iy λK H=>?_
 go_simp;refine(qX _ (HT.o.keep (bw)) aa hcM).mono ?_
 rintro e u ⟨Y,f,rfl,y,z⟩;have P:=ay y;have q:aq w u:=Below.trans (bw) z;clear y z;refine H _ _ (q) ?_
 clear H K
 iterate 3 refine hC ?_
 refine gM ?_
 have Q:Hid (v_ w.heap.size u Y f M):=ay (by have v:=P.o;simpa only[hN] using v)
 have s:=ay (O.o.keep q);have I:=s.o.cell2;have J:=s.o.blk.frozen 2
 go_upto_region 9 with fail;have U:=s.o.Dj (.int .u64 (n+m:Nat));rw[dI] at U;have y:=ay U;have T:Hid (Touch F w (u.setCell ⟨g,2,none⟩ (.int .u64 ((n:Int)+(m:Int))))):=ay ((Touch.of_below q (aD _)).setCell (.inl s.o.fg) _);have R:Hid (ji F u Y f M):=ay (ji.lT Q.o λz e=>O.o.low z e)
 have X:Hid (ji F (u.setCell ⟨g,2,none⟩ (.int .u64 ((n:Int)+(m:Int)))) Y f M):=ay (R.o.next (λz _ v=>bl u ⟨g,2,none⟩ _ z (λe=>v (by rw[e];exact s.o.fg))) ad (λz e=>.inl e))
 obtain⟨t,N⟩:=au (u.setCell ⟨g,2,none⟩ (.int .u64 ((n:Int)+(m:Int))));rw[N] at y T X |-;clear N U I J s Q P R q;have J:t.cell? ⟨g,3,none⟩=some (.int .u64 led):=y.o.u';have P:=y.o.blk.frozen 3
 go_upto_region 10 with fail;have R:oy F (t.setCell ⟨g,3,none⟩ (.int .u64 (min (led+iD) 4611686018427387904:Nat))) g k (n+m) (min (led+iD) 4611686018427387904) lv vs L:=by
  have:=y.o.PL (.int .u64 (min (led+iD) 4611686018427387904:Nat));rw[<-dI] at this;exact this
 have q:Hid (min ((led:Int)+(iD:Int)) 4611686018427387904=((min (led+iD) 4611686018427387904:Nat):Int)):=ay aa
 rw[q.o];have N:Hid (Touch F w (t.setCell ⟨g,3,none⟩ (.int .u64 (min (led+iD) 4611686018427387904:Nat)))):=ay (T.o.setCell (.inl y.o.fg) _);have s:Hid (ji F (t.setCell ⟨g,3,none⟩ (.int .u64 (min (led+iD) 4611686018427387904:Nat))) Y f M):=ay (X.o.next (λz _ v=>bl t ⟨g,3,none⟩ _ z (λe=>v (by rw[e];exact y.o.fg))) ad (λz e=>.inl e))
 have U:=ay R;obtain⟨w3,Q⟩:=au (t.setCell ⟨g,3,none⟩ (.int .u64 (min (led+iD) 4611686018427387904:Nat)));rw[Q] at U N s |-;clear Q R J P y T X q;obtain⟨l,S,I,_,_,_⟩:=s.o.now.row.form;rw[s.o.now.len] at I;subst I;obtain⟨R,y⟩:=au (min (led+iD) 4611686018427387904);rw[y] at U V |-;have KQ:=ay y;clear y
 go_wp2
 go_loopg [10,11,66] (ao M) (λq _ _ i wr=>∃(j:Nat) (X:Nat->Prop) (Q:Value) (P:List Sv),q=ao M - j/\j<=ao M/\i=.int .i64 (j:Int)/\Hid (RG F w g k (n+m) R L M (.slice l (ao M) S) f j X wr Q P))
 exact⟨0,F,lv,vs,aa,aa,rfl,ay ⟨U.o,s.o,λ_ h=>.inl h,λ_ h=>h,N.o⟩⟩
 case round=>
  obtain⟨j,X,Q,P,q,hj,rfl,y⟩:=hrel;have HQ:=ay q;clear q;have hsz:=y.o.touch.size
  by_cases hjl:j<ao M
  ·obtain⟨gl,off,sA,sc,eA,hgl,T,d,_⟩:=y.o.al.now.at_ hjl
   subst eA;have RH:ao (takeN M j L)<=49:=by rw[kM];omega
   have hlj:ao (lvl M j)<=900000:=by have:=hD M j;omega
   have XG:ao (lvl (takeN M j L) j)<=900000:=by have:=hD (takeN M j L) j;have v:=p' M L j aa ;have c:=pz M j;omega
   have q:=ay (put_any j (iW (sA,ao (lvl M j),sc)) (lvl M j) wr y.o.st (y.o.al.one T) (qb Mp.o j j) aa  aa  aa  aa)
   obtain⟨x,J⟩:=au (ao (lvl M j));rw[J] at d q;clear T J
   go_wp2_with fail;refine(q.o).mono ?_
   rintro e w5 ⟨rfl,F2,KR,PW,D,C,B,A⟩;have J:=ay D;have Q2:=ay C;have Q3:=ay B;have T:=ay A;clear D C B A q d
   go_wp2
   go_roundg (ao M - (j+1))
   case measure=>have:=HQ.o;omega
   case rel=>
    refine⟨j+1,F2,KR,PW,rfl,aa,ag,ay ⟨Q3.o,?_,?_,?_,?_⟩⟩
    ·exact y.o.al.next (λz v c=>T.o.block z v c) T.o.size J.o
    ·intro z q
     rcases J.o z q with v|v
     ·exact y.o.sub z v
     ·exact .inr aa
    ·exact λz q=>Q2.o z (y.o.sup z q)
    ·exact y.o.touch.trans T.o λi D=>y.o.sub i D
  ·obtain rfl:j=ao M:=aa
   have T:=ay (xR (.func (.func 179) #[.pointer none] #[]) wr y.o.st c hk (by have:=V.o.len;exact bf this ab) (by have:=V.o.cnt;exact bf this ab) Ch.o)
   go_wp2_with fail;refine(T.o).mono ?_
   rintro e t ⟨rfl,J⟩;subst J;clear T
   go_wp2;refine an ?_
   rw[KQ.o];exact⟨rfl,X,Q,P,y.o.st,y.o.sub,y.o.sup,y.o.touch⟩
end K
namespace D
variable{q:Value}{B:List Int}{a o:Nat}{F H:Ft}{w w':World}{C P:Ft->World->Prop}{er:Int}{e:Ending}
def jB.stay(h:jB q B a H w)(z:∀k,H k->w'.heap[k]?=w.heap[k]?)(u:w.heap.size<=w'.heap.size):jB q B a H w':=by
 rcases h with h|⟨cg,r,cv,e,t,y,x,v,s⟩
 ·exact .inl h
 ·exact .inr ⟨cg,r,cv,e,t.stay (z _ y) (z _ x) (λk e=>z k (v k e)) u,y,x,v,λk h=>aR (s k h) u⟩
def jB.low(h:jB q B a H w):∀k,H k->k<w.heap.size:=by
 rcases h with⟨_,_,_,h⟩|⟨cg,r,cv,e,x,v,u,t,z⟩
 ·exact λk y=>absurd y (h k)
 ·exact z
def jB.keep(h:jB q B a H w)(z:aq w w'):jB q B a H w':=h.stay (λk y=>z.block k (h.low k y)) z.size
def jB.far(h:jB q B a H w)(y:Touch F w w')(x:∀k,H k->¬F k):jB q B a H w':=h.stay (λk z=>y.block k (h.low k z) (x k z)) y.size
def iM.stay(h:iM o q B a H w)(x:∀k,H k->w'.heap[k]?=w.heap[k]?)(p:∀k,k<o->w'.heap[k]?=w.heap[k]?)(v:w.heap.size<=w'.heap.size):iM o q B a H w':=by
 obtain⟨u,t,e,s,z,y,r⟩:=h;exact⟨u,t,e,s.stay (x _ z) (λk e=>(y k e).elim (p k) (x k)) v,z,y,λk h=>aR (r k h) v⟩
def iM.low(h:iM o q B a H w):∀k,H k->k<w.heap.size:=by
 obtain⟨y,x,e,v,u,t,z⟩:=h;exact z
def iM.keep(h:iM o q B a H w)(x:o<=w.heap.size)(z:aq w w'):iM o q B a H w':=h.stay (λk y=>z.block k (h.low k y)) (λk y=>z.block k aa) z.size
def iM.far(h:iM o q B a H w)(t:o<=w.heap.size)(y:Touch F w w')(v:∀k,H k->¬F k)(x:∀k,F k->o<=k):iM o q B a H w':=
 h.stay (λk z=>y.block k (h.low k z) (v k z)) (λk z=>y.block k aa (λu=>by have:=x k u;omega)) y.size
def jU(S:lY P)(h:P F w)(x:e=.returned (.int .i64 er))(z:aq w w')(y:C H w'):jC P C F H er w e w':=
 ⟨x,S.more (S.keep h z) (λ_ h=>.inl h) (ke (S.low h) z.size),y,Touch.of_below z (aD _)⟩
def ng(h:tk P F er w e w')(z:C H w'):jC P C F H er w e w':=⟨h.1,h.2.1,z,h.2.2.mono λ_ h=>.inl h⟩
section
variable {G H F' : Ft} {w w' : World} {p q n cg r led a o p2 iD : Nat} {cv lv cq : Value} {B : List Int} {s0 : K.KS} {vs : List K.Sv} {L M : K.LL} {G2 : Ft}
def FG(z:K.yS G w p q n cg r cv B s0 F' w' lv vs (K.iK q B s0))(g:n=K.wt s0.1)(s:∀k,G k->k<w.heap.size)(v:H cg)(y:H r)(u:∀k,cv.ownBlock=some k->H k)(t:∀k,H k->k<w.heap.size) :
 jC (λG w=>K.xJ G w p q (K.iK q B s0).1 (K.iK q B s0).2.1) (jB (j_ cg) B (K.iK q B s0).2.2) G H 0 w (.returned (.int .i64 0)) w':=by
 have f:Touch (λk=>G k\/H k) w w':=z.touch.mono λx d=>d.imp id λe=>by rw[show x=r from e];exact y
 refine⟨rfl,(oD p q _ _).gr (w:=w) ⟨lv,vs,?_⟩ z.sub s z.touch.size,.inr ⟨cg,r,cv,rfl,z.co,v,y,u,λk h=>aR (t k h) z.touch.size⟩,f⟩
 rw[K.vp,<-g];exact z.st
def Br{dg:Nat}{dv:Value}(z:K.sD G w p q dg dv B s0 F' w' lv vs (K.iK q B s0))(t:∀k,G k->k<w.heap.size)(y:H dg)(v:∀k,dv.ownBlock=some k->k<o\/H k)(u:∀k,H k->k<w.heap.size) :
 jC (λG w=>K.K6 G w p q (K.iK q B s0).1 (K.iK q B s0).2.1) (iM o (j_ dg) B (K.iK q B s0).2.2) G H 0 w (.returned (.int .i64 0)) w':=by
 have s:Touch (λk=>G k\/H k) w w':=z.touch.mono λx r=>r.imp id λe=>by rw[show x=dg from e];exact y
 exact⟨rfl,(oE p q _ _).gr (w:=w) ⟨lv,vs,z.st⟩ z.sub t z.touch.size,⟨dg,dv,rfl,z.co,y,v,λk h=>aR (u k h) z.touch.size⟩,s⟩
def R9(v:Int)(n:Nat)(h:K.xJ G w p q L led)(d:K.Fit q L led)(g:jB cq B a H w)(R:cq≠.pointer none)(f:∀k,H k->¬G k)(P:8<=q)(U:q<=4096)(T:n<18446744073709551616) :
 ar Oe 133 #[.pointer (some ⟨p,0,none⟩),.int .i64 v,.int .u64 n,cq] w (jC (λG w=>K.xJ G w p q (K.nN q B v n (L,led,a)).1 (K.nN q B v n (L,led,a)).2.1) (jB cq B (K.nN q B v n (L,led,a)).2.2) G H (K.oT L n) w):=by
 have V:=(oD p q L led).low h;have c:=h;obtain⟨lv,vs,b⟩:=h;have O:=d.cnt aa U
 have Q:=d.ok.zp;unfold K.nN
 by_cases y:n=0
 ·subst y
  have e:K.oT L 0=4:=rfl;rw[e,aG ab]
  refine(K.add_zero p v _ w).mono ?_
  rintro _ w' ⟨rfl,rfl⟩;exact jU (oD p q _ _) c rfl (aC _ _) g
 ·by_cases s:281474976710656<K.wt L+n
  ·have e:K.oT L n=6:=by unfold K.oT;rw[aG y,aH s]
   rw[e,aG ab]
   refine(K.add_over v n _ w b Q s T).mono ?_
   rintro _ w' ⟨rfl,rfl⟩;exact jU (oD p q _ _) c rfl (aC _ _) g
  ·have e:K.oT L n=0:=by unfold K.oT;rw[aG y,aG s]
   rw[e,aH rfl]
   rcases g with⟨Y,_⟩|⟨cg,r,cv,rfl,X,x,u,t,z⟩
   ·exact absurd Y R
   ·refine(K.Nu v w b X ⟨f _ x,f _ u,λk e=>⟨f _ (t k e),z _ (t k e)⟩,z _ x,z _ u⟩ d.pk rfl aa  aa  aa  aa  aa).mono ?_
    rintro _ w' ⟨rfl,F',N,M,S,_⟩;exact FG S (K.yP _ _ aa).symm V x u t z
def P'(v:Int)(n:Nat)(h:K.K6 G w p q L led)(z:K.Fit q L led)(r:iM o cq B a H w)(f:∀k,H k->¬G k)(O:o<=w.heap.size)(U:∀k,G k->o<=k)(Q:8<=q)(X:q<=4096)(V:n<18446744073709551616) :
 ar Oe 94 #[.pointer (some ⟨p,0,none⟩),.int .i64 v,.int .u64 n,cq] w (jC (λG w=>K.K6 G w p q (K.nN q B v n (L,led,a)).1 (K.nN q B v n (L,led,a)).2.1) (iM o cq B (K.nN q B v n (L,led,a)).2.2) G H (K.oT L n) w):=by
 have Y:=(oE p q L led).low h;have g:=h;obtain⟨lv,vs,c⟩:=h;have P:=z.cnt aa X
 have T:=z.ok.zp;unfold K.nN
 by_cases y:n=0
 ·subst y
  have e:K.oT L 0=4:=rfl;rw[e,aG ab]
  refine(K.Hr p v _ w).mono ?_
  rintro _ w' ⟨rfl,rfl⟩;exact jU (oE p q _ _) g rfl (aC _ _) r
 ·by_cases s:281474976710656<K.wt L+n
  ·have e:K.oT L n=6:=by unfold K.oT;rw[aG y,aH s]
   rw[e,aG ab]
   refine(K.Hs v n _ w c T z.ok.qj s V).mono ?_
   rintro _ w' ⟨rfl,rfl⟩;exact jU (oE p q _ _) g rfl (aC _ _) r
  ·have e:K.oT L n=0:=by unfold K.oT;rw[aG y,aG s]
   rw[e,aH rfl];obtain⟨S,R,rfl,b,x,u,t⟩:=r;refine(K.uy v w c b ⟨f _ x,λk e=>⟨λd=>(u k e).elim (λh=>by have:=U k d;omega) (λh=>f k h d),(u k e).elim (λh=>by omega) (t k)⟩,t _ x⟩ z.pk aa  aa  aa  aa  aa).mono ?_
   rintro _ w' ⟨rfl,F',N,M,d⟩;exact Br d Y x u t
def Qa(h:K.xJ G w p q L led)(x:K.Fit q L led)(y:K.xJ G2 w p2 q M iD)(v:K.Fit q M iD)(Y:jB cq B a H w)(O:cq=.pointer none->K.iY q (K.jS L M)=none)(g:∀k,H k->¬G k)(I:8<=q)(V:q<=4096) :
 ar Oe 106 #[.pointer (some ⟨p,0,none⟩),.pointer (some ⟨p2,0,none⟩),cq] w (jC (λG w=>K.xJ G w p q (K.kD q B (M,iD) (L,led,a)).1 (K.kD q B (M,iD) (L,led,a)).2.1) (jB cq B (K.kD q B (M,iD) (L,led,a)).2.2) G H (K.iS L M) w):=by
 have c:=(oD p q L led).low h;have R:=h;obtain⟨lv,vs,f⟩:=h;obtain⟨E,C,d⟩:=y;have G:=x.cnt aa V
 have F:=v.cnt aa V
 unfold K.kD
 by_cases s:281474976710656<K.wt L+K.wt M
 ·have e:K.iS L M=6:=by unfold K.iS;rw[aH s]
  rw[e,aG ab]
  refine(K.Hy _ w f d x.ok.zp v.ok.zp s).mono ?_
  rintro _ w' ⟨rfl,z,rfl⟩;have u:aq w (w.drewN z):=below_drewN (aC _ _) _;exact jU (oD p q _ _) R rfl u (Y.keep u)
 ·have e:K.iS L M=0:=by unfold K.iS;rw[aG s]
  rw[e,aH rfl]
  rcases Y with⟨rfl,rfl,rfl,P⟩|⟨cg,r,cv,rfl,Q,y,u,t,z⟩
  ·have X:=O rfl
   refine(K.Is (a:=0) (b:=0) w f d x.pk v.pk rfl rfl aa  aa  aa  aa X).mono ?_
   rintro _ w' ⟨rfl,F',U,S,N,J,D,T⟩;rw[K.ox X];refine⟨rfl,(oD p q _ _).gr (w:=w) ⟨U,S,?_⟩ J c T.size,.inl ⟨rfl,rfl,rfl,P⟩,T.mono λ_ h=>.inl h⟩
   rw[K.rK];exact N
  ·refine(K.vm w f d Q ⟨g _ y,g _ u,λk e=>⟨g _ (t k e),z _ (t k e)⟩,z _ y,z _ u⟩ x.pk (v.pk (a:=0)) rfl rfl aa  aa  aa  aa).mono ?_
   rintro _ w' ⟨rfl,F',U,S,b,_⟩;exact FG b (K.rK _ _).symm c y u t z
def NQ(h:K.K6 G w p q L led)(u:K.Fit q L led)(y:K.K6 G2 w p2 q M iD)(t:K.Fit q M iD)(s:iM o cq B a H w)(r:∀k,H k->¬G k)(V:o<=w.heap.size)(U:∀k,G k->o<=k)(R:8<=q)(f:q<=4096) :
 ar Oe 52 #[.pointer (some ⟨p,0,none⟩),.pointer (some ⟨p2,0,none⟩),cq] w (jC (λG w=>K.K6 G w p q (K.kD q B (M,iD) (L,led,a)).1 (K.kD q B (M,iD) (L,led,a)).2.1) (iM o cq B (K.kD q B (M,iD) (L,led,a)).2.2) G H (K.iS L M) w):=by
 have X:=(oE p q L led).low h;have b:=h;obtain⟨lv,vs,d⟩:=h;obtain⟨N,I,c⟩:=y;have Q:=u.cnt aa f
 have P:=t.cnt aa f
 unfold K.kD
 by_cases v:281474976710656<K.wt L+K.wt M
 ·have e:K.iS L M=6:=by unfold K.iS;rw[aH v]
  rw[e,aG ab]
  refine(K.DE _ w d c (u.pk (a:=0)) (t.pk (a:=0)) v).mono ?_
  rintro _ w' ⟨rfl,z,rfl⟩;have x:aq w (w.drewN z):=below_drewN (aC _ _) _;exact jU (oE p q _ _) b rfl x (s.keep V x)
 ·have e:K.iS L M=0:=by unfold K.iS;rw[aG v]
  rw[e,aH rfl];obtain⟨T,S,rfl,Y,y,z,x⟩:=s;refine(K.sE w d c Y ⟨r _ y,λk e=>⟨λg=>(z k e).elim (λh=>by have:=U k g;omega) (λh=>r k h g),(z k e).elim (λh=>by omega) (x k)⟩,x _ y⟩ u.pk (t.pk (a:=0)) aa  aa  aa  aa).mono ?_
  rintro _ w' ⟨rfl,F',O,J,g⟩;exact Br g X y z x
end
end D
variable{l:List Mn}{d done n w:Int}
def DN(d n:Int):Int->List Mn->Prop
 | _,[]=>True
 | _,[_]=>True
 | done,a::b::r=>(∃m,0<m/\m<=b.2/\rf d n done (a.2+m)=false)/\DN d n (done+a.2) (b::r)
def tc(d n:Int):∀(l:List Mn) (done:Int) (now:Mn),kg l->∃b r,jg d n l done now=b::r/\now.2<=b.2
 | [],_,now,_=>⟨now,[],rfl,cR _⟩
 | m::l,done,now,ho=>by
  have x:=(ho m (aK ..)).2.2;unfold jg
  split
  ·obtain⟨b,r,z,y⟩:=tc d n l done (jN now.1 m.1 m.2 (now.2+m.2),now.2+m.2) ho.tail
   exact⟨b,r,z,by simp only at y;omega⟩
  ·exact⟨now,_,rfl,cR _⟩
def qZ(d n:Int):∀(l:List Mn) (done:Int) (now:Mn),kg l->DN d n done (jg d n l done now)
 | [],_,_,_=>trivial
 | m::l,done,now,ho=>by
  have u:=(ho m (aK ..)).2.2;unfold jg
  split
  ·exact qZ d n l done _ ho.tail
  ·rename_i v
   obtain⟨b,r,y,x⟩:=tc d n l (done+now.2) m ho.tail;have z:=qZ d n l (done+now.2) m ho.tail;rw[y] at z |-;exact⟨⟨m.2,u,x,by simpa using v⟩,z⟩
def NR(d:Int)(h:kg l):DN d (tot l) 0 (jM d l):=by
 unfold jM;have:=h.iJ
 cases hs:iJ l with
 | nil=>trivial
 | cons m s=>rw[hs] at this;exact qZ d (tot l) s 0 m this.tail
def Ll(h:rf d n done w=false)(r:0<n)(y:0<=done)(q:0<w)(s:2 * done+w<=n):2 * done<=w * (d - 1):=by
 unfold rf at h;have x:(2 * done+w) * (2 * n - 2 * done - w)<w * d * n:=by simpa using h
 have v:(2 * done+w) * n<=(2 * done+w) * (2 * n - 2 * done - w):=bH aa  aa
 have z:(2 * done+w) * n<w * d * n:=aa
 have u:2 * done+w<w * d:=fN z aa
 have t:w * (d - 1)=w * d - w:=by rw[Int.mul_sub,Int.mul_one]
 omega
def It(h:rf d n done w=false)(r:0<n)(Zt:0<=done)(Zu:0<w)(x:n<=2 * done+w)(s:2 * done+w<=2 * n):2 * (n - done)<=w * (d+1):=by
 unfold rf at h;have v:(2 * done+w) * (2 * n - 2 * done - w)<w * d * n:=by simpa using h
 have z:n * (2 * n - 2 * done - w)<=(2 * done+w) * (2 * n - 2 * done - w):=bF x aa
 have y:(2 * n - 2 * done - w) * n<w * d * n:=by rw[bS] at z;omega
 have u:2 * n - 2 * done - w<w * d:=fN y aa
 have t:w * (d+1)=w * d+w:=by rw[eW,Int.mul_one]
 omega
def DN.OJ{a b:Mn}{r:List Mn}(h:DN d n done (a::b::r)):DN d n (done+a.2+b.2) r:=by
 obtain⟨_,z⟩:=h
 cases r with
 | nil=>trivial
 | cons c r=>exact z.2
def Bs{d n:Int}(z:0<n)(y:1<=d):∀(K:Nat) (P:List Mn) (done:Int),DN d n done P->kg P->0<=done->2 * K<=ao P->2 * (done+tot (P.take (2 * K)))<=n->2 * K * done<=tot (P.take (2 * K)) * (d - 1)
 | 0,P,done,_,_,_,_,_=>by simp[tot]
 | K+1,[],_,_,_,_,h,_=>by simp only[aV] at h;omega
 | K+1,[_],_,_,_,_,h,_=>by simp only[bu] at h;omega
 | K+1,a::b::r,done,hg,ho,h0,hl,ht=>by
  have t:=(ho a (aK ..)).2.2;have s:=(ho b ad).2.2
  have e:2 * (K+1)=2 * K+1+1:=aa
  rw[e,dh,dh] at ht |-;simp only[tot] at ht |-;have f:=(ho.tail.tail.take (2 * K)).gP;have c:=Bs z y K r (done+a.2+b.2) hg.OJ ho.tail.tail aa (by simp only[aJ] at hl;omega) aa
  obtain⟨⟨m,Y,X,u⟩,_⟩:=hg;have p:=Ll u z h0 aa  aa
  have g:(a.2+m) * (d - 1)<=(a.2+b.2) * (d - 1):=bF aa  aa
  have q:2 * (K:Int) * done<=2 * (K:Int) * (done+a.2+b.2):=bH aa  aa
  have x:(a.2+(b.2+tot (r.take (2 * K)))) * (d - 1)=(a.2+b.2) * (d - 1)+tot (r.take (2 * K)) * (d - 1):=by rw[<-fL,dc]
  have v:2 * ((K+1:Nat):Int) * done=2 * (K:Int) * done+2 * done:=by
   have:2 * ((K+1:Nat):Int)=2 * (K:Int)+2:=aa
   rw[this,dc]
  rw[x,v];omega
def xS{d n:Int}(z:0<n)(y:1<=d):∀(K:Nat) (P:List Mn) (done:Int),DN d n done P->kg P->n<=2 * done->done+tot P=n->2 * K<=ao P->2 * K * tot (P.drop (2 * K))<=tot (P.take (2 * K)) * (d+1)
 | 0,P,done,_,_,_,_,_=>by simp[tot]
 | K+1,[],_,_,_,_,_,h=>by simp only[aV] at h;omega
 | K+1,[_],_,_,_,_,_,h=>by simp only[bu] at h;omega
 | K+1,a::b::r,done,hg,ho,h0,hn,hl=>by
  have s:=(ho a (aK ..)).2.2;have q:=(ho b ad).2.2
  have e:2 * (K+1)=2 * K+1+1:=aa
  rw[e,dh,dh,bc,bc];simp only[tot] at hn |-;have c:=(ho.tail.tail.take (2 * K)).gP;have f:=(ho.tail.tail.drop (2 * K)).gP;have t:=gY (r.take (2 * K)) (r.drop (2 * K));rw[bK] at t;have Y:=xS z y K r (done+a.2+b.2) hg.OJ ho.tail.tail aa  aa (by simp only[aJ] at hl;omega)
  obtain⟨⟨m,X,V,u⟩,_⟩:=hg;have p:=It u z aa  aa  aa  aa
  have g:(a.2+m) * (d+1)<=(a.2+b.2) * (d+1):=bF aa  aa
  have x:(a.2+(b.2+tot (r.take (2 * K)))) * (d+1)=(a.2+b.2) * (d+1)+tot (r.take (2 * K)) * (d+1):=by rw[<-fL,dc]
  have v:2 * ((K+1:Nat):Int) * tot (r.drop (2 * K))=2 * (K:Int) * tot (r.drop (2 * K))+2 * tot (r.drop (2 * K)):=by
   have:2 * ((K+1:Nat):Int)=2 * (K:Int)+2:=aa
   rw[this,dc]
  rw[x,v];omega
def DN.drop{d n:Int}:∀(i:Nat) (P:List Mn) (done:Int),DN d n done P->DN d n (done+tot (P.take i)) (P.drop i)
 | 0,P,done,h=>by simpa[tot] using h
 | i+1,[],done,_=>trivial
 | i+1,[a],done,_=>by simp[DN]
 | i+1,a::b::r,done,h=>by
  have:=DN.drop i (b::r) (done+a.2) h.2;rw[dh,bc];simp only[tot];rw[<-fL];exact this
def td{d n:Int}{D:Nat}(x:(D:Int)=d)(v:0<n)(z:1<=d):∀(j:Nat) (P:List Mn) (done:Int),DN d n done P->kg P->0<=done->2 * D * j<=ao P->2 * (done+tot (P.take (2 * D * j)))<=n->2 ^ j * done<=done+tot (P.take (2 * D * j))
 | 0,P,done,_,_,_,_,_=>by simp[tot]
 | j+1,P,done,hg,ho,h0,hl,ht=>by
  have e:2 * D * (j+1)=2 * D+2 * D * j:=by rw[fH,c_];omega
  rw[e] at hl ht |-;have t:P.take (2 * D+2 * D * j)=P.take (2 * D)++(P.drop (2 * D)).take (2 * D * j):=by rw[List.take_add]
  rw[t,gY] at ht |-;have s:=(ho.take (2 * D)).gP;have f:=((ho.drop (2 * D)).take (2 * D * j)).gP;have y:=Bs v z D P done hg ho h0 aa  aa
  have r:=td x v z j (P.drop (2 * D)) (done+tot (P.take (2 * D))) (hg.drop (2 * D)) (ho.drop _) aa (by rw[aZ];omega) aa
  have q:done<=tot (P.take (2 * D)):=by
   rw[x] at y;have p:2 * d * done<=tot (P.take (2 * D)) * (d - 1):=y;have g:tot (P.take (2 * D)) * (d - 1)<=tot (P.take (2 * D)) * (2 * d):=bH aa s
   have u:done * (2 * d)<=tot (P.take (2 * D)) * (2 * d):=by rw[bS done];omega
   exact fK u aa
  have p:(2:Int) ^ j * (2 * done)<=2 ^ j * (done+tot (P.take (2 * D))):=bH aa (fi (dH aa))
  have u:(2:Int) ^ (j+1) * done=2 ^ j * (2 * done):=by rw[ch,bG]
  rw[u];omega
def rP{d n:Int}{D:Nat}(y:(D:Int)=d+1)(x:0<n)(z:1<=d):∀(j:Nat) (P:List Mn) (done:Int),DN d n done P->kg P->n<=2 * done->done+tot P=n->2 * D * j<=ao P->2 ^ j * tot (P.drop (2 * D * j))<=tot P
 | 0,P,done,_,_,_,_,_=>by simp
 | j+1,P,done,hg,ho,h0,hn,hl=>by
  have e:2 * D * (j+1)=2 * D+2 * D * j:=by rw[fH,c_];omega
  rw[e] at hl |-;have s:=gY (P.take (2 * D)) (P.drop (2 * D));rw[bK] at s;have r:=(ho.take (2 * D)).gP;have g:=(ho.drop (2 * D)).gP;have v:=xS x z D P done hg ho h0 hn aa
  have u:=rP y x z j (P.drop (2 * D)) (done+tot (P.take (2 * D))) (hg.drop (2 * D)) (ho.drop _) aa  aa (by rw[aZ];omega)
  rw[dU] at u;have q:tot (P.drop (2 * D))<=tot (P.take (2 * D)):=by
   rw[y] at v;have t:tot (P.drop (2 * D)) * (2 * (d+1))<=tot (P.take (2 * D)) * (2 * (d+1)):=by
    have p:tot (P.take (2 * D)) * (d+1)<=tot (P.take (2 * D)) * (2 * (d+1)):=bH aa r
    rw[bS (tot (P.drop (2 * D)))];omega
   exact fK t aa
  have t:(2:Int) ^ (j+1) * tot (P.drop (2 * D+2 * D * j))=2 * (2 ^ j * tot (P.drop (2 * D+2 * D * j))):=by rw[ch,bS (2 ^ j) 2,bG]
  rw[t];omega
def te:∀{l:List Mn},kg l->(ao l:Int)<=tot l
 | [],_=>by simp[tot]
 | m::l,h=>by
  have:=te h.tail;have:=(h m (aK ..)).2.2;simp only[tot,aJ];omega
def FH{lo hi:Int}(h:kg l)(g:∀m∈l,lo<=m.1/\m.1<=hi)(v:1<=d)(N:tot l<=281474976710656):(ao (jM d l):Int)<=194 * d+99:=by
 have u:=NR d h;have z:=(o5 d lo hi h g).1;have t:=j' d l
 cases hP:jM d l with
 | nil=>simp only[aV];omega
 | cons a r=>
  rw[hP] at u z t;have S:=(z a (aK ..)).2.2;have O:=z.tail.gP;simp only[tot] at t;have y:=u.drop 1;simp only[dh,cY,bc,bp,tot] at y;generalize tot l=n at *;obtain⟨D,x⟩:∃D:Nat,(D:Int)=d:=⟨d.toNat,aa⟩
  have q:0<n:=aa
  rw[show(0:Int)+(a.2+0)=a.2 by omega] at y
  simp only[aJ]
  by_cases U:ao r<2 * D * 48
  ·have:((2 * D * 48:Nat):Int)=96 * d:=by rw[<-x];omega
   omega
  ·have c:=td x q v 48 r a.2 y z.tail aa  aa
   have P:¬2 * (a.2+tot (r.take (2 * D * 48)))<=n:=λp=>by
    have:=c p;have e:(2:Int) ^ 48=281474976710656:=ab
    rw[e] at this;omega
   have X:=gY (r.take (2 * D * 48)) (r.drop (2 * D * 48));rw[bK] at X;have f:=y.drop (2 * D * 48);have s:=z.tail.drop (2 * D * 48);have R:ao (r.drop (2 * D * 48))=ao r - 2 * D * 48:=aZ ..;generalize r.drop (2 * D * 48)=Q at *;generalize tot (r.take (2 * D * 48))=V at *
   by_cases T:ao Q<=2 * (D+1) * 49
   ·have b:((2 * (D+1) * 49:Nat):Int)=98 * d+98:=by rw[<-x];omega
    omega
   ·have Y:=rP (D:=D+1) aa q v 49 Q (a.2+V) f s aa  aa  aa
    have b:=te (s.drop (2 * (D+1) * 49));rw[aZ] at b;have e:(2:Int) ^ 49=562949953421312:=ab
    rw[e] at Y;omega
section
def vm{g gt:Nat}{F Ft:Nat->Prop}{d:Int}{s t:St}{k kt:Nat}(w:World)(h:zO w g F d s)(p:zO w gt Ft d t)(b:(gt=g/\Ft=F/\t=s)\/(∀k,F k->¬Ft k))(y:Fit d s k)(x:Fit d t kt)(hk:k+kt<=100000000)
 (hcap:tot (t.L++t.W)<=281474976710656 - tot (s.L++s.W)) (hne:0<tot (t.L++t.W)) :
 ar Oe 105 #[.pointer (some ⟨g,0,none⟩),.pointer (some ⟨gt,0,none⟩)] w λe u=>e=.returned (.int .i64 0)/\∃V:Nat->Prop,(∀k,V k->F k\/w.heap.size<=k)/\zO u g V d (s.take d t)/\Touch F w u:=by
 have H:=ay h;have HT:=ay p;have s0:=y.ok.i7;have s1:=y.t;have d0:=y.d0;have d1:=y.d1;have hls:=y.ok.len;have hlt:=x.ok.len;have HB1:=ay (aF (aF y.ok.wk y.ok.lo1) (aF y.ok.hi0 y.ok.hi1));have HB2:=ay (aF (aF x.ok.wk x.ok.lo1) (aF x.ok.hi0 x.ok.hi1));have KL:Hid (kg (s.L++(s.W++(t.L++t.W)))):=by show kg _;rw[<-aO];exact y.ok.ok.append x.ok.ok
 have zM:Hid (tot (s.L++(s.W++(t.L++t.W)))=tot (s.L++s.W)+tot (t.L++t.W)):=by show _=_;rw[<-aO,gY]
 have HST:Hid (s.take d t=⟨jM d (s.L++(s.W++(t.L++t.W))),[],if tot (s.L++s.W)=0 then t.lo else min s.lo t.lo,if tot (s.L++s.W)=0 then t.hi else max s.hi t.hi⟩):=by show s.take d t=_;unfold St.take;rw[aG aa]
 have HX:=ay b;obtain⟨VO,VP,v,_⟩:=id h;obtain⟨tlv,UE,z,_⟩:=id p;have hg:=v.lt;have hgt:=z.lt;have Y:=v.k0;have a:=v.k5;have c:=z.k0;have q:=z.k3;have r:=z.k4;have f:=z.k5;have Y3:=ay q;have Y4:=ay r;have U:(tot (t.L++t.W) == 0)=false:=b9.2 aa
 have X:decide (281474976710656 - tot (s.L++s.W)<tot (t.L++t.W))=false:=cj aa
 have EW:=ay (fG (281474976710656 - tot (s.L++s.W)) aa)
 clear h p b v z q r y x
 go_in
 go_wp2_with fail
 go_quiet (fail)
 go_wp2_with fail;have y:=EW.o
 go_quiet (fail)
 clear y
 go_upto_region 10 with fail;have Z:=ay (λ(u:World) (y:aq w u)=>(aF ((y.cell (p:=⟨gt,3,none⟩) hgt).trans Y3.o) ((y.cell (p:=⟨gt,4,none⟩) hgt).trans Y4.o)))
 refine ki (λu=>aq w u) 9 (gW 0 9 []) ((below_drewN (aC _ _) _).drew) ?_
 iterate 9 refine jw ?_
 refine gU ?_
 simp only[bc,bp]
 go_wp2_with fail;refine(zK t.lo t.hi _ (Dg.keep H.o (below_drewN (aC _ _) _).drew) HB1.o.1 HB1.o.2 HB2.o.1 HB2.o.2 ⟨s0,aa⟩).mono ?_
 rintro e v ⟨rfl,x,r⟩;have W:Hid (Touch (λk=>k=g) w v):=ay ((Touch.of_below (F:=λk=>k=g) (below_drewN (aC w.heap.size w) _).drew (aD _)).trans r (λi O=>.inl O))
 have b:Hid (∃lo2 hi2:Int,Dg v gt Ft d t.L t.W lo2 hi2 (tot (t.L++t.W))):=by
  rcases HX.o with⟨rfl,rfl,rfl⟩|q
  ·exact⟨_,_,x⟩
  ·exact⟨t.lo,t.hi,Dg.stay HT.o (λk hk=>W.o.block k (Dg.low HT.o k hk) (λe=>q g (Dg.mem H.o) (e▸hk))) W.o.size⟩
 have VQ:=ay x;clear x r Y a c f X U
 go_wp2_with fail;refine gQ ?_
 obtain⟨lo2,hi2,tlv,UE,z,c,f,X⟩:=b.o;obtain⟨A,ca,rfl,na,ma,Y⟩:=c.form;obtain⟨B,cb,rfl,nb,mb,a⟩:=f.form;have n:=z.lt;have q:=z.k1;have r:=z.k2;have x:=z.k5;have Q1:=ay q;have Q2:=ay r;have Q5:=ay x;have TL:=ay c.rd;have TW:=ay f.rd;have Yj:g<v.heap.size:=Dg.lt VQ.o;clear z c f X Y a q r x b
 go_wp2_with fail;have Z:=ay (λ(u:World) (y:aq v u)=>(aF ((y.cell (p:=⟨gt,1,none⟩) n).trans Q1.o) ((y.cell (p:=⟨gt,2,none⟩) n).trans Q2.o)))
 refine i' (λu=>aq v u) (gW 0 8 (ib 8 (ib 9 (gW 10 1 [])))) ((aC _ _).drew) ?_
 iterate 8 refine hC ?_
 refine iy λK R=>?_
 go_simp;refine R _ _ (((aC _ _).drew).alloc ah _) ?_
 clear R K;refine iy λK R=>?_
 go_simp;have hrow:sW (v.drew.alloc (.cells #[.slice A (ao t.L) ca,.slice B (ao t.W) cb] 109)) v.heap.size [t.L,t.W]:=yo (TL.o.keep (((aC _ _).drew).alloc ah _)) (TW.o.keep (((aC _ _).drew).alloc ah _))
 refine(uq v.heap.size [t.L,t.W] _ ah hrow ad af).mono ?_
 rintro e x ⟨v3,rfl,z,hb3⟩;have T:aq v x:=(((aC _ _).drew).alloc ah _).trans (hb3.mono ah)
 have hz3:=T.size;rw[show([t.L,t.W]:List (List Mn)).flatten=t.L++t.W by simp] at z
 have O3:=ay z;clear z;refine R _ _ (T) ?_
 clear R K;refine hC ?_
 refine gM ?_
 obtain⟨l,j,rfl,n9,m9,z⟩:=O3.o.form;clear z;have X3:=ay (Dg.keep VQ.o T);have a:=(T.cell (p:=⟨gt,5,none⟩) n).trans Q5.o;obtain⟨C,Zv,z,q,r,f⟩:=X3.o;obtain⟨B3,cb3,rfl,Zw,Zx,b⟩:=r.form;have c:=z.k5;have u5:=z.frozen 5;have SV:=z.kr q ab
 have E:=z.kr r ab
 have Yk:=ay z;have L3:=ay q;have W3:=ay r;have HF:=ay f;have Yl:=ay (fG (tot (s.L++s.W)+tot (t.L++t.W)) aa)
 clear z q r f b
 go_wp2_with fail;have Z:=ay (λ(u:World) (y:aq x u)=>(aF ((y.cell (p:=⟨g,5,none⟩) (by show g<_;omega)).trans c) (aF ((y.cell (p:=⟨gt,5,none⟩) (by show gt<_;omega)).trans a) (Yl.o))))
 refine ki (λu=>aq x u) 11 (gW 0 11 []) ((aC _ _).drew) ?_
 iterate 11 refine jw ?_
 refine gU ?_
 simp only[bc,bp]
 go_wp2_with fail;refine gQ ?_
 have VR:Hid (g7 (v.drew.alloc (.cells #[.slice A (ao t.L) ca,.slice B (ao t.W) cb] 109)).heap.size x (.slice l (ao t.L+ao t.W) j) (t.L++t.W)):=by have:=O3.o;rw[aE] at this;exact this
 go_upto_region 13 with fail;have T3:Hid (Touch (λk=>k=g) w (x.setCell ⟨g,5,none⟩ (.int .u64 (tot (s.L++s.W)+tot (t.L++t.W)))).drew):=ay ((touch_of (T) W.o).setCell (p:=⟨g,5,none⟩) (.inl rfl) (.int .u64 (tot (s.L++s.W)+tot (t.L++t.W)))).drew
 have y:(x.setCell ⟨g,5,none⟩ (.int .u64 (tot (s.L++s.W)+tot (t.L++t.W)))).drew.heap.size=x.heap.size:=by show(x.setCell _ _).heap.size=_;exact bW ..
 have I4:x.heap.size<=(x.setCell ⟨g,5,none⟩ (.int .u64 (tot (s.L++s.W)+tot (t.L++t.W)))).drew.heap.size:=by rw[y];exact aD _
 have X:Hid (gN (x.setCell ⟨g,5,none⟩ (.int .u64 (tot (s.L++s.W)+tot (t.L++t.W)))).drew g _ _):=ay (Yk.o.gR 5 (.int .u64 (tot (s.L++s.W)+tot (t.L++t.W))));have L4:Hid (g7 0 (x.setCell ⟨g,5,none⟩ (.int .u64 (tot (s.L++s.W)+tot (t.L++t.W)))).drew C s.L):=ay (L3.o.far (p:=⟨g,5,none⟩) SV _);have X4:Hid (g7 0 (x.setCell ⟨g,5,none⟩ (.int .u64 (tot (s.L++s.W)+tot (t.L++t.W)))).drew (.slice B3 (ao s.W) cb3) s.W):=ay (W3.o.far (p:=⟨g,5,none⟩) E _);have M4:Hid (g7 v.heap.size (x.setCell ⟨g,5,none⟩ (.int .u64 (tot (s.L++s.W)+tot (t.L++t.W)))).drew (.slice l (ao t.L+ao t.W) j) (t.L++t.W)):=ay ((VR.o.more ah).far (p:=⟨g,5,none⟩) (λe=>by have h9:=(VR.o.lt _ e).1;simp only[aI,cW] at h9;have h8:v.heap.size<=g:=(by show _<=(⟨g,5,none⟩:Addr).block;omega);omega) _)
 have J:Hid (∀z,F z->z<(x.setCell ⟨g,5,none⟩ (.int .u64 (tot (s.L++s.W)+tot (t.L++t.W)))).drew.heap.size):=λz f=>(by rw[y];exact HF.o.2.2.2.2 z f)
 clear y c u5 a;generalize (x.setCell ⟨g,5,none⟩ (.int .u64 (tot (s.L++s.W)+tot (t.L++t.W)))).drew=h at *;have U:=X.o.cell 2;have Q:=X.o.frozen 2;simp only[aA,aB,az,aY,bm,bo] at U;have y:ao (t.L++t.W)=ao t.L+ao t.W:=aE ..;have UF:=ay y;clear y;have Lm:ao s.W+ao (t.L++t.W)<=1099511627776:=by rw[UF.o];omega
 go_upto_region 14 with(first|(at_builtin;go_must (refine iI rfl (.tmp 74) (.tmp 75) rfl 0 (.slice B3 (ao s.W) cb3) s.W rfl X4.o (.slice l (ao t.L+ao t.W) j) (t.L++t.W) rfl M4.o.rd Lm (bB _) ?_);intro v5 c b Y a;have y:=(Y.block g X.o.lt (λe=>E e.symm)).trans X.o;obtain⟨q,r,rfl,n5,m5,S⟩:=b.form;have m:=gN.cell y 2;have u2:=gN.frozen y 2;simp only[aA,aB,az,aY,bm,bo] at m;have N:Hid (gN c g _ _):=ay y;have D:=ay b;clear y b S U Q;go_simp))
 have o:Hid (∃(V:Nat->Prop),(∀k,V k->F k\/w.heap.size<=k)/\Dg (c.setCell ⟨g,2,none⟩ (.slice q (ao s.W+(ao t.L+ao t.W)) r)) g V d s.L (s.W++(t.L++t.W)) (if tot (s.L++s.W)=0 then t.lo else min s.lo t.lo) (if tot (s.L++s.W)=0 then t.hi else max s.hi t.hi) (tot (s.L++(s.W++(t.L++t.W))))/\Touch F w (c.setCell ⟨g,2,none⟩ (.slice q (ao s.W+(ao t.L+ao t.W)) r))):=by
  obtain⟨P,Q,G,I,p5⟩:=HF.o;have hlen3:ao (s.W++(t.L++t.W))=ao s.W+(ao t.L+ao t.W):=ad
  have S:=D.o;rw[hlen3] at S a;have T5:Touch F w c:=(T3.o.mono (λi (O:i=g)=>O▸P)).grown Y (λz U=>.inl (G z U))
  have V:=T5.setCell (p:=⟨g,2,none⟩) (.inl P) (.slice q (ao s.W+(ao t.L+ao t.W)) r);have Ct:∀z,(Value.slice q (ao s.W+(ao t.L+ao t.W)) r).ownBlock=some z->F z\/z=h.heap.size:=λz e=>by
   rcases a with y|y
   ·exact .inl (G z (by rw[<-y];exact e))
   ·rw[y] at e;simp only[aW] at e;exact .inr e.symm
  have SN:h.heap.size<=c.heap.size:=Y.size;have hg4:=X.o.lt;have OY:(Value.slice q (ao s.W+(ao t.L+ao t.W)) r).ownBlock≠some g:=λe=>by
   rcases a with y|y
   ·exact E (by rw[<-y];exact e)
   ·rw[y] at e;simp only[aW] at e;omega
  have L:g7 0 c C s.L:=L4.o.stay λz e=>Y.block z (J.o z (Q z e)) (λb=>I z b.symm e)
  have M:=N.o;rw[<-zM.o] at M;refine⟨λz=>F z\/(Value.slice q (ao s.W+(ao t.L+ao t.W)) r).ownBlock=some z,?_,⟨C,_,M.gR 2 _,L.far (p:=⟨g,2,none⟩) (λe=>N.o.kr L ab e) _,S.far (p:=⟨g,2,none⟩) OY (.slice q (ao s.W+(ao t.L+ao t.W)) r),.inl P,λz e=>.inl (Q z e),λz e=>.inr e,?_,?_⟩,V⟩
  ·rintro z (f|e)
   ·exact .inl f
   ·rcases Ct z e with f|f
    ·exact .inl f
    ·exact .inr (by have:=T3.o.size;omega)
  ·intro z e b
   rcases a with y|y
   ·exact I z (by rw[<-y];exact e) b
   ·rw[y] at e;simp only[aW] at e
    have:=J.o z (Q z b);omega
  ·intro z U
   rw[bW]
   rcases U with f|e
   ·have:=J.o z f;omega
   ·exact(S.lt z e).2
 clear N D m u2 Y a;generalize c.setCell ⟨g,2,none⟩ (.slice q (ao s.W+(ao t.L+ao t.W)) r)=L at *;obtain⟨M,S,U,Y⟩:=o.o;have a:ao s.L+ao (s.W++(t.L++t.W))<=100000000:=by simp only[aE];omega
 have b:tot (s.L++(s.W++(t.L++t.W)))<=281474976710656:=by rw[zM.o];omega
 have y:s.L++(s.W++(t.L++t.W))≠[]:=λe=>by have:=zM.o;rw[e] at this;simp only[tot] at this;omega
 have N:=ay (wV g M d _ _ s.L (s.W++(t.L++t.W)) L U KL.o y a b aa d1)
 have V:=ay Y;have Q:=ay S;clear S U Y a b y o
 go_wp2_with fail;refine(N.o).mono ?_
 rintro e G ⟨rfl,P,a,b,y⟩;have S:=ay a;have U:=ay b;have Y:=ay y;have I:=V.o.size;clear a b y
 go_wp2;refine an ?_
 refine⟨rfl,P,?_,?_,V.o.trans Y.o (λi O=>Q.o i O)⟩
 ·intro z b
  rcases S.o z b with y|y
  ·exact Q.o z y
  ·exact .inr aa
 ·rw[HST.o]
  unfold zO;simp only[bT,j'];exact U.o
end
section
def sE{g gt:Nat}{F Ft:Nat->Prop}{d:Int}{s t:St}{k kt:Nat}(w:World)(h:qE w g F d s)(q:qE w gt Ft d t)(_hx:(gt=g/\Ft=F/\t=s)\/(∀k,F k->¬Ft k))(z:Fit d s k)(r:Fit d t kt)(hk:k+kt<=100000000)
 (hcap:tot (t.L++t.W)<=281474976710656 - tot (s.L++s.W)) (hne:0<tot (t.L++t.W)) :
 ar Oe 51 #[.pointer (some ⟨g,0,none⟩),.pointer (some ⟨gt,0,none⟩)] w λe x=>e=.returned (.int .i64 0)/\∃y:Nat->Prop,(∀k,y k->F k\/w.heap.size<=k)/\qE x g y d (s.take d t)/\Touch F w x:=by
 have H:=ay h;have HT:=ay q;have s0:=z.ok.i7;have s1:=z.t;have d0:=z.d0;have d1:=z.d1;have hls:=z.ok.len;have hlt:=r.ok.len;have Tw:=ay z.ok.ok;have Tx:=ay r.ok.ok;have KL:Hid (kg (s.L++(s.W++(t.L++t.W)))):=by show kg _;rw[<-aO];exact z.ok.ok.append r.ok.ok
 have zM:Hid (tot (s.L++(s.W++(t.L++t.W)))=tot (s.L++s.W)+tot (t.L++t.W)):=by show _=_;rw[<-aO,gY]
 have b:(ao s.L+ao s.W=0)<->tot (s.L++s.W)=0:=by
  rw[z.ok.r_];constructor
  ·intro h;exact aN (by rw[aE];exact h)
  ·intro h;rw[<-aE,h];rfl
 have O:Hid (∀v,oO v g F d s.L s.W s.lo s.hi->ar Oe 114 #[.pointer (some ⟨g,0,none⟩),.int .i64 t.lo,.int .i64 t.hi] v λe x=>e=.returned (.tuple #[])/\oO x g F d s.L s.W (if tot (s.L++s.W)=0 then t.lo else min s.lo t.lo) (if tot (s.L++s.W)=0 then t.hi else max s.hi t.hi)/\Touch (λk=>k=g) v x):=by
  intro v u;have:=wX t.lo t.hi v u aa
  simp only[b] at this;exact this
 have N:Hid (s.take d t=⟨jM d (s.L++(s.W++(t.L++t.W))),[],if tot (s.L++s.W)=0 then t.lo else min s.lo t.lo,if tot (s.L++s.W)=0 then t.hi else max s.hi t.hi⟩):=by show s.take d t=_;unfold St.take;rw[aG aa]
 generalize (if tot (s.L++s.W)=0 then t.lo else min s.lo t.lo)=lo1 at O N
 generalize (if tot (s.L++s.W)=0 then t.hi else max s.hi t.hi)=hi1 at O N
 have X:ao t.L+ao t.W≠0:=λe=>by
  have:t.L++t.W=[]:=aN (by rw[aE];exact e)
  rw[this] at hne;simp[tot] at hne
 have hlb:(((ao t.L:Int)+(ao t.W:Int)) == 0)=false:=b9.2 aa
 obtain⟨VO,VP,p,_⟩:=id h;obtain⟨tlv,UE,u,_⟩:=id q;have hg:=p.lt;have hgt:=u.lt;have a:=p.k0;have Y:=u.k0;have f:=u.k3;have c:=u.k4;have Y3:=ay f;have Y4:=ay c;clear h q _hx p u f c z r b X
 go_in
 go_wp2_with fail
 go_quiet (fail)
 go_wp2_with fail;have z:=λq=>ay (jx gt Ft d t.lo t.hi t.L t.W (w.drewN q) (oO.keep HT.o (below_drewN (aC _ _) q)) aa)
 refine((z _).o).mono ?_
 rintro e v ⟨v1,rfl,u,r⟩;clear z;have h:aq w v:=(below_drewN (aC _ _) _).trans r;have hz1:=h.size;obtain⟨B,W,rfl,n1,m1,S⟩:=u.form;have z:ao (t.L++t.W)=ao t.L+ao t.W:=aE ..;have m:Hid (g7 w.heap.size v (.slice B (ao t.L+ao t.W) W) (t.L++t.W)):=ay (by rw[z] at u;exact u)
 rw[z];have UF:=ay z;clear u S r z
 go_wp2_with fail;refine(hY _ (t.L++t.W) v m.o.rd Tx.o aa).mono ?_
 rintro e w2 ⟨rfl,R⟩;have J:aq w w2:=h.trans (R.mono hz1);have hz2:=J.size
 go_wp2_with fail;refine(jx g F d s.lo s.hi s.L s.W w2 (oO.keep H.o J) aa).mono ?_
 rintro e w3 ⟨v3,rfl,z,K⟩;have hbw3:aq w w3:=J.trans (K.mono hz2);have hz3:=hbw3.size;have O3:=ay z;clear z
 go_wp2_with fail;refine(hY v3 (s.L++s.W) w3 O3.o.rd Tw.o aa).mono ?_
 rintro e U ⟨rfl,hb4⟩;have X:aq w U:=hbw3.trans (hb4.mono hz3);have I4:=X.size;have M:=ay (m.o.keep ((R.trans (K.mono R.size)).trans (hb4.mono (by have:=R.size;have:=K.size;omega))))
 have D4:=ay (oO.keep H.o X);have c:=(X.cell (p:=⟨gt,3,none⟩) hgt).trans Y3.o;have b:=(X.cell (p:=⟨gt,4,none⟩) hgt).trans Y4.o;clear a Y
 go_upto_region 8 with fail;have Z:=ay (λ(x:World) (z:aq U x)=>(aF ((z.cell (p:=⟨gt,3,none⟩) (by show gt<_;omega)).trans c) ((z.cell (p:=⟨gt,4,none⟩) (by show gt<_;omega)).trans b)))
 refine ki (λx=>aq U x) 9 (gW 0 9 []) ((aC _ _).drew) ?_
 iterate 9 refine jw ?_
 refine gU ?_
 simp only[bc,bp]
 go_wp2_with fail;refine(O.o _ (oO.keep D4.o (aC _ _).drew)).mono ?_
 rintro e C ⟨rfl,⟨Sz,Zy,z,Y,u,f⟩,r⟩;have n:Hid (Touch (λk=>k=g) w C):=ay ((Touch.of_below (F:=λk=>k=g) X.drew (aD _)).trans r (λi V=>.inl V))
 obtain⟨B5,Ym,rfl,Zz,ZA,Q⟩:=u.form;have O5:=ay (M.o.stay λk e=>r.block k (M.o.lt k e).2 (λa=>by have:=(M.o.lt k e).1;omega))
 have T:=z.k2;have I:=z.frozen 2;have l:=z.kr u ab
 have P:=ay z;have L5:=ay Y;have X5:=ay u;have HF:=ay f;clear z Y u f Q r c b
 go_wp2_with fail;refine gQ ?_
 have Lm:ao s.W+ao (t.L++t.W)<=1099511627776:=by rw[UF.o];omega
 go_upto_region 10 with(first|(at_builtin;go_must (refine iI rfl (.tmp 41) (.tmp 42) rfl 0 (.slice B5 (ao s.W) Ym) s.W rfl X5.o (.slice B (ao t.L+ao t.W) W) (t.L++t.W) rfl O5.o.rd Lm (bB _) ?_);intro v6 f c Y b;have z:=(Y.block g P.o.lt (λe=>l e.symm)).trans P.o;obtain⟨u,r,rfl,n6,m6,L⟩:=c.form;have s2:=gN.cell z 2;have u2:=gN.frozen z 2;simp only[aA,aB,az] at s2;have Q:Hid (gN f g _ _):=ay z;have o:=ay c;clear z c L T I;go_simp))
 have A:Hid (∃(y:Nat->Prop),(∀k,y k->F k\/w.heap.size<=k)/\oO (f.setCell ⟨g,2,none⟩ (.slice u (ao s.W+(ao t.L+ao t.W)) r)) g y d s.L (s.W++(t.L++t.W)) lo1 hi1/\Touch F w (f.setCell ⟨g,2,none⟩ (.slice u (ao s.W+(ao t.L+ao t.W)) r))):=by
  obtain⟨G,E,p3,p4,D⟩:=HF.o;have hlen3:ao (s.W++(t.L++t.W))=ao s.W+(ao t.L+ao t.W):=ad
  have L:=o.o;rw[hlen3] at L b;have T6:Touch F w f:=(n.o.mono (λi (V:i=g)=>V▸G)).grown Y (λz I=>.inl (p3 z I))
  have T:=T6.setCell (p:=⟨g,2,none⟩) (.inl G) (.slice u (ao s.W+(ao t.L+ao t.W)) r);have Ct:∀z,(Value.slice u (ao s.W+(ao t.L+ao t.W)) r).ownBlock=some z->F z\/z=C.heap.size:=λz e=>by
   rcases b with y|y
   ·exact .inl (p3 z (by rw[<-y];exact e))
   ·rw[y] at e;simp only[aW] at e;exact .inr e.symm
  have SN:C.heap.size<=f.heap.size:=Y.size;have hg4:=P.o.lt;have OY:(Value.slice u (ao s.W+(ao t.L+ao t.W)) r).ownBlock≠some g:=λe=>by
   rcases b with y|y
   ·exact l (by rw[<-y];exact e)
   ·rw[y] at e;simp only[aW] at e;omega
  have j:g7 0 f Sz s.L:=L5.o.stay λz e=>Y.block z (D z (E z e)) (λa=>p4 z a.symm e)
  refine⟨λz=>F z\/(Value.slice u (ao s.W+(ao t.L+ao t.W)) r).ownBlock=some z,?_,⟨Sz,_,Q.o.gR 2 _,j.far (p:=⟨g,2,none⟩) (λe=>Q.o.kr j ab e) _,L.far (p:=⟨g,2,none⟩) OY (.slice u (ao s.W+(ao t.L+ao t.W)) r),.inl G,λz e=>.inl (E z e),λz e=>.inr e,?_,?_⟩,T⟩
  ·rintro z (c|e)
   ·exact .inl c
   ·rcases Ct z e with c|c
    ·exact .inl c
    ·exact .inr (by have:=n.o.size;omega)
  ·intro z e a
   rcases b with y|y
   ·exact p4 z (by rw[<-y];exact e) a
   ·rw[y] at e;simp only[aW] at e
    have:=D z (E z a);omega
  ·intro z I
   rw[bW]
   rcases I with c|e
   ·have:=D z c;omega
   ·exact(L.lt z e).2
 clear Q o s2 u2 Y b;generalize f.setCell ⟨g,2,none⟩ (.slice u (ao s.W+(ao t.L+ao t.W)) r)=D at *;obtain⟨L,S,c,b⟩:=A.o;have Y:ao s.L+ao (s.W++(t.L++t.W))<=100000000:=by simp only[aE];omega
 have Q:tot (s.L++(s.W++(t.L++t.W)))<=281474976710656:=by rw[zM.o];omega
 have E:=ay (ux g L d _ _ s.L (s.W++(t.L++t.W)) D c KL.o Y Q aa d1)
 have T:=ay b;have y:=ay S;clear S c b Y Q A
 go_wp2_with fail;refine(E.o).mono ?_
 rintro e j ⟨rfl,S,c,b,Y⟩;have Q:=ay c;have I:=ay b;have G:=ay Y;have A:=T.o.size;clear c b Y
 go_wp2;refine an ?_
 refine⟨rfl,S,?_,?_,T.o.trans G.o (λi V=>y.o i V)⟩
 ·intro z b
  rcases Q.o z b with c|c
  ·exact y.o z c
  ·exact .inr aa
 ·rw[N.o]
  unfold qE;exact I.o
end
section
variable{g gt k kt:Nat}{F Ft:Nat->Prop}{d:Int}{s t:St}
def iS(s t:St):Int:=if 281474976710656 - tot (s.L++s.W)<tot (t.L++t.W) then 6 else 0
def NS(w:World)(h:zO w g F d s)(f:zO w gt Ft d t)(z:Fit d s k)(UG:Fit d t kt)
 (r:281474976710656 - tot (s.L++s.W)<tot (t.L++t.W)\/tot (t.L++t.W)=0) :
 ar Oe 105 #[.pointer (some ⟨g,0,none⟩),.pointer (some ⟨gt,0,none⟩)] w (aw w (.int .i64 (iS s t))):=by
 obtain⟨U,T,y,_⟩:=h;obtain⟨S,R,x,_⟩:=f;have b:=y.k0;have a:=y.k5;have Y:=x.k0;have q:=x.k5;have X:=z.ok.i7;have V:=z.t;have v:=ay (fG (281474976710656 - tot (s.L++s.W)) aa)
 clear y x z UG
 by_cases z:281474976710656 - tot (s.L++s.W)<tot (t.L++t.W)
 ·have x:Hid (iS s t=6):=aH z
  have p:decide (281474976710656 - tot (s.L++s.W)<tot (t.L++t.W))=true:=cz z;clear r
  go_in
  go_wp2_with fail
  go_quiet (fail)
  go_wp2_with fail;have y:=v.o
  go_quiet (fail)
  clear y
  go_wp2
  go_ret;exact⟨ie x.o.symm,bw⟩
 ·have x:Hid (iS s t=0):=aG z
  have u:tot (t.L++t.W)=0:=aa
  have p:decide (281474976710656 - tot (s.L++s.W)<0)=false:=cj aa
  rw[u] at q;clear r u z
  go_in
  go_wp2_with fail
  go_quiet (fail)
  go_wp2_with fail;have y:=v.o
  go_quiet (fail)
  clear y
  go_wp2
  go_ret;exact⟨ie x.o.symm,bw⟩
def Ln(w:World)(h:qE w g F d s)(C:qE w gt Ft d t)(y:Fit d s k)(z:Fit d t kt)
 (r:281474976710656 - tot (s.L++s.W)<tot (t.L++t.W)\/tot (t.L++t.W)=0) :
 ar Oe 51 #[.pointer (some ⟨g,0,none⟩),.pointer (some ⟨gt,0,none⟩)] w (aw w (.int .i64 (iS s t))):=by
 have H:=ay h;have B:=ay C;have s0:=y.ok.i7;have s1:=y.t;have t0:=z.ok.i7;have t1:=z.t;have hls:ao s.L+ao s.W<=100000000:=by have:=y.ok.len;have:=y.k1;omega
 have hlt:ao t.L+ao t.W<=100000000:=by have:=z.ok.len;have:=z.k1;omega
 have I:=ay y.ok.ok;have G:=ay z.ok.ok;have P:tot (t.L++t.W)=0->ao t.L+ao t.W=0:=λe=>by rw[<-aE,z.ok.r_.1 e];rfl
 obtain⟨VO,VP,v,_⟩:=h;obtain⟨tlv,UE,u,_⟩:=C;have o:=v.k0;have n:=u.k0;have Y:=λq=>ay (jx gt Ft d t.lo t.hi t.L t.W (w.drewN q) (oO.keep B.o (below_drewN (aC _ _) q)) aa)
 have A:(281474976710656 - tot (s.L++s.W)<tot (t.L++t.W)/\iS s t=6)\/(tot (t.L++t.W)=0/\iS s t=0/\¬281474976710656 - tot (s.L++s.W)<tot (t.L++t.W)):=by
  by_cases x:281474976710656 - tot (s.L++s.W)<tot (t.L++t.W)
  ·exact .inl ⟨x,aH x⟩
  ·exact .inr ⟨by omega,aG x,x⟩
 clear v u y z r
 rcases A with⟨x,v⟩|⟨E,v,x⟩
 ·have U:=ay v
  clear v P
  go_in
  go_wp2_with fail
  go_quiet (fail)
  go_wp2_with fail;refine((Y _).o).mono ?_
  rintro e c ⟨l,rfl,y,r⟩;have u:aq w c:=(below_drewN (aC _ _) _).trans r;have O:=u.size;have X:=ay y;clear y r Y
  go_wp2_with fail;refine(hY _ (t.L++t.W) c X.o.rd G.o aa).mono ?_
  rintro e b ⟨rfl,T⟩;have z:aq w b:=u.trans (T.mono O);have N:=z.size
  go_wp2_with fail;refine(jx g F d s.lo s.hi s.L s.W b (oO.keep H.o z) aa).mono ?_
  rintro e a ⟨L,rfl,f,S⟩;have p:aq w a:=z.trans (S.mono N);have M:=p.size;have V:=ay f;clear f
  go_wp2_with fail;refine(hY L (s.L++s.W) a V.o.rd I.o aa).mono ?_
  rintro e K ⟨rfl,R⟩;have Q:aq w K:=p.trans (R.mono M)
  go_wp2
  go_ret;exact⟨ie U.o.symm,Q⟩
 ·have U:=ay v
  have D:=P E;have J:Hid (ao (t.L++t.W)=0):=by show _=0;rw[aE];exact D
  clear v P E D
  go_in
  go_wp2_with fail
  go_quiet (fail)
  go_wp2_with fail;refine((Y _).o).mono ?_
  rintro e c ⟨l,rfl,y,r⟩;have u:aq w c:=(below_drewN (aC _ _) _).trans r;have O:=u.size;obtain⟨W,i,rfl,j,m1,D⟩:=y.form;have X:=ay y;rw[J.o];rw[J.o] at X;clear y r Y D j
  go_wp2_with fail;refine(hY _ (t.L++t.W) c X.o.rd G.o aa).mono ?_
  rintro e b ⟨rfl,T⟩;have z:aq w b:=u.trans (T.mono O);have N:=z.size
  go_wp2_with fail;refine(jx g F d s.lo s.hi s.L s.W b (oO.keep H.o z) aa).mono ?_
  rintro e a ⟨L,rfl,f,S⟩;have p:aq w a:=z.trans (S.mono N);have M:=p.size;have V:=ay f;clear f
  go_wp2_with fail;refine(hY L (s.L++s.W) a V.o.rd I.o aa).mono ?_
  rintro e K ⟨rfl,R⟩;have Q:aq w K:=p.trans (R.mono M)
  go_wp2
  go_ret;exact⟨ie U.o.symm,Q⟩
end
section
variable {d : Int} {s : St} {k : Nat}
def Fit.VS(z:Fit d s k):kg (jM d (s.L++s.W))/\kG (jM d (s.L++s.W))/\(∀m∈jM d (s.L++s.W),s.lo<=m.1/\m.1<=s.hi):=o5 d s.lo s.hi z.ok.ok z.ok.bd
def Fit.ne(ZB:Fit d s k)(z:0<tot (s.L++s.W)):jM d (s.L++s.W)≠[]:=tv d λe=>by rw[e] at z;simp[tot] at z
def Iu{v:Int}(h:v<s.lo\/tot (s.L++s.W)=0):jb d s v=0:=by
 unfold jb sS;rw[j',aH aa]
end
end Go.Proofs.YtdicblkhpcphfaaGreat
