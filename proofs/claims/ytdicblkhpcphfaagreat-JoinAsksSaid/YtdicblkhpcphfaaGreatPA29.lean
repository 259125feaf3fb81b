/- Parts. No condition. -/
import Derived.Test.YtdicblkhpcphfaaGreatPA28
import Derived.Deep.SlicePairs
set_option maxRecDepth 100000
set_option maxHeartbeats 0
set_option linter.all false
namespace Go.Proofs.YtdicblkhpcphfaaGreat
open Tryz Go.RowKit Go.Lib Go.Shelf
open _root_.List renaming length→ao
open _root_.Go renaming Calls→ar
open Tryz renaming prog→Oe
section
def St.Ok.take{d:Int}{s t:St}{k kt:Nat}(h:s.Ok d k)(z:t.Ok d kt)(b:0<d)(u:tot (t.L++t.W)≠0)(Y:tot (s.L++s.W)+tot (t.L++t.W)<=281474976710656) :
 ∃y:Nat,(y:Int)<=194 * d+99/\(s.take d t).Ok d y/\tot ((s.take d t).L++(s.take d t).W)=tot (s.L++s.W)+tot (t.L++t.W):=by
 have q:s.take d t=⟨jM d (s.L++(s.W++(t.L++t.W))),[],if tot (s.L++s.W)=0 then t.lo else min s.lo t.lo,if tot (s.L++s.W)=0 then t.hi else max s.hi t.hi⟩:=by
  unfold St.take;rw[aG u]
 have v:(if tot (s.L++s.W)=0 then t.lo else min s.lo t.lo)<=t.lo/\(tot (s.L++s.W)≠0->(if tot (s.L++s.W)=0 then t.lo else min s.lo t.lo)<=s.lo)/\-9223372036854775808<=(if tot (s.L++s.W)=0 then t.lo else min s.lo t.lo)/\(if tot (s.L++s.W)=0 then t.lo else min s.lo t.lo)<=9223372036854775807:=by
  have:=h.wk;have:=z.wk;have:=z.lo1
  split<;>refine⟨by omega,aa,aa,aa⟩
 have x:t.hi<=(if tot (s.L++s.W)=0 then t.hi else max s.hi t.hi)/\(tot (s.L++s.W)≠0->s.hi<=(if tot (s.L++s.W)=0 then t.hi else max s.hi t.hi))/\(if tot (s.L++s.W)=0 then t.hi else max s.hi t.hi)<=9223372036854775807/\-9223372036854775808<=(if tot (s.L++s.W)=0 then t.hi else max s.hi t.hi):=by
  have:=h.hi1;have:=z.hi1;have:=z.hi0
  split<;>refine⟨by omega,aa,aa,aa⟩
 have p:kg (s.L++(s.W++(t.L++t.W))):=by
  rw[<-aO];exact h.ok.append z.ok
 have a:s.L++(s.W++(t.L++t.W))≠[]:=by
  rw[<-aO];intro e;have:=f_.1 e;rw[this.2] at u;exact u rfl
 have g:∀m∈s.L++(s.W++(t.L++t.W)),(if tot (s.L++s.W)=0 then t.lo else min s.lo t.lo)<=m.1/\m.1<=(if tot (s.L++s.W)=0 then t.hi else max s.hi t.hi):=by
  intro m f;rw[<-aO] at f
  rcases cV.1 f with y|y
  ·have c:=h.bd m y
   have r:tot (s.L++s.W)≠0:=λe=>by rw[h.r_.1 e] at y;cases y
   have:=v.2.1 r;have:=x.2.1 r;omega
  ·have c:=z.bd m y
   omega
 have f:tot (s.L++(s.W++(t.L++t.W)))=tot (s.L++s.W)+tot (t.L++t.W):=by rw[<-aO,gY]
 have r:=FH p g (by omega:1<=d) aa
 have y:=o5 d _ _ p g;refine⟨ao (jM d (s.L++(s.W++(t.L++t.W)))),r,?_,?_⟩
 ·rw[q]
  exact⟨by simpa using y.1,by simpa using y.2.2,v.2.2.1,v.2.2.2,x.2.2.2,x.2.2.1,λe=>absurd (by simpa using e) (tv d a),ad,by simpa using b,y.2.1⟩
 ·rw[q]
  simp[j',f]
end
namespace K
variable{L:LL}{x:Int}{h:Nat}
def Iv{K led:Nat}(h:Fit K L led)(x:8<=K)(v:K<=4096)(z:ao L=0->led=0):i_ K L led:=
 ⟨by omega,aa,h.ok.qj,h.ok.led,z,h.ok.top,λj y=>by rw[bM];exact⟨qS h.none j y,h.ok.iJ j⟩,h.ok.zp⟩
def Lo(h:ao L=0):wt L=0:=by rw[aN h];rfl
def kO:x∈jJ L<->∃h,x∈lvl L h:=by
 unfold jJ;rw[List.mem_flatten];constructor
 ·rintro ⟨l,v,y⟩
  obtain⟨h,z,rfl⟩:=cE v;exact⟨h,by rw[jX z];exact y⟩
 ·rintro ⟨h,y⟩
  rcases bg h (ao L) with z|z
  ·exact⟨L[h],aX z,by rw[<-jX z];exact y⟩
  ·rw[nL z] at y;cases y
def yZ{vs:List Int}(v:x∈jJ (kk L h vs)):x∈jJ L\/x∈vs:=by
 obtain⟨j,z⟩:=kO.1 v;rw[kL] at z
 split at z
 ·rcases Kj.1 z with y|y
  ·exact .inl (kO.2 ⟨_,y⟩)
  ·exact .inr y
 ·exact .inl (kO.2 ⟨_,z⟩)
def Lp{y:Nat}(t:h<ao L)(q:y<=1)(u:x∈jJ (k_ L h y)):x∈jJ L:=by
 unfold k_ at u
 rcases yZ u with z|z
 ·obtain⟨j,v⟩:=kO.1 z
  rw[mn _ _ _ _ t] at v
  split at v
  ·exact kO.2 ⟨h,cu v⟩
  ·exact kO.2 ⟨j,v⟩
 ·unfold Km at z
  obtain⟨i,s,rfl⟩:=gK.1 z;have r:=ep.1 s;have v:2 * i+y<ao (lvl L h):=aa
  rw[List.getD,aQ v,eB];exact kO.2 ⟨h,aX v⟩
def xT{k:Nat}{B:List Int}{s:KS}(z:x∈jJ (iK k B s).1):x∈jJ s.1:=by
 have:=qU (k:=k) (B:=B) (P:=λt=>∀x∈jJ t.1,x∈jJ s.1) (λt h y e=>λx z=>y x (Lp (kx e).1 (p_ B t.2.2) z)) (s:=s) (λx z=>z)
 exact this x z
def Bt:∀(f h m:Nat) (L:LL) (v:Int) {x:Int},x∈jJ (mq f h m L v)->x∈jJ L\/x=v
 | 0,_,_,_,_,x,hx=>.inl hx
 | f+1,h,m,L,v,x,hx=>by
  rw[mq] at hx
  split at hx
  ·exact .inl hx
  ·rcases Bt f _ _ _ v hx with z|z
   ·split at z
    ·rcases yZ z with y|y
     ·exact .inl y
     ·exact .inr (by simpa using y)
    ·exact .inl z
   ·exact .inr z
def xU(M L:LL):∀j {x:Int},x∈jJ (takeN M j L)->x∈jJ L\/x∈jJ M
 | 0,_,hx=>.inl hx
 | j+1,x,hx=>by
  rw[takeN] at hx
  rcases yZ hx with z|z
  ·exact xU M L j z
  ·exact .inr (kO.2 ⟨j,z⟩)
end K
namespace D
variable{a d i led q:Nat}{sp:i9}{s:St}{n v:Int}{c t:Js}{L:K.LL}{B:List Int}{α:Type}{w:World}
structure tK(d:Nat)(s:St):Prop where
 fit:Fit d s (195 * d+99)
 len:(ao s.L:Int)<=194 * d+99
 big:d<=300\/s=St.zero
structure nt(q:Nat)(L:K.LL)(led:Nat):Prop where
 fit:K.Fit q L led
 q0:8<=q
 q1:q<=4096
 emp:ao L=0->led=0
 bd:∀j,K.kW (K.lvl L j)
def oU:i9->Prop
 | .h lo hi dg u m _=>qP lo hi dg u m
 | .d a m=>100<=a/\a<=5000/\2<=m/\m<=4096
 | .t d=>10<=d/\d<=1000
 | .k q=>8<=q/\q<=4096
def i9.small:i9->Prop
 | .t e=>e<=300
 | _=>True
def je(sp:i9)(c:Js):Prop:=match sp with
 | .h lo hi dg u m gr=>iG lo hi dg u m gr c.bk c.l
 | .d a m=>iO a m c.l
 | .t d=>tK d c.s
 | .k q=>nt q c.L c.led
def i9.new:i9->Js
 | .h _ hi _ u m _=>⟨1+im u m hi,[],St.zero,[],0⟩
 | _=>⟨0,[],St.zero,[],0⟩
def mW(sp:i9)(c:Js)(v n:Int):Int:=match sp with
 | .h _ _ _ u m gr=>hsE u m gr c.bk c.l v n
 | .d a _=>CS a c.l v n
 | .t _=>if n=0 then 4 else if 281474976710656 - Go.Proofs.YtdicblkhpcphfaaGreat.tot (c.s.L++c.s.W)<n then 6 else 0
 | .k _=>K.oT c.L n.toNat
def kl(sp:i9)(B:List Int)(v n:Int)(c:Js)(a:Nat):Js × Nat:=match sp with
 | .h _ _ _ u m gr=>({c with bk:=hsB u m gr c.bk c.l v n,l:=hsL u m gr c.bk c.l v n},a)
 | .d ac _=>({c with l:=Al ac c.l v n},a)
 | .t d=>(if mW (.t d) c v n=0 then {c with s:=c.s.add d v n} else c,a)
 | .k q=>({c with L:=(K.nN q B v n.toNat (c.L,c.led,a)).1,led:=(K.nN q B v n.toNat (c.L,c.led,a)).2.1},(K.nN q B v n.toNat (c.L,c.led,a)).2.2)
def qm(sp:i9)(c t:Js):Int:=match sp with
 | .h ..=>Dd c.l t.l
 | .d ..=>iN c.l t.l
 | .t _=>iS c.s t.s
 | .k _=>K.iS c.L t.L
def jK(sp:i9)(B:List Int)(t c:Js)(a:Nat):Js × Nat:=match sp with
 | .h ..=>({c with bk:=M_ c.l t.l c.bk t.bk,l:=M9 c.l t.l},a)
 | .d ..=>({c with l:=CU c.l t.l},a)
 | .t d=>(if iS c.s t.s=0 then {c with s:=c.s.take d t.s} else c,a)
 | .k q=>({c with L:=(K.kD q B (t.L,t.led) (c.L,c.led,a)).1,led:=(K.kD q B (t.L,t.led) (c.L,c.led,a)).2.1},(K.kD q B (t.L,t.led) (c.L,c.led,a)).2.2)
def rQ(sp:i9)(c:Js):Int:=match sp with
 | .h ..=>tot c.l
 | .d ..=>tot c.l
 | .t _=>Go.Proofs.YtdicblkhpcphfaaGreat.tot (c.s.L++c.s.W)
 | .k _=>(K.wt c.L:Nat)
def km(sp:i9)(c:Js):List Int:=match sp with
 | .h lo hi dg u m gr=>hjB lo hi dg (i6 u m hi c.bk) gr c.l
 | .d a m=>GR a m (gV m c.l).1 (gV m c.l).2
 | .t d=>QV d c.s.L c.s.W c.s.lo c.s.hi
 | .k q=>K.wg q c.L c.led
def Qb{m:Nat}(y:100<=a)(x:a<=5000)(v:2<=m)(u:m<=4096):iO a m []:=
 ⟨y,x,v,u,List.Pairwise.nil,λp z=>by simp at z,λp z=>by simp at z,by simp[tot]⟩
def R_(z:10<=d)(y:d<=1000):tK d St.zero:=
 ⟨⟨(St.My d aa).more aa,aa,by simp[St.zero,Go.Proofs.YtdicblkhpcphfaaGreat.tot],aa,aa⟩,by simp[St.zero];omega,.inr rfl⟩
def R'(z:8<=q)(y:q<=4096):nt q [] 0:=⟨K.Fit.nil_ q,z,y,λ_=>rfl,λj x v=>by simp[K.lvl] at v⟩
def vB(h:oU sp):je sp sp.new:=by
 cases sp with
 | h lo hi dg u m gr=>exact Py h
 | d a m=>exact Qb h.1 h.2.1 h.2.2.1 h.2.2.2
 | t d=>exact R_ h.1 h.2
 | k q=>exact R' h.1 h.2
def NT(h:tK d s)(q:d<=300)(u:-9223372036854775808<=v)(t:v<=9223372036854775807)(x:0<n)(f:n<=281474976710656 - Go.Proofs.YtdicblkhpcphfaaGreat.tot (s.L++s.W)):tK d (s.add d v n):=by
 have g:=h.fit.d0;have y:=h.fit.ok.add (d:=(d:Int)) aa u t x
 have p:=St.Oh d s v n;have r:(ao (s.add d v n).L:Int)<=194 * d+99:=by
  show(ao (iU d s.L s.W (v,n)):Int)<=_
  unfold iU
  split
  ·rw[<-aO]
   refine FH (lo:=min s.lo v) (hi:=max s.hi v) ?_ ?_ aa ?_
   ·intro m z
    rcases cV.1 z with z|z
    ·exact h.fit.ok.ok m z
    ·simp only[ct] at z;subst z;exact⟨u,t,x⟩
   ·intro m z
    rcases cV.1 z with z|z
    ·have:=h.fit.ok.bd m z;omega
    ·simp only[ct] at z;subst z;show min s.lo v<=v/\v<=max s.hi v;omega
   ·rw[Go.Proofs.YtdicblkhpcphfaaGreat.gY];show _+(n+0)<=_;omega
  ·exact h.len
 have z:=y.wl;exact⟨⟨⟨y.ok,y.bd,y.wk,y.lo1,y.hi0,y.hi1,y.emp,aa,y.wl,y.rise⟩,aa,aa,h.fit.d0,h.fit.d1⟩,r,.inl q⟩
def Lr{t:St}(h:tK d s)(v:tK d t)(z:iS s t=0):tK d (s.take d t):=by
 have p:=h.fit.d0
 by_cases y:Go.Proofs.YtdicblkhpcphfaaGreat.tot (t.L++t.W)=0
 ·have:s.take d t=s:=by unfold St.take;rw[aH y]
  rw[this];exact h
 ·rcases v.big with u|e
  ·unfold iS at z
   split at z
   ·cases z
   ·obtain⟨f,r,x,q⟩:=h.fit.ok.take v.fit.ok aa y aa
    have g:=x.len;exact⟨⟨x.more aa,aa,aa,h.fit.d0,h.fit.d1⟩,aa,.inl u⟩
  ·exact absurd (by rw[e];rfl) y
def FI(x:K.AO L)(v:K.wt L=0):L=[]:=by
 rcases bh (ao L) with z|z
 ·exact aN z
 ·have u:=K.Dh L 1 (ao L - 1)
  have y:1<=ao (K.lvl L (ao L - 1)):=eL.2 (x z);have t:1<=2 ^ (ao L - 1):=Nat.one_le_two_pow;have s:1 * (2 ^ (ao L - 1) * 1)<=ao (K.lvl L (ao L - 1)) * (2 ^ (ao L - 1) * 1):=cd _ y;unfold K.wt at v;omega
def DO(h:∀j,K.kW (K.lvl L j)):∀x∈K.jJ L,-9223372036854775808<=x/\x<=9223372036854775807:=λx y=>by
 obtain⟨j,z⟩:=K.kO.1 y;exact h j x z
def NU{n:Nat}(h:nt q L led)(d:-9223372036854775808<=v)(c:v<=9223372036854775807)(f:n<18446744073709551616):nt q (K.nN q B v n (L,led,a)).1 (K.nN q B v n (L,led,a)).2.1:=by
 have r:=DO h.bd;have g:=h.q0;have p:=h.q1;refine⟨K.KY (s:=(L,led,a)) h.fit aa p,g,p,λz=>?_,K.kW.lvl λx y=>?_⟩
 ·have t:=K.Nz (k:=q) (n:=n) (B:=B) (v:=v) (s:=(L,led,a))
  rw[K.Lo z] at t
  by_cases u:K.oT L n=0
  ·have:=K.sH u
   rw[aH u] at t;simp only at t;omega
  ·unfold K.nN at z |-
   rw[aG u] at z |-;exact h.emp z
 ·unfold K.nN at y
  split at y
  ·rcases K.Bt _ _ _ _ _ (K.xT y) with z|z
   ·exact r x z
   ·omega
  ·exact r x y
def Ls{iD:Nat}{M:K.LL}(h:nt q L led)(z:nt q M iD):nt q (K.kD q B (M,iD) (L,led,a)).1 (K.kD q B (M,iD) (L,led,a)).2.1:=by
 have f:=DO h.bd;have c:=DO z.bd;have X:=h.q0;have d:=h.q1;refine⟨K.H8 (s:=(L,led,a)) (t:=(M,iD)) h.fit z.fit aa d,X,d,λy=>?_,K.kW.lvl λx v=>?_⟩
 ·have u:=K.KZ (k:=q) (B:=B) (s:=(L,led,a)) (t:=(M,iD))
  rw[K.Lo y] at u
  by_cases g:K.iS L M=0
  ·rw[aH g] at u;simp only at u
   have r:L=[]:=FI h.fit.ok.top (by show K.wt L=0;omega)
   have p:M=[]:=FI z.fit.ok.top (by show K.wt M=0;omega)
   have b:=h.emp (by rw[r];rfl)
   have Y:=z.emp (by rw[p];rfl)
   subst r;subst p;subst b;subst Y;rfl
  ·unfold K.kD at y |-
   rw[aG g] at y |-;exact h.emp y
 ·unfold K.kD at v
  split at v
  ·rcases K.xU M L (ao M) (K.xT v) with y|y
   ·exact f x y
   ·exact c x y
  ·exact f x v
def NV(h:je sp c)(p:sp.small)(x:-9223372036854775808<=v)(y:v<=9223372036854775807)(r:0<=n)(g:n<18446744073709551616):je sp (kl sp B v n c a).1:=by
 cases sp with
 | h lo hi dg u m gr=>exact PA h y r
 | d a m=>exact Pk h x y r
 | t d=>
  show tK d (if mW (.t d) c v n=0 then {c with s:=c.s.add d v n} else c:Js).s
  by_cases z:mW (.t d) c v n=0
  ·rw[aH z]
   simp only[mW] at z
   split at z
   ·cases z
   ·split at z
    ·cases z
    ·exact NT h p x y aa  aa
  ·rw[aG z];exact h
 | k q=>exact NU h x y aa
def FJ(h:je sp c)(z:je sp t):je sp (jK sp B t c a).1:=by
 cases sp with
 | h lo hi dg u m gr=>exact Na h z
 | d a m=>exact MT h z
 | t d=>
  show tK d (if iS c.s t.s=0 then {c with s:=c.s.take d t.s} else c:Js).s
  by_cases y:iS c.s t.s=0
  ·rw[aH y];exact Lr h z y
  ·rw[aG y];exact h
 | k q=>exact Ls h z
def NW(h:je sp c):0<=rQ sp c/\rQ sp c<=4611686018427387904:=by
 cases sp with
 | h lo hi dg u m gr=>exact⟨gP (iG.pos h),iG.sum h⟩
 | d a m=>exact⟨gP (iO.pos h),iO.sum h⟩
 | t d=>have:=(tK.fit h).t;have:=(tK.fit h).ok.i7;show 0<=Go.Proofs.YtdicblkhpcphfaaGreat.tot _/\_;simp only[rQ];omega
 | k q=>have:=(nt.fit h).ok.zp;simp only[rQ];omega
structure wF where
 kd:Int
 who:Bool
 v:Int
 n:Int
 B:List Int
instance:Inhabited wF:=⟨⟨0,false,0,0,[]⟩⟩
def wF.fits(o:wF):Prop:=0<=o.kd/\o.kd<=255/\-9223372036854775808<=o.v/\o.v<=9223372036854775807/\0<=o.n/\o.n<18446744073709551616/\∀x∈o.B,0<=x/\x<=255
def Bu{α:Type}(S:Nat->α)(i:Nat)(s:α):Nat->α:=λj=>if j=i then s else S j
def tL{S:Nat->α}{s:α}:Bu S i s i=s:=aH rfl
def tM{S:Nat->α}{j:Nat}{s:α}(h:j≠i):Bu S i s j=S j:=aG h
def NX(o:wF):Nat:=if o.who then 1 else 0
def vC(sp:i9)(o:wF)(s t:Js):Js:=
 if o.kd % 7=5 then(jK sp o.B t s 0).1
 else if o.kd % 7=6 then(jK sp o.B s s 0).1
 else(kl sp o.B o.v o.n s 0).1
def NY{o:wF}{s:Js}(z:sp.small)(y:o.fits)(h:je sp s)(k:je sp t):je sp (vC sp o s t):=by
 obtain⟨_,_,u,r,x,v,_⟩:=y;unfold vC
 split
 ·exact FJ h k
 ·split
  ·exact FJ h h
  ·exact NV h z u r x v
def NZ(sp:i9)(o:wF)(S:Nat->Js):Nat->Js:=Bu S (NX o) (vC sp o (S (NX o)) (S (1 - NX o)))
def vD(sp:i9)(l:List wF)(S:Nat->Js):Nat->Nat->Js
 | 0=>S
 | k+1=>NZ sp (l.getD k default) (vD sp l S k)
def Bv:∀l:List Int,cellsE K.Fm l=l.map (Value.int .u8)
 | []=>rfl
 | x::l=>by rw[ja,Bv l];rfl
def Qc{v:Value}{l:List Int}(h:jf .u8 w v l):iA K.Fm w v l:=by
 unfold iA;rw[Bv];exact h
structure Lt(o0:Nat)(w:World)(cv:Value)(B:List Int):Prop where
 rd:iA K.Fm w cv B
 own:∀k,B≠[]->cv.ownBlock=some k->k<o0
def Lt.keep{o0:Nat}{w':World}{cv:Value}(h:Lt o0 w cv B)(t:o0<=w.heap.size)(y:Below o0 w w'):Lt o0 w' cv B:=by
 refine⟨?_,h.own⟩
 by_cases z:B=[]
 ·subst z
  obtain⟨A,c,rfl,v,u,_⟩:=h.rd.form;exact iA.jj v u λx=>absurd x ad
 ·exact h.rd.stay (λk e=>y.block k (h.own k z e)) y.size
def xV(v:Value)(B:List Int)(w:World)(h:iA K.Fm w v B)(t:K.QK B) :
 ar Oe 20 #[v] w λe y=>∃g,e=.returned (.pointer (some ⟨g,0,none⟩))/\(∃H,jB (.pointer (some ⟨g,0,none⟩)) B 0 H y/\∀k,H k->w.heap.size<=k)/\aq w y:=by
 refine(K.KH v B w h t).mono ?_
 rintro e y ⟨g,r,u,rfl,s,q,z,x,p⟩;exact⟨g,rfl,⟨λk=>k=g\/k=r\/u.ownBlock=some k,.inr ⟨g,r,u,rfl,z,.inl rfl,.inr (.inl rfl),λk e=>.inr (.inr e),λk e=>e.elim (λe=>by rw[e];exact z.blk.lt) (λe=>e.elim (λe=>by rw[e];exact z.rd.blk.lt) (λe=>(x k e).2))⟩,λk e=>e.elim (λe=>by rw[e];exact s) (λe=>e.elim (λe=>by rw[e];exact q) (λe=>(x k e).1))⟩,p⟩
def vE{o:Nat}{v:Value}(h:iA K.Fm w v B)(u:K.QK B)(s:o<=w.heap.size)(y:∀k,B≠[]->v.ownBlock=some k->k<o) :
 iM o (.pointer (some ⟨w.heap.size,0,none⟩)) B 0 (λk=>k=w.heap.size) (w.alloc (.cells #[v,.int .i64 0] 57)):=by
 by_cases z:B=[]
 ·subst z
  obtain⟨A,c,rfl,t,x,_⟩:=h.form;exact⟨w.heap.size,.slice none 0 0,rfl,.inr ⟨rfl,rfl,rfl,A,c,x,gN.new w _ _⟩,rfl,λk e=>by simp[Value.ownBlock] at e,λk e=>by rw[show k=w.heap.size from e];simp⟩
 ·exact⟨w.heap.size,v,rfl,.inl ⟨gN.new w _ _,h.keep ((aC _ _).alloc (aD _) _),λe=>by have:=y _ z e;omega,bB _,u⟩,rfl,λk e=>.inl (y k z e),λk e=>by rw[show k=w.heap.size from e];simp⟩
section
open Go.ChangeShapes Go.WideShapes Go.Deep
variable {H : Type} {enc : TypeId × Value -> H} {w : World} {base : Nat} {held : Bool}
def Lu{cs:List Value}{x:DataW H × List MemPlace}{fuel:Nat}(h:DataW.trod enc prog w base (λ_=>true) held fuel 37 cs=some x) :
 ∃z B,cs=[z]/\Lt w.heap.size w z B/\∀y∈B,0<=y/\y<=255:=by
 rcases open_ints (k:=.u8) underlying37 underlying5 (by kernel_rfl) h with⟨s,_⟩|⟨q,z,p,t,s,_,a,Y,U,_,v,V⟩
 ·subst s
  exact⟨_,[],rfl,⟨iA.nil_ w,λk u=>absurd rfl u⟩,λy r=>by cases r⟩
 ·subst s
  simp only[if_true] at U;have f:ao (t.take z)=z:=by rw[aU];omega
  have X:jf .u8 w (.slice (some q) z p) (t.take z):=by
   unfold jf;rw[f];refine⟨by rw[dj,f];omega,some q,p,rfl,a,Y,λu=>?_⟩
   obtain⟨b,d,rfl,v⟩:=ints_at v aa
   refine⟨b,d,rfl,bV _ _ (v 0 aa),λj g=>?_⟩
   have g:=v j aa
   rw[add_plain] at g;rw[g];have c:j<ao t:=aa
   simp[aQ c,show j<z by omega,List.getD]
  refine⟨_,t.take z,rfl,⟨Qc X,λk u e=>?_⟩,λy r=>bounds_u8 (V y (cB r))⟩
  have g:0<z:=by
   rcases bh z with y|y
   ·exact absurd (by rw[y];rfl) u
   ·exact y
  obtain⟨b,d,rfl,v⟩:=ints_at v aa
  have:=bV _ _ (v 0 aa)
  rw[<-bC (show some b=some k from e)];exact this
end
end D
section
def sK{w:World}{v:Value}{l:List Int}(h:jf .u8 w v l):(convert 37 9 v).run prog w=.ok (.string (strOfNums l)) w:=by
 obtain⟨A,c,rfl,_,_,f⟩:=h.form
 cases A with
 | none=>
  have z:l=[]:=by
   rcases bh (ao l) with z|z
   ·exact aN z
   ·obtain⟨g,x,e,_⟩:=f z;cases e
  subst z;exact run_convert_bytes_nil w 37 5 underlying37 underlying5 _ _ _ underlying9
 | some a=>
  rcases bh (ao l) with z|z
  ·have u:l=[]:=aN z
   subst u;obtain⟨b,x,t⟩:=a
   cases t with
   | none=>exact run_convert_bytes_arg w 37 5 underlying37 underlying5 b x 0 c [] rfl (λi y=>absurd y aa) _ underlying9
   | some s=>rw[run_convert_bytes_string w 37 9 5 _ _ _ underlying37 underlying5 underlying9,run_bytesToString w _ _ c [] (by simp[loadCells,loadCellsFrom])];rfl
  ·obtain⟨g,x,u,_,t⟩:=f z
   cases u
   exact run_convert_bytes_arg w 37 5 underlying37 underlying5 g x (ao l) c l rfl (λi y=>by
    rw[t i y];simp[List.getD,aQ y]) _ underlying9
def kg.raw{l:List Mn}(h:kg l)(s:tot l<=18446744073709551615):OS l:=λm x=>by
 obtain⟨j,y,rfl⟩:=cE x;have z:=h _ (aX y);have v:=h.pL y;have u:=(h.mC j).1;have t:=z.2.2;exact⟨z.1,z.2.1,aa,aa⟩
end
namespace D
def vF{P C:Ft->World->Prop}(S:lY P){F H:Ft}{er:Int}{w w1 w':World}{e:Ending}(y:aq w w1)(x:∀k,F k->k<w.heap.size)(z:jC P C F H er w1 e w'):jC P C F H er w e w':=
 ⟨z.1,S.more z.2.1 (λ_ h=>h.imp id λh=>⟨bf y.size h.1,h.2⟩) (ke x (bf y.size z.2.2.2.size)),z.2.2.1,yE y z.2.2.2⟩
section
variable {sp : i9} {c t : Js} {x y a : Nat} {F Fy H : Ft} {cq : Value} {B : List Int}
def Qd(v n:Int)(w:World)(h:iX sp c x F w)(ok:je sp c)(S:jB cq B a H w)(hq:(∃q,sp=.k q)->cq≠.pointer none)(j:∀k,H k->¬F k)(O:-9223372036854775808<=v)(N:v<=9223372036854775807)(D:0<=n)(l:n<18446744073709551616) :
 ar Oe 64 #[.pointer (some ⟨x,0,none⟩),.int .i64 v,.int .u64 n,cq] w (jC (iX sp (kl sp B v n c a).1 x) (jB cq B (kl sp B v n c a).2) F H (mW sp c v n) w):=by
 obtain⟨p,G,T,Y,W,i,A,o⟩:=h;have R:∀k,H k->¬G k:=λk E r=>j k E (A k r)
 have V:∀L M J e z,jC (ql sp L p) (jB cq B M) G H J w e z->jC (iX sp L x) (jB cq B M) F H J w e z:=λL M J e z y=>by
  obtain⟨E,r⟩:=yV T W i A o y.2.1 y.2.2.2 j;exact⟨y.1,E,y.2.2.1,r⟩
 have low:=(iR sp c p).low Y
 cases sp with
 | h lo hi dg u m gr=>
  refine(GW (Q:=λg z=>jC (iX (.h lo hi dg u m gr) (kl (.h lo hi dg u m gr) B v n c a).1 x) (jB cq B (kl (.h lo hi dg u m gr) B v n c a).2) F H (mW (.h lo hi dg u m gr) c v n) w (.returned g) z) T ?_).mono ?_
  ·refine(G7 v n w Y ok O N D l).mono ?_
   rintro e z ⟨rfl,r,f⟩;exact⟨_,rfl,V _ _ _ _ _ (ng ⟨rfl,r,f⟩ (S.far f R))⟩
  ·rintro e z ⟨g,rfl,y⟩;exact y
 | d ac m=>
  refine(GX (Q:=λg z=>jC (iX (.d ac m) (kl (.d ac m) B v n c a).1 x) (jB cq B (kl (.d ac m) B v n c a).2) F H (mW (.d ac m) c v n) w (.returned g) z) T ?_).mono ?_
  ·refine(Po v n w Y ok O N D l).mono ?_
   rintro e z ⟨rfl,r,f⟩;exact⟨_,rfl,V _ _ _ _ _ (ng ⟨rfl,r,f⟩ (S.far f R))⟩
  ·rintro e z ⟨g,rfl,y⟩;exact y
 | t d=>
  have I:=tK.fit ok;have hd1:=I.d1;refine(GY (Q:=λg z=>jC (iX (.t d) (kl (.t d) B v n c a).1 x) (jB cq B (kl (.t d) B v n c a).2) F H (mW (.t d) c v n) w (.returned g) z) T ?_).mono ?_
  ·by_cases P:n=0\/281474976710656 - Go.Proofs.YtdicblkhpcphfaaGreat.tot (c.s.L++c.s.W)<n
   ·refine(MI v n w Y I aa O N D aa P).mono ?_
    rintro e z ⟨rfl,s⟩;have X:mW (.t d) c v n=if n=0 then 4 else 6:=by
     simp only[mW]
     by_cases b:n=0
     ·rw[aH b,aH b]
     ·rw[aG b,aG b,aH (P.resolve_left b)]
    have K:kl (.t d) B v n c a=(c,a):=by
     simp only[kl];rw[aG (by rw[X];split<;>decide)]
    rw[X,K];exact⟨_,rfl,V c a _ _ _ (jU (iR (.t d) c p) Y rfl s (S.keep s))⟩
   ·have b:¬n=0:=λe=>P (.inl e)
    have C:¬281474976710656 - Go.Proofs.YtdicblkhpcphfaaGreat.tot (c.s.L++c.s.W)<n:=λe=>P (.inr e)
    refine(Jy v n w Y I aa O N aa  aa).mono ?_
    rintro e z ⟨rfl,F',r,f,U⟩;have X:mW (.t d) c v n=0:=by simp only[mW];rw[aG b,aG C]
    have K:kl (.t d) B v n c a=({c with s:=c.s.add d v n},a):=by simp only[kl];rw[aH X]
    rw[X,K];refine⟨_,rfl,V _ _ _ _ _ ⟨rfl,?_,S.far U R,U.mono λ_ h=>.inl h⟩⟩
    exact(iR (.t d) {c with s:=c.s.add d v n} p).gr (F':=F') f r low U.size
  ·rintro e z ⟨g,rfl,y⟩;exact y
 | k q=>
  refine(xq (Q:=λg z=>jC (iX (.k q) (kl (.k q) B v n c a).1 x) (jB cq B (kl (.k q) B v n c a).2) F H (mW (.k q) c v n) w (.returned g) z) T ?_).mono ?_
  ·have s:((n.toNat:Nat):Int)=n:=aa
   have C:=R9 v n.toNat Y (nt.fit ok) S (hq ⟨q,rfl⟩) R (nt.q0 ok) (nt.q1 ok) aa
   rw[s] at C;refine C.mono ?_
   rintro e z y;obtain⟨rfl,r,f,U⟩:=y;exact⟨_,rfl,V _ _ _ _ _ ⟨rfl,r,f,U⟩⟩
  ·rintro e z ⟨g,rfl,y⟩;exact y
def Bw(w:World)(h:iX sp c x F w)(ok:je sp c):ar Oe 18 #[.pointer (some ⟨x,0,none⟩)] w λe z=>e=.returned (.int .u64 (rQ sp c))/\w=z:=by
 obtain⟨p,G,v,s,f,a,b,g⟩:=h
 cases sp with
 | h lo hi dg u m gr=>
  refine(Au (Q:=λy z=>y=.int .u64 (rQ (.h lo hi dg u m gr) c)/\w=z) v ?_).mono ?_
  ·refine(Kd w s).mono ?_
   rintro e z ⟨rfl,rfl⟩;exact⟨_,rfl,rfl,rfl⟩
  ·rintro e z ⟨y,rfl,rfl,rfl⟩;exact⟨rfl,rfl⟩
 | d ac m=>
  refine(Aw (Q:=λy z=>y=.int .u64 (rQ (.d ac m) c)/\w=z) v ?_).mono ?_
  ·refine(Am w s ok).mono ?_
   rintro e z ⟨rfl,rfl⟩;exact⟨_,rfl,rfl,rfl⟩
  ·rintro e z ⟨y,rfl,rfl,rfl⟩;exact⟨rfl,rfl⟩
 | t d=>
  refine(Ax (Q:=λy z=>y=.int .u64 (rQ (.t d) c)/\w=z) v ?_).mono ?_
  ·refine(total_any w s).mono ?_
   rintro e z ⟨rfl,rfl⟩;exact⟨_,rfl,rfl,rfl⟩
  ·rintro e z ⟨y,rfl,rfl,rfl⟩;exact⟨rfl,rfl⟩
 | k q=>
  obtain⟨Y,X,r⟩:=s;refine(Ay (Q:=λy z=>y=.int .u64 (rQ (.k q) c)/\w=z) v ?_).mono ?_
  ·refine(K.total_any w r).mono ?_
   rintro e z ⟨rfl,rfl⟩;exact⟨_,rfl,rfl,rfl⟩
  ·rintro e z ⟨y,rfl,rfl,rfl⟩;exact⟨rfl,rfl⟩
def rR(w:World)(h:iX sp c x F w)(ok:je sp c):ar Oe 54 #[.pointer (some ⟨x,0,none⟩)] w λe z=>∃v,e=.returned v/\OwnB w.heap.size z v (km sp c)/\aq w z:=by
 obtain⟨p,G,v,s,g,b,f,r⟩:=h
 cases sp with
 | h lo hi dg u m gr=>
  refine C5 (Q:=λy z=>OwnB w.heap.size z y (km (.h lo hi dg u m gr) c)/\aq w z) v ?_
  exact A6 w v s ok
 | d ac m=>
  refine C6 (Q:=λy z=>OwnB w.heap.size z y (km (.d ac m) c)/\aq w z) v ?_
  exact CW w s ok
 | t d=>
  refine C7 (Q:=λy z=>OwnB w.heap.size z y (km (.t d) c)/\aq w z) v ?_
  exact Cz p G d c.s _ w s (tK.fit ok)
 | k q=>
  refine C8 (Q:=λy z=>OwnB w.heap.size z y (km (.k q) c)/\aq w z) v ?_
  obtain⟨Y,X,y⟩:=s;exact K.vz w y ((nt.fit ok).pk (a:=0)) (nt.bd ok) (by have:=nt.q1 ok;omega)
def FK(w:World)(h:iX sp c x F w)(ok:je sp c):ar Oe 53 #[.pointer (some ⟨x,0,none⟩)] w λe g=>e=.returned sp.v/\aq w g:=by
 obtain⟨p,G,s,v,b,Y,a,f⟩:=h
 cases sp with
 | h lo hi dg u m gr=>exact qN s (λy z=>mP y ((iR (.h lo hi dg u m gr) c p).keep v z)) (λy z=>rF y ((iR (.h lo hi dg u m gr) c p).keep v z))
 | d ac m=>exact qM s (λy z=>sr y ((iR (.d ac m) c p).keep v z)) (λy z=>pY y ((iR (.d ac m) c p).keep v z))
 | t d=>exact qK s (λy z=>mh y ((iR (.t d) c p).keep v z))
 | k q=>exact qL s (λy z=>by
  obtain⟨X,V,r⟩:=(iR (.k q) c p).keep v z;exact K.size_any y r)
def xW{p p2:Nat}{G G2:Ft}(w:World)(P:gN w x 124 (sp.five p))(u:ql sp c p G w)(hFx:F x)(Sa:¬G x)(l:∀k,G k->F k)(hF:∀k,F k->k<w.heap.size)
 (M:gN w y 124 (sp.five p2)) (s:ql sp t p2 G2 w) (n:(p2=p/\G2=G/\t=c)\/∀k,G k->¬G2 k) (ok:je sp c) (J:je sp t) (d:jB cq B a H w) (hq:∀q,sp=.k q->cq=.pointer none->K.iY q (K.jS c.L t.L)=none) (o:∀k,H k->¬F k) :
 ar Oe 45 #[.pointer (some ⟨x,0,none⟩),.pointer (some ⟨y,0,none⟩),cq] w (jC (iX sp (jK sp B t c a).1 x) (jB cq B (jK sp B t c a).2) F H (qm sp c t) w):=by
 have L:∀k,H k->¬G k:=λk T f=>o k T (l k f)
 have W:=(iR sp c p).low u;have S:∀N I D z e r,aq w z->jC (ql sp N p) (jB cq B I) G H D z e r->jC (iX sp N x) (jB cq B I) F H D w e r:=λN I D z e r v g=>by
  have g:=vF (iR sp N p) v W g;obtain⟨T,f⟩:=yV P hFx Sa l hF g.2.1 g.2.2.2 o;exact⟨g.1,T,g.2.2.1,f⟩
 have b:∀z,aq w z->ql sp c p G z:=λz v=>(iR sp c p).keep u v
 have X:∀z,aq w z->ql sp t p2 G2 z:=λz v=>(iR sp t p2).keep s v
 have O:∀z,aq w z->jB cq B a H z:=λz v=>d.keep v
 clear u s d
 cases sp with
 | h lo hi dg u m gr=>
  refine(C' (Q:=λV r=>jC (iX (.h lo hi dg u m gr) (jK (.h lo hi dg u m gr) B t c a).1 x) (jB cq B (jK (.h lo hi dg u m gr) B t c a).2) F H (qm (.h lo hi dg u m gr) c t) w (.returned V) r) P M (λz v=>mP z (b z v)) (λz v=>rF z (b z v)) (λz v=>mP z (X z v)) (λz v=>rF z (X z v)) (λz v=>?_)).mono ?_
  ·refine(Kx z (b z v) (X z v) ok J).mono ?_
   rintro e r ⟨rfl,f,Y⟩;exact⟨_,rfl,S _ _ _ z _ _ v (ng ⟨rfl,f,Y⟩ ((O z v).far Y L))⟩
  ·rintro e r ⟨V,rfl,g⟩;exact g
 | d ac m=>
  refine(Da (Q:=λV r=>jC (iX (.d ac m) (jK (.d ac m) B t c a).1 x) (jB cq B (jK (.d ac m) B t c a).2) F H (qm (.d ac m) c t) w (.returned V) r) P M (λz v=>sr z (b z v)) (λz v=>pY z (b z v)) (λz v=>sr z (X z v)) (λz v=>pY z (X z v)) (λz v=>?_)).mono ?_
  ·refine(MU z (b z v) (X z v) ok J ?_).mono ?_
   ·rcases n with⟨T,_,_⟩|T
    ·exact .inr T
    ·exact .inl λk f Y=>T k Y f
   rintro e r ⟨rfl,f,Y⟩;exact⟨_,rfl,S _ _ _ z _ _ v (ng ⟨rfl,f,Y⟩ ((O z v).far Y L))⟩
  ·rintro e r ⟨V,rfl,g⟩;exact g
 | t d=>
  have C:=tK.fit ok;have A:=tK.fit J;have hd1:=C.d1;have hxy':(p2=p/\G2=G/\t.s=c.s)\/∀k,G k->¬G2 k:=n.imp (λh=>⟨h.1,h.2.1,by rw[h.2.2]⟩) id
  refine(C9 (Q:=λV r=>jC (iX (.t d) (jK (.t d) B t c a).1 x) (jB cq B (jK (.t d) B t c a).2) F H (qm (.t d) c t) w (.returned V) r) P M (λz v=>mh z (b z v)) (λz v=>mh z (X z v)) (λz v=>?_)).mono ?_
  ·by_cases U:281474976710656 - Go.Proofs.YtdicblkhpcphfaaGreat.tot (c.s.L++c.s.W)<Go.Proofs.YtdicblkhpcphfaaGreat.tot (t.s.L++t.s.W)\/Go.Proofs.YtdicblkhpcphfaaGreat.tot (t.s.L++t.s.W)=0
   ·refine(NS z (b z v) (X z v) C A U).mono ?_
    rintro e r ⟨rfl,R⟩;have E:jK (.t d) B t c a=(c,a):=by
     simp only[jK]
     by_cases s:iS c.s t.s=0
     ·rw[aH s]
      have j:Go.Proofs.YtdicblkhpcphfaaGreat.tot (t.s.L++t.s.W)=0:=by
       rcases U with U|U
       ·unfold iS at s;rw[aH U] at s;cases s
       ·exact U
      have:c.s.take d t.s=c.s:=by unfold St.take;rw[aH j]
      rw[this]
     ·rw[aG s]
    rw[E];exact⟨_,rfl,S c a _ z _ _ v (jU (iR (.t d) c p) (b z v) rfl R ((O z v).keep R))⟩
   ·have h0:¬Go.Proofs.YtdicblkhpcphfaaGreat.tot (t.s.L++t.s.W)=0:=λe=>U (.inr e)
    have h6:¬281474976710656 - Go.Proofs.YtdicblkhpcphfaaGreat.tot (c.s.L++c.s.W)<Go.Proofs.YtdicblkhpcphfaaGreat.tot (t.s.L++t.s.W):=λe=>U (.inl e)
    have hnn:=A.ok.i7;refine(vm z (b z v) (X z v) hxy' C A aa  aa  aa).mono ?_
    rintro e r ⟨rfl,F',f,Y,R⟩;have j:iS c.s t.s=0:=by unfold iS;rw[aG h6]
    have E:jK (.t d) B t c a=({c with s:=c.s.take d t.s},a):=by simp only[jK];rw[aH j]
    have i:qm (.t d) c t=0:=j;rw[E,i];refine⟨_,rfl,S _ _ _ z _ _ v ⟨rfl,?_,(O z v).far R L,R.mono λ_ h=>.inl h⟩⟩
    exact(iR (.t d) {c with s:=c.s.take d t.s} p).gr (F':=F') Y f (λk hk=>aR (W k hk) v.size) R.size
  ·rintro e r ⟨V,rfl,g⟩;exact g
 | k q=>
  refine(C_ (Q:=λV r=>jC (iX (.k q) (jK (.k q) B t c a).1 x) (jB cq B (jK (.k q) B t c a).2) F H (qm (.k q) c t) w (.returned V) r) P M (λz v=>by
   obtain⟨U,E,s⟩:=b z v;exact K.size_any z s) (λz v=>by
   obtain⟨U,E,s⟩:=X z v;exact K.size_any z s) (λz v=>?_)).mono ?_
  ·refine(Qa (b z v) (nt.fit ok) (X z v) (nt.fit J) (O z v) (hq q rfl) L (nt.q0 ok) (nt.q1 ok)).mono ?_
   rintro e r g;obtain⟨rfl,f,Y,R⟩:=g;exact⟨_,rfl,S _ _ _ z _ _ v ⟨rfl,f,Y,R⟩⟩
  ·rintro e r ⟨V,rfl,g⟩;exact g
def FM(w:World)(h:iX sp c x F w)(z:iX sp t y Fy w)(r:(y=x/\t=c)\/∀k,F k->¬Fy k)(ok:je sp c)(X:je sp t)(d:jB cq B a H w)(Y:∀q,sp=.k q->cq=.pointer none->K.iY q (K.jS c.L t.L)=none)(b:∀k,H k->¬F k) :
 ar Oe 45 #[.pointer (some ⟨x,0,none⟩),.pointer (some ⟨y,0,none⟩),cq] w (jC (iX sp (jK sp B t c a).1 x) (jB cq B (jK sp B t c a).2) F H (qm sp c t) w):=by
 obtain⟨p,G,v,s,g,f,u,q⟩:=h
 rcases r with⟨rfl,rfl⟩|r
 ·exact xW w v s g f u q v s (.inl ⟨rfl,rfl,rfl⟩) ok X d Y b
 ·obtain⟨N,R,U,S,P,O,T,Q⟩:=z
  exact xW w v s g f u q U S (.inr λk V z=>r k (u k V) (T k z)) ok X d Y b
end
section
variable {y : Nat} {p1 p2 p3 p4 : Value} {w : World} {Q : Value -> World -> Prop} {lo hi dg ac sz : Int} {gr : Bool}
variable{a c n:Value}
def DP(u:gN w y 106 #[.int .u8 1,.int .i64 lo,.int .i64 hi,.int .i64 dg,.bool gr,.int .i64 ac,.int .i64 sz,p1,p2,p3,p4])(h:ar Oe 91 #[p1,a,n] w λe z=>∃v,e=.returned v/\Q v z) :
 ar Oe 37 #[.pointer (some ⟨y,0,none⟩),a,n,c] w λe z=>∃v,e=.returned v/\Q v z:=by
 have C:=ay h;have x:=ay u;clear h u;have s:=x.o.k0;have r:=x.o.k7
 go_in
 go_wp2_with fail;refine(C.o).mono ?_
 rintro e q ⟨v,rfl,u⟩;have t:=ay u;clear u
 go_wp2
 go_ret;exact⟨_,rfl,t.o⟩
def DQ(u:gN w y 106 #[.int .u8 2,.int .i64 lo,.int .i64 hi,.int .i64 dg,.bool gr,.int .i64 ac,.int .i64 sz,p1,p2,p3,p4])(h:ar Oe 92 #[p2,a,n] w λe z=>∃v,e=.returned v/\Q v z) :
 ar Oe 37 #[.pointer (some ⟨y,0,none⟩),a,n,c] w λe z=>∃v,e=.returned v/\Q v z:=by
 have C:=ay h;have x:=ay u;clear h u;have s:=x.o.k0;have r:=x.o.k8
 go_in
 go_wp2_with fail;refine(C.o).mono ?_
 rintro e q ⟨v,rfl,u⟩;have t:=ay u;clear u
 go_wp2
 go_ret;exact⟨_,rfl,t.o⟩
def DR(u:gN w y 106 #[.int .u8 3,.int .i64 lo,.int .i64 hi,.int .i64 dg,.bool gr,.int .i64 ac,.int .i64 sz,p1,p2,p3,p4])(h:ar Oe 93 #[p3,a,n] w λe z=>∃v,e=.returned v/\Q v z) :
 ar Oe 37 #[.pointer (some ⟨y,0,none⟩),a,n,c] w λe z=>∃v,e=.returned v/\Q v z:=by
 have C:=ay h;have x:=ay u;clear h u;have s:=x.o.k0;have r:=x.o.k9
 go_in
 go_wp2_with fail;refine(C.o).mono ?_
 rintro e q ⟨v,rfl,u⟩;have t:=ay u;clear u
 go_wp2
 go_ret;exact⟨_,rfl,t.o⟩
def DS(u:gN w y 106 #[.int .u8 4,.int .i64 lo,.int .i64 hi,.int .i64 dg,.bool gr,.int .i64 ac,.int .i64 sz,p1,p2,p3,p4])(h:ar Oe 94 #[p4,a,n,c] w λe z=>∃v,e=.returned v/\Q v z) :
 ar Oe 37 #[.pointer (some ⟨y,0,none⟩),a,n,c] w λe z=>∃v,e=.returned v/\Q v z:=by
 have C:=ay h;have x:=ay u;clear h u;have s:=x.o.k0;have r:=x.o.k10
 go_in
 go_wp2_with fail;refine(C.o).mono ?_
 rintro e q ⟨v,rfl,u⟩;have t:=ay u;clear u
 go_wp2
 go_ret;exact⟨_,rfl,t.o⟩
end
section
variable {x y : Nat} {p1 p2 p3 p4 q1 q2 q3 q4 : Value} {w : World} {Q : Value -> World -> Prop} {lo hi dg ac sz : Int} {gr : Bool}
variable{c:Value}
def Bx(u:gN w y 106 #[.int .u8 1,.int .i64 lo,.int .i64 hi,.int .i64 dg,.bool gr,.int .i64 ac,.int .i64 sz,p1,p2,p3,p4])(z:gN w x 106 #[.int .u8 1,.int .i64 lo,.int .i64 hi,.int .i64 dg,.bool gr,.int .i64 ac,.int .i64 sz,q1,q2,q3,q4])(h:∀P,aq w P->ar Oe 49 #[p1,q1] P λe t=>∃v,e=.returned v/\Q v t) :
 ar Oe 16 #[.pointer (some ⟨y,0,none⟩),.pointer (some ⟨x,0,none⟩),c] w λe t=>∃v,e=.returned v/\Q v t:=by
 have C:=ay h;have s:=u.cell 0;have p:=u.cell 1;have g:=u.cell 2;have f:=u.k3;have d:=u.k4;have b:=u.k5;have a:=u.k6;have r:=u.k7;have Y:=z.k0;have X:=z.k1;have V:=z.k2;have U:=z.k3;have T:=z.k4;have S:=z.k5;have R:=z.k6;have q:=z.k7;simp only[aA,az,aB] at s p g;clear h u z;have u:=ay (aF r q);clear r q;have O:aq w w.drew:=(aC _ _).drew;have N:aq w w.drew.drew:=O.drew
 go_in
 go_upto_region 1 with fail;refine i' (λt=>t=w.drew) (gW 0 9 []) (rfl) ?_
 iterate 9 refine hC (h:=λt z=>by subst z;have s:w.drew.cell? ⟨y,0,none⟩=_:=s;have p:w.drew.cell? ⟨y,1,none⟩=_:=p;have g:w.drew.cell? ⟨y,2,none⟩=_:=g;have f:w.drew.cell? ⟨y,3,none⟩=_:=f;have d:w.drew.cell? ⟨y,4,none⟩=_:=d;have b:w.drew.cell? ⟨y,5,none⟩=_:=b;have a:w.drew.cell? ⟨y,6,none⟩=_:=a;have Y:w.drew.cell? ⟨x,0,none⟩=_:=Y;have X:w.drew.cell? ⟨x,1,none⟩=_:=X;have V:w.drew.cell? ⟨x,2,none⟩=_:=V;have U:w.drew.cell? ⟨x,3,none⟩=_:=U;have T:w.drew.cell? ⟨x,4,none⟩=_:=T;have S:w.drew.cell? ⟨x,5,none⟩=_:=S;have R:w.drew.cell? ⟨x,6,none⟩=_:=R;exact Qv) ?_
 refine gM ?_
 have s:w.drew.cell? ⟨y,0,none⟩=_:=s
 go_upto_region 5 with fail;refine ki (λt=>t=w.drew.drew) 8 (gW 0 8 []) (rfl) ?_
 iterate 8 refine jw (h:=λt z=>by have r:w.drew.drew.cell? ⟨y,7,none⟩=some p1:=u.o.1;have q:w.drew.drew.cell? ⟨x,7,none⟩=some q1:=u.o.2;subst z;exact Qv) ?_
 refine gU ?_
 simp only[bc,bp]
 go_wp2_with fail;refine(C.o w.drew.drew N).mono ?_
 rintro e P ⟨v,rfl,z⟩;have M:=ay z;clear z
 go_wp2_with fail;try refine gQ ?_
 go_wp2
 go_ret;exact⟨_,rfl,M.o⟩
def By(u:gN w y 106 #[.int .u8 2,.int .i64 lo,.int .i64 hi,.int .i64 dg,.bool gr,.int .i64 ac,.int .i64 sz,p1,p2,p3,p4])(z:gN w x 106 #[.int .u8 2,.int .i64 lo,.int .i64 hi,.int .i64 dg,.bool gr,.int .i64 ac,.int .i64 sz,q1,q2,q3,q4])(h:∀P,aq w P->ar Oe 50 #[p2,q2] P λe t=>∃v,e=.returned v/\Q v t) :
 ar Oe 16 #[.pointer (some ⟨y,0,none⟩),.pointer (some ⟨x,0,none⟩),c] w λe t=>∃v,e=.returned v/\Q v t:=by
 have C:=ay h;have s:=u.cell 0;have p:=u.cell 1;have g:=u.cell 2;have f:=u.k3;have d:=u.k4;have b:=u.k5;have a:=u.k6;have r:=u.k8;have Y:=z.k0;have X:=z.k1;have V:=z.k2;have U:=z.k3;have T:=z.k4;have S:=z.k5;have R:=z.k6;have q:=z.k8;simp only[aA,az,aB] at s p g;clear h u z;have u:=ay (aF r q);clear r q;have O:aq w w.drew:=(aC _ _).drew;have N:aq w w.drew.drew:=O.drew
 go_in
 go_upto_region 1 with fail;refine i' (λt=>t=w.drew) (gW 0 9 []) (rfl) ?_
 iterate 9 refine hC (h:=λt z=>by subst z;have s:w.drew.cell? ⟨y,0,none⟩=_:=s;have p:w.drew.cell? ⟨y,1,none⟩=_:=p;have g:w.drew.cell? ⟨y,2,none⟩=_:=g;have f:w.drew.cell? ⟨y,3,none⟩=_:=f;have d:w.drew.cell? ⟨y,4,none⟩=_:=d;have b:w.drew.cell? ⟨y,5,none⟩=_:=b;have a:w.drew.cell? ⟨y,6,none⟩=_:=a;have Y:w.drew.cell? ⟨x,0,none⟩=_:=Y;have X:w.drew.cell? ⟨x,1,none⟩=_:=X;have V:w.drew.cell? ⟨x,2,none⟩=_:=V;have U:w.drew.cell? ⟨x,3,none⟩=_:=U;have T:w.drew.cell? ⟨x,4,none⟩=_:=T;have S:w.drew.cell? ⟨x,5,none⟩=_:=S;have R:w.drew.cell? ⟨x,6,none⟩=_:=R;exact Qv) ?_
 refine gM ?_
 have s:w.drew.cell? ⟨y,0,none⟩=_:=s
 go_upto_region 7 with fail;refine ki (λt=>t=w.drew.drew) 8 (gW 0 8 []) (rfl) ?_
 iterate 8 refine jw (h:=λt z=>by have r:w.drew.drew.cell? ⟨y,8,none⟩=some p2:=u.o.1;have q:w.drew.drew.cell? ⟨x,8,none⟩=some q2:=u.o.2;subst z;exact Qv) ?_
 refine gU ?_
 simp only[bc,bp]
 go_wp2_with fail;refine(C.o w.drew.drew N).mono ?_
 rintro e P ⟨v,rfl,z⟩;have M:=ay z;clear z
 go_wp2_with fail;try refine gQ ?_
 go_wp2
 go_ret;exact⟨_,rfl,M.o⟩
def Bz(u:gN w y 106 #[.int .u8 3,.int .i64 lo,.int .i64 hi,.int .i64 dg,.bool gr,.int .i64 ac,.int .i64 sz,p1,p2,p3,p4])(z:gN w x 106 #[.int .u8 3,.int .i64 lo,.int .i64 hi,.int .i64 dg,.bool gr,.int .i64 ac,.int .i64 sz,q1,q2,q3,q4])(h:∀P,aq w P->ar Oe 51 #[p3,q3] P λe t=>∃v,e=.returned v/\Q v t) :
 ar Oe 16 #[.pointer (some ⟨y,0,none⟩),.pointer (some ⟨x,0,none⟩),c] w λe t=>∃v,e=.returned v/\Q v t:=by
 have C:=ay h;have s:=u.cell 0;have p:=u.cell 1;have g:=u.cell 2;have f:=u.k3;have d:=u.k4;have b:=u.k5;have a:=u.k6;have r:=u.k9;have Y:=z.k0;have X:=z.k1;have V:=z.k2;have U:=z.k3;have T:=z.k4;have S:=z.k5;have R:=z.k6;have q:=z.k9;simp only[aA,az,aB] at s p g;clear h u z;have u:=ay (aF r q);clear r q;have O:aq w w.drew:=(aC _ _).drew;have N:aq w w.drew.drew:=O.drew
 go_in
 go_upto_region 1 with fail;refine i' (λt=>t=w.drew) (gW 0 9 []) (rfl) ?_
 iterate 9 refine hC (h:=λt z=>by subst z;have s:w.drew.cell? ⟨y,0,none⟩=_:=s;have p:w.drew.cell? ⟨y,1,none⟩=_:=p;have g:w.drew.cell? ⟨y,2,none⟩=_:=g;have f:w.drew.cell? ⟨y,3,none⟩=_:=f;have d:w.drew.cell? ⟨y,4,none⟩=_:=d;have b:w.drew.cell? ⟨y,5,none⟩=_:=b;have a:w.drew.cell? ⟨y,6,none⟩=_:=a;have Y:w.drew.cell? ⟨x,0,none⟩=_:=Y;have X:w.drew.cell? ⟨x,1,none⟩=_:=X;have V:w.drew.cell? ⟨x,2,none⟩=_:=V;have U:w.drew.cell? ⟨x,3,none⟩=_:=U;have T:w.drew.cell? ⟨x,4,none⟩=_:=T;have S:w.drew.cell? ⟨x,5,none⟩=_:=S;have R:w.drew.cell? ⟨x,6,none⟩=_:=R;exact Qv) ?_
 refine gM ?_
 have s:w.drew.cell? ⟨y,0,none⟩=_:=s
 go_upto_region 9 with fail;refine ki (λt=>t=w.drew.drew) 8 (gW 0 8 []) (rfl) ?_
 iterate 8 refine jw (h:=λt z=>by have r:w.drew.drew.cell? ⟨y,9,none⟩=some p3:=u.o.1;have q:w.drew.drew.cell? ⟨x,9,none⟩=some q3:=u.o.2;subst z;exact Qv) ?_
 refine gU ?_
 simp only[bc,bp]
 go_wp2_with fail;refine(C.o w.drew.drew N).mono ?_
 rintro e P ⟨v,rfl,z⟩;have M:=ay z;clear z
 go_wp2_with fail;try refine gQ ?_
 go_wp2
 go_ret;exact⟨_,rfl,M.o⟩
def BA(u:gN w y 106 #[.int .u8 4,.int .i64 lo,.int .i64 hi,.int .i64 dg,.bool gr,.int .i64 ac,.int .i64 sz,p1,p2,p3,p4])(z:gN w x 106 #[.int .u8 4,.int .i64 lo,.int .i64 hi,.int .i64 dg,.bool gr,.int .i64 ac,.int .i64 sz,q1,q2,q3,q4])(h:∀P,aq w P->ar Oe 52 #[p4,q4,c] P λe t=>∃v,e=.returned v/\Q v t) :
 ar Oe 16 #[.pointer (some ⟨y,0,none⟩),.pointer (some ⟨x,0,none⟩),c] w λe t=>∃v,e=.returned v/\Q v t:=by
 have C:=ay h;have s:=u.cell 0;have p:=u.cell 1;have g:=u.cell 2;have f:=u.k3;have d:=u.k4;have b:=u.k5;have a:=u.k6;have r:=u.k10;have Y:=z.k0;have X:=z.k1;have V:=z.k2;have U:=z.k3;have T:=z.k4;have S:=z.k5;have R:=z.k6;have q:=z.k10;simp only[aA,az,aB] at s p g;clear h u z;have u:=ay (aF r q);clear r q;have O:aq w w.drew:=(aC _ _).drew;have N:aq w w.drew.drew:=O.drew
 go_in
 go_upto_region 1 with fail;refine i' (λt=>t=w.drew) (gW 0 9 []) (rfl) ?_
 iterate 9 refine hC (h:=λt z=>by subst z;have s:w.drew.cell? ⟨y,0,none⟩=_:=s;have p:w.drew.cell? ⟨y,1,none⟩=_:=p;have g:w.drew.cell? ⟨y,2,none⟩=_:=g;have f:w.drew.cell? ⟨y,3,none⟩=_:=f;have d:w.drew.cell? ⟨y,4,none⟩=_:=d;have b:w.drew.cell? ⟨y,5,none⟩=_:=b;have a:w.drew.cell? ⟨y,6,none⟩=_:=a;have Y:w.drew.cell? ⟨x,0,none⟩=_:=Y;have X:w.drew.cell? ⟨x,1,none⟩=_:=X;have V:w.drew.cell? ⟨x,2,none⟩=_:=V;have U:w.drew.cell? ⟨x,3,none⟩=_:=U;have T:w.drew.cell? ⟨x,4,none⟩=_:=T;have S:w.drew.cell? ⟨x,5,none⟩=_:=S;have R:w.drew.cell? ⟨x,6,none⟩=_:=R;exact Qv) ?_
 refine gM ?_
 have s:w.drew.cell? ⟨y,0,none⟩=_:=s
 go_upto_region 10 with fail;refine ki (λt=>t=w.drew.drew) 9 (gW 0 9 []) (rfl) ?_
 iterate 9 refine jw (h:=λt z=>by have r:w.drew.drew.cell? ⟨y,10,none⟩=some p4:=u.o.1;have q:w.drew.drew.cell? ⟨x,10,none⟩=some q4:=u.o.2;subst z;exact Qv) ?_
 refine gU ?_
 simp only[bc,bp]
 go_wp2_with fail;refine(C.o w.drew.drew N).mono ?_
 rintro e P ⟨v,rfl,z⟩;have M:=ay z;clear z
 go_wp2_with fail;try refine gQ ?_
 go_wp2
 go_ret;exact⟨_,rfl,M.o⟩
end
end D
end Go.Proofs.YtdicblkhpcphfaaGreat
