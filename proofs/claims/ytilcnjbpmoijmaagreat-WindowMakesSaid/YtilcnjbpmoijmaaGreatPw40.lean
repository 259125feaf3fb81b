/- Parts of a proof. No condition. -/
import Derived.Test.YtilcnjbpmoijmaaGreatPw39
import Derived.Deep.SlicePairs
set_option maxRecDepth 100000
set_option maxHeartbeats 16000000
set_option linter.unusedVariables false
set_option linter.unusedSimpArgs false
namespace Go.Proofs.YtilcnjbpmoijmaaGreat
open Tryz
section
open Go.RowKit Go.Lib
theorem St.Ok.take{d:Int}{s t:St}{k kt:Nat}(h:s.Ok d k)(ht:t.Ok d kt)(hd:0<d)(hz:tot (t.L++t.W)≠0)(hs:tot (s.L++s.W)+tot (t.L++t.W)<=281474976710656) :
 ∃k':Nat,(k':Int)<=194 * d+99/\(s.take d t).Ok d k'/\tot ((s.take d t).L++(s.take d t).W)=tot (s.L++s.W)+tot (t.L++t.W):=by
 have hT:s.take d t=⟨EH d (s.L++(s.W++(t.L++t.W))),[],if tot (s.L++s.W)=0 then t.lo else min s.lo t.lo,if tot (s.L++s.W)=0 then t.hi else max s.hi t.hi⟩:=by
  unfold St.take;rw[if_neg hz]
 have hlo:(if tot (s.L++s.W)=0 then t.lo else min s.lo t.lo)<=t.lo/\(tot (s.L++s.W)≠0->(if tot (s.L++s.W)=0 then t.lo else min s.lo t.lo)<=s.lo)/\-9223372036854775808<=(if tot (s.L++s.W)=0 then t.lo else min s.lo t.lo)/\(if tot (s.L++s.W)=0 then t.lo else min s.lo t.lo)<=9223372036854775807:=by
  have:=h.Y6;have:=ht.Y6;have:=ht.lo1
  split<;>refine⟨by omega,ae,ae,ae⟩
 have hhi:t.hi<=(if tot (s.L++s.W)=0 then t.hi else max s.hi t.hi)/\(tot (s.L++s.W)≠0->s.hi<=(if tot (s.L++s.W)=0 then t.hi else max s.hi t.hi))/\(if tot (s.L++s.W)=0 then t.hi else max s.hi t.hi)<=9223372036854775807/\-9223372036854775808<=(if tot (s.L++s.W)=0 then t.hi else max s.hi t.hi):=by
  have:=h.hi1;have:=ht.hi1;have:=ht.hi0
  split<;>refine⟨by omega,ae,ae,ae⟩
 have hall:mi (s.L++(s.W++(t.L++t.W))):=by
  rw[<-aX];exact h.ok.append ht.ok
 have hne:s.L++(s.W++(t.L++t.W))≠[]:=by
  rw[<-aX];intro e;have:=List.append_eq_nil_iff.1 e;rw[this.2] at hz;exact hz rfl
 have hbd:∀m∈s.L++(s.W++(t.L++t.W)),(if tot (s.L++s.W)=0 then t.lo else min s.lo t.lo)<=m.1/\m.1<=(if tot (s.L++s.W)=0 then t.hi else max s.hi t.hi):=by
  intro m hm;rw[<-aX] at hm
  rcases dB.1 hm with h1|h1
  ·have h2:=h.bd m h1
   have h3:tot (s.L++s.W)≠0:=fun e=>by rw[h.J6.1 e] at h1;cases h1
   have:=hlo.2.1 h3;have:=hhi.2.1 h3;omega
  ·have h2:=ht.bd m h1
   omega
 have htot:tot (s.L++(s.W++(t.L++t.W)))=tot (s.L++s.W)+tot (t.L++t.W):=by rw[<-aX,eH]
 have hlen:=VL hall hbd (by omega:1<=d) ae
 have hp:=EJ d _ _ hall hbd;refine⟨(EH d (s.L++(s.W++(t.L++t.W)))).length,hlen,?_,?_⟩
 ·rw[hT]
  exact⟨by simpa using hp.1,by simpa using hp.2.2,hlo.2.2.1,hlo.2.2.2,hhi.2.2.2,hhi.2.2.1,fun e=>absurd (by simpa using e) (UE d hne),ag,by simpa using hd,hp.2.1⟩
 ·rw[hT]
  simp[Eb,htot]
end
open Tryz
open Go.RowKit
end Go.Proofs.YtilcnjbpmoijmaaGreat
namespace Go.Proofs.YtilcnjbpmoijmaaGreat.K
open Tryz
open Go.RowKit
open Tryz
open Go.RowKit
open Tryz
open Go.RowKit
open Tryz
open Go.RowKit
open Tryz
open Go.RowKit
open Tryz
open Go.RowKit
open Tryz
open Go.RowKit
variable{L:LL}{x:Int}{h:Nat}
theorem Yy{K led:Nat}(h:Fit K L led)(h8:8<=K)(hk:K<=4096)(he:L.length=0->led=0):iw K L led:=
 ⟨by omega,ae,h.ok.TV,h.ok.led,he,h.ok.top,fun j hj=>by rw[di];exact⟨yl h.none j hj,h.ok.iU j⟩,h.ok.wtL⟩
theorem ah1(h:L.length=0):wt L=0:=by rw[bz h];rfl
open Tryz
theorem lZ:x∈vO L<->∃h,x∈lvl L h:=by
 unfold vO;rw[List.mem_flatten];constructor
 ·rintro ⟨l,hl,hx⟩
  obtain⟨h,hh,rfl⟩:=List.getElem_of_mem hl;exact⟨h,by rw[nZ hh];exact hx⟩
 ·rintro ⟨h,hx⟩
  rcases bV h L.length with hh|hh
  ·exact⟨L[h],bf hh,by rw[<-nZ hh];exact hx⟩
  ·rw[ry hh] at hx;cases hx
theorem LV{vs:List Int}(hx:x∈vO (vJ L h vs)):x∈vO L\/x∈vs:=by
 obtain⟨j,hj⟩:=lZ.1 hx;rw[wS] at hj
 split at hj
 ·rcases ac4.1 hj with h1|h1
  ·exact .inl (lZ.2 ⟨_,h1⟩)
  ·exact .inr h1
 ·exact .inl (lZ.2 ⟨_,hj⟩)
theorem ah2{y:Nat}(hh:h<L.length)(hy:y<=1)(hx:x∈vO (mM L h y)):x∈vO L:=by
 unfold mM at hx
 rcases LV hx with h1|h1
 ·obtain⟨j,hj⟩:=lZ.1 h1
  rw[oK _ _ _ _ hh] at hj
  split at hj
  ·exact lZ.2 ⟨h,List.mem_of_mem_drop hj⟩
  ·exact lZ.2 ⟨j,hj⟩
 ·unfold upV at h1
  obtain⟨i,hi,rfl⟩:=List.mem_map.1 h1;have hi':=List.mem_range.1 hi;have hlt:2 * i+y<(lvl L h).length:=ae
  rw[List.getD,a_ hlt,Option.getD_some];exact lZ.2 ⟨h,bf hlt⟩
theorem JK{k:Nat}{B:List Int}{s:KS}(hx:x∈vO (jo k B s).1):x∈vO s.1:=by
 have:=yt (k:=k) (B:=B) (P:=fun t=>∀x∈vO t.1,x∈vO s.1) (fun t h hs e=>fun x hx=>hs x (ah2 (kR e).1 (Bj B t.2.2) hx)) (s:=s) (fun x hx=>hx)
 exact this x hx
theorem PR:∀(f h m:Nat) (L:LL) (v:Int) {x:Int},x∈vO (GU f h m L v)->x∈vO L\/x=v
 | 0,_,_,_,_,x,hx=>.inl hx
 | f+1,h,m,L,v,x,hx=>by
  rw[GU] at hx
  split at hx
  ·exact .inl hx
  ·rcases PR f _ _ _ v hx with h1|h1
   ·split at h1
    ·rcases LV h1 with h2|h2
     ·exact .inl h2
     ·exact .inr (by simpa using h2)
    ·exact .inl h1
   ·exact .inr h1
theorem JL(M L:LL):∀j {x:Int},x∈vO (takeN M j L)->x∈vO L\/x∈vO M
 | 0,_,hx=>.inl hx
 | j+1,x,hx=>by
  rw[takeN] at hx
  rcases LV hx with h1|h1
  ·exact JL M L j h1
  ·exact .inr (lZ.2 ⟨j,h1⟩)
end Go.Proofs.YtilcnjbpmoijmaaGreat.K
namespace Go.Proofs.YtilcnjbpmoijmaaGreat.D
open Tryz
open Go.RowKit Go.Lib Go.Shelf
variable{a base d g i j led n q:Nat}{sp:fG}{s:St}{v:Int}{t:TypeId}{L:List Js}{B:List Int}{c:Js}{w:World}{ps:List Nat}{Ow:Nat->Ft}{F:Ft}
structure IC(d:Nat)(s:St):Prop where
 fit:Fit d s (195 * d+99)
 len:(s.L.length:Int)<=194 * d+99
 big:d<=300\/s=St.zero
structure yH(q:Nat)(L:K.LL)(led:Nat):Prop where
 fit:K.Fit q L led
 q0:8<=q
 q1:q<=4096
 emp:L.length=0->led=0
 bd:∀j,K.mF (K.lvl L j)
def jG:fG->Prop
 | .h lo hi dg u m _=>nY lo hi dg u m
 | .d a m=>100<=a/\a<=5000/\2<=m/\m<=4096
 | .t d=>10<=d/\d<=1000
 | .k q=>8<=q/\q<=4096
def fG.small:fG->Prop
 | .t e=>e<=300
 | _=>True
def iT(sp:fG)(c:Js):Prop:=match sp with
 | .h lo hi dg u m gr=>je lo hi dg u m gr c.bk c.l
 | .d a m=>kJ a m c.l
 | .t d=>IC d c.s
 | .k q=>yH q c.L c.led
def fG.new:fG->Js
 | .h _ hi _ u m _=>⟨1+iP u m hi,[],St.zero,[],0⟩
 | _=>⟨0,[],St.zero,[],0⟩
def PS(sp:fG)(c:Js)(v n:Int):Int:=match sp with
 | .h _ _ _ u m gr=>hsE u m gr c.bk c.l v n
 | .d a _=>ddE a c.l v n
 | .t _=>if n=0 then 4 else if 281474976710656 - Go.Proofs.YtilcnjbpmoijmaaGreat.tot (c.s.L++c.s.W)<n then 6 else 0
 | .k _=>K.Yb c.L n.toNat
def Hw(sp:fG)(B:List Int)(v n:Int)(c:Js)(a:Nat):Js × Nat:=match sp with
 | .h _ _ _ u m gr=>({c with bk:=hsB u m gr c.bk c.l v n,l:=hsL u m gr c.bk c.l v n},a)
 | .d ac _=>({c with l:=ddS ac c.l v n},a)
 | .t d=>(if PS (.t d) c v n=0 then {c with s:=c.s.add d v n} else c,a)
 | .k q=>({c with L:=(K.D7 q B v n.toNat (c.L,c.led,a)).1,led:=(K.D7 q B v n.toNat (c.L,c.led,a)).2.1},(K.D7 q B v n.toNat (c.L,c.led,a)).2.2)
def D8(sp:fG)(c t:Js):Int:=match sp with
 | .h ..=>Xu c.l t.l
 | .d ..=>jm c.l t.l
 | .t _=>iJ c.s t.s
 | .k _=>K.iJ c.L t.L
def oO(sp:fG)(B:List Int)(t c:Js)(a:Nat):Js × Nat:=match sp with
 | .h ..=>({c with bk:=htB c.l t.l c.bk t.bk,l:=htL c.l t.l},a)
 | .d ..=>({c with l:=ZY c.l t.l},a)
 | .t d=>(if iJ c.s t.s=0 then {c with s:=c.s.take d t.s} else c,a)
 | .k q=>({c with L:=(K.jR q B (t.L,t.led) (c.L,c.led,a)).1,led:=(K.jR q B (t.L,t.led) (c.L,c.led,a)).2.1},(K.jR q B (t.L,t.led) (c.L,c.led,a)).2.2)
def vT(sp:fG)(c:Js):Int:=match sp with
 | .h ..=>tot c.l
 | .d ..=>tot c.l
 | .t _=>Go.Proofs.YtilcnjbpmoijmaaGreat.tot (c.s.L++c.s.W)
 | .k _=>(K.wt c.L:Nat)
def vU(sp:fG)(c:Js):List Int:=match sp with
 | .h lo hi dg u m gr=>hjB lo hi dg (eY u m hi c.bk) gr c.l
 | .d a m=>pR a m (dY m c.l).1 (dY m c.l).2
 | .t d=>IY d c.s.L c.s.W c.s.lo c.s.hi
 | .k q=>K.Ii q c.L c.led
theorem bi0{m:Nat}(h0:100<=a)(h1:a<=5000)(h2:2<=m)(h3:m<=4096):kJ a m []:=
 ⟨h0,h1,h2,h3,List.Pairwise.nil,fun p hp=>by simp at hp,fun p hp=>by simp at hp,by simp[tot]⟩
theorem br8(h0:10<=d)(h1:d<=1000):IC d St.zero:=
 ⟨⟨(St.UF d ae).more ae,ae,by simp[St.zero,Go.Proofs.YtilcnjbpmoijmaaGreat.tot],ae,ae⟩,by simp[St.zero];omega,.inr rfl⟩
theorem br9(h0:8<=q)(h1:q<=4096):yH q [] 0:=⟨K.Fit.nil_ q,h0,h1,fun _=>rfl,fun j x hx=>by simp[K.lvl] at hx⟩
theorem tN(h:jG sp):iT sp sp.new:=by
 cases sp with
 | h lo hi dg u m gr=>exact bb8 h
 | d a m=>exact bi0 h.1 h.2.1 h.2.2.1 h.2.2.2
 | t d=>exact br8 h.1 h.2
 | k q=>exact br9 h.1 h.2
theorem at6{n:Int}(h:IC d s)(hd:d<=300)(v0:-9223372036854775808<=v)(v1:v<=9223372036854775807)(n0:0<n)(n1:n<=281474976710656 - Go.Proofs.YtilcnjbpmoijmaaGreat.tot (s.L++s.W)):IC d (s.add d v n):=by
 have hd0:=h.fit.d0;have hA:=h.fit.ok.add (d:=(d:Int)) ae v0 v1 n0
 have hT:=St.bj9 d s v n;have hL:((s.add d v n).L.length:Int)<=194 * d+99:=by
  show((nT d s.L s.W (v,n)).length:Int)<=_
  unfold nT
  split
  ·rw[<-aX]
   refine VL (lo:=min s.lo v) (hi:=max s.hi v) ?_ ?_ ae ?_
   ·intro m hm
    rcases dB.1 hm with hm|hm
    ·exact h.fit.ok.ok m hm
    ·simp only[List.mem_singleton] at hm;subst hm;exact⟨v0,v1,n0⟩
   ·intro m hm
    rcases dB.1 hm with hm|hm
    ·have:=h.fit.ok.bd m hm;omega
    ·simp only[List.mem_singleton] at hm;subst hm;show min s.lo v<=v/\v<=max s.hi v;omega
   ·rw[Go.Proofs.YtilcnjbpmoijmaaGreat.eH];show _+(n+0)<=_;omega
  ·exact h.len
 have hW:=hA.wl;exact⟨⟨⟨hA.ok,hA.bd,hA.Y6,hA.lo1,hA.hi0,hA.hi1,hA.emp,ae,hA.wl,hA.rise⟩,ae,ae,h.fit.d0,h.fit.d1⟩,hL,.inl hd⟩
theorem ah3{t:St}(h:IC d s)(ht:IC d t)(he:iJ s t=0):IC d (s.take d t):=by
 have hd0:=h.fit.d0
 by_cases hz:Go.Proofs.YtilcnjbpmoijmaaGreat.tot (t.L++t.W)=0
 ·have:s.take d t=s:=by unfold St.take;rw[if_pos hz]
  rw[this];exact h
 ·rcases ht.big with hd|e
  ·unfold iJ at he
   split at he
   ·cases he
   ·obtain⟨k',h1,h2,h3⟩:=h.fit.ok.take ht.fit.ok ae hz ae
    have hW:=h2.wl;have hl:=h2.len;exact⟨⟨h2.more ae,ae,ae,h.fit.d0,h.fit.d1⟩,ae,.inl hd⟩
  ·exact absurd (by rw[e];rfl) hz
theorem VM{L:K.LL}(ht:K.QD L)(hw:K.wt L=0):L=[]:=by
 rcases bQ L.length with h0|h0
 ·exact bz h0
 ·have h1:=K.SQ L 1 (L.length - 1)
  have h2:1<=(K.lvl L (L.length - 1)).length:=List.length_pos_iff.2 (ht h0);have h4:1<=2 ^ (L.length - 1):=Nat.one_le_two_pow;have h5:1 * (2 ^ (L.length - 1) * 1)<=(K.lvl L (L.length - 1)).length * (2 ^ (L.length - 1) * 1):=Nat.mul_le_mul_right _ h2;unfold K.wt at hw;omega
theorem Uc{L:K.LL}(h:∀j,K.mF (K.lvl L j)):∀x∈K.vO L,-9223372036854775808<=x/\x<=9223372036854775807:=fun x hx=>by
 obtain⟨j,hj⟩:=K.lZ.1 hx;exact h j x hj
theorem at7{L:K.LL}(h:yH q L led)(v0:-9223372036854775808<=v)(v1:v<=9223372036854775807)(hn:n<18446744073709551616):yH q (K.D7 q B v n (L,led,a)).1 (K.D7 q B v n (L,led,a)).2.1:=by
 have hb:=Uc h.bd;have q0:=h.q0;have q1:=h.q1;refine⟨K.af4 (s:=(L,led,a)) h.fit ae q1,q0,q1,fun he=>?_,K.mF.lvl fun x hx=>?_⟩
 ·have hw:=K.ar2 (k:=q) (n:=n) (B:=B) (v:=v) (s:=(L,led,a))
  rw[K.ah1 he] at hw
  by_cases h0:K.Yb L n=0
  ·have:=K.BJ h0
   rw[if_pos h0] at hw;simp only at hw;omega
  ·unfold K.D7 at he |-
   rw[if_neg h0] at he |-;exact h.emp he
 ·unfold K.D7 at hx
  split at hx
  ·rcases K.PR _ _ _ _ _ (K.JK hx) with h1|h1
   ·exact hb x h1
   ·omega
  ·exact hb x hx
theorem ah4{iR:Nat}{L M:K.LL}(h:yH q L led)(h2:yH q M iR):yH q (K.jR q B (M,iR) (L,led,a)).1 (K.jR q B (M,iR) (L,led,a)).2.1:=by
 have hb:=Uc h.bd;have hb2:=Uc h2.bd;have q0:=h.q0;have q1:=h.q1;refine⟨K.Yc (s:=(L,led,a)) (t:=(M,iR)) h.fit h2.fit ae q1,q0,q1,fun he=>?_,K.mF.lvl fun x hx=>?_⟩
 ·have hw:=K.af5 (k:=q) (B:=B) (s:=(L,led,a)) (t:=(M,iR))
  rw[K.ah1 he] at hw
  by_cases h0:K.iJ L M=0
  ·rw[if_pos h0] at hw;simp only at hw
   have e1:L=[]:=VM h.fit.ok.top (by show K.wt L=0;omega)
   have e2:M=[]:=VM h2.fit.ok.top (by show K.wt M=0;omega)
   have l1:=h.emp (by rw[e1];rfl)
   have l2:=h2.emp (by rw[e2];rfl)
   subst e1;subst e2;subst l1;subst l2;rfl
  ·unfold K.jR at he |-
   rw[if_neg h0] at he |-;exact h.emp he
 ·unfold K.jR at hx
  split at hx
  ·rcases K.JL M L M.length (K.JK hx) with h1|h1
   ·exact hb x h1
   ·exact hb2 x h1
  ·exact hb x hx
theorem au0{n:Int}(h:iT sp c)(hs:sp.small)(v0:-9223372036854775808<=v)(v1:v<=9223372036854775807)(n0:0<=n)(n1:n<18446744073709551616):iT sp (Hw sp B v n c a).1:=by
 cases sp with
 | h lo hi dg u m gr=>exact bc4 h v1 n0
 | d a m=>exact ba4 h v0 v1 n0
 | t d=>
  show IC d (if PS (.t d) c v n=0 then {c with s:=c.s.add d v n} else c:Js).s
  by_cases he:PS (.t d) c v n=0
  ·rw[if_pos he]
   simp only[PS] at he
   split at he
   ·cases he
   ·split at he
    ·cases he
    ·exact at6 h hs v0 v1 ae  ae
  ·rw[if_neg he];exact h
 | k q=>exact at7 h v0 v1 ae
theorem au1{t:Js}(h:iT sp c)(ht:iT sp t):iT sp (oO sp B t c a).1:=by
 cases sp with
 | h lo hi dg u m gr=>exact ap3 h ht
 | d a m=>exact ao2 h ht
 | t d=>
  show IC d (if iJ c.s t.s=0 then {c with s:=c.s.take d t.s} else c:Js).s
  by_cases he:iJ c.s t.s=0
  ·rw[if_pos he];exact ah3 h ht he
  ·rw[if_neg he];exact h
 | k q=>exact ah4 h ht
theorem LW(h:iT sp c):0<=vT sp c/\vT sp c<=4611686018427387904:=by
 cases sp with
 | h lo hi dg u m gr=>exact⟨dN (je.pos h),je.sum h⟩
 | d a m=>exact⟨dN (kJ.pos h),kJ.sum h⟩
 | t d=>have:=(IC.fit h).t;have:=(IC.fit h).ok.qR;show 0<=Go.Proofs.YtilcnjbpmoijmaaGreat.tot _/\_;simp only[vT];omega
 | k q=>have:=(yH.fit h).ok.wtL;simp only[vT];omega
open Tryz
open Go.RowKit Go.Lib Go.Shelf
structure Wn where
 L:List Js
 now:Nat
structure rQ(sp:fG)(n:Nat)(s:Wn):Prop where
 len:s.L.length=n
 each:∀c∈s.L,iT sp c
 now:s.now<=9223372036854775807
def kV(sp:fG)(n:Nat):Wn:=⟨List.replicate n sp.new,0⟩
def Hy(sp:fG)(L:List Js):List Js:=sp.new::L.dropLast
def zO(sp:fG)(L:List Js):Nat->List Js
 | 0=>L
 | k+1=>Hy sp (zO sp L k)
def tkA(k:Nat)(s:Wn):Nat:=min k (9223372036854775807 - s.now)
def xG(sp:fG)(k:Nat)(s:Wn):Wn:=⟨zO sp s.L (min (tkA k s) s.L.length),s.now+tkA k s⟩
def uH(sp:fG)(L:List Js):Nat->Int
 | 0=>0
 | k+1=>IntKind.u64.wrap (uH sp L k+vT sp (L.getD k sp.new))
def oP(sp:fG)(s:Wn)(last:Int):Int:=if (s.L.length:Int)<last then 0 else uH sp s.L last.toNat
def Hz(sp:fG)(B:List Int)(late:Nat)(oL:List Js):Nat->List Js->Nat->List Js × Nat × Int
 | 0,L,a=>(L,a,0)
 | k+1,L,a=>if L.length<=late+k then Hz sp B late oL k L a
  else if D8 sp (L.getD (k+late) sp.new) (oL.getD k sp.new)=0 then Hz sp B late oL k (L.set (k+late) (oO sp B (oL.getD k sp.new) (L.getD (k+late) sp.new) a).1) (oO sp B (oL.getD k sp.new) (L.getD (k+late) sp.new) a).2
  else(L,(oO sp B (oL.getD k sp.new) (L.getD (k+late) sp.new) a).2,D8 sp (L.getD (k+late) sp.new) (oL.getD k sp.new))
def MV(sp:fG)(o s:Wn):Wn:=if s.now<o.now then xG sp (o.now - s.now) s else s
def D9(sp:fG)(B:List Int)(o s:Wn)(a:Nat):List Js × Nat × Int:=Hz sp B ((MV sp o s).now - o.now) o.L o.L.length (MV sp o s).L a
def IE(sp:fG)(B:List Int)(o s:Wn)(a:Nat):Int:=(D9 sp B o s a).2.2
def PU(sp:fG)(B:List Int)(o s:Wn)(a:Nat):Wn:=if IE sp B o s a=0 then⟨(D9 sp B o s a).1,(MV sp o s).now⟩ else s
def PV(sp:fG)(s:Wn)(v n:Int):Int:=PS sp (s.L.getD 0 sp.new) v n
def JM(sp:fG)(B:List Int)(v n:Int)(s:Wn)(a:Nat):Wn:={s with L:=s.L.set 0 (Hw sp B v n (s.L.getD 0 sp.new) a).1}
theorem LX(h:0<L.length):(Hy sp L).length=L.length:=by
 unfold Hy;rw[aU,List.length_dropLast];omega
theorem zQ{sp:fG}{L:List Js}(h:0<L.length):∀k,(zO sp L k).length=L.length
 | 0=>rfl
 | k+1=>by
  have:=zQ h k (sp:=sp);rw[zO,LX ae,this]
theorem ah5(hs:jG sp)(h:∀c∈L,iT sp c):∀c∈Hy sp L,iT sp c:=fun c hc=>by
 unfold Hy at hc
 rcases bn.1 hc with rfl|hc
 ·exact tN hs
 ·exact h c ((List.dropLast_sublist L).subset hc)
theorem PW{sp:fG}{L:List Js}(hs:jG sp)(h:∀c∈L,iT sp c):∀k,∀c∈zO sp L k,iT sp c
 | 0=>h
 | k+1=>ah5 hs (PW hs h k)
theorem PX{k:Nat}{s:Wn}(hs:jG sp)(h:rQ sp n s)(h0:0<n):rQ sp n (xG sp k s):=by
 have h1:=h.len;have h2:=h.now;refine⟨(zQ ae _).trans h1,PW hs h.each _,?_⟩
 show s.now+tkA k s<=_
 unfold tkA;omega
theorem LY(hs:jG sp):rQ sp n (kV sp n):=
 ⟨b_,fun c hc=>by rw[List.eq_of_mem_replicate hc];exact tN hs,by show 0<=_;omega⟩
theorem rQ.at_{s:Wn}(h:rQ sp n s)(hi:i<s.L.length):iT sp (s.L.getD i sp.new):=by
 rw[bD,a_ hi,Option.getD_some];exact h.each _ (bf hi)
theorem ah6(h:∀c∈L,iT sp c)(hc:iT sp c):∀x∈L.set i c,iT sp x:=fun x hx=>by
 rcases List.mem_or_eq_of_mem_set hx with hx|rfl
 ·exact h x hx
 ·exact hc
theorem ah7{s:Wn}{m:Int}(h:rQ sp n s)(h0:0<n)(hs:sp.small)(v0:-9223372036854775808<=v)(v1:v<=9223372036854775807)(n0:0<=m)(n1:m<18446744073709551616):rQ sp n (JM sp B v m s a):=
 ⟨by show(s.L.set _ _).length=n;rw[bK];exact h.len,ah6 h.each (au0 (h.at_ (by have:=h.len;omega)) hs v0 v1 n0 n1),h.now⟩
theorem bi1{o s:Wn}(hs:jG sp)(h:rQ sp n s)(h0:0<n):rQ sp n (MV sp o s):=by
 unfold MV
 split
 ·exact PX hs h h0
 ·exact h
theorem au2{o s:Wn}(ho:rQ sp n o):o.now<=(MV sp o s).now:=by
 have:=ho.now;unfold MV
 split
 ·show o.now<=s.now+tkA _ s;unfold tkA;omega
 ·omega
theorem bs0(sp:fG):sp.new.L=[]:=by cases sp<;>rfl
theorem JO{sp:fG}{L:List Js}(h:∀c∈L,c.L=[]):∀k,∀c∈zO sp L k,c.L=[]
 | 0=>h
 | k+1=>fun c hc=>by
  unfold zO Hy at hc
  rcases bn.1 hc with rfl|hc
  ·exact bs0 sp
  ·exact JO h k c ((List.dropLast_sublist _).subset hc)
theorem au3{o s:Wn}(h:∀c∈s.L,c.L=[]):∀c∈(MV sp o s).L,c.L=[]:=by
 unfold MV
 split
 ·exact JO h _
 ·exact h
theorem au4{t:Js}(hc:c.L=[])(ht:t.L=[]):(oO (.k q) B t c a).1.L=[]:=by
 show(K.jR q B (t.L,t.led) (c.L,c.led,a)).1=[]
 rw[hc,ht];rfl
open Tryz
open Go.RowKit Go.Lib Go.Shelf
def Ud(t:TypeId):DN Nat where
 k:=1
 t:=t
 enc p:=[ji p]
 len _:=rfl
 one p u hu:=by
  simp only[bn,List.not_mem_nil,or_false] at hu;subst hu;rfl
theorem VN{c:Nat}(h:dL (Ud t) base w (.slice (some ⟨g,0,none⟩) n c) ps)(hj:j<ps.length):w.cell? ⟨g,j,none⟩=some (ji ps[j]):=by
 have:=h.cellAt hj 0 (by show 0<1;omega)
 rwa [show j * (Ud t).k+0=j by show j * 1+0=j;omega] at this
theorem bi2{c:Nat}(h:dL (Ud t) base w (.slice (some ⟨g,0,none⟩) n c) ps)(hj:j<ps.length)(y:Nat):dL (Ud t) base (w.setCell ⟨g,j,none⟩ (ji y)) (.slice (some ⟨g,0,none⟩) n c) (ps.set j y):=by
 have:=h.dQ j hj y
 rwa [show j * (Ud t).k=j by show j * 1=j;omega] at this
def BO(Ow:Nat->Ft)(i:Nat)(F:Ft):Nat->Ft:=fun j k=>if j=i then F k else Ow j k
theorem iy:BO Ow i F i=F:=by funext k;unfold BO;rw[if_pos rfl]
theorem gI(h:j≠i):BO Ow i F j=Ow j:=by funext k;unfold BO;rw[if_neg h]
structure RingAt(t:TypeId)(P:Js->Nat->Ft->World->Prop)(C:List Js)(v:Value)(ps:List Nat)(Ow:Nat->Ft)(G:Ft)(w:World):Prop where
 row:dL (Ud t) 0 w v ps
 len:ps.length=C.length
 each:∀i (h:i<C.length),P C[i] (ps.getD i 0) (Ow i) w
 apart:∀i j k,Ow i k->Ow j k->i=j
 l9:∀k,v.ownBlock=some k->G k/\∀i,¬Ow i k
 Ij:∀i k,Ow i k->G k
 low:∀k,G k->k<w.heap.size
section
variable {t : TypeId} {P : Js -> Nat -> Ft -> World -> Prop} {C : List Js} {v : Value} {ps : List Nat} {Ow : Nat -> Ft} {G H : Ft} {w w' w0 : World}
variable{i y:Nat}{c':Js}{Fy:Ft}
theorem RingAt.stay(hP:∀c p,jV (P c p))(h:RingAt t P C v ps Ow G w)(hk:∀k,G k->w'.heap[k]?=w.heap[k]?)(hz:w.heap.size<=w'.heap.size):RingAt t P C v ps Ow G w':=
 ⟨h.row.stay fun k e=>hk k (h.l9 k e).1,h.len,fun i hi=>(hP _ _).stay (h.each i hi) (fun k e=>hk k (h.Ij i k e)) hz,h.apart,h.l9,h.Ij,fun k e=>bF (h.low k e) hz⟩
theorem RingAt.keep(hP:∀c p,jV (P c p))(h:RingAt t P C v ps Ow G w)(hb:Below w.heap.size w w'):RingAt t P C v ps Ow G w':=h.stay hP (fun k hk=>hb.block k (h.low k hk)) hb.size
theorem RingAt.far(hP:∀c p,jV (P c p))(h:RingAt t P C v ps Ow G w)(ht:Touch H w w')(hd:∀k,G k->¬H k):RingAt t P C v ps Ow G w':=h.stay hP (fun k hk=>ht.block k (h.low k hk) (hd k hk)) ht.size
theorem RingAt.pos(h:RingAt t P C v ps Ow G w)(h0:0<C.length):∃g c,v=.slice (some ⟨g,0,none⟩) C.length c/\g<w.heap.size/\C.length<=c/\c<=9223372036854775807/\G g/\(∀i,¬Ow i g)/\∀j,j<C.length->w.cell? ⟨g,j,none⟩=some (ji (ps.getD j 0)):=by
 obtain⟨g,c,rfl,_,h2,h3,h4⟩:=h.row.pos (by have:=h.len;omega)
 have hr:=h.l9 g rfl;have hl:=h.len;refine⟨g,c,by rw[hl],h2,ae,h4,hr.1,hr.2,fun j hj=>?_⟩
 rw[bD,a_ ae,Option.getD_some]
 exact VN h.row ae
theorem RingAt.turn(hP:∀c p,jV (P c p))(h:RingAt t P C v ps Ow G w)(hi:i<C.length)(hn:P c' (ps.getD i 0) (Gr (Ow i) w w') w')(ht:Touch (fun k=>Ow i k\/H k) w w')(hd:∀k,H k->¬G k) :
 RingAt t P (C.set i c') v ps (BO Ow i (Gr (Ow i) w w')) (Gr G w w') w':=by
 have old:∀j k,Ow j k->j≠i->w'.heap[k]?=w.heap[k]?:=fun j k hj hne=>ht.block k (h.low k (h.Ij j k hj)) (fun e=>e.elim (fun e=>hne (h.apart j i k hj e)) (fun e=>hd k e (h.Ij j k hj)))
 refine⟨h.row.stay fun k e=>ht.block k (h.low k (h.l9 k e).1) (fun e2=>e2.elim ((h.l9 k e).2 i) (fun e2=>hd k e2 (h.l9 k e).1)),by rw[bK];exact h.len,fun j hj=>?_,fun a b k ha hb=>?_,fun k e=>⟨.inl (h.l9 k e).1,fun j hj=>?_⟩,fun j k hj=>?_,jU h.low ht.size⟩
 ·have hj':j<C.length:=by rw[bK] at hj;exact hj
  by_cases e:j=i
  ·subst e
   rw[iy,List.getElem_set_self];exact hn
  ·rw[gI e,List.getElem_set_ne ae]
   exact(hP _ _).stay (h.each j hj') (fun k hk=>old j k hk e) ht.size
 ·by_cases ea:a=i
  ·by_cases eb:b=i
   ·omega
   ·rw[ea,iy] at ha;rw[gI eb] at hb
    rcases ha with ha|ha
    ·exact absurd (h.apart _ _ k ha hb) ae
    ·have:=h.low k (h.Ij b k hb);omega
  ·rw[gI ea] at ha
   by_cases eb:b=i
   ·rw[eb,iy] at hb
    rcases hb with hb|hb
    ·exact absurd (h.apart _ _ k ha hb) ae
    ·have:=h.low k (h.Ij a k ha);omega
   ·rw[gI eb] at hb
    exact h.apart a b k ha hb
 ·by_cases ej:j=i
  ·rw[ej,iy] at hj
   rcases hj with hj|hj
   ·exact(h.l9 k e).2 i hj
   ·have:=h.low k (h.l9 k e).1;omega
  ·rw[gI ej] at hj
   exact(h.l9 k e).2 j hj
 ·by_cases ej:j=i
  ·rw[ej,iy] at hj
   exact hj.imp (h.Ij i k) id
  ·rw[gI ej] at hj
   exact .inl (h.Ij j k hj)
theorem RingAt.put(hP:∀c p,jV (P c p))(h:RingAt t P C v ps Ow G w)(hi:i<C.length)(hn:P c' y Fy w)(hf:∀k,Fy k->¬G k){g n c:Nat}(hv:v=.slice (some ⟨g,0,none⟩) n c) :
 RingAt t P (C.set i c') v (ps.set i y) (BO Ow i Fy) (fun k=>G k\/Fy k) (w.setCell ⟨g,i,none⟩ (ji y)):=by
 subst hv;have hg:=h.l9 g rfl;have ht:Touch (fun k=>k=g) w (w.setCell ⟨g,i,none⟩ (ji y)):=Touch.setCell (F:=fun k=>k=g) (Touch.refl _ w) (p:=⟨g,i,none⟩) (.inl rfl) _
 refine⟨bi2 h.row (by rw[h.len];exact hi) y,by rw[bK,bK];exact h.len,fun j hj=>?_,fun a b k ha hb=>?_,fun k e=>⟨.inl (h.l9 k e).1,fun j hj=>?_⟩,fun j k hj=>?_,fun k hk=>?_⟩
 ·have hj':j<C.length:=by rw[bK] at hj;exact hj
  by_cases e:j=i
  ·subst e
   rw[iy,List.getElem_set_self,bD,List.getElem?_set_self (by rw[h.len];exact hj'),Option.getD_some]
   exact(hP _ _).far hn ht (fun k hk e=>hf k hk (by rw[show k=g from e];exact hg.1))
  ·rw[gI e,List.getElem_set_ne ae,bD,List.getElem?_set_ne ae,<-bD]
   exact(hP _ _).far (h.each j hj') ht (fun k hk e=>hg.2 j (by rw[<-show k=g from e];exact hk))
 ·by_cases ea:a=i
  ·by_cases eb:b=i
   ·omega
   ·rw[ea,iy] at ha;rw[gI eb] at hb
    exact absurd (h.Ij b k hb) (hf k ha)
  ·rw[gI ea] at ha
   by_cases eb:b=i
   ·rw[eb,iy] at hb
    exact absurd (h.Ij a k ha) (hf k hb)
   ·rw[gI eb] at hb
    exact h.apart a b k ha hb
 ·by_cases ej:j=i
  ·rw[ej,iy] at hj
   exact hf k hj (h.l9 k e).1
  ·rw[gI ej] at hj
   exact(h.l9 k e).2 j hj
 ·by_cases ej:j=i
  ·rw[ej,iy] at hj;exact .inr hj
  ·rw[gI ej] at hj;exact .inl (h.Ij j k hj)
 ·rw[dA]
  exact hk.elim (h.low k) ((hP _ _).low hn k)
theorem RingAt.push(hP:∀c p,jV (P c p))(h:RingAt t P C v ps Ow G w0){v':Value}(hn:P c' y Fy w0)(hf:∀k,Fy k->¬G k)(ho:dL (Ud t) 0 w v' (ps++[y]))(hg:w0.grownBy w v.ownBlock)(hw:v'.ownBlock=v.ownBlock\/v'.ownBlock=some w0.heap.size) :
 RingAt t P (C++[c']) v' (ps++[y]) (BO Ow C.length Fy) (fun k=>G k\/Fy k\/v'.ownBlock=some k) w:=by
 have keep:∀k,k<w0.heap.size->v.ownBlock≠some k->w.heap[k]?=w0.heap[k]?:=fun k h1 h2=>hg.block k h1 (fun e=>h2 e.symm)
 have hz:w0.heap.size<=w.heap.size:=hg.size;have vF:∀k,v.ownBlock=some k->¬Fy k:=fun k e hy=>hf k hy (h.l9 k e).1
 have bi3:=(hP _ _).low hn;refine⟨ho,by rw[aQ,aQ,h.len];rfl,fun j hj=>?_,fun a b k ha hb=>?_,fun k e=>⟨.inr (.inr e),fun j hj=>?_⟩,fun j k hj=>?_,fun k hk=>?_⟩
 ·have hj0:j<C.length+1:=by rw[aQ,bW] at hj;exact hj
  by_cases e:j=C.length
  ·subst e
   rw[iy,List.getElem_append_right (aS _),bD,List.getElem?_append_right (by rw[h.len];omega)]
   simp only[h.len,Nat.sub_self,List.getElem_cons_zero,aJ,Option.getD_some];exact(hP _ _).stay hn (fun k hk=>keep k (bi3 k hk) (fun e=>vF k e hk)) hz
  ·have hj':j<C.length:=ae
   rw[gI e,dE hj',bD,List.getElem?_append_left (by rw[h.len];exact hj'),<-bD]
   exact(hP _ _).stay (h.each j hj') (fun k hk=>keep k (h.low k (h.Ij j k hk)) (fun e=>(h.l9 k e).2 j hk)) hz
 ·by_cases ea:a=C.length
  ·by_cases eb:b=C.length
   ·omega
   ·rw[ea,iy] at ha;rw[gI eb] at hb
    exact absurd (h.Ij b k hb) (hf k ha)
  ·rw[gI ea] at ha
   by_cases eb:b=C.length
   ·rw[eb,iy] at hb
    exact absurd (h.Ij a k ha) (hf k hb)
   ·rw[gI eb] at hb
    exact h.apart a b k ha hb
 ·have hk:v.ownBlock=some k\/k=w0.heap.size:=by
   rcases hw with hw|hw
   ·exact .inl (by rw[<-hw];exact e)
   ·exact .inr (by rw[hw] at e;injection e with e;omega)
  by_cases ej:j=C.length
  ·rw[ej,iy] at hj
   rcases hk with hk|hk
   ·exact vF k hk hj
   ·have:=bi3 k hj;omega
  ·rw[gI ej] at hj
   rcases hk with hk|hk
   ·exact(h.l9 k hk).2 j hj
   ·have:=h.low k (h.Ij j k hj);omega
 ·by_cases ej:j=C.length
  ·rw[ej,iy] at hj;exact .inr (.inl hj)
  ·rw[gI ej] at hj;exact .inl (h.Ij j k hj)
 ·rcases hk with hk|hk|hk
  ·exact bF (h.low k hk) hz
  ·exact bF (bi3 k hk) hz
  ·exact(ho.lt k hk).2
end
variable{a a0 n:Nat}{d:Js}{C:List Js}
def qI(a0 n a:Nat):Nat:=(a0+n - a) % n
theorem tV(h:0<n):qI a0 n a<n:=Nat.mod_lt _ h
theorem vV(h:a0<n)(ha:a<n):qI a0 n a=if a<=a0 then a0 - a else a0+n - a:=by
 unfold qI
 split
 ·rw[show a0+n - a=(a0 - a)+n by omega,Nat.add_mod_right,Nat.mod_eq_of_lt ae]
 ·rw[Nat.mod_eq_of_lt ae]
theorem VO{b:Nat}(h:a0<n)(ha:a<n)(hb:b<n)(e:qI a0 n a=qI a0 n b):a=b:=by
 rw[vV h ha,vV h hb] at e
 split at e<;>split at e<;>omega
def Ik(d:Js)(a0:Nat)(C:List Js):List Js:=(List.range C.length).map fun a=>C.getD (qI a0 C.length a) d
theorem fB(d:Js)(a0:Nat)(C:List Js):(Ik d a0 C).length=C.length:=by unfold Ik;simp
theorem qJ(h:a<(Ik d a0 C).length):(Ik d a0 C)[a]=C.getD (qI a0 C.length a) d:=by unfold Ik;simp
theorem PY{e:Js}(h:a<C.length):(Ik d a0 C).getD a e=C[qI a0 C.length a]'(tV ae):=by
 rw[bD,a_ (by rw[fB];exact h),Option.getD_some,qJ,bD,a_ (tV ae),Option.getD_some]
theorem au5{c:Js}(h0:a0<C.length)(h:a<C.length):Ik d a0 (C.set (qI a0 C.length a) c)=(Ik d a0 C).set a c:=by
 refine List.ext_getElem (by rw[fB,bK,bK,fB]) fun i h1 h2=>?_
 have hi:i<C.length:=by rw[fB,bK] at h1;exact h1
 rw[qJ,List.getElem_set,qJ,bK]
 by_cases e:a=i
 ·subst e
  rw[if_pos rfl,bD,List.getElem?_set_self (tV ae),Option.getD_some]
 ·rw[if_neg e,bD,List.getElem?_set_ne (fun e2=>e (VO h0 h hi e2)),<-bD]
theorem P_(h:a0<n)(ha:a+1<n):qI ((a0+1) % n) n (a+1)=qI a0 n a:=by
 have h1:(a0+1) % n<n:=Nat.mod_lt _ ae
 rw[vV h1 ha,vV h ae]
 by_cases e:a0+1=n
 ·rw[e,Nat.mod_self]
  split<;>split<;>omega
 ·rw[Nat.mod_eq_of_lt ae]
  split<;>split<;>omega
theorem Qa(h:a0<n):qI a0 n 0=a0:=by rw[vV h ae,if_pos (df _)];omega
theorem ah8{sp:fG}(h0:a0<C.length):Ik sp.new ((a0+1) % C.length) (C.set ((a0+1) % C.length) sp.new)=Hy sp (Ik sp.new a0 C):=by
 have h1:(a0+1) % C.length<C.length:=Nat.mod_lt _ ae
 show _=sp.new::(Ik sp.new a0 C).dropLast
 refine List.ext_getElem (by rw[fB,bK,aU,List.length_dropLast,fB];omega) fun i h2 h3=>?_
 have hi:i<C.length:=by rw[fB,bK] at h2;exact h2
 rw[qJ,bK]
 cases i with
 | zero=>rw[Qa h1,List.getElem_cons_zero,bD,List.getElem?_set_self h1,Option.getD_some]
 | succ a=>
  rw[List.getElem_cons_succ,List.getElem_dropLast,qJ,P_ h0 hi,bD,List.getElem?_set_ne,<-bD];intro e;have e2:qI ((a0+1) % C.length) C.length (a+1)=qI ((a0+1) % C.length) C.length 0:=by rw[P_ h0 hi,Qa h1];omega
  have:=VO h1 hi ae e2
  omega
end Go.Proofs.YtilcnjbpmoijmaaGreat.D
