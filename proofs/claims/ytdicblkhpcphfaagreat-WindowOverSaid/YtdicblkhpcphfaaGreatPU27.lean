/- Parts. -/
import Derived.Test.YtdicblkhpcphfaaGreatPU26
set_option maxRecDepth 100000
set_option maxHeartbeats 0
set_option linter.all false
namespace Go.Proofs.YtdicblkhpcphfaaGreat
open Tryz Go.RowKit Go.Lib Go.Shelf
open _root_.List renaming length→ab0
open Go.IntKind renaming wrap→ad0
open _root_.Go renaming Calls→af4
open Tryz renaming prog→af5
namespace D
variable{a d i led n q:Nat}{s:St}{v:Int}{c t:Js}{L:List Js}{B:List Int}{α:Type}{w:World}
structure th(d:Nat)(s:St):Prop where
 fit:Fit d s (195 * d+99)
 len:(ab0 s.L:Int)<=194 * d+99
 big:d<=300\/s=St.zero
structure pN(q:Nat)(L:K.LL)(led:Nat):Prop where
 fit:K.Fit q L led
 q0:8<=q
 q1:q<=4096
 emp:ab0 L=0->led=0
 bd:∀j,K.mm (K.lvl L j)
def jR:ie->Prop
 | .h lo hi dg u m _=>sk lo hi dg u m
 | .d a m=>100<=a/\a<=5000/\2<=m/\m<=4096
 | .t d=>10<=d/\d<=1000
 | .k q=>8<=q/\q<=4096
def ie.small:ie->Prop
 | .t e=>e<=300
 | _=>True
def im(sp:ie)(c:Js):Prop:=match sp with
 | .h lo hi dg u m gr=>jn lo hi dg u m gr c.bk c.l
 | .d a m=>kG a m c.l
 | .t d=>th d c.s
 | .k q=>pN q c.L c.led
def ie.new:ie->Js
 | .h _ hi _ u m _=>⟨1+jg u m hi,[],St.zero,[],0⟩
 | _=>⟨0,[],St.zero,[],0⟩
def mH(sp:ie)(c:Js)(v n:Int):Int:=match sp with
 | .h _ _ _ u m gr=>hsE u m gr c.bk c.l v n
 | .d a _=>GM a c.l v n
 | .t _=>if n=0 then 4 else if 281474976710656 - Go.Proofs.YtdicblkhpcphfaaGreat.tot (c.s.L++c.s.W)<n then 6 else 0
 | .k _=>K.qL c.L n.toNat
def ki(sp:ie)(B:List Int)(v n:Int)(c:Js)(a:Nat):Js × Nat:=match sp with
 | .h _ _ _ u m gr=>({c with bk:=hsB u m gr c.bk c.l v n,l:=hsL u m gr c.bk c.l v n},a)
 | .d ac _=>({c with l:=DH ac c.l v n},a)
 | .t d=>(if mH (.t d) c v n=0 then {c with s:=c.s.add d v n} else c,a)
 | .k q=>({c with L:=(K.pK q B v n.toNat (c.L,c.led,a)).1,led:=(K.pK q B v n.toNat (c.L,c.led,a)).2.1},(K.pK q B v n.toNat (c.L,c.led,a)).2.2)
def mn(sp:ie)(c t:Js):Int:=match sp with
 | .h ..=>Ct c.l t.l
 | .d ..=>i4 c.l t.l
 | .t _=>iO c.s t.s
 | .k _=>K.iO c.L t.L
def jb(sp:ie)(B:List Int)(t c:Js)(a:Nat):Js × Nat:=match sp with
 | .h ..=>({c with bk:=QH c.l t.l c.bk t.bk,l:=NH c.l t.l},a)
 | .d ..=>({c with l:=BI c.l t.l},a)
 | .t d=>(if iO c.s t.s=0 then {c with s:=c.s.take d t.s} else c,a)
 | .k q=>({c with L:=(K.kW q B (t.L,t.led) (c.L,c.led,a)).1,led:=(K.kW q B (t.L,t.led) (c.L,c.led,a)).2.1},(K.kW q B (t.L,t.led) (c.L,c.led,a)).2.2)
def k_(sp:ie)(c:Js):Int:=match sp with
 | .h ..=>tot c.l
 | .d ..=>tot c.l
 | .t _=>Go.Proofs.YtdicblkhpcphfaaGreat.tot (c.s.L++c.s.W)
 | .k _=>(K.wt c.L:Nat)
def qM(sp:ie)(c:Js):List Int:=match sp with
 | .h lo hi dg u m gr=>hjB lo hi dg (iv u m hi c.bk) gr c.l
 | .d a m=>n_ a m (hZ m c.l).1 (hZ m c.l).2
 | .t d=>z_ d c.s.L c.s.W c.s.lo c.s.hi
 | .k q=>K.zE q c.L c.led
def Ue{m:Nat}(y:100<=a)(x:a<=5000)(v:2<=m)(u:m<=4096):kG a m []:=
 ⟨y,x,v,u,List.Pairwise.nil,λp z=>by simp at z,λp z=>by simp at z,by simp[tot]⟩
def VY(z:10<=d)(y:d<=1000):th d St.zero:=
 ⟨⟨(St.II d aa).more aa,aa,by simp[St.zero,Go.Proofs.YtdicblkhpcphfaaGreat.tot],aa,aa⟩,by simp[St.zero];omega,.inr rfl⟩
def V4(z:8<=q)(y:q<=4096):pN q [] 0:=⟨K.Fit.nil_ q,z,y,λ_=>rfl,λj x v=>by simp[K.lvl] at v⟩
def pf{sp:ie}(h:jR sp):im sp sp.new:=by
 cases sp with
 | h lo hi dg u m gr=>exact S' h
 | d a m=>exact Ue h.1 h.2.1 h.2.2.1 h.2.2.2
 | t d=>exact VY h.1 h.2
 | k q=>exact V4 h.1 h.2
def im.sp{sp:ie}{c:Js}(h:im sp c):jR sp:=by
 cases sp with
 | h lo hi dg u m gr=>exact jn.sh h
 | d a m=>exact⟨h.a0,h.a1,h.m0,h.m1⟩
 | t d=>have:=h.fit.d0;have:=h.fit.d1;exact⟨aa,aa⟩
 | k q=>exact⟨h.q0,h.q1⟩
def Ru{n:Int}(h:th d s)(q:d<=300)(u:-9223372036854775808<=v)(t:v<=9223372036854775807)(x:0<n)(f:n<=281474976710656 - Go.Proofs.YtdicblkhpcphfaaGreat.tot (s.L++s.W)):th d (s.add d v n):=by
 have g:=h.fit.d0;have y:=h.fit.ok.add (d:=(d:Int)) aa u t x;have p:=St.R9 d s v n;have r:(ab0 (s.add d v n).L:Int)<=194 * d+99:=by
  show(ab0 (jD d s.L s.W (v,n)):Int)<=_
  unfold jD;split
  .rw[<-aN]
   refine JG (lo:=min s.lo v) (hi:=max s.hi v) ?_ ?_ aa ?_
   .intro m z
    rcases cz.1 z with z|z
    .exact h.fit.ok.ok m z
    .simp only[bQ] at z;subst z;exact⟨u,t,x⟩
   .intro m z
    rcases cz.1 z with z|z
    .have:=h.fit.ok.bd m z;omega
    .simp only[bQ] at z;subst z;show min s.lo v<=v/\v<=max s.hi v;omega
   .rw[Go.Proofs.YtdicblkhpcphfaaGreat.h_];show _+(n+0)<=_;omega
  .exact h.len
 have z:=y.wl;exact⟨⟨⟨y.ok,y.bd,y.Kc,y.lo1,y.hi0,y.hi1,y.emp,aa,y.wl,y.rise⟩,aa,aa,h.fit.d0,h.fit.d1⟩,r,.inl q⟩
def Ph{t:St}(h:th d s)(v:th d t)(z:iO s t=0):th d (s.take d t):=by
 have p:=h.fit.d0;by_cases y:Go.Proofs.YtdicblkhpcphfaaGreat.tot (t.L++t.W)=0
 .have:s.take d t=s:=by unfold St.take;rw[aH y]
  rw[this];exact h
 .rcases v.big with u|e
  .unfold iO at z
   split at z
   .cases z
   .obtain⟨f,r,x,q⟩:=h.fit.ok.take v.fit.ok aa y aa
    have g:=x.len;exact⟨⟨x.more aa,aa,aa,h.fit.d0,h.fit.d1⟩,aa,.inl u⟩
  .exact absurd (by rw[e];rfl) y
def JH{L:K.LL}(x:K.D8 L)(v:K.wt L=0):L=[]:=by
 rcases bo (ab0 L) with z|z
 .exact aV z
 .have u:=K.Hd L 1 (ab0 L - 1)
  have y:1<=ab0 (K.lvl L (ab0 L - 1)):=eR.2 (x z);have t:1<=2 ^ (ab0 L - 1):=Nat.one_le_two_pow;have s:1 * (2 ^ (ab0 L - 1) * 1)<=ab0 (K.lvl L (ab0 L - 1)) * (2 ^ (ab0 L - 1) * 1):=cN _ y;unfold K.wt at v;omega
def H_{L:K.LL}(h:∀j,K.mm (K.lvl L j)):∀x∈K.rp L,-9223372036854775808<=x/\x<=9223372036854775807:=λx y=>by
 obtain⟨j,z⟩:=K.mc.1 y;exact h j x z
def Rv{L:K.LL}(h:pN q L led)(d:-9223372036854775808<=v)(c:v<=9223372036854775807)(f:n<18446744073709551616):pN q (K.pK q B v n (L,led,a)).1 (K.pK q B v n (L,led,a)).2.1:=by
 have r:=H_ h.bd;have g:=h.q0;have p:=h.q1;refine⟨K.ON (s:=(L,led,a)) h.fit aa p,g,p,λz=>?_,K.mm.lvl λx y=>?_⟩
 .have t:=K.Rc (k:=q) (n:=n) (B:=B) (v:=v) (s:=(L,led,a))
  rw[K.Pf z] at t;by_cases u:K.qL L n=0
  .have:=K.vo u
   rw[aH u] at t;simp only at t;omega
  .unfold K.pK at z |-
   rw[aF u] at z |-;exact h.emp z
 .unfold K.pK at y
  split at y
  .rcases K.EH _ _ _ _ _ (K.AX y) with z|z
   .exact r x z
   .omega
  .exact r x y
def Pj{i6:Nat}{L M:K.LL}(h:pN q L led)(z:pN q M i6):pN q (K.kW q B (M,i6) (L,led,a)).1 (K.kW q B (M,i6) (L,led,a)).2.1:=by
 have f:=H_ h.bd;have c:=H_ z.bd;have X:=h.q0;have d:=h.q1;refine⟨K.LH (s:=(L,led,a)) (t:=(M,i6)) h.fit z.fit aa d,X,d,λy=>?_,K.mm.lvl λx v=>?_⟩
 .have u:=K.Es (k:=q) (B:=B) (s:=(L,led,a)) (t:=(M,i6))
  rw[K.Pf y] at u;by_cases g:K.iO L M=0
  .rw[aH g] at u;simp only at u
   have r:L=[]:=JH h.fit.ok.top (by show K.wt L=0;omega);have p:M=[]:=JH z.fit.ok.top (by show K.wt M=0;omega);have b:=h.emp (by rw[r];rfl);have Y:=z.emp (by rw[p];rfl);subst r;subst p;subst b;subst Y;rfl
  .unfold K.kW at y |-
   rw[aF g] at y |-;exact h.emp y
 .unfold K.kW at v
  split at v
  .rcases K.AY M L (ab0 M) (K.AX v) with y|y
   .exact f x y
   .exact c x y
  .exact f x v
def Rw{sp:ie}{n:Int}(h:im sp c)(p:sp.small)(x:-9223372036854775808<=v)(y:v<=9223372036854775807)(r:0<=n)(g:n<18446744073709551616):im sp (ki sp B v n c a).1:=by
 cases sp with
 | h lo hi dg u m gr=>exact Tb h y r
 | d a m=>exact S8 h x y r
 | t d=>
  show th d (if mH (.t d) c v n=0 then {c with s:=c.s.add d v n} else c:Js).s
  by_cases z:mH (.t d) c v n=0
  .rw[aH z]
   simp only[mH] at z;split at z
   .cases z
   .split at z
    .cases z
    .exact Ru h p x y aa  aa
  .rw[aF z];exact h
 | k q=>exact Rv h x y aa
def qq{sp:ie}(h:im sp c)(z:im sp t):im sp (jb sp B t c a).1:=by
 cases sp with
 | h lo hi dg u m gr=>exact QI h z
 | d a m=>exact QG h z
 | t d=>
  show th d (if iO c.s t.s=0 then {c with s:=c.s.take d t.s} else c:Js).s
  by_cases y:iO c.s t.s=0
  .rw[aH y];exact Ph h z y
  .rw[aF y];exact h
 | k q=>exact Pj h z
def xy{sp:ie}(h:im sp c):0<=k_ sp c/\k_ sp c<=4611686018427387904:=by
 cases sp with
 | h lo hi dg u m gr=>exact⟨g_ (jn.pos h),jn.sum h⟩
 | d a m=>exact⟨g_ (kG.pos h),kG.sum h⟩
 | t d=>have:=(th.fit h).t;have:=(th.fit h).ok.j7;show 0<=Go.Proofs.YtdicblkhpcphfaaGreat.tot _/\_;simp only[k_];omega
 | k q=>have:=(pN.fit h).ok.JB;simp only[k_];omega
structure Wn where
 L:List Js
 now:Nat
structure jX(sp:ie)(n:Nat)(s:Wn):Prop where
 len:ab0 s.L=n
 each:∀c∈s.L,im sp c
 now:s.now<=9223372036854775807
def jM(sp:ie)(n:Nat):Wn:=⟨List.replicate n sp.new,0⟩
def wE(sp:ie)(L:List Js):List Js:=sp.new::L.dropLast
def nr(sp:ie)(L:List Js):Nat->List Js
 | 0=>L
 | k+1=>wE sp (nr sp L k)
def FN(k:Nat)(s:Wn):Nat:=min k (9223372036854775807 - s.now)
def kH(sp:ie)(k:Nat)(s:Wn):Wn:=⟨nr sp s.L (min (FN k s) (ab0 s.L)),s.now+FN k s⟩
def oD(sp:ie)(L:List Js):Nat->Int
 | 0=>0
 | k+1=>ad0 .u64 (oD sp L k+k_ sp (L.getD k sp.new))
def mI(sp:ie)(s:Wn)(last:Int):Int:=if (ab0 s.L:Int)<last then 0 else oD sp s.L last.toNat
def ua(sp:ie)(B:List Int)(late:Nat)(oL:List Js):Nat->List Js->Nat->List Js × Nat × Int
 | 0,L,a=>(L,a,0)
 | k+1,L,a=>if ab0 L<=late+k then ua sp B late oL k L a
  else if mn sp (L.getD (k+late) sp.new) (oL.getD k sp.new)=0 then ua sp B late oL k (L.set (k+late) (jb sp B (oL.getD k sp.new) (L.getD (k+late) sp.new) a).1) (jb sp B (oL.getD k sp.new) (L.getD (k+late) sp.new) a).2
  else(L,(jb sp B (oL.getD k sp.new) (L.getD (k+late) sp.new) a).2,mn sp (L.getD (k+late) sp.new) (oL.getD k sp.new))
def wG(sp:ie)(o s:Wn):Wn:=if s.now<o.now then kH sp (o.now - s.now) s else s
def qN(sp:ie)(B:List Int)(o s:Wn)(a:Nat):List Js × Nat × Int:=ua sp B ((wG sp o s).now - o.now) o.L (ab0 o.L) (wG sp o s).L a
def s8(sp:ie)(B:List Int)(o s:Wn)(a:Nat):Int:=(qN sp B o s a).2.2
def pO(sp:ie)(B:List Int)(o s:Wn)(a:Nat):Wn:=if s8 sp B o s a=0 then⟨(qN sp B o s a).1,(wG sp o s).now⟩ else s
def ze(sp:ie)(s:Wn)(v n:Int):Int:=mH sp (s.L.getD 0 sp.new) v n
def rA(sp:ie)(B:List Int)(v n:Int)(s:Wn)(a:Nat):Wn:={s with L:=s.L.set 0 (ki sp B v n (s.L.getD 0 sp.new) a).1}
def Cb{sp:ie}(h:0<ab0 L):ab0 (wE sp L)=ab0 L:=by
 unfold wE;rw[aK,eM];omega
def nH{sp:ie}{L:List Js}(h:0<ab0 L):∀k,ab0 (nr sp L k)=ab0 L
 | 0=>rfl
 | k+1=>by
  have:=nH h k (sp:=sp);rw[nr,Cb aa,this]
def Pk{sp:ie}(y:jR sp)(h:∀c∈L,im sp c):∀c∈wE sp L,im sp c:=λc z=>by
 unfold wE at z;rcases aS.1 z with rfl|z
 .exact pf y
 .exact h c ((gJ L).subset z)
def EI{sp:ie}{L:List Js}(z:jR sp)(h:∀c∈L,im sp c):∀k,∀c∈nr sp L k,im sp c
 | 0=>h
 | k+1=>Pk z (EI z h k)
def ud{sp:ie}{k:Nat}{s:Wn}(y:jR sp)(h:jX sp n s)(x:0<n):jX sp n (kH sp k s):=by
 have z:=h.len;have v:=h.now;refine⟨(nH aa _).T z,EI y h.each _,?_⟩;show s.now+FN k s<=_
 unfold FN;omega
def Cc{sp:ie}(y:jR sp):jX sp n (jM sp n):=
 ⟨cr,λc z=>by rw[gA z];exact pf y,by show 0<=_;omega⟩
def jX.at_{sp:ie}{s:Wn}(h:jX sp n s)(z:i<ab0 s.L):im sp (s.L.getD i sp.new):=by
 rw[aT,aL z,br];exact h.each _ (aP z)
def Cd{sp:ie}(h:∀c∈L,im sp c)(y:im sp c):∀x∈L.set i c,im sp x:=λx z=>by
 rcases eW z with z|rfl
 .exact h x z
 .exact y
def EJ{sp:ie}{s:Wn}{m:Int}(h:jX sp n s)(r:0<n)(z:sp.small)(u:-9223372036854775808<=v)(t:v<=9223372036854775807)(y:0<=m)(x:m<18446744073709551616):jX sp n (rA sp B v m s a):=
 ⟨by show(s.L.set _ _).length=n;rw[aZ];exact h.len,Cd h.each (Rw (h.at_ (aa2 h.len)) z u t y x),h.now⟩
def Ce{sp:ie}{B:List Int}{late:Nat}{oL:List Js}(z:∀c∈oL,im sp c):∀(k:Nat) (L:List Js) (a:Nat),k<=ab0 oL->(∀c∈L,im sp c)->(∀c∈(ua sp B late oL k L a).1,im sp c)/\ab0 (ua sp B late oL k L a).1=ab0 L
 | 0,L,a,_,h=>⟨h,rfl⟩
 | k+1,L,a,hk,h=>by
  rw[ua];split
  .exact Ce z k L a aa h
  .split
   .have y:im sp (L.getD (k+late) sp.new):=by
     rw[aT,aL aa,br];exact h _ (aP _)
    have x:im sp (oL.getD k sp.new):=by
     rw[aT,aL aa,br];exact z _ (aP _)
    have:=Ce (late:=late) (B:=B) z k (L.set (k+late) (jb sp B (oL.getD k sp.new) (L.getD (k+late) sp.new) a).1) (jb sp B (oL.getD k sp.new) (L.getD (k+late) sp.new) a).2 aa (Cd h (qq y x));rw[aZ] at this;exact this
   .exact⟨h,rfl⟩
def Ia{sp:ie}{o s:Wn}(y:jR sp)(h:jX sp n s)(z:0<n):jX sp n (wG sp o s):=by
 unfold wG;split
 .exact ud y h z
 .exact h
def JJ{sp:ie}{o s:Wn}(z:jX sp n o):o.now<=(wG sp o s).now:=by
 have:=z.now;unfold wG;split
 .show o.now<=s.now+FN _ s;unfold FN;omega
 .omega
def JK{sp:ie}{o s:Wn}(u:jR sp)(h:jX sp n s)(v:jX sp n o)(x:0<n):jX sp n (pO sp B o s a):=by
 unfold pO;split
 .have z:=Ia (o:=o) u h x
  have y:=Ce (B:=B) (late:=(wG sp o s).now - o.now) v.each (ab0 o.L) (wG sp o s).L a (aD _) z.each;exact⟨y.2.T z.len,y.1,z.now⟩
 .exact h
def V5(z:ie):z.new.L=[]:=by cases z<;>rfl
def AZ{sp:ie}{L:List Js}(h:∀c∈L,c.L=[]):∀k,∀c∈nr sp L k,c.L=[]
 | 0=>h
 | k+1=>λc z=>by
  unfold nr wE at z;rcases aS.1 z with rfl|z
  .exact V5 sp
  .exact AZ h k c ((gJ _).subset z)
def Rx{sp:ie}{o s:Wn}(h:∀c∈s.L,c.L=[]):∀c∈(wG sp o s).L,c.L=[]:=by
 unfold wG;split
 .exact AZ h _
 .exact h
def Ry(z:c.L=[])(y:t.L=[]):(jb (.k q) B t c a).1.L=[]:=by
 show(K.kW q B (t.L,t.led) (c.L,c.led,a)).1=[]
 rw[z,y];rfl
structure zO where
 kd:Int
 who:Bool
 v:Int
 n:Int
 B:List Int
instance:Inhabited zO:=⟨⟨0,false,0,0,[]⟩⟩
def zO.fits(o:zO):Prop:=0<=o.kd/\o.kd<=255/\-9223372036854775808<=o.v/\o.v<=9223372036854775807/\0<=o.n/\o.n<18446744073709551616/\∀x∈o.B,0<=x/\x<=255
def EK{α:Type}(S:Nat->α)(i:Nat)(s:α):Nat->α:=λj=>if j=i then s else S j
def xz{S:Nat->α}{s:α}:EK S i s i=s:=aH rfl
def xA{S:Nat->α}{j:Nat}{s:α}(h:j≠i):EK S i s j=S j:=aF h
def Rz(o:zO):Nat:=if o.who then 1 else 0
def s9(sp:ie)(o:zO)(s t:Wn):Wn:=
 if o.kd % 9=5 then kH sp (o.n % 4).toNat s
 else if o.kd % 9=6 then kH sp o.n.toNat s
 else if o.kd % 9=7 then pO sp o.B t s 0
 else if o.kd % 9=8 then pO sp o.B s s 0
 else rA sp o.B o.v o.n s 0
def RF{sp:ie}{o:zO}{s t:Wn}(y:jR sp)(x:sp.small)(z:0<n)(v:o.fits)(h:jX sp n s)(k:jX sp n t):jX sp n (s9 sp o s t):=by
 obtain⟨_,_,q,p,u,r,_⟩:=v;unfold s9;split
 .exact ud y h z
 .split
  .exact ud y h z
  .split
   .exact JK y h k z
   .split
    .exact JK y h h z
    .exact EJ h z x q p u r
def Pm(sp:ie)(o:zO)(S:Nat->Wn):Nat->Wn:=EK S (Rz o) (s9 sp o (S (Rz o)) (S (1 - Rz o)))
def kI(sp:ie)(l:List zO)(S:Nat->Wn):Nat->Nat->Wn
 | 0=>S
 | k+1=>Pm sp (l.getD k default) (kI sp l S k)
def EO:∀l:List Int,cellsE K.Hp l=l.map (Value.int .u8)
 | []=>rfl
 | x::l=>by rw[i9,EO l];rfl
def Pn{v:Value}{l:List Int}(h:jC .u8 w v l):iQ K.Hp w v l:=by
 unfold iQ;rw[EO];exact h
structure FO(o0:Nat)(w:World)(cv:Value)(B:List Int):Prop where
 rd:iQ K.Hp w cv B
 own:∀k,B≠[]->cv.ownBlock=some k->k<o0
def FO.K{o0:Nat}{w':World}{cv:Value}(h:FO o0 w cv B)(t:o0<=w.heap.size)(y:Below o0 w w'):FO o0 w' cv B:=by
 refine⟨?_,h.own⟩;by_cases z:B=[]
 .subst z
  obtain⟨A,c,rfl,v,u,_⟩:=h.rd.form;exact iQ.kn v u λx=>absurd x ad
 .exact h.rd.stay (λk e=>y.block k (h.own k z e)) y.size
def pP(v:Value)(B:List Int)(w:World)(h:iQ K.Hp w v B)(t:K.TM B):af4 af5 20 #[v] w λe y=>∃g,e=.returned (aq g)/\(∃H,iT (aq g) B 0 H y/\∀k,H k->w.heap.size<=k)/\af3 w y:=by
 refine(K.Oz v B w h t).M ?_;rintro e y ⟨g,r,u,rfl,s,q,z,x,p⟩;exact⟨g,rfl,⟨λk=>k=g\/k=r\/u.ownBlock=some k,.inr ⟨g,r,u,rfl,z,.inl rfl,.inr (.inl rfl),λk e=>.inr (.inr e),λk e=>e.elim (λe=>by rw[e];exact z.blk.lt) (λe=>e.elim (λe=>by rw[e];exact z.rd.blk.lt) (λe=>(x k e).2))⟩,λk e=>e.elim (λe=>by rw[e];exact s) (λe=>e.elim (λe=>by rw[e];exact q) (λe=>(x k e).1))⟩,p⟩
def ot{o:Nat}{v:Value}(h:iQ K.Hp w v B)(u:K.TM B)(s:o<=w.heap.size)(y:∀k,B≠[]->v.ownBlock=some k->k<o):iI o (.pointer (some (af7 (w.heap.size) 0))) B 0 (λk=>k=w.heap.size) (w.alloc (.cells #[v,af6 0] 57)):=by
 by_cases z:B=[]
 .subst z
  obtain⟨A,c,rfl,t,x,_⟩:=h.form;exact⟨w.heap.size,.slice none 0 0,rfl,.inr ⟨rfl,rfl,rfl,A,c,x,g7.new w _ _⟩,rfl,λk e=>by simp[Value.ownBlock] at e,λk e=>by rw[show k=w.heap.size from e];simp⟩
 .exact⟨w.heap.size,v,rfl,.inl ⟨g7.new w _ _,h.K ((aC _ _).alloc (aD _) _),λe=>by have:=y _ z e;omega,bl _,u⟩,rfl,λk e=>.inl (y k z e),λk e=>by rw[show k=w.heap.size from e];simp⟩
section
open Go.ChangeShapes Go.WideShapes Go.Deep
variable {H : Type} {enc : TypeId × Value -> H} {w : World} {base : Nat} {held : Bool}
def Po{cs:List Value}{x:DataW H × List MemPlace}{fuel:Nat}(h:DataW.trod enc prog w base (λ_=>true) held fuel 37 cs=some x):∃z B,cs=[z]/\FO w.heap.size w z B/\∀y∈B,0<=y/\y<=255:=by
 rcases open_ints (k:=.u8) underlying37 underlying5 (by kernel_rfl) h with⟨s,_⟩|⟨q,z,p,t,s,_,a,Y,U,_,v,V⟩
 .subst s
  exact⟨_,[],rfl,⟨iQ.nil_ w,λk u=>absurd rfl u⟩,λy r=>by cases r⟩
 .subst s
  simp only[if_true] at U;have f:ab0 (t.take z)=z:=by rw[aU];omega
  have X:jC .u8 w (.slice (some q) z p) (t.take z):=by
   unfold jC;rw[f];refine⟨by rw[dy,f];omega,some q,p,rfl,a,Y,λu=>?_⟩;obtain⟨b,d,rfl,v⟩:=ints_at v aa;refine⟨b,d,rfl,bH _ _ (v 0 aa),λj g=>?_⟩;have g:=v j aa;rw[add_plain] at g;rw[g];have c:j<ab0 t:=aa;simp[aL c,show j<z by omega,List.getD]
  refine⟨_,t.take z,rfl,⟨Pn X,λk u e=>?_⟩,λy r=>bounds_u8 (V y (cm r))⟩;have g:0<z:=by
   rcases bo z with y|y
   .exact absurd (by rw[y];rfl) u
   .exact y
  obtain⟨b,d,rfl,v⟩:=ints_at v aa;have:=bH _ _ (v 0 aa);rw[<-bJ (show some b=some k from e)];exact this
end
variable{t:TypeId}{base c g i j n:Nat}{w:World}{ps:List Nat}{Ow:Nat->Ft}{F:Ft}
def zP(t:TypeId):vT Nat where
 k:=1
 t:=t
 enc p:=[jw p]
 len _:=rfl
 one p u hu:=by
  simp only[aS,cx,or_false] at hu;subst hu;rfl
def JL(h:g8 (zP t) base w (.slice (some (af7 g 0)) n c) ps)(z:j<ab0 ps):w.cell? (af7 g j)=some (jw ps[j]):=by
 have:=h.cellAt z 0 (by show 0<1;omega)
 rwa [show j * (zP t).k+0=j by show j * 1+0=j;omega] at this
def Uf(h:g8 (zP t) base w (.slice (some (af7 g 0)) n c) ps)(z:j<ab0 ps)(y:Nat):g8 (zP t) base (w.setCell (af7 g j) (jw y)) (.slice (some (af7 g 0)) n c) (ps.set j y):=by
 have:=h.hJ j z y
 rwa [show j * (zP t).k=j by show j * 1=j;omega] at this
def pg(Ow:Nat->Ft)(i:Nat)(F:Ft):Nat->Ft:=λj k=>if j=i then F k else Ow j k
def iK:pg Ow i F i=F:=by funext k;unfold pg;rw[aH rfl]
def hX(h:j≠i):pg Ow i F j=Ow j:=by funext k;unfold pg;rw[aF h]
structure RingAt(t:TypeId)(P:Js->Nat->Ft->World->Prop)(C:List Js)(v:Value)(ps:List Nat)(Ow:Nat->Ft)(G:Ft)(w:World):Prop where
 row:g8 (zP t) 0 w v ps
 len:ab0 ps=ab0 C
 each:∀i (h:i<ab0 C),P C[i] (ps.getD i 0) (Ow i) w
 apart:∀i j k,Ow i k->Ow j k->i=j
 mg:∀k,v.ownBlock=some k->G k/\∀i,¬Ow i k
 qu:∀i k,Ow i k->G k
 low:∀k,G k->k<w.heap.size
section
variable {t : TypeId} {P : Js -> Nat -> Ft -> World -> Prop} {C : List Js} {v : Value} {ps : List Nat} {Ow : Nat -> Ft} {G H : Ft} {w w' w0 : World}
variable{i y:Nat}{c':Js}{Fy:Ft}
def RingAt.stay(x:∀c p,kK (P c p))(h:RingAt t P C v ps Ow G w)(z:∀k,G k->w'.heap[k]?=w.heap[k]?)(y:w.heap.size<=w'.heap.size):RingAt t P C v ps Ow G w':=
 ⟨h.row.stay λk e=>z k (h.mg k e).1,h.len,λi u=>(x _ _).stay (h.each i u) (λk e=>z k (h.qu i k e)) y,h.apart,h.mg,h.qu,λk e=>aG (h.low k e) y⟩
def RingAt.K(y:∀c p,kK (P c p))(h:RingAt t P C v ps Ow G w)(z:af3 w w'):RingAt t P C v ps Ow G w':=h.stay y (λk x=>z.block k (h.low k x)) z.size
def RingAt.far(x:∀c p,kK (P c p))(h:RingAt t P C v ps Ow G w)(y:Touch H w w')(u:∀k,G k->¬H k):RingAt t P C v ps Ow G w':=h.stay x (λk z=>y.block k (h.low k z) (u k z)) y.size
def RingAt.pos(h:RingAt t P C v ps Ow G w)(s:0<ab0 C):∃g c,v=.slice (some (af7 g 0)) (ab0 C) c/\g<w.heap.size/\ab0 C<=c/\c<=9223372036854775807/\G g/\(∀i,¬Ow i g)/\∀j,j<ab0 C->w.cell? (af7 g j)=some (jw (ps.getD j 0)):=by
 obtain⟨g,c,rfl,_,y,r,x⟩:=h.row.pos (aa2 h.len);have z:=h.mg g rfl;have u:=h.len;refine⟨g,c,by rw[u],y,aa,x,z.1,z.2,λj q=>?_⟩;rw[aT,aL aa,br];exact JL h.row aa
def RingAt.turn(g:∀c p,kK (P c p))(h:RingAt t P C v ps Ow G w)(Y:i<ab0 C)(f:P c' (ps.getD i 0) (Gr (Ow i) w w') w')(s:Touch (λk=>Ow i k\/H k) w w')(q:∀k,H k->¬G k):RingAt t P (C.set i c') v ps (pg Ow i (Gr (Ow i) w w')) (Gr G w w') w':=by
 have d:∀j k,Ow j k->j≠i->w'.heap[k]?=w.heap[k]?:=λj k z p=>s.block k (h.low k (h.qu j k z)) (λe=>e.elim (λe=>p (h.apart j i k z e)) (λe=>q k e (h.qu j k z)));refine⟨h.row.stay λk e=>s.block k (h.low k (h.mg k e).1) (λy=>y.elim ((h.mg k e).2 i) (λy=>q k y (h.mg k e).1)),by rw[aZ];exact h.len,λj z=>?_,λa b k x y=>?_,λk e=>⟨.inl (h.mg k e).1,λj z=>?_⟩,λj k z=>?_,jt h.low s.size⟩
 .have u:j<ab0 C:=by rw[aZ] at z;exact z
  by_cases e:j=i
  .subst e
   rw[iK,eH];exact f
  .rw[hX e,List.getElem_set_ne aa]
   exact(g _ _).stay (h.each j u) (λk r=>d j k r e) s.size
 .by_cases r:a=i
  .by_cases u:b=i
   .omega
   .rw[r,iK] at x;rw[hX u] at y
    rcases x with x|x
    .exact absurd (h.apart _ _ k x y) aa
    .have:=h.low k (h.qu b k y);omega
  .rw[hX r] at x
   by_cases u:b=i
   .rw[u,iK] at y
    rcases y with y|y
    .exact absurd (h.apart _ _ k x y) aa
    .have:=h.low k (h.qu a k x);omega
   .rw[hX u] at y
    exact h.apart a b k x y
 .by_cases u:j=i
  .rw[u,iK] at z
   rcases z with z|z
   .exact(h.mg k e).2 i z
   .have:=h.low k (h.mg k e).1;omega
  .rw[hX u] at z
   exact(h.mg k e).2 j z
 .by_cases u:j=i
  .rw[u,iK] at z
   exact z.imp (h.qu i k) id
  .rw[hX u] at z
   exact .inl (h.qu j k z)
def RingAt.put(f:∀c p,kK (P c p))(h:RingAt t P C v ps Ow G w)(V:i<ab0 C)(Y:P c' y Fy w)(q:∀k,Fy k->¬G k){g n c:Nat}(U:v=.slice (some (af7 g 0)) n c):RingAt t P (C.set i c') v (ps.set i y) (pg Ow i Fy) (λk=>G k\/Fy k) (w.setCell (af7 g i) (jw y)):=by
 subst U;have d:=h.mg g rfl;have X:Touch (λk=>k=g) w (w.setCell (af7 g i) (jw y)):=Touch.setCell (F:=λk=>k=g) (Touch.refl _ w) (p:=af7 g i) (.inl rfl) _;refine⟨Uf h.row (by rw[h.len];exact V) y,by rw[aZ,aZ];exact h.len,λj z=>?_,λa b k u x=>?_,λk e=>⟨.inl (h.mg k e).1,λj z=>?_⟩,λj k z=>?_,λk s=>?_⟩
 .have r:j<ab0 C:=by rw[aZ] at z;exact z
  by_cases e:j=i
  .subst e
   rw[iK,eH,aT,fp (by rw[h.len];exact r),br];exact(f _ _).far Y X (λk s e=>q k s (by rw[show k=g from e];exact d.1))
  .rw[hX e,List.getElem_set_ne aa,aT,dY aa,<-aT]
   exact(f _ _).far (h.each j r) X (λk s e=>d.2 j (by rw[<-show k=g from e];exact s))
 .by_cases p:a=i
  .by_cases r:b=i
   .omega
   .rw[p,iK] at u;rw[hX r] at x
    exact absurd (h.qu b k x) (q k u)
  .rw[hX p] at u
   by_cases r:b=i
   .rw[r,iK] at x
    exact absurd (h.qu a k u) (q k x)
   .rw[hX r] at x
    exact h.apart a b k u x
 .by_cases x:j=i
  .rw[x,iK] at z
   exact q k z (h.mg k e).1
  .rw[hX x] at z
   exact(h.mg k e).2 j z
 .by_cases x:j=i
  .rw[x,iK] at z;exact .inr z
  .rw[hX x] at z;exact .inl (h.qu j k z)
 .rw[bT]
  exact s.elim (h.low k) ((f _ _).low Y k)
def RingAt.push(g:∀c p,kK (P c p))(h:RingAt t P C v ps Ow G w0){v':Value}(X:P c' y Fy w0)(f:∀k,Fy k->¬G k)(V:g8 (zP t) 0 w v' (ps++[y]))(Y:w0.grownBy w v.ownBlock)(r:v'.ownBlock=v.ownBlock\/v'.ownBlock=some w0.heap.size):RingAt t P (C++[c']) v' (ps++[y]) (pg Ow (ab0 C) Fy) (λk=>G k\/Fy k\/v'.ownBlock=some k) w:=by
 have U:∀k,k<w0.heap.size->v.ownBlock≠some k->w.heap[k]?=w0.heap[k]?:=λk S R=>Y.block k S (λe=>R e.Y);have p:w0.heap.size<=w.heap.size:=Y.size;have T:∀k,v.ownBlock=some k->¬Fy k:=λk e Q=>f k Q (h.mg k e).1;have d:=(g _ _).low X;refine⟨V,by rw[aE,aE,h.len];rfl,λj x=>?_,λa b k s u=>?_,λk e=>⟨.inr (.inr e),λj x=>?_⟩,λj k x=>?_,λk z=>?_⟩
 .have c:j<ab0 C+1:=by rw[aE,bh] at x;exact x
  by_cases e:j=ab0 C
  .subst e
   rw[iK,cU (aD _),aT,cI (by rw[h.len];omega)];simp only[h.len,cZ,bZ,ay,br];exact(g _ _).stay X (λk z=>U k (d k z) (λe=>T k e z)) p
  .have q:j<ab0 C:=aa
   rw[hX e,da q,aT,cD (by rw[h.len];exact q),<-aT];exact(g _ _).stay (h.each j q) (λk z=>U k (h.low k (h.qu j k z)) (λe=>(h.mg k e).2 j z)) p
 .by_cases c:a=ab0 C
  .by_cases q:b=ab0 C
   .omega
   .rw[c,iK] at s;rw[hX q] at u
    exact absurd (h.qu b k u) (f k s)
  .rw[hX c] at s
   by_cases q:b=ab0 C
   .rw[q,iK] at u
    exact absurd (h.qu a k s) (f k u)
   .rw[hX q] at u
    exact h.apart a b k s u
 .have z:v.ownBlock=some k\/k=w0.heap.size:=by
   rcases r with r|r
   .exact .inl (by rw[<-r];exact e)
   .exact .inr (by rw[r] at e;injection e with e;omega)
  by_cases u:j=ab0 C
  .rw[u,iK] at x
   rcases z with z|z
   .exact T k z x
   .have:=d k x;omega
  .rw[hX u] at x
   rcases z with z|z
   .exact(h.mg k z).2 j x
   .have:=h.low k (h.qu j k x);omega
 .by_cases u:j=ab0 C
  .rw[u,iK] at x;exact .inr (.inl x)
  .rw[hX u] at x;exact .inl (h.qu j k x)
 .rcases z with z|z|z
  .exact aG (h.low k z) p
  .exact aG (d k z) p
  .exact(V.lt k z).2
end
variable{a a0 n:Nat}{d:Js}{C:List Js}
def ow(a0 n a:Nat):Nat:=(a0+n - a) % n
def qv(h:0<n):ow a0 n a<n:=ek _ h
def rB(h:a0<n)(z:a<n):ow a0 n a=if a<=a0 then a0 - a else a0+n - a:=by
 unfold ow;split
 .rw[show a0+n - a=(a0 - a)+n by omega,Nat.add_mod_right,fA aa]
 .rw[fA aa]
def JM{b:Nat}(h:a0<n)(z:a<n)(y:b<n)(e:ow a0 n a=ow a0 n b):a=b:=by
 rw[rB h z,rB h y] at e;split at e<;>split at e<;>omega
def xB(d:Js)(a0:Nat)(C:List Js):List Js:=(List.range (ab0 C)).map λa=>C.getD (ow a0 (ab0 C) a) d
def iw(d:Js)(z:Nat)(C:List Js):ab0 (xB d z C)=ab0 C:=by unfold xB;simp
def oT(h:a<ab0 (xB d a0 C)):(xB d a0 C)[a]=C.getD (ow a0 (ab0 C) a) d:=by unfold xB;simp
def EP{e:Js}(h:a<ab0 C):(xB d a0 C).getD a e=C[ow a0 (ab0 C) a]'(qv aa):=by
 rw[aT,aL (by rw[iw];exact h),br,oT,aT,aL (qv aa),br]
def RG{c:Js}(x:a0<ab0 C)(h:a<ab0 C):xB d a0 (C.set (ow a0 (ab0 C) a) c)=(xB d a0 C).set a c:=by
 refine eK (by rw[iw,aZ,aZ,iw]) λi z u=>?_;have v:i<ab0 C:=by rw[iw,aZ] at z;exact z
 rw[oT,fy,oT,aZ];by_cases e:a=i
 .subst e
  rw[aH rfl,aT,fp (qv aa),br]
 .rw[aF e,aT,dY (λy=>e (JM x h v y)),<-aT]
def ER(h:a0<n)(y:a+1<n):ow ((a0+1) % n) n (a+1)=ow a0 n a:=by
 have z:(a0+1) % n<n:=ek _ aa;rw[rB z y,rB h aa];by_cases e:a0+1=n
 .rw[e,Nat.mod_self]
  split<;>split<;>omega
 .rw[fA aa]
  split<;>split<;>omega
def EV(h:a0<n):ow a0 n 0=a0:=by rw[rB h aa,aH (bl _)];omega
def Pp{sp:ie}(x:a0<ab0 C):xB sp.new ((a0+1) % ab0 C) (C.set ((a0+1) % ab0 C) sp.new)=wE sp (xB sp.new a0 C):=by
 have z:(a0+1) % ab0 C<ab0 C:=ek _ aa;show _=sp.new::(xB sp.new a0 C).dropLast
 refine eK (by rw[iw,aZ,aK,eM,iw];omega) λi v t=>?_;have y:i<ab0 C:=by rw[iw,aZ] at v;exact v
 rw[oT,aZ];cases i with
 | zero=>rw[EV z,bZ,aT,fp z,br]
 | succ a=>
  rw[dR,gN,oT,ER x y,aT,dY,<-aT];intro e;have u:ow ((a0+1) % ab0 C) (ab0 C) (a+1)=ow ((a0+1) % ab0 C) (ab0 C) 0:=by rw[ER x y,EV z];omega
  have:=JM z y aa u;omega
end D
def V6(d lo hi:Int)(L W:List Mn)(w:World)(e:Ending)(w':World):Prop:=
 (jA d lo hi L W=true/\∃(g:Nat) (F:Nat->Prop),e=.returned (.tuple #[aq g,af6 0])/\vR w' g F d ⟨L,W,lo,hi⟩/\(∀k,F k->w.heap.size<=k)/\af3 w w') \/
 (jA d lo hi L W=false/\e=.returned (.tuple #[.pointer none,af6 1])/\af3 w w')
def zd(d y x:Int)(vl vw:Value)(L W:List Mn)(w:World)(u:mS w vl L)(t:mS w vw W)(hr:oY (L++W))(hlen:ab0 L+ab0 W<=1000000):af4 af5 349 #[af6 d,af6 y,af6 x,vl,vw] w (V6 d y x L W w):=by
 have HL:=ax u;have HW:=ax t;obtain⟨A,ca,rfl,na,ma,z⟩:=u.form;obtain⟨B,cb,rfl,nb,mb,v⟩:=t.form;have FA:=ax z;clear u t z v;by_cases hd:d<10\/1000<d
 .have O:Hid (jA d y x L W=false):=by show jA d y x L W=false;unfold jA;rw[bq aa];rfl
  have z:=ax hd;clear hd;go_in;go_wp21;refine RX (Gl d w z.o) ?_;intro H n;go_wp2;refine ak ?_;exact .inr ⟨O.o,rfl,n⟩
 .have d0:10<=d:=aa
  have d1:d<=1000:=aa;clear hd;by_cases hwl:d<=(ab0 W:Int)
  .have O:Hid (jA d y x L W=false):=by show jA d y x L W=false;unfold jA;rw[bq aa];rfl
   go_in;go_wp21;refine WE (Bs d w d0 d1) ?_;rintro g H ⟨hg,hd,n⟩;clear hd;go_wp2;refine ak ?_;exact .inr ⟨O.o,rfl,n⟩
  .have HRW:Hid (jA d y x L W=(lG y x (ab0 L) 0 0 0 (L++W) && decide (0<tot (L++W)\/(y=0/\x=0)))):=by show _=_;unfold jA;rw[bN (show 10<=d/\d<=1000/\(ab0 W:Int)<d from⟨d0,d1,aa⟩)];rfl
   have Pq:=ax hr;clear hr;go_in;go_wp21;refine WE (Bs d w d0 d1) ?_;rintro g H ⟨hg,⟨lv,wv,z,u,v,-⟩,n⟩;obtain⟨A1,c1,rfl,_,_,s⟩:=u.form;obtain⟨A2,c2,rfl,_,_,t⟩:=v.form;have hz1:=n.size;have hg1:=z.lt;have BK:=ax z;clear z u v s t;go_wp21;have s:af3 H (H.alloc (.cells #[.slice A (ab0 L) ca,.slice B (ab0 W) cb] 109)):=(aC _ _).alloc (aD _) _;have r:vQ (H.alloc (.cells #[.slice A (ab0 L) ca,.slice B (ab0 W) cb] 109)) H.heap.size [L,W]:=Br ((HL.o.K n).K s) ((HW.o.K n).K s);refine WE (yb H.heap.size [L,W] _ ag r ad ae) ?_;rintro v2 w2 ⟨v,hb2⟩;rw[show([L,W]:List (List Mn)).flatten=L++W by simp] at v;have hz2:=hb2.size;simp only[aI] at hz2;have hbw2:af3 H w2:=s.T (hb2.M ad);have BK2:=ax (BK.o.K hbw2);have Zp:af3 w w2:=n.T (hbw2.M hz1);have u:ab0 (L++W)=ab0 L+ab0 W:=aE ..;have⟨N,z⟩:=ar (L++W);rw[z] at v HRW Pq u;have HN:=ax z;have HNL:=ax u;have ae5:ab0 N<=1000000:=aa;obtain⟨A3,c3,rfl,n3,m3,t⟩:=v.form;have O3:Hid (ic (g+1) w2 (.slice A3 (ab0 N) c3) N):=ax (v.more ae);clear z u s r t v;go_wp2
   go_loopg [34] (ab0 N) (λq i wr=>∃(j:Nat) (p t:Int),q=ab0 N - j/\j<=ab0 N/\i=af6 j/\Hid (t=tot (N.take j))/\0<=t/\t<=281474976710656/\Hid (lG y x (ab0 L) 0 0 0 N=lG y x (ab0 L) j p t (N.drop j)) /\
    Hid (∀k (h:k<ab0 N),j=k+1->p=N[k].1)/\Hid (g7 wr g 212 #[af6 d,.slice A1 0 c1,.slice A2 0 c2,af6 0,af6 0,.int .u64 t])/\af3 w wr/\w2.heap.size<=wr.heap.size/\Hid (ic (g+1) wr (.slice A3 (ab0 N) c3) N))
   exact⟨0,0,0,rfl,bl _,rfl,rfl,eB _,aa,rfl,(λk h e=>by omega),BK2,Zp,aD _,O3⟩
   case round=>
    obtain⟨j,p,t,v,hj,rfl,HT,t0,t1,C,HP,HB,D,hz3,HF⟩:=hrel;have HK:=ax v;have hgw:g<wr.heap.size:=HB.o.lt;have Zq:=D.size;clear v;obtain⟨A4,c4,hv4,_,_,f4⟩:=HF.o.form;simp only[gv,true_and] at hv4;obtain⟨rfl,rfl⟩:=hv4;by_cases hlt:j<ab0 N
    .obtain⟨g5,q5,rfl,r,s,u⟩:=f4.at_ hlt
     clear f4;have hm:=Pq.o N[j] (aP hlt);have zI:Hid (tot (N.take (j+1))=t+N[j].2):=by show _=_;rw[ja N j hlt,HT.o]
     have K:Hid (lG y x (ab0 L) j p t (N.drop j)=if N[j].2=0\/281474976710656 - t<N[j].2\/N[j].1<y\/x<N[j].1\/(0<j/\j<ab0 L/\N[j].1<p) then false else lG y x (ab0 L) (j+1) N[j].1 (t+N[j].2) (N.drop (j+1))):=by
      show _=_
      rw[b_ hlt];conv=>lhs;unfold lG
     have⟨m,z⟩:=ar (N[j]);have Zr:=ax z;rw[z] at s u hm zI K;have T:=HB.o.k5;have KR:=ax T;have E0:=ax s;have E1:=ax u;clear z T s u;have SA:Hid (∀k,j=k+1->j<ab0 L->∃X R,A=some (af7 X R)/\X<w.heap.size/\w.cell? (af7 X (R+k * 2))=some (af6 p)):=λk hjk hjl=>by
      obtain⟨X,R,z,V7,x0,_⟩:=FA.o.at_ (j:=k) (by omega);refine⟨X,R,z,V7,?_⟩;rw[HP.o k aa hjk];have e:L[k]' aa =N[k]' aa :=by
       have u:=HN.o;subst u;rw[da aa]
      rw[<-e];exact x0
     obtain⟨hm0,hm1,hm2,Zs⟩:=hm;have Ug:(m.2=0)\/(m.2≠0/\281474976710656 - t<m.2)\/((m.2≠0/\¬281474976710656 - t<m.2)/\m.1<y)\/((m.2≠0/\¬281474976710656 - t<m.2)/\¬m.1<y/\x<m.1) \/
      ((m.2≠0/\¬281474976710656 - t<m.2)/\(¬m.1<y/\¬x<m.1)/\(0<j/\j<ab0 L/\m.1<p)) \/
      ((m.2≠0/\¬281474976710656 - t<m.2)/\(¬m.1<y/\¬x<m.1)/\(j=0\/(0<j/\¬j<ab0 L)\/(0<j/\j<ab0 L/\¬m.1<p))):=aa
     have ew0:=ax (fe (281474976710656 - t) aa);have s:=E0.o;have z:=E1.o;go_upto_region 7 with fail;have o:af3 wr (wr.alloc (.cells #[af6 m.1,.int .u64 m.2] 216)):=(aC _ _).alloc (aD _) _;have Q:af3 w (wr.alloc (.cells #[af6 m.1,.int .u64 m.2] 216)):=D.T (o.M Zq);have x0:(wr.alloc (.cells #[af6 m.1,.int .u64 m.2] 216)).cell? (af7 (wr.heap.size) 0)=some (af6 m.1):=by simp[bW]
     have x1:(wr.alloc (.cells #[af6 m.1,.int .u64 m.2] 216)).cell? (af7 (wr.heap.size) 1)=some (.int .u64 m.2):=by simp[bW]
     have x5:=(o.C (p:=af7 g 5) hgw).T KR.o;have I:=ax (HB.o.K o);have J:=ax (HF.o.K o);have Gp:=o.size;clear s z r;generalize wr.alloc (.cells #[af6 m.1,.int .u64 m.2] 216)=w4 at *;have V:=ew0.o;rcases Ug with h|⟨h,s⟩|⟨⟨h,s⟩,u⟩|⟨⟨h,s⟩,u,f⟩|⟨⟨h,s⟩,⟨u,f⟩,h4,c,Y⟩|⟨⟨h,s⟩,⟨u,f⟩,h4⟩
     .have z:Hid (m.2=0\/281474976710656 - t<m.2\/m.1<y\/x<m.1\/(0<j/\j<ab0 L/\m.1<p)):=.inl h
      have a:(m.2 == 0)=true:=beq_iff_eq.2 h;clear h;go_wp21
      go_quiet (fail)
      clear V;go_wp2;go_ret2;refine .inr ⟨?_,rfl,below_drewN Q _⟩;rw[HRW.o,C.o,K.o,aH z.o];rfl
     .have z:Hid (m.2=0\/281474976710656 - t<m.2\/m.1<y\/x<m.1\/(0<j/\j<ab0 L/\m.1<p)):=.inr (.inl s)
      have a:(m.2 == 0)=false:=bV.2 h;have U:decide (281474976710656 - t<m.2)=true:=bN s;clear h s;go_wp21
      go_quiet (fail)
      clear V;go_wp2;go_ret2;refine .inr ⟨?_,rfl,below_drewN Q _⟩;rw[HRW.o,C.o,K.o,aH z.o];rfl
     .have z:Hid (m.2=0\/281474976710656 - t<m.2\/m.1<y\/x<m.1\/(0<j/\j<ab0 L/\m.1<p)):=.inr (.inr (.inl u))
      have a:(m.2 == 0)=false:=bV.2 h;have U:decide (281474976710656 - t<m.2)=false:=bq s;have P:decide (m.1<y)=true:=bN u;clear h s u;go_wp21
      go_quiet (fail)
      clear V;go_wp2;go_ret2;refine .inr ⟨?_,rfl,below_drewN Q _⟩;rw[HRW.o,C.o,K.o,aH z.o];rfl
     .have z:Hid (m.2=0\/281474976710656 - t<m.2\/m.1<y\/x<m.1\/(0<j/\j<ab0 L/\m.1<p)):=.inr (.inr (.inr (.inl f)))
      have a:(m.2 == 0)=false:=bV.2 h;have U:decide (281474976710656 - t<m.2)=false:=bq s;have P:decide (m.1<y)=false:=bq u;have F:decide (x<m.1)=true:=bN f;clear h s u f;go_wp21
      go_quiet (fail)
      clear V;go_wp2;go_ret2;refine .inr ⟨?_,rfl,below_drewN Q _⟩;rw[HRW.o,C.o,K.o,aH z.o];rfl
     .have z:Hid (m.2=0\/281474976710656 - t<m.2\/m.1<y\/x<m.1\/(0<j/\j<ab0 L/\m.1<p)):=.inr (.inr (.inr (.inr ⟨h4,c,Y⟩)))
      have a:(m.2 == 0)=false:=bV.2 h;have U:decide (281474976710656 - t<m.2)=false:=bq s;have P:decide (m.1<y)=false:=bq u;have F:decide (x<m.1)=false:=bq f;obtain⟨k,v⟩:∃k,j=k+1:=⟨j - 1,aa⟩;subst v;obtain⟨X,R,rfl,V7,M⟩:=SA.o k rfl c;have l:=(Q.C (p:=af7 X (R+k * 2)) V7).T M;have T:decide ((0:Int)<(k:Int)+1)=true:=bN aa;have E:decide ((k:Int)+1<(ab0 L:Int))=true:=bN aa;have b7:decide (m.1<p)=true:=bN Y;have j1:(0:Int)<=(k:Int):=aa;have j2:(k:Int)<(ab0 L:Int):=aa;have j4:ad0 .i64 (k:Int)=(k:Int):=cy _ aa;clear h s u f h4 c Y M;go_wp21
      go_quiet (fail)
      clear V j4;go_wp2;go_ret2;refine .inr ⟨?_,rfl,below_drewN Q _⟩;rw[HRW.o,C.o,K.o,aH z.o];rfl
     .have z:Hid (¬(m.2=0\/281474976710656 - t<m.2\/m.1<y\/x<m.1\/(0<j/\j<ab0 L/\m.1<p))):=by show ¬_;omega
      have Lm:Hid (lG y x (ab0 L) 0 0 0 N=lG y x (ab0 L) (j+1) m.1 (t+m.2) (N.drop (j+1))):=by show _=_;rw[C.o,K.o,aF z.o]
      have a:(m.2 == 0)=false:=bV.2 h;have U:decide (281474976710656 - t<m.2)=false:=bq s;have P:decide (m.1<y)=false:=bq u;have F:decide (x<m.1)=false:=bq f;have VX:=ax (fe (t+m.2) aa);have b:Hid (0<=t+m.2/\t+m.2<=281474976710656):=by show _/\_;omega
      clear h u f s z;rcases h4 with c|⟨c,Y⟩|⟨c,Y,h7⟩
      .subst c
       have z:((0:Nat):Int)=0:=rfl;rw[z];go_wp21
       go_quiet (fail)
       clear V z a U P F x0 hm0 hm1 hm2 Zs t0 t1;go_upto_region 9 with fail;have G:=I.o.F 5;have Z:=ax (λ(z:World) (r:z.cell? (af7 g 5)=some (.int .u64 t)/\z.cell? (af7 (wr.heap.size) 1)=some (.int .u64 m.2))=>(aB (r.1) (aB (r.2) (VX.o))));refine kr (λz=>z.cell? (af7 g 5)=some (.int .u64 t)/\z.cell? (af7 (wr.heap.size) 1)=some (.int .u64 m.2)) 9 (hQ 0 9 []) (⟨x5,x1⟩) ?_;iterate 9 refine jG ?_
       refine hN ?_;simp only[aX,bj];go_wp21;refine g6 ?_;go_wp2;go_roundg (ab0 N - (0+1))
       exact⟨0+1,m.1,t+m.2,rfl,aa,af,zI.o.Y,b.o.1,b.o.2,Lm,λk h e=>(by obtain rfl:k=0:= aa ;rw[Zr.o]),I.o.hJ 5 _,bw,ag,J.o.far (p:=af7 g 5) (λe=>by have S:g+1<=g:=(J.o.lt _ e).1;omega) _⟩;have:=HK.o;omega
      .have T:decide (0<j)=true:=bN aa
       have E:decide (j<ab0 L)=false:=bq aa;clear Y;go_wp21
       go_quiet (fail)
       clear V a U P F x0 hm0 hm1 hm2 Zs t0 t1 T E c;go_upto_region 9 with fail;have G:=I.o.F 5;have Z:=ax (λ(z:World) (r:z.cell? (af7 g 5)=some (.int .u64 t)/\z.cell? (af7 (wr.heap.size) 1)=some (.int .u64 m.2))=>(aB (r.1) (aB (r.2) (VX.o))));refine kr (λz=>z.cell? (af7 g 5)=some (.int .u64 t)/\z.cell? (af7 (wr.heap.size) 1)=some (.int .u64 m.2)) 9 (hQ 0 9 []) (⟨x5,x1⟩) ?_;iterate 9 refine jG ?_
       refine hN ?_;simp only[aX,bj];go_wp21;refine g6 ?_;go_wp2;go_roundg (ab0 N - (j+1))
       exact⟨j+1,m.1,t+m.2,rfl,aa,af,zI.o.Y,b.o.1,b.o.2,Lm,λk h e=>(by obtain rfl:k=j:= aa ;rw[Zr.o]),I.o.hJ 5 _,bw,ag,J.o.far (p:=af7 g 5) (λe=>by have S:g+1<=g:=(J.o.lt _ e).1;omega) _⟩;have:=HK.o;omega
      .obtain⟨k,v⟩:∃k,j=k+1:=⟨j - 1,aa⟩
       subst v;obtain⟨X,R,rfl,V7,M⟩:=SA.o k rfl Y;have l:=(Q.C (p:=af7 X (R+k * 2)) V7).T M;have T:decide ((0:Int)<(k:Int)+1)=true:=bN aa;have E:decide ((k:Int)+1<(ab0 L:Int))=true:=bN aa;have b7:decide (m.1<p)=false:=bq h7;have j1:(0:Int)<=(k:Int):=aa;have j2:(k:Int)<(ab0 L:Int):=aa;have j4:ad0 .i64 (k:Int)=(k:Int):=cy _ aa;clear c Y h7 M;go_wp21
       go_quiet (fail)
       clear V j4 a U P F x0 hm0 hm1 hm2 Zs t0 t1 T E b7 j1 j2 l;go_upto_region 9 with fail;have G:=I.o.F 5;have Z:=ax (λ(z:World) (r:z.cell? (af7 g 5)=some (.int .u64 t)/\z.cell? (af7 (wr.heap.size) 1)=some (.int .u64 m.2))=>(aB (r.1) (aB (r.2) (VX.o))));refine kr (λz=>z.cell? (af7 g 5)=some (.int .u64 t)/\z.cell? (af7 (wr.heap.size) 1)=some (.int .u64 m.2)) 9 (hQ 0 9 []) (⟨x5,x1⟩) ?_;iterate 9 refine jG ?_
       refine hN ?_;simp only[aX,bj];go_wp21;refine g6 ?_;go_wp2;go_roundg (ab0 N - (k+1+1))
       exact⟨k+1+1,m.1,t+m.2,rfl,aa,af,zI.o.Y,b.o.1,b.o.2,Lm,λz h e=>(by obtain rfl:z=k+1:= aa ;rw[Zr.o]),I.o.hJ 5 _,bw,ag,J.o.far (p:=af7 g 5) (λe=>by have S:g+1<=g:=(J.o.lt _ e).1;omega) _⟩;have:=HK.o;omega
    .clear f4
     have HE:Hid (lG y x (ab0 L) 0 0 0 N=true):=by show _=true;rw[C.o,eu aa];rfl
     have HTN:Hid (t=tot N):=by show t=_;rw[HT.o,bc aa]
     have T:=HB.o.k5;have P:Hid (jA d y x L W=decide (0<t\/(y=0/\x=0))):=by show _=_;rw[HRW.o,HE.o,HTN.o];rfl
     have o:Hid (tot (L++W)=t):=by show _=_;rw[HN.o,HTN.o]
     rw[<-o.o] at HB T P;have ht0:0<=tot (L++W):=by rw[o.o];exact t0
     clear t0 t1 HT C HP;have Ug:(0<tot (L++W))\/(tot (L++W)=0/\y≠0)\/(tot (L++W)=0/\y=0/\x≠0)\/(tot (L++W)=0/\y=0/\x=0):=aa;rcases Ug with h|⟨h,u⟩|⟨h,u,f⟩|⟨h,u,f⟩
     .have O:Hid (jA d y x L W=true):=by show _=true;rw[P.o];exact bN (.inl h)
      have nb:(tot (L++W) == 0)=false:=bV.2 aa;go_wp21;refine WE (rN (.slice A (ab0 L) ca) L wr (HL.o.K D) aa) ?_;rintro v5 Q ⟨c,Y⟩;have IZ:=Y.size;obtain⟨R,U,rfl,_,_,G⟩:=c.form;have r:=ax c;clear c G;go_wp21;refine WE (rN (.slice B (ab0 W) cb) W Q ((HW.o.K D).K Y) aa) ?_;rintro v6 w6 ⟨b,a⟩;have UU:=a.size;obtain⟨V,X,rfl,_,_,M⟩:=b.form;have s:=ax b;have z:=ax ((HB.o.K Y).K a);have E:=ax (r.o.K a);clear b M;have l:=z.o.k1;have F:=z.o.k2;have I:=z.o.k3;have J:=z.o.k4;have z1:=z.o.F 1;have z2:=z.o.F 2;have z3:=z.o.F 3;have z4:=z.o.F 4;go_wp2;go_ret2;refine .inl ⟨O.o,g,λk=>k=g\/(Value.slice R (ab0 L) U).ownBlock=some k\/(Value.slice V (ab0 W) X).ownBlock=some k,rfl,?_,?_,bw⟩
      .refine⟨_,_,(((z.o.hJ 1 _).hJ 2 _).hJ 3 _).hJ 4 _,?_,?_,.inl rfl,λk e=>.inr (.inl e),λk e=>.inr (.inr e),λk e K=>?_,λk v=>?_⟩
       .have q:∀i,(Value.slice R (ab0 L) U).ownBlock≠some ((af7 g i):Addr).block:=λi e=>by have S:wr.heap.size<=g:=(r.o.lt _ e).1;omega
        exact(((((E.o.far (p:=af7 g 1) (q 1) _).far (p:=af7 g 2) (q 2) _).far (p:=af7 g 3) (q 3) _).far (p:=af7 g 4) (q 4) _).more (bl _))
       .have q:∀i,(Value.slice V (ab0 W) X).ownBlock≠some ((af7 g i):Addr).block:=λi e=>by have S:Q.heap.size<=g:=(s.o.lt _ e).1;omega
        exact(((((s.o.far (p:=af7 g 1) (q 1) _).far (p:=af7 g 2) (q 2) _).far (p:=af7 g 3) (q 3) _).far (p:=af7 g 4) (q 4) _).more (bl _))
       .have h8:=(r.o.lt k K).2;have S:=(s.o.lt k e).1;omega
       .simp only[bT]
        rcases v with rfl|v|v
        .omega
        .have:=(r.o.lt k v).2;omega
        .exact(s.o.lt k v).2
      .rintro k (rfl|v|v)
       .exact hg
       .have:=(r.o.lt k v).1;omega
       .have:=(s.o.lt k v).1;omega
     .have O:Hid (jA d y x L W=false):=by show _=false;rw[P.o];exact bq aa
      have nb:(tot (L++W) == 0)=true:=beq_iff_eq.2 h;have m:(y != 0)=true:=by simpa using u
      clear h u;go_wp2;go_ret2;exact .inr ⟨O.o,rfl,D⟩
     .have O:Hid (jA d y x L W=false):=by show _=false;rw[P.o];exact bq aa
      have nb:(tot (L++W) == 0)=true:=beq_iff_eq.2 h;have m:(y != 0)=false:=by simpa using u
      have nh:(x != 0)=true:=by simpa using f
      clear h u f;go_wp2;go_ret2;exact .inr ⟨O.o,rfl,D⟩
     .have O:Hid (jA d y x L W=true):=by show _=true;rw[P.o];exact bN (.inr ⟨u,f⟩)
      have nb:(tot (L++W) == 0)=true:=beq_iff_eq.2 h;have m:(y != 0)=false:=by simpa using u
      have nh:(x != 0)=false:=by simpa using f
      clear h u f;go_wp21;refine WE (rN (.slice A (ab0 L) ca) L wr (HL.o.K D) aa) ?_;rintro v5 Q ⟨c,Y⟩;have IZ:=Y.size;obtain⟨R,U,rfl,_,_,G⟩:=c.form;have r:=ax c;clear c G;go_wp21;refine WE (rN (.slice B (ab0 W) cb) W Q ((HW.o.K D).K Y) aa) ?_;rintro v6 w6 ⟨b,a⟩;have UU:=a.size;obtain⟨V,X,rfl,_,_,M⟩:=b.form;have s:=ax b;have z:=ax ((HB.o.K Y).K a);have E:=ax (r.o.K a);clear b M;have l:=z.o.k1;have F:=z.o.k2;have I:=z.o.k3;have J:=z.o.k4;have z1:=z.o.F 1;have z2:=z.o.F 2;have z3:=z.o.F 3;have z4:=z.o.F 4;go_wp2;go_ret2;refine .inl ⟨O.o,g,λk=>k=g\/(Value.slice R (ab0 L) U).ownBlock=some k\/(Value.slice V (ab0 W) X).ownBlock=some k,rfl,?_,?_,bw⟩
      .refine⟨_,_,(((z.o.hJ 1 _).hJ 2 _).hJ 3 _).hJ 4 _,?_,?_,.inl rfl,λk e=>.inr (.inl e),λk e=>.inr (.inr e),λk e K=>?_,λk v=>?_⟩
       .have q:∀i,(Value.slice R (ab0 L) U).ownBlock≠some ((af7 g i):Addr).block:=λi e=>by have S:wr.heap.size<=g:=(r.o.lt _ e).1;omega
        exact(((((E.o.far (p:=af7 g 1) (q 1) _).far (p:=af7 g 2) (q 2) _).far (p:=af7 g 3) (q 3) _).far (p:=af7 g 4) (q 4) _).more (bl _))
       .have q:∀i,(Value.slice V (ab0 W) X).ownBlock≠some ((af7 g i):Addr).block:=λi e=>by have S:Q.heap.size<=g:=(s.o.lt _ e).1;omega
        exact(((((s.o.far (p:=af7 g 1) (q 1) _).far (p:=af7 g 2) (q 2) _).far (p:=af7 g 3) (q 3) _).far (p:=af7 g 4) (q 4) _).more (bl _))
       .have h8:=(r.o.lt k K).2;have S:=(s.o.lt k e).1;omega
       .simp only[bT]
        rcases v with rfl|v|v
        .omega
        .have:=(r.o.lt k v).2;omega
        .exact(s.o.lt k v).2
      .rintro k (rfl|v|v)
       .exact hg
       .have:=(r.o.lt k v).1;omega
       .have:=(s.o.lt k v).1;omega
