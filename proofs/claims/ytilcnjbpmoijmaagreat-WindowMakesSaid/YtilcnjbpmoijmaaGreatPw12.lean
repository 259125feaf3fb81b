/- Parts of a proof. No condition. -/
import Derived.Test.YtilcnjbpmoijmaaGreatPw01
set_option maxRecDepth 100000
set_option maxHeartbeats 16000000
set_option linter.unusedVariables false
set_option linter.unusedSimpArgs false
namespace Go.Proofs.YtilcnjbpmoijmaaGreat.D
open Tryz
variable{a low m:Nat}{k n:Int}
def hiN(a low:Nat):Nat:=min 9223372036854775807 (min 9223372036854775807 (low+low * a / 10000) * 10000 / (10000 - a))
def uB(a:Nat):Nat->Nat->Nat
 | 0,low=>low
 | n+1,low=>uB a n (hiN a low+1)
theorem Ku(a m:Nat):∀n low,uB a (n+m) low=uB a m (uB a n low)
 | 0,low=>by rw[Nat.zero_add];rfl
 | n+1,low=>by rw[Nat.succ_add];exact Ku a m n _
theorem ba0:uB 100 2100 1=9223372036854775808:=by
 have s:∀{x y z:Nat} (n:Nat),uB 100 100 x=y->uB 100 n y=z->uB 100 (100+n) x=z:=fun n h k=>by rw[Ku,h,k]
 exact s (y:=104) 2000 au (s (x:=104) (y:=796) 1900 au (s (x:=796) (y:=5881) 1800 au (s (x:=5881) (y:=43437) 1700 au (s (x:=43437) (y:=321021) 1600 au (s (x:=321021) (y:=2372209) 1500 au (s (x:=2372209) (y:=17529544) 1400 au (s (x:=17529544) (y:=129535419) 1300 au (s (x:=129535419) (y:=957208293) 1200 au (s (x:=957208293) (y:=7073337340) 1100 au (s (x:=7073337340) (y:=52268771102) 1000 au (s (x:=52268771102) (y:=386242632093) 900 au (s (x:=386242632093) (y:=2854158758609) 800 au (s (x:=2854158758609) (y:=21090945283128) 700 au (s (x:=21090945283128) (y:=155852568324805) 600 au (s (x:=155852568324805) (y:=1151680151238675) 500 au (s (x:=1151680151238675) (y:=8510396620432366) 400 au (s (x:=8510396620432366) (y:=62887990697042869) 300 au (s (x:=62887990697042869) (y:=464713872960532417) 200 au (s (x:=464713872960532417) (y:=3434025818416436332) 100 au (s (x:=3434025818416436332) (y:=9223372036854775808) 0 au (rfl)))))))))))))))))))))
theorem NI(a low:Nat):hiN a low<=9223372036854775807:=Nat.min_le_left ..
theorem am8{FN:Nat}(ha:100<=a)(hb:a<=5000)(h:FN<=low):hiN 100 FN<=hiN a low:=by
 unfold hiN;have h1:FN * 100<=low * a:=Nat.mul_le_mul h ha;have h2:FN * 100 / 10000<=low * a / 10000:=Nat.div_le_div_right h1;have h3:min 9223372036854775807 (FN+FN * 100 / 10000)<=min 9223372036854775807 (low+low * a / 10000):=ae
 have h4:min 9223372036854775807 (FN+FN * 100 / 10000) * 10000 / (10000 - 100)<=min 9223372036854775807 (low+low * a / 10000) * 10000 / (10000 - a):=
  bJ (Nat.div_le_div_right (Nat.mul_le_mul_right _ h3)) (Nat.div_le_div_left ae  ae)
 omega
theorem NJ{a:Nat}(ha:100<=a)(hb:a<=5000):∀(n:Nat) {low FN:Nat},FN<=low->uB 100 n FN<=uB a n low
 | 0,_,_,h=>h
 | n+1,_,_,h=>NJ ha hb n (Nat.succ_le_succ (am8 ha hb h))
theorem am9(ha:100<=a)(hb:a<=5000):9223372036854775808<=uB a 2100 1:=by
 have:=NJ ha hb 2100 (aS 1);rw[ba0] at this;exact this
structure Sp where
 low:Int
 mid:Int
 high:Int
def qE(a low:Nat):Sp:=⟨low,(min 9223372036854775807 (low+low * a / 10000):Nat),hiN a low⟩
def og(a:Nat):Nat->Nat->List Sp
 | 0,_=>[]
 | n+1,low=>qE a low::if hiN a low=9223372036854775807 then [] else og a n (hiN a low+1)
def spans(a:Nat):List Sp:=og a 2100 1
theorem y_(a:Nat):∀n low,(og a n low).length<=n
 | 0,_=>by simp[og]
 | n+1,low=>by
  unfold og;have:=y_ a n (hiN a low+1)
  split<;>simp only[aU,bC]<;>omega
theorem bl1(hb:a<=5000)(h:low<=9223372036854775807):low<=hiN a low:=by
 unfold hiN;have h1:low<=min 9223372036854775807 (low+low * a / 10000):=ae
 have h2:low<=min 9223372036854775807 (low+low * a / 10000) * 10000 / (10000 - a):=by
  rw[Nat.le_div_iff_mul_le ae]
  exact Nat.mul_le_mul h1 ae
 omega
theorem FP{a:Nat}(hb:a<=5000):∀(n low:Nat),1<=low->low<=9223372036854775807->(∃k,k<n/\hiN a (uB a k low)=9223372036854775807) ->
 (∀s∈og a n low,1<=s.low/\(low:Int)<=s.low/\s.low<=s.mid/\s.mid<=s.high/\s.high<=9223372036854775807)/\(og a n low).Pairwise (fun x y=>x.high<y.low) /\
  ∃s,(og a n low).getLast?=some s/\s.high=9223372036854775807
 | 0,_,_,_,⟨k,hk,_⟩=>absurd hk ae
 | n+1,low,h1,h2,⟨k,hk,he⟩=>by
  have hg:=bl1 hb h2;have hl:=NI a low;have hmid:min 9223372036854775807 (low+low * a / 10000)<=hiN a low:=by
   unfold hiN;have:min 9223372036854775807 (low+low * a / 10000)<=min 9223372036854775807 (low+low * a / 10000) * 10000 / (10000 - a):=by
    rw[Nat.le_div_iff_mul_le ae]
    exact Nat.mul_le_mul_left _ ae
   omega
  have hs:1<=(qE a low).low/\(low:Int)<=(qE a low).low/\(qE a low).low<=(qE a low).mid/\(qE a low).mid<=(qE a low).high/\(qE a low).high<=9223372036854775807:=by
   unfold qE;refine⟨?_,?_,?_,?_,?_⟩<;>simp only<;>omega
  unfold og
  by_cases hm:hiN a low=9223372036854775807
  ·rw[if_pos hm]
   refine⟨fun s h=>?_,ag,qE a low,rfl,?_⟩
   ·simp only[List.mem_singleton] at h
    subst h;exact hs
   ·show((hiN a low:Nat):Int)=_
    omega
  ·rw[if_neg hm]
   have hk0:0<k:=by
    cases k with
    | zero=>exact absurd he hm
    | succ k=>omega
   obtain⟨i1,i2,s,i3,i4⟩:=FP hb n (hiN a low+1) ae  ae ⟨k - 1,ae,by
    have:k=k - 1+1:=ae
    rw[this] at he;exact he⟩
   refine⟨fun s h=>?_,aZ.2 ⟨fun s h=>?_,i2⟩,s,?_,i4⟩
   ·rcases bn.1 h with rfl|h
    ·exact hs
    ·have:=i1 s h
     omega
   ·have:=i1 s h
    show((hiN a low:Nat):Int)<s.low
    omega
   ·cases hz:og a n (hiN a low+1) with
    | nil=>rw[hz] at i3;simp at i3
    | cons z l=>rw[hz] at i3;rw[List.getLast?_cons_cons,i3]
theorem Zz(ha:100<=a)(hb:a<=5000):∃k,k<2100/\hiN a (uB a k 1)=9223372036854775807:=by
 have h:=am9 ha hb;rw[show(2100:Nat)=2099+1 from rfl,Ku] at h
 have e:uB a 1 (uB a 2099 1)=hiN a (uB a 2099 1)+1:=rfl;rw[e] at h;have:=NI a (uB a 2099 1);exact⟨2099,ae,ae⟩
theorem u_(ha:100<=a)(hb:a<=5000):(∀s∈spans a,1<=s.low/\s.low<=s.mid/\s.mid<=s.high/\s.high<=9223372036854775807)/\(spans a).Pairwise (fun x y=>x.high<y.low) /\
 (spans a).length<=2100/\∃s,(spans a).getLast?=some s/\s.high=9223372036854775807:=by
 obtain⟨h1,h2,h3⟩:=FP hb 2100 1 (aS _) ae (Zz ha hb)
 refine⟨fun s h=>?_,h2,y_ ..,h3⟩
 obtain⟨a1,_,a2,a3,a4⟩:=h1 s h;exact⟨a1,a2,a3,a4⟩
open Tryz
abbrev Pr:=Int × Int
def tot(l:List Pr):Int:=(l.map Prod.snd).sum
abbrev gU(l:List Pr):Prop:=l.Pairwise (fun a b=>a.1<b.1)
abbrev gK(l:List Pr):Prop:=∀p∈l,0<p.2
def gz(k n:Int):List Pr->List Pr
 | []=>[(k,n)]
 | p::l=>if p.1<k then p::gz k n l else if p.1=k then(k,p.2+n)::l else(k,n)::p::l
def gG(a b:List Pr):List Pr:=b.foldl (fun l p=>gz p.1 p.2 l) a
def lS(l:List Pr)(k:Int):Int:=(l.map fun p=>if p.1=k then p.2 else 0).sum
def AU(l:List Pr)(t:Int):Int:=(l.map fun p=>if p.1<t then p.2 else 0).sum
@[simp] theorem bu4:tot []=0:=rfl
@[simp] theorem jI (p:Pr) (l:List Pr):tot (p::l)=p.2+tot l:=by simp[tot]
theorem eH(a b:List Pr):tot (a++b)=tot a+tot b:=by simp[tot]
@[simp] theorem bv9 (k:Int):lS [] k=0:=rfl
@[simp] theorem gV (p:Pr) (l:List Pr) (k:Int):lS (p::l) k=(if p.1=k then p.2 else 0)+lS l k:=by simp[lS]
theorem Jb(a b:List Pr)(k:Int):lS (a++b) k=lS a k+lS b k:=by simp[lS]
@[simp] theorem bw0 (k:Int):AU [] k=0:=rfl
@[simp] theorem qF (p:Pr) (l:List Pr) (k:Int):AU (p::l) k=(if p.1<k then p.2 else 0)+AU l k:=by simp[AU]
theorem AV(a b:List Pr)(k:Int):AU (a++b) k=AU a k+AU b k:=by simp[AU]
theorem wJ(k n:Int):∀l,tot (gz k n l)=tot l+n
 | []=>by simp[gz]
 | p::l=>by
  unfold gz
  split
  ·simp only[jI,wJ k n l];omega
  ·split<;>simp only[jI]<;>omega
theorem AX(k n j:Int):∀l,lS (gz k n l) j=lS l j+if k=j then n else 0
 | []=>by simp[gz]
 | p::l=>by
  unfold gz
  split
  ·simp only[gV,AX k n j l];omega
  ·split
   ·rename_i h
    simp only[gV,h];split<;>omega
   ·simp only[gV];omega
theorem ZA(k n t:Int):∀l,AU (gz k n l) t=AU l t+if k<t then n else 0
 | []=>by simp[gz]
 | p::l=>by
  unfold gz
  split
  ·simp only[qF,ZA k n t l];omega
  ·split
   ·rename_i h
    simp only[qF,h];split<;>omega
   ·simp only[qF];omega
theorem put_mem{l:List Pr}{p:Pr}(h:p∈gz k n l):p.1=k\/p∈l:=by
 induction l with
 | nil=>left;simp[gz] at h;rw[h]
 | cons q l ih=>
  unfold gz at h
  split at h
  ·rcases bn.1 h with rfl|h
   ·exact .inr (aT ..)
   ·exact(ih h).imp id (aY _)
  ·split at h
   ·rcases bn.1 h with rfl|h
    ·exact .inl rfl
    ·exact .inr (aY _ h)
   ·rcases bn.1 h with rfl|h
    ·exact .inl rfl
    ·exact .inr h
theorem Eh{k n:Int}:∀{l:List Pr},gU l->gU (gz k n l)
 | [],_=>by simp[gz]
 | p::l,h=>by
  have h1:=aZ.1 h;unfold gz
  split
  ·rename_i hp
   refine aZ.2 ⟨fun q hq=>?_,Eh h1.2⟩
   rcases put_mem hq with e|hq
   ·rw[e];exact hp
   ·exact h1.1 q hq
  ·split
   ·rename_i hp
    refine aZ.2 ⟨fun q hq=>?_,h1.2⟩
    have:=h1.1 q hq;show k<q.1
    omega
   ·refine aZ.2 ⟨fun q hq=>?_,h⟩
    show k<q.1
    rcases bn.1 hq with rfl|hq
    ·omega
    ·have:=h1.1 q hq;omega
theorem put_pos{k n:Int}(hn:0<n):∀{l:List Pr},gK l->gK (gz k n l)
 | [],_=>by intro p hp;simp[gz] at hp;rw[hp];exact hn
 | q::l,h=>by
  intro p hp;have hq:=h q (aT ..);have hl:gK l:=fun x hx=>h x (aY _ hx)
  unfold gz at hp
  split at hp
  ·rcases bn.1 hp with rfl|hp
   ·exact hq
   ·exact put_pos hn hl p hp
  ·split at hp
   ·rcases bn.1 hp with rfl|hp
    ·show 0<q.2+n;omega
    ·exact hl p hp
   ·rcases bn.1 hp with rfl|hp
    ·exact hn
    ·exact h p hp
theorem xW(k n:Int):∀l:List Pr,l.length<=(gz k n l).length/\(gz k n l).length<=l.length+1
 | []=>by simp[gz]
 | q::l=>by
  have:=xW k n l;unfold gz
  split
  ·simp only[aU];omega
  ·split<;>simp only[aU]<;>omega
theorem zf(a:List Pr):gG a []=a:=rfl
theorem zi(a:List Pr)(p:Pr)(b:List Pr):gG a (p::b)=gG (gz p.1 p.2 a) b:=rfl
theorem ZB(a b:List Pr)(p:Pr):gG a (b++[p])=gz p.1 p.2 (gG a b):=by simp[gG,List.foldl_append]
theorem sN:∀(b a:List Pr),tot (gG a b)=tot a+tot b
 | [],a=>by simp[zf]
 | p::b,a=>by rw[zi,sN b,wJ,jI];omega
theorem Kv(j:Int):∀(b a:List Pr),lS (gG a b) j=lS a j+lS b j
 | [],a=>by simp[zf]
 | p::b,a=>by rw[zi,Kv j b,AX,gV];omega
theorem Q9(j:Int):∀(b a:List Pr),AU (gG a b) j=AU a j+AU b j
 | [],a=>by simp[zf]
 | p::b,a=>by rw[zi,Q9 j b,ZA,qF];omega
theorem nC:∀{b a:List Pr},gU a->gU (gG a b)
 | [],_,h=>h
 | _::b,_,h=>nC (b:=b) (Eh h)
theorem oH:∀{b a:List Pr},gK a->gK b->gK (gG a b)
 | [],_,h,_=>h
 | p::b,_,h,hb=>oH (b:=b) (put_pos (hb p (aT ..)) h) fun x hx=>hb x (aY _ hx)
theorem nG{k:Int}:∀{l:List Pr},(∀p∈l,p.1≠k)->lS l k=0
 | [],_=>rfl
 | p::l,h=>by
  rw[gV,if_neg (h p (aT ..)),nG fun q hq=>h q (aY _ hq)];rfl
theorem jZ{k:Int}:∀{l:List Pr},gK l->0<=lS l k
 | [],_=>by simp
 | p::l,h=>by
  have:=h p (aT ..);have:=jZ (k:=k) (l:=l) fun q hq=>h q (aY _ hq)
  rw[gV];split<;>omega
theorem xX{l:List Pr}(hp:gK l){p:Pr}(h:p∈l):0<lS l p.1:=by
 induction l with
 | nil=>cases h
 | cons q l ih=>
  have hq:=hp q (aT ..);have hl:gK l:=fun x hx=>hp x (aY _ hx)
  rw[gV]
  rcases bn.1 h with rfl|h
  ·have:=jZ (k:=p.1) hl
   simp only[if_true];omega
  ·have:=ih hl h
   split<;>omega
theorem pI{l:List Pr}(hp:gK l)(k:Int):(∃p∈l,p.1=k)<->lS l k≠0:=by
 constructor
 ·rintro ⟨p,h,rfl⟩
  have:=xX hp h;omega
 ·intro h
  by_cases he:∃p∈l,p.1=k
  ·exact he
  ·exact absurd (nG fun p hp e=>he ⟨p,hp,e⟩) h
theorem Kw{p:Pr}{l:List Pr}(h:gU (p::l)):lS (p::l) p.1=p.2:=by
 rw[gV,nG fun q hq e=>by have:=(aZ.1 h).1 q hq;omega];simp
theorem UW:∀{a b:List Pr},gU a->gU b->gK a->gK b->(∀k,lS a k=lS b k)->a=b
 | [],[],_,_,_,_,_=>rfl
 | [],q::b,_,_,_,hb,h=>by
  have:=xX hb (aT ..);rw[<-h] at this;simp at this
 | p::a,[],_,_,ha,_,h=>by
  have:=xX ha (aT ..);rw[h] at this;simp at this
 | p::a,q::b,sa,sb,ha,hb,h=>by
  have s1:=aZ.1 sa;have s2:=aZ.1 sb;have e:p.1=q.1:=by
   have h1:=xX ha (aT ..);have h2:=xX hb (aT ..);rw[h] at h1;rw[<-h] at h2;obtain⟨x,hx,ex⟩:=(pI hb p.1).2 ae
   obtain⟨y,hy,ey⟩:=(pI ha q.1).2 ae
   have l1:q.1<=p.1:=by
    rcases bn.1 hx with rfl|hx
    ·omega
    ·have:=s2.1 x hx;omega
   have l2:p.1<=q.1:=by
    rcases bn.1 hy with rfl|hy
    ·omega
    ·have:=s1.1 y hy;omega
   omega
  have e2:p.2=q.2:=by
   have:=h p.1;rw[Kw sa,e,Kw sb] at this;exact this
  have:p=q:=Prod.ext e e2;subst this;rw[UW s1.2 s2.2 (fun x hx=>ha x (aY _ hx)) (fun x hx=>hb x (aY _ hx)) (fun k=>by
   have:=h k;rw[gV,gV] at this;omega)]
def bump(n:Int):List Pr->List Pr
 | []=>[]
 | p::l=>(p.1,p.2+n)::l
theorem WN(l:List Pr):bump 0 l=l:=by cases l<;>simp[bump]
theorem bump_length(n:Int)(l:List Pr):(bump n l).length=l.length:=by cases l<;>simp[bump]
def dY(m:Nat)(l:List Pr):List Pr × Int:=(bump (tot (l.take (l.length - m))) (l.drop (l.length - m)),tot (l.take (l.length - m)))
theorem lT{l:List Pr}(h:l.length<=m):dY m l=(l,0):=by
 unfold dY;rw[show l.length - m=0 by omega]
 simp[WN]
theorem zk(A B:List Pr):dY B.length (A++B)=(bump (tot A) B,tot A):=by
 unfold dY;rw[show(A++B).length - B.length=A.length by rw[aQ];omega]
 rw[List.take_left' rfl,List.drop_left' rfl]
theorem wK(m:Nat)(hm:0<m)(l:List Pr)(h:m<l.length):∃A q B,l=A++q::B/\(q::B).length=m/\0<A.length:=by
 have h1:=List.take_append_drop (l.length - m) l
 cases hd:l.drop (l.length - m) with
 | nil=>
  have:=congrArg List.length hd;rw[bu] at this;simp at this
  omega
 | cons q B=>
  refine⟨l.take (l.length - m),q,B,by rw[<-hd,h1],?_,?_⟩
  ·rw[<-hd,bu];omega
  ·rw[bG];omega
theorem zn{A B:List Pr}(h:gU (A++B)):gU A/\gU B/\∀a∈A,∀b∈B,a.1<b.1:=by
 rw[gU,List.pairwise_append] at h;exact h
theorem Ky{t:Int}:∀{l:List Pr},(∀p∈l,p.1<t)->AU l t=tot l
 | [],_=>rfl
 | p::l,h=>by
  rw[qF,if_pos (h p (aT ..)),Ky fun q hq=>h q (aY _ hq),jI]
theorem Ei{t:Int}:∀{l:List Pr},(∀p∈l,t<=p.1)->AU l t=0
 | [],_=>rfl
 | p::l,h=>by
  have:=h p (aT ..);rw[qF,if_neg ae,Ei fun q hq=>h q (aY _ hq)];rfl
theorem dN:∀{l:List Pr},gK l->0<=tot l
 | [],_=>by simp
 | p::l,h=>by
  have:=h p (aT ..);have:=dN (l:=l) fun q hq=>h q (aY _ hq)
  rw[jI];omega
theorem an0{l:List Pr}(h:gK l)(h0:0<l.length):0<tot l:=by
 cases l with
 | nil=>simp at h0
 | cons p l=>
  have:=h p (aT ..);have:=dN (l:=l) fun q hq=>h q (aY _ hq)
  rw[jI];omega
theorem zo{A B:List Pr}(h:gK (A++B)):gK A/\gK B:=⟨fun p hp=>h p (List.mem_append_left _ hp),fun p hp=>h p (List.mem_append_right _ hp)⟩
theorem sO:∀{b a:List Pr},gU a->gU b->(∀p∈a,∃q∈b,q.1=p.1)->a.length<=b.length
 | _,[],_,_,_=>by simp
 | [],p::a,_,_,h=>by
  obtain⟨q,hq,_⟩:=h p (aT ..)
  cases hq
 | q::b,p::a,sa,sb,h=>by
  have s1:=aZ.1 sa;have s2:=aZ.1 sb
  by_cases e:p.1=q.1
  ·have:=sO (b:=b) (a:=a) s1.2 s2.2 fun x hx=>by
    obtain⟨y,hy,ey⟩:=h x (aY _ hx)
    rcases bn.1 hy with rfl|hy
    ·have:=s1.1 x hx;omega
    ·exact⟨y,hy,ey⟩
   simp only[aU];omega
  ·have:=sO (b:=b) (a:=p::a) sa s2.2 fun x hx=>by
    obtain⟨y,hy,ey⟩:=h x hx
    rcases bn.1 hy with rfl|hy
    ·obtain⟨z,hz,ez⟩:=h p (aT ..)
     rcases bn.1 hz with rfl|hz
     ·exact absurd ez.symm e
     ·have:=s2.1 z hz
      rcases bn.1 hx with rfl|hx
      ·omega
      ·have:=s1.1 x hx;omega
    ·exact⟨y,hy,ey⟩
   simp only[aU] at this |-;omega
theorem Ej{A B:List Pr}(hA:gK A)(hB:gK B)(k:Int):(∃p∈gG A B,p.1=k)<->(∃p∈A,p.1=k)\/(∃p∈B,p.1=k):=by
 rw[pI (oH hA hB),pI hA,pI hB,Kv];have:=jZ (k:=k) hA;have:=jZ (k:=k) hB;omega
theorem NL(t:Int):∀{l:List Pr},gU l->∃A H,l=A++H/\(∀p∈A,p.1<t)/\∀p∈H,t<=p.1
 | [],_=>⟨[],[],rfl,ag,ag⟩
 | p::l,h=>by
  have h1:=aZ.1 h
  by_cases hp:p.1<t
  ·obtain⟨A,H,e,a1,a2⟩:=NL t h1.2
   refine⟨p::A,H,by rw[e];rfl,fun q hq=>?_,a2⟩
   rcases bn.1 hq with rfl|hq
   ·exact hp
   ·exact a1 q hq
  ·refine⟨[],p::l,rfl,ag,fun q hq=>?_⟩
   rcases bn.1 hq with rfl|hq
   ·omega
   ·have:=h1.1 q hq;omega
def mD:List Pr->Int
 | []=>0
 | p::_=>p.1
theorem Jc(n:Int)(l:List Pr):mD (bump n l)=mD l:=by cases l<;>rfl
def fP(f:Int)(L L':List Pr):Int:=if 0<f/\mD L=mD L' then f else 0
def mJ(m:Nat)(a b:List Pr × Int)(M:List Pr):List Pr × Int:=
 ((dY m M).1,(dY m M).2+fP a.2 a.1 (dY m M).1+fP b.2 b.1 (dY m M).1)
theorem ZC{l:List Pr}(hm:0<m)(hp:gK l)(h:¬0<(dY m l).2):dY m l=(l,0)/\l.length<=m:=by
 by_cases hl:l.length<=m
 ·exact⟨lT hl,hl⟩
 ·obtain⟨A,q,B,rfl,e,hA⟩:=wK m hm l ae
  rw[<-e,zk] at h;exact absurd (an0 (zo hp).1 hA) h
theorem UX(hm:0<m){A S:List Pr}(sA:gU A)(pA:gK A){A0 B0:List Pr}{q:Pr}(eS:S=A0++q::B0)(sS:gU S)(hB:(q::B0).length=m)
 (hk:∀p∈A,∃x∈S,x.1=p.1):∃F,F=(if 0<(dY m A).2/\mD (dY m A).1=q.1 then(dY m A).2 else 0)/\AU (dY m A).1 q.1+F=AU A q.1 /\
  (∀k,q.1<=k->lS (dY m A).1 k=lS A k+if k=q.1 then F else 0)/\gK (dY m A).1/\gU (dY m A).1:=by
 by_cases h0:0<(dY m A).2
 ·by_cases hl:A.length<=m
  ·rw[lT hl] at h0
   exact absurd h0 ag
  ·obtain⟨A1,qa,B1,rfl,e,hA⟩:=wK m hm A ae
   have hc:dY m (A1++qa::B1)=(bump (tot A1) (qa::B1),tot A1):=by rw[<-e,zk]
   rw[hc] at h0 |-;obtain⟨s1,s2,s3⟩:=zn sA;obtain⟨p1,p2⟩:=zo pA;have s4:=aZ.1 s2;subst eS;obtain⟨t1,t2,t3⟩:=zn sS;have t4:=aZ.1 t2;have ht:qa.1<=q.1:=by
    by_cases hc:qa.1<=q.1
    ·exact hc
    ·have:=sO (a:=(q.1,1)::qa::B1) (b:=q::B0) (aZ.2 ⟨fun x hx=>by
      show q.1<x.1
      rcases bn.1 hx with rfl|hx
      ·omega
      ·have:=s4.1 x hx;omega,s2⟩) t2 fun x hx=>by
       rcases bn.1 hx with rfl|hx
       ·exact⟨q,aT ..,rfl⟩
       ·obtain⟨y,hy,ey⟩:=hk x (List.mem_append_right _ hx)
        have hxq:q.1<x.1:=by
         rcases bn.1 hx with rfl|hx
         ·omega
         ·have:=s4.1 x hx;omega
        rcases dB.1 hy with hy|hy
        ·have:=t3 y hy q (aT ..);omega
        ·exact⟨y,hy,ey⟩
     rw[aU,e,hB] at this;omega
   have hb:AU B1 qa.1=0:=Ei fun p hp=>by have:=s4.1 p hp;omega
   have hA1:∀t,qa.1<=t->AU A1 t=tot A1:=fun t h=>Ky fun p hp=>by have:=s3 p hp qa (aT ..);omega
   have hA2:∀k,qa.1<=k->lS A1 k=0:=fun k h=>nG fun p hp e=>by have:=s3 p hp qa (aT ..);omega
   refine⟨_,rfl,?_,fun k hk=>?_,?_,?_⟩
   ·show AU ((qa.1,qa.2+tot A1)::B1) q.1+(if 0<tot A1/\qa.1=q.1 then tot A1 else 0)=AU (A1++qa::B1) q.1
    rw[qF,AV,qF,hA1 _ ht];have h0':0<tot A1:=h0;show(if qa.1<q.1 then qa.2+tot A1 else 0)+AU B1 q.1+_=_
    have hb':qa.1=q.1->AU B1 q.1=0:=fun e=>by rw[<-e];exact hb
    by_cases hq:qa.1=q.1
    ·have:=hb' hq
     simp only[h0',hq,and_self,if_true,Int.lt_irrefl,if_false];omega
    ·have:qa.1<q.1:=ae
     simp only[hq,and_false,if_false,this,if_true];omega
   ·show lS ((qa.1,qa.2+tot A1)::B1) k=lS (A1++qa::B1) k+(if k=q.1 then(if 0<tot A1/\qa.1=q.1 then tot A1 else 0) else 0)
    rw[gV,Jb,gV,hA2 k ae]
    have h0':0<tot A1:=h0;show(if qa.1=k then qa.2+tot A1 else 0)+lS B1 k=_
    by_cases hq:qa.1=q.1
    ·simp only[h0',hq,and_self,if_true]
     by_cases hk2:k=q.1
     ·simp only[hk2,if_true];omega
     ·simp only[hk2,if_false];omega
    ·have:¬qa.1=k:=ae
     simp only[hq,and_false,if_false,this,ite_self];omega
   ·intro p hp
    rcases bn.1 hp with rfl|hp
    ·have:=p2 qa (aT ..)
     show 0<qa.2+tot A1
     have h0':0<tot A1:=h0;omega
    ·exact p2 p (aY _ hp)
   ·exact aZ.2 ⟨fun x hx=>s4.1 x hx,s4.2⟩
 ·obtain⟨e,_⟩:=ZC hm pA h0
  rw[e];exact⟨0,ag,ag,ag,pA,sA⟩
theorem NM(hm:0<m){A B:List Pr}(sA:gU A)(pA:gK A)(sB:gU B)(pB:gK B) :
 mJ m (dY m A) (dY m B) (gG (dY m A).1 (dY m B).1)=dY m (gG A B):=by
 have sS:gU (gG A B):=nC sA;have pS:=oH pA pB;have kA:∀p∈A,∃x∈gG A B,x.1=p.1:=fun p hp=>(Ej pA pB p.1).2 (.inl ⟨p,hp,rfl⟩)
 have kB:∀p∈B,∃x∈gG A B,x.1=p.1:=fun p hp=>(Ej pA pB p.1).2 (.inr ⟨p,hp,rfl⟩)
 by_cases hl:(gG A B).length<=m
 ·have:=sO sA sS kA
  have:=sO sB sS kB;rw[lT (l:=A) ae,lT (l:=B) ae]
  unfold mJ;rw[lT hl];simp[fP]
 ·obtain⟨A0,q,B0,e,hB,_⟩:=wK m hm _ (show m<(gG A B).length by omega)
  obtain⟨FA,hFA,la,ca,pA',sA'⟩:=UX hm sA pA e sS hB kA;obtain⟨FB,hFB,lb,cb,pB',_⟩:=UX hm sB pB e sS hB kB;obtain⟨LA,hLA⟩:∃x,x=(dY m A).1:=⟨_,rfl⟩;obtain⟨LB,hLB⟩:∃x,x=(dY m B).1:=⟨_,rfl⟩;rw[<-hLA] at la ca pA' sA' hFA;rw[<-hLB] at lb cb pB' hFB;have sM:gU (gG LA LB):=nC sA';have pM:=oH pA' pB';obtain⟨M1,H,eM,m1,m2⟩:=NL q.1 sM;have e':=e;rw[e] at sS pS;obtain⟨t1,t2,t3⟩:=zn sS;have t4:=aZ.1 t2;obtain⟨x1,x2⟩:=zo pS;have sM':=sM;rw[eM] at sM' pM;obtain⟨u1,u2,u3⟩:=zn sM';obtain⟨v1,v2⟩:=zo pM;have hcH:∀k,q.1<=k->lS H k=lS (q::B0) k+if k=q.1 then FA+FB else 0:=fun k hk=>by
   have h1:=congrArg (lS · k) eM
   have h2:=congrArg (lS · k) e
   simp only[Jb,Kv] at h1 h2;rw[nG (l:=M1) fun p hp e=>by have:=m1 p hp;omega,ca k hk,cb k hk] at h1
   rw[nG (l:=A0) fun p hp e=>by have:=t3 p hp q (aT ..);omega] at h2
   split at h1<;>rename_i hkq
   ·rw[if_pos hkq];omega
   ·rw[if_neg hkq];omega
  have hF0:0<=FA:=by rw[hFA];split<;>omega
  have hF1:0<=FB:=by rw[hFB];split<;>omega
  have hlo:AU (gG LA LB) q.1+FA+FB=AU (gG A B) q.1:=by rw[Q9,Q9];omega
  have hA0:AU (gG A B) q.1=tot A0:=by
   rw[e,AV,Ky fun p hp=>t3 p hp q (aT ..),Ei fun p hp=>by
    rcases bn.1 hp with rfl|hp
    ·omega
    ·have:=t4.1 p hp;omega]
   omega
  have hM1:AU (gG LA LB) q.1=tot M1:=by
   rw[eM,AV,Ky m1,Ei m2];omega
  have hkey:∀k,(∃p∈H,p.1=k)<->∃p∈q::B0,p.1=k:=fun k=>by
   by_cases hk:q.1<=k
   ·rw[pI v2,pI x2,hcH k hk]
    have:=jZ (k:=k) x2
    by_cases hkq:k=q.1
    ·have h3:=xX x2 (aT ..)
     rw[if_pos hkq,hkq];constructor<;>intro<;>omega
    ·rw[if_neg hkq,Int.add_zero]
   ·constructor
    ·rintro ⟨p,hp,rfl⟩;exact absurd (m2 p hp) hk
    ·rintro ⟨p,hp,rfl⟩
     rcases bn.1 hp with rfl|hp
     ·omega
     ·have:=t4.1 p hp;omega
  have hH:H.length=m:=by
   have h1:=sO u2 t2 fun p hp=>(hkey p.1).1 ⟨p,hp,rfl⟩
   have h2:=sO t2 u2 fun p hp=>(hkey p.1).2 ⟨p,hp,rfl⟩
   omega
  have hcM:dY m (gG LA LB)=(bump (tot M1) H,tot M1):=by rw[eM,<-hH,zk]
  have hcS:dY m (gG A B)=(bump (tot A0) (q::B0),tot A0):=by rw[e,<-hB,zk]
  obtain⟨h,H',rfl⟩:∃h H',H=h::H':=by
   cases H with
   | nil=>simp at hH;omega
   | cons h H'=>exact⟨h,H',rfl⟩
  have hh:h.1=q.1:=by
   have h1:=m2 h (aT ..);obtain⟨y,hy,ey⟩:=(hkey q.1).2 ⟨q,aT ..,rfl⟩
   rcases bn.1 hy with rfl|hy
   ·exact ey
   ·have:=(aZ.1 u2).1 y hy;omega
  have u4:=aZ.1 u2;unfold mJ;rw[<-hLA,<-hLB,hcM,hcS];have f1:fP (dY m A).2 LA (bump (tot M1) (h::H'))=FA:=by rw[hFA,fP,Jc,<-hh];rfl
  have f2:fP (dY m B).2 LB (bump (tot M1) (h::H'))=FB:=by rw[hFB,fP,Jc,<-hh];rfl
  refine Prod.ext ?_ ?_
  ·show bump (tot M1) (h::H')=bump (tot A0) (q::B0)
   have n1:=dN v1;have n2:=dN x1;refine UW (aZ.2 ⟨fun x hx=>u4.1 x hx,u4.2⟩) (aZ.2 ⟨fun x hx=>t4.1 x hx,t4.2⟩) (fun p hp=>?_) (fun p hp=>?_) fun k=>?_
   ·rcases bn.1 hp with rfl|hp
    ·have:=v2 h (aT ..)
     show 0<h.2+tot M1;omega
    ·exact v2 p (aY _ hp)
   ·rcases bn.1 hp with rfl|hp
    ·have:=x2 q (aT ..)
     show 0<q.2+tot A0;omega
    ·exact x2 p (aY _ hp)
   ·show lS ((h.1,h.2+tot M1)::H') k=lS ((q.1,q.2+tot A0)::B0) k
    by_cases hk:q.1<=k
    ·have:=hcH k hk
     rw[gV,gV] at this |-;rw[hh] at this |-
     by_cases hkq:k=q.1
     ·rw[if_pos hkq,if_pos hkq.symm,if_pos hkq.symm] at this
      rw[if_pos (show q.1=k from hkq.symm),if_pos (show q.1=k from hkq.symm)]
      show h.2+tot M1+_=q.2+tot A0+_
      omega
     ·rw[if_neg hkq,if_neg (fun e=>hkq e.symm),if_neg (fun e=>hkq e.symm)] at this
      rw[if_neg (show ¬q.1=k from fun e=>hkq e.symm),if_neg (show ¬q.1=k from fun e=>hkq e.symm)]
      omega
    ·rw[nG fun p hp e=>?_,nG fun p hp e=>?_]
     ·rcases bn.1 hp with rfl|hp
      ·have e1:q.1=k:=e
       omega
      ·have:=t4.1 p hp;omega
     ·rcases bn.1 hp with rfl|hp
      ·have e1:h.1=k:=e
       omega
      ·have:=u4.1 p hp;omega
  ·show tot M1+fP (dY m A).2 LA (bump (tot M1) (h::H'))+fP (dY m B).2 LB (bump (tot M1) (h::H'))=tot A0
   rw[f1,f2];omega
theorem ZE(hm:0<m){A:List Pr}(sA:gU A)(pA:gK A)(k n:Int)(hn:0<n) :
 mJ m (dY m A) ([],0) (gz k n (dY m A).1)=dY m (gz k n A):=by
 have h:=NM hm sA pA (B:=[(k,n)]) ag (by intro p hp;simp at hp;rw[hp];exact hn)
 rw[lT (l:=[(k,n)]) ah] at h
 show mJ m (dY m A) ([],0) (gG (dY m A).1 [(k,n)])=dY m (gG A [(k,n)])
 rw[<-h];simp[mJ,fP]
def nV:List Pr->List Pr->List Pr
 | [],b=>b
 | a,[]=>a
 | p::a,q::b=>if p.1<q.1 then p::nV a (q::b) else if q.1<p.1 then q::nV (p::a) b else(p.1,p.2+q.2)::nV a b
termination_by a b=>a.length+b.length
theorem zip_nil_left(b:List Pr):nV [] b=b:=by unfold nV;rfl
theorem zip_nil_right(a:List Pr):nV a []=a:=by cases a<;>unfold nV<;>rfl
theorem Q_{p q:Pr}(a b:List Pr)(h:p.1<q.1):nV (p::a) (q::b)=p::nV a (q::b):=by rw[nV,if_pos h]
theorem Rf{p q:Pr}(a b:List Pr)(h:q.1<p.1):nV (p::a) (q::b)=q::nV (p::a) b:=by rw[nV,if_neg ae,if_pos h]
theorem Rh{p q:Pr}(a b:List Pr)(h:p.1=q.1):nV (p::a) (q::b)=(p.1,p.2+q.2)::nV a b:=by rw[nV,if_neg ae,if_neg ae]
theorem Em:∀(n:Nat) (a b:List Pr),a.length+b.length<=n->gU a->gU b->gK a->gK b ->
 gU (nV a b)/\gK (nV a b)/\(∀t,(∀p∈a,t<p.1)->(∀p∈b,t<p.1)->∀p∈nV a b,t<p.1)/\∀k,lS (nV a b) k=lS a k+lS b k
 | _,[],b,_,_,sb,_,pb=>by rw[zip_nil_left];exact⟨sb,pb,fun t _ h=>h,ag⟩
 | _,p::a,[],_,sa,_,pa,_=>by rw[zip_nil_right];exact⟨sa,pa,fun t h _=>h,ag⟩
 | 0,p::a,q::b,h,_,_,_,_=>by simp at h
 | n+1,p::a,q::b,h,sa,sb,pa,pb=>by
  have s1:=aZ.1 sa;have s2:=aZ.1 sb;have pa':gK a:=fun x hx=>pa x (aY _ hx)
  have pb':gK b:=fun x hx=>pb x (aY _ hx)
  have hp:=pa p (aT ..);have hq:=pb q (aT ..);simp only[aU] at h
  by_cases c:p.1<q.1
  ·rw[Q_ a b c]
   obtain⟨i1,i2,i3,i4⟩:=Em n a (q::b) (by simp only[aU];omega) s1.2 sb pa' pb
   refine⟨aZ.2 ⟨i3 p.1 s1.1 fun x hx=>?_,i1⟩,fun x hx=>?_,fun t ha hb x hx=>?_,fun k=>?_⟩
   ·rcases bn.1 hx with rfl|hx
    ·exact c
    ·have:=s2.1 x hx;omega
   ·rcases bn.1 hx with rfl|hx
    ·exact hp
    ·exact i2 x hx
   ·rcases bn.1 hx with rfl|hx
    ·exact ha x (aT ..)
    ·exact i3 t (fun y hy=>ha y (aY _ hy)) hb x hx
   ·rw[gV,i4,gV p];omega
  ·by_cases c2:q.1<p.1
   ·rw[Rf a b c2]
    obtain⟨i1,i2,i3,i4⟩:=Em n (p::a) b (by simp only[aU];omega) sa s2.2 pa pb'
    refine⟨aZ.2 ⟨i3 q.1 (fun x hx=>?_) s2.1,i1⟩,fun x hx=>?_,fun t ha hb x hx=>?_,fun k=>?_⟩
    ·rcases bn.1 hx with rfl|hx
     ·exact c2
     ·have:=s1.1 x hx;omega
    ·rcases bn.1 hx with rfl|hx
     ·exact hq
     ·exact i2 x hx
    ·rcases bn.1 hx with rfl|hx
     ·exact hb x (aT ..)
     ·exact i3 t ha (fun y hy=>hb y (aY _ hy)) x hx
    ·rw[gV,i4,gV q];omega
   ·have e:p.1=q.1:=ae
    rw[Rh a b e];obtain⟨i1,i2,i3,i4⟩:=Em n a b ae s1.2 s2.2 pa' pb'
    refine⟨aZ.2 ⟨i3 p.1 s1.1 fun x hx=>?_,i1⟩,fun x hx=>?_,fun t ha hb x hx=>?_,fun k=>?_⟩
    ·have:=s2.1 x hx;omega
    ·rcases bn.1 hx with rfl|hx
     ·show 0<p.2+q.2;omega
     ·exact i2 x hx
    ·rcases bn.1 hx with rfl|hx
     ·exact ha p (aT ..)
     ·exact i3 t (fun y hy=>ha y (aY _ hy)) (fun y hy=>hb y (aY _ hy)) x hx
    ·rw[gV,i4,gV,gV]
     show(if p.1=k then p.2+q.2 else 0)+_=_
     rw[e]
     split<;>omega
theorem Kz{a b:List Pr}(sa:gU a)(sb:gU b)(pa:gK a)(pb:gK b):nV a b=gG a b:=by
 obtain⟨h1,h2,_,h4⟩:=Em _ a b (aS _) sa sb pa pb;exact UW h1 (nC sa) h2 (oH pa pb) fun k=>by rw[h4,Kv]
theorem KD(hm:0<m){l:List Pr}(h:gU l)(hp:gK l):gU (dY m l).1/\gK (dY m l).1/\tot (dY m l).1=tot l/\(dY m l).1.length<=m/\0<=(dY m l).2:=by
 by_cases hl:l.length<=m
 ·rw[lT hl];exact⟨h,hp,rfl,hl,ag⟩
 ·obtain⟨A,q,B,rfl,e,hA⟩:=wK m hm l ae
  rw[<-e,zk];obtain⟨_,s2,_⟩:=zn h;obtain⟨p1,p2⟩:=zo hp;have s4:=aZ.1 s2;have n1:=dN p1;refine⟨aZ.2 ⟨fun x hx=>s4.1 x hx,s4.2⟩,fun p hp=>?_,?_,?_,n1⟩
  ·rcases bn.1 hp with rfl|hp
   ·have:=p2 q (aT ..)
    show 0<q.2+tot A;omega
   ·exact p2 p (aY _ hp)
  ·show tot ((q.1,q.2+tot A)::B)=_
   rw[eH,jI,jI];show q.2+tot A+_=_
   omega
  ·exact Nat.le_of_eq (bump_length (tot A) (q::B))
def uC(k:Int):List Pr->Nat
 | []=>0
 | p::l=>if p.1<k then uC k l+1 else 0
theorem UY(k:Int):∀l,uC k l<=l.length
 | []=>aS _
 | p::l=>by
  have:=UY k l;unfold uC
  split<;>simp only[aU]<;>omega
theorem aw8(k:Int):∀(l:List Pr) (j:Nat) (h:j<l.length),j<uC k l->l[j].1<k
 | [],_,h,_=>by simp at h
 | p::l,j,h,hj=>by
  unfold uC at hj
  split at hj
  ·rename_i hp
   cases j with
   | zero=>exact hp
   | succ j=>exact aw8 k l j (by simpa using h) ae
  ·omega
theorem aw9(k:Int):∀(l:List Pr),gU l->∀(j:Nat) (h:j<l.length),uC k l<=j->k<=l[j].1
 | [],_,_,h,_=>by simp at h
 | p::l,s,j,h,hj=>by
  have s1:=aZ.1 s;unfold uC at hj
  split at hj
  ·cases j with
   | zero=>omega
   | succ j=>exact aw9 k l s1.2 j (by simpa using h) ae
  ·rename_i hp
   cases j with
   | zero=>show k<=p.1;omega
   | succ j=>
    have hj':j<l.length:=by simpa using h
    have:=s1.1 (l[j]'hj') (bf hj');show k<=(l[j]'hj').1
    omega
theorem WO(k:Int){l:List Pr}(s:gU l)(i:Nat)(hi:i<=l.length)(h1:∀(j:Nat) (h:j<l.length),j<i->l[j].1<k)(h2:∀(j:Nat) (h:j<l.length),i<=j->k<=l[j].1):i=uC k l:=by
 have hp:=UY k l
 rcases Nat.lt_trichotomy i (uC k l) with h|h|h
 ·have a:=aw8 k l i ae h
  have b:=h2 i ae (aS _)
  omega
 ·exact h
 ·have a:=h1 (uC k l) ae h
  have b:=aw9 k l s (uC k l) ae (aS _)
  omega
def pJ(l:List Pr)(i:Nat)(x:Pr):List Pr:=l.take i++x::l.drop i
theorem Jd(k n:Int):∀(l:List Pr) (m:Int),l[uC k l]?=some (k,m)->gz k n l=l.set (uC k l) (k,m+n)
 | [],m,h=>by simp at h
 | p::l,m,h=>by
  unfold uC at h |-;unfold gz
  split at h
  ·rename_i hp
   rw[if_pos hp,if_pos hp,List.set_cons_succ,Jd k n l m (by simpa using h)]
  ·rename_i hp
   simp only[aJ,bH] at h;rw[if_neg hp,if_neg hp,if_pos (by rw[h])]
   rw[h];rfl
theorem UZ(k n:Int):∀(l:List Pr),(∀p,l[uC k l]?=some p->p.1≠k)->gz k n l=pJ l (uC k l) (k,n)
 | [],_=>rfl
 | p::l,h=>by
  unfold uC at h |-;unfold gz
  split at h
  ·rename_i hp
   rw[if_pos hp,if_pos hp,UZ k n l fun q hq=>h q (by simpa using hq)]
   rfl
  ·rename_i hp
   have:=h p ag
   rw[if_neg hp,if_neg hp,if_neg this];rfl
theorem NP(k n:Int)(l:List Pr):(pJ l (uC k l) (k,0)).set (uC k l) (k,0+n)=pJ l (uC k l) (k,n):=by
 have hp:=UY k l;unfold pJ;rw[List.set_append_right _ _ (by rw[bG];omega)]
 simp only[bG];rw[show uC k l - min (uC k l) l.length=0 by omega]
 simp
theorem Je{B:Int}{l:List Pr}(h:∀p∈l,-B<=p.1/\p.1<=B)(hk:-B<=k/\k<=B):∀p∈gz k n l,-B<=p.1/\p.1<=B:=fun p hp=>by
 rcases put_mem hp with e|hp
 ·rw[e];exact hk
 ·exact h p hp
theorem pK{l:List Pr}(h:gK l):∀p∈l,p.2<=tot l:=by
 induction l with
 | nil=>intro p hp;cases hp
 | cons q l ih=>
  intro p hp;have hq:=h q (aT ..);have hl:gK l:=fun x hx=>h x (aY _ hx)
  have:=dN hl;rw[jI]
  rcases bn.1 hp with rfl|hp
  ·omega
  ·have:=ih hl p hp;omega
end Go.Proofs.YtilcnjbpmoijmaaGreat.D
