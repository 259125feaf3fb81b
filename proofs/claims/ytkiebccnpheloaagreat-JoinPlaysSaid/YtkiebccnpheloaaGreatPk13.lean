/- Parts of a proof: what its theorem reaches, words cut short. No condition of its own. -/
import Derived.Test.YtkiebccnpheloaaGreatPk12
set_option maxRecDepth 100000
set_option maxHeartbeats 16000000
set_option linter.unusedVariables false
set_option linter.unusedSimpArgs false
namespace Go.Proofs.YtkiebccnpheloaaGreat
open Go.RowKit
end Go.Proofs.YtkiebccnpheloaaGreat
namespace Go.Proofs.YtkiebccnpheloaaGreat.D
def hiN(a low:Nat):Nat:=min 9223372036854775807 (min 9223372036854775807 (low+low * a / 10000) * 10000 / (10000 - a))
def rO(a:Nat):Nat->Nat->Nat
 | 0,low=>low
 | n+1,low=>rO a n (hiN a low+1)
theorem Ig(a m:Nat):∀n low,rO a (n+m) low=rO a m (rO a n low)
 | 0,low=>by rw[Nat.zero_add];rfl
 | n+1,low=>by rw[Nat.succ_add];exact Ig a m n _
theorem al7:rO 100 2100 1=9223372036854775808:=by
 have s:∀{x y z:Nat} (n:Nat),rO 100 100 x=y->rO 100 n y=z->rO 100 (100+n) x=z:=fun n h k=>by rw[Ig,h,k]
 exact s (y:=104) 2000 au (s (x:=104) (y:=796) 1900 au (s (x:=796) (y:=5881) 1800 au (s (x:=5881) (y:=43437) 1700 au (s (x:=43437) (y:=321021) 1600 au (s (x:=321021) (y:=2372209) 1500 au (s (x:=2372209) (y:=17529544) 1400 au (s (x:=17529544) (y:=129535419) 1300 au (s (x:=129535419) (y:=957208293) 1200 au (s (x:=957208293) (y:=7073337340) 1100 au (s (x:=7073337340) (y:=52268771102) 1000 au (s (x:=52268771102) (y:=386242632093) 900 au (s (x:=386242632093) (y:=2854158758609) 800 au (s (x:=2854158758609) (y:=21090945283128) 700 au (s (x:=21090945283128) (y:=155852568324805) 600 au (s (x:=155852568324805) (y:=1151680151238675) 500 au (s (x:=1151680151238675) (y:=8510396620432366) 400 au (s (x:=8510396620432366) (y:=62887990697042869) 300 au (s (x:=62887990697042869) (y:=464713872960532417) 200 au (s (x:=464713872960532417) (y:=3434025818416436332) 100 au (s (x:=3434025818416436332) (y:=9223372036854775808) 0 au (rfl)))))))))))))))))))))
theorem JR(a low:Nat):hiN a low<=9223372036854775807:=Nat.min_le_left ..
theorem aa2{a low Dc:Nat}(ha:100<=a)(hb:a<=5000)(h:Dc<=low):hiN 100 Dc<=hiN a low:=by
 unfold hiN;have h1:Dc * 100<=low * a:=Nat.mul_le_mul h ha;have h2:Dc * 100 / 10000<=low * a / 10000:=Nat.div_le_div_right h1;have h3:min 9223372036854775807 (Dc+Dc * 100 / 10000)<=min 9223372036854775807 (low+low * a / 10000):=ae
 have h4:min 9223372036854775807 (Dc+Dc * 100 / 10000) * 10000 / (10000 - 100)<=min 9223372036854775807 (low+low * a / 10000) * 10000 / (10000 - a):=
  bG (Nat.div_le_div_right (Nat.mul_le_mul_right _ h3)) (Nat.div_le_div_left ae  ae)
 omega
theorem JS{a:Nat}(ha:100<=a)(hb:a<=5000):∀(n:Nat) {low Dc:Nat},Dc<=low->rO 100 n Dc<=rO a n low
 | 0,_,_,h=>h
 | n+1,_,_,h=>JS ha hb n (Nat.succ_le_succ (aa2 ha hb h))
theorem aa3{a:Nat}(ha:100<=a)(hb:a<=5000):9223372036854775808<=rO a 2100 1:=by
 have:=JS ha hb 2100 (aK 1);rw[al7] at this;exact this
structure Sp where
 low:Int
 mid:Int
 high:Int
def oV(a low:Nat):Sp:=⟨low,(min 9223372036854775807 (low+low * a / 10000):Nat),hiN a low⟩
def mX(a:Nat):Nat->Nat->List Sp
 | 0,_=>[]
 | n+1,low=>oV a low::if hiN a low=9223372036854775807 then [] else mX a n (hiN a low+1)
def spans(a:Nat):List Sp:=mX a 2100 1
theorem xx(a:Nat):∀n low,(mX a n low).length<=n
 | 0,_=>by simp[mX]
 | n+1,low=>by
  unfold mX;have:=xx a n (hiN a low+1)
  split<;>simp only[aP,bf]<;>omega
theorem au8{a low:Nat}(hb:a<=5000)(h:low<=9223372036854775807):low<=hiN a low:=by
 unfold hiN;have h1:low<=min 9223372036854775807 (low+low * a / 10000):=ae
 have h2:low<=min 9223372036854775807 (low+low * a / 10000) * 10000 / (10000 - a):=by
  rw[Nat.le_div_iff_mul_le ae]
  exact Nat.mul_le_mul h1 ae
 omega
theorem Df{a:Nat}(hb:a<=5000):∀(n low:Nat),1<=low->low<=9223372036854775807->(∃k,k<n/\hiN a (rO a k low)=9223372036854775807) ->
 (∀s∈mX a n low,1<=s.low/\(low:Int)<=s.low/\s.low<=s.mid/\s.mid<=s.high/\s.high<=9223372036854775807)/\(mX a n low).Pairwise (fun x y=>x.high<y.low) /\
  ∃s,(mX a n low).getLast?=some s/\s.high=9223372036854775807
 | 0,_,_,_,⟨k,hk,_⟩=>absurd hk ae
 | n+1,low,h1,h2,⟨k,hk,he⟩=>by
  have hg:=au8 hb h2;have hl:=JR a low;have hmid:min 9223372036854775807 (low+low * a / 10000)<=hiN a low:=by
   unfold hiN;have:min 9223372036854775807 (low+low * a / 10000)<=min 9223372036854775807 (low+low * a / 10000) * 10000 / (10000 - a):=by
    rw[Nat.le_div_iff_mul_le ae]
    exact Nat.mul_le_mul_left _ ae
   omega
  have hs:1<=(oV a low).low/\(low:Int)<=(oV a low).low/\(oV a low).low<=(oV a low).mid/\(oV a low).mid<=(oV a low).high/\(oV a low).high<=9223372036854775807:=by
   unfold oV;refine⟨?_,?_,?_,?_,?_⟩<;>simp only<;>omega
  unfold mX
  by_cases hm:hiN a low=9223372036854775807
  ·rw[if_pos hm]
   refine⟨fun s h=>?_,ag,oV a low,rfl,?_⟩
   ·simp only[List.mem_singleton] at h
    subst h;exact hs
   ·show((hiN a low:Nat):Int)=_
    omega
  ·rw[if_neg hm]
   have hk0:0<k:=by
    cases k with
    | zero=>exact absurd he hm
    | succ k=>omega
   obtain⟨i1,i2,s,i3,i4⟩:=Df hb n (hiN a low+1) ae  ae ⟨k - 1,ae,by
    have:k=k - 1+1:=ae
    rw[this] at he;exact he⟩
   refine⟨fun s h=>?_,aZ.2 ⟨fun s h=>?_,i2⟩,s,?_,i4⟩
   ·rcases a_.1 h with rfl|h
    ·exact hs
    ·have:=i1 s h
     omega
   ·have:=i1 s h
    show((hiN a low:Nat):Int)<s.low
    omega
   ·cases hz:mX a n (hiN a low+1) with
    | nil=>rw[hz] at i3;simp at i3
    | cons z l=>rw[hz] at i3;rw[List.getLast?_cons_cons,i3]
theorem WO{a:Nat}(ha:100<=a)(hb:a<=5000):∃k,k<2100/\hiN a (rO a k 1)=9223372036854775807:=by
 have h:=aa3 ha hb;rw[show(2100:Nat)=2099+1 from rfl,Ig] at h
 have e:rO a 1 (rO a 2099 1)=hiN a (rO a 2099 1)+1:=rfl;rw[e] at h;have:=JR a (rO a 2099 1);exact⟨2099,ae,ae⟩
theorem zF{a:Nat}(ha:100<=a)(hb:a<=5000):(∀s∈spans a,1<=s.low/\s.low<=s.mid/\s.mid<=s.high/\s.high<=9223372036854775807)/\(spans a).Pairwise (fun x y=>x.high<y.low) /\
 (spans a).length<=2100/\∃s,(spans a).getLast?=some s/\s.high=9223372036854775807:=by
 obtain⟨h1,h2,h3⟩:=Df hb 2100 1 (aK _) ae (WO ha hb)
 refine⟨fun s h=>?_,h2,xx ..,h3⟩
 obtain⟨a1,_,a2,a3,a4⟩:=h1 s h;exact⟨a1,a2,a3,a4⟩
abbrev Pr:=Int × Int
def tot(l:List Pr):Int:=(l.map Prod.snd).sum
abbrev iD(l:List Pr):Prop:=l.Pairwise (fun a b=>a.1<b.1)
abbrev gQ(l:List Pr):Prop:=∀p∈l,0<p.2
def eQ(k n:Int):List Pr->List Pr
 | []=>[(k,n)]
 | p::l=>if p.1<k then p::eQ k n l else if p.1=k then(k,p.2+n)::l else(k,n)::p::l
def fA(a b:List Pr):List Pr:=b.foldl (fun l p=>eQ p.1 p.2 l) a
def kC(l:List Pr)(k:Int):Int:=(l.map fun p=>if p.1=k then p.2 else 0).sum
def yP(l:List Pr)(t:Int):Int:=(l.map fun p=>if p.1<t then p.2 else 0).sum
@[simp] theorem aa4:tot []=0:=rfl
@[simp] theorem jk (p:Pr) (l:List Pr):tot (p::l)=p.2+tot l:=by simp[tot]
theorem dS(a b:List Pr):tot (a++b)=tot a+tot b:=by simp[tot]
@[simp] theorem be7 (k:Int):kC [] k=0:=rfl
@[simp] theorem gV (p:Pr) (l:List Pr) (k:Int):kC (p::l) k=(if p.1=k then p.2 else 0)+kC l k:=by simp[kC]
theorem Gi(a b:List Pr)(k:Int):kC (a++b) k=kC a k+kC b k:=by simp[kC]
@[simp] theorem be8 (k:Int):yP [] k=0:=rfl
@[simp] theorem oW (p:Pr) (l:List Pr) (k:Int):yP (p::l) k=(if p.1<k then p.2 else 0)+yP l k:=by simp[yP]
theorem yQ(a b:List Pr)(k:Int):yP (a++b) k=yP a k+yP b k:=by simp[yP]
theorem uy(k n:Int):∀l,tot (eQ k n l)=tot l+n
 | []=>by simp[eQ]
 | p::l=>by
  unfold eQ
  split
  ·simp only[jk,uy k n l];omega
  ·split<;>simp only[jk]<;>omega
theorem yR(k n j:Int):∀l,kC (eQ k n l) j=kC l j+if k=j then n else 0
 | []=>by simp[eQ]
 | p::l=>by
  unfold eQ
  split
  ·simp only[gV,yR k n j l];omega
  ·split
   ·rename_i h
    simp only[gV,h];split<;>omega
   ·simp only[gV];omega
theorem WQ(k n t:Int):∀l,yP (eQ k n l) t=yP l t+if k<t then n else 0
 | []=>by simp[eQ]
 | p::l=>by
  unfold eQ
  split
  ·simp only[oW,WQ k n t l];omega
  ·split
   ·rename_i h
    simp only[oW,h];split<;>omega
   ·simp only[oW];omega
theorem put_mem{k n:Int}{l:List Pr}{p:Pr}(h:p∈eQ k n l):p.1=k\/p∈l:=by
 induction l with
 | nil=>left;simp[eQ] at h;rw[h]
 | cons q l ih=>
  unfold eQ at h
  split at h
  ·rcases a_.1 h with rfl|h
   ·exact .inr (aQ ..)
   ·exact(ih h).imp id (aV _)
  ·split at h
   ·rcases a_.1 h with rfl|h
    ·exact .inl rfl
    ·exact .inr (aV _ h)
   ·rcases a_.1 h with rfl|h
    ·exact .inl rfl
    ·exact .inr h
theorem Az{k n:Int}:∀{l:List Pr},iD l->iD (eQ k n l)
 | [],_=>by simp[eQ]
 | p::l,h=>by
  have h1:=aZ.1 h;unfold eQ
  split
  ·rename_i hp
   refine aZ.2 ⟨fun q hq=>?_,Az h1.2⟩
   rcases put_mem hq with e|hq
   ·rw[e];exact hp
   ·exact h1.1 q hq
  ·split
   ·rename_i hp
    refine aZ.2 ⟨fun q hq=>?_,h1.2⟩
    have:=h1.1 q hq;show k<q.1
    omega
   ·refine aZ.2 ⟨fun q hq=>?_,h⟩
    show k<q.1
    rcases a_.1 hq with rfl|hq
    ·omega
    ·have:=h1.1 q hq;omega
theorem put_pos{k n:Int}(hn:0<n):∀{l:List Pr},gQ l->gQ (eQ k n l)
 | [],_=>by intro p hp;simp[eQ] at hp;rw[hp];exact hn
 | q::l,h=>by
  intro p hp;have hq:=h q (aQ ..);have hl:gQ l:=fun x hx=>h x (aV _ hx)
  unfold eQ at hp
  split at hp
  ·rcases a_.1 hp with rfl|hp
   ·exact hq
   ·exact put_pos hn hl p hp
  ·split at hp
   ·rcases a_.1 hp with rfl|hp
    ·show 0<q.2+n;omega
    ·exact hl p hp
   ·rcases a_.1 hp with rfl|hp
    ·exact hn
    ·exact h p hp
theorem qU(k n:Int):∀l:List Pr,l.length<=(eQ k n l).length/\(eQ k n l).length<=l.length+1
 | []=>by simp[eQ]
 | q::l=>by
  have:=qU k n l;unfold eQ
  split
  ·simp only[aP];omega
  ·split<;>simp only[aP]<;>omega
theorem qV(a:List Pr):fA a []=a:=rfl
theorem xA(a:List Pr)(p:Pr)(b:List Pr):fA a (p::b)=fA (eQ p.1 p.2 a) b:=rfl
theorem Dh(a b:List Pr)(p:Pr):fA a (b++[p])=eQ p.1 p.2 (fA a b):=by simp[fA,List.foldl_append]
theorem nG:∀(b a:List Pr),tot (fA a b)=tot a+tot b
 | [],a=>by simp[qV]
 | p::b,a=>by rw[xA,nG b,uy,jk];omega
theorem Ih(j:Int):∀(b a:List Pr),kC (fA a b) j=kC a j+kC b j
 | [],a=>by simp[qV]
 | p::b,a=>by rw[xA,Ih j b,yR,gV];omega
theorem N8(j:Int):∀(b a:List Pr),yP (fA a b) j=yP a j+yP b j
 | [],a=>by simp[qV]
 | p::b,a=>by rw[xA,N8 j b,WQ,oW];omega
theorem lM:∀{b a:List Pr},iD a->iD (fA a b)
 | [],_,h=>h
 | _::b,_,h=>lM (b:=b) (Az h)
theorem kF:∀{b a:List Pr},gQ a->gQ b->gQ (fA a b)
 | [],_,h,_=>h
 | p::b,_,h,hb=>kF (b:=b) (put_pos (hb p (aQ ..)) h) fun x hx=>hb x (aV _ hx)
theorem nH{k:Int}:∀{l:List Pr},(∀p∈l,p.1≠k)->kC l k=0
 | [],_=>rfl
 | p::l,h=>by
  rw[gV,if_neg (h p (aQ ..)),nH fun q hq=>h q (aV _ hq)];rfl
theorem iY{k:Int}:∀{l:List Pr},gQ l->0<=kC l k
 | [],_=>by simp
 | p::l,h=>by
  have:=h p (aQ ..);have:=iY (k:=k) (l:=l) fun q hq=>h q (aV _ hq)
  rw[gV];split<;>omega
theorem vS{l:List Pr}(hp:gQ l){p:Pr}(h:p∈l):0<kC l p.1:=by
 induction l with
 | nil=>cases h
 | cons q l ih=>
  have hq:=hp q (aQ ..);have hl:gQ l:=fun x hx=>hp x (aV _ hx)
  rw[gV]
  rcases a_.1 h with rfl|h
  ·have:=iY (k:=p.1) hl
   simp only[if_true];omega
  ·have:=ih hl h
   split<;>omega
theorem mO{l:List Pr}(hp:gQ l)(k:Int):(∃p∈l,p.1=k)<->kC l k≠0:=by
 constructor
 ·rintro ⟨p,h,rfl⟩
  have:=vS hp h;omega
 ·intro h
  by_cases he:∃p∈l,p.1=k
  ·exact he
  ·exact absurd (nH fun p hp e=>he ⟨p,hp,e⟩) h
theorem Ii{p:Pr}{l:List Pr}(h:iD (p::l)):kC (p::l) p.1=p.2:=by
 rw[gV,nH fun q hq e=>by have:=(aZ.1 h).1 q hq;omega];simp
theorem QJ:∀{a b:List Pr},iD a->iD b->gQ a->gQ b->(∀k,kC a k=kC b k)->a=b
 | [],[],_,_,_,_,_=>rfl
 | [],q::b,_,_,_,hb,h=>by
  have:=vS hb (aQ ..);rw[<-h] at this;simp at this
 | p::a,[],_,_,ha,_,h=>by
  have:=vS ha (aQ ..);rw[h] at this;simp at this
 | p::a,q::b,sa,sb,ha,hb,h=>by
  have s1:=aZ.1 sa;have s2:=aZ.1 sb;have e:p.1=q.1:=by
   have h1:=vS ha (aQ ..);have h2:=vS hb (aQ ..);rw[h] at h1;rw[<-h] at h2;obtain⟨x,hx,ex⟩:=(mO hb p.1).2 ae
   obtain⟨y,hy,ey⟩:=(mO ha q.1).2 ae
   have l1:q.1<=p.1:=by
    rcases a_.1 hx with rfl|hx
    ·omega
    ·have:=s2.1 x hx;omega
   have l2:p.1<=q.1:=by
    rcases a_.1 hy with rfl|hy
    ·omega
    ·have:=s1.1 y hy;omega
   omega
  have e2:p.2=q.2:=by
   have:=h p.1;rw[Ii sa,e,Ii sb] at this;exact this
  have:p=q:=Prod.ext e e2;subst this;rw[QJ s1.2 s2.2 (fun x hx=>ha x (aV _ hx)) (fun x hx=>hb x (aV _ hx)) (fun k=>by
   have:=h k;rw[gV,gV] at this;omega)]
def bump(n:Int):List Pr->List Pr
 | []=>[]
 | p::l=>(p.1,p.2+n)::l
theorem Tn(l:List Pr):bump 0 l=l:=by cases l<;>simp[bump]
theorem bump_length(n:Int)(l:List Pr):(bump n l).length=l.length:=by cases l<;>simp[bump]
def dW(m:Nat)(l:List Pr):List Pr × Int:=(bump (tot (l.take (l.length - m))) (l.drop (l.length - m)),tot (l.take (l.length - m)))
theorem lT{m:Nat}{l:List Pr}(h:l.length<=m):dW m l=(l,0):=by
 unfold dW;rw[show l.length - m=0 by omega]
 simp[Tn]
theorem xB(A B:List Pr):dW B.length (A++B)=(bump (tot A) B,tot A):=by
 unfold dW;rw[show(A++B).length - B.length=A.length by rw[aI];omega]
 rw[List.take_left' rfl,List.drop_left' rfl]
theorem uz(m:Nat)(hm:0<m)(l:List Pr)(h:m<l.length):∃A q B,l=A++q::B/\(q::B).length=m/\0<A.length:=by
 have h1:=List.take_append_drop (l.length - m) l
 cases hd:l.drop (l.length - m) with
 | nil=>
  have:=congrArg List.length hd;rw[bn] at this;simp at this
  omega
 | cons q B=>
  refine⟨l.take (l.length - m),q,B,by rw[<-hd,h1],?_,?_⟩
  ·rw[<-hd,bn];omega
  ·rw[bg];omega
theorem xC{A B:List Pr}(h:iD (A++B)):iD A/\iD B/\∀a∈A,∀b∈B,a.1<b.1:=by
 rw[iD,List.pairwise_append] at h;exact h
theorem Ij{t:Int}:∀{l:List Pr},(∀p∈l,p.1<t)->yP l t=tot l
 | [],_=>rfl
 | p::l,h=>by
  rw[oW,if_pos (h p (aQ ..)),Ij fun q hq=>h q (aV _ hq),jk]
theorem AL{t:Int}:∀{l:List Pr},(∀p∈l,t<=p.1)->yP l t=0
 | [],_=>rfl
 | p::l,h=>by
  have:=h p (aQ ..);rw[oW,if_neg ae,AL fun q hq=>h q (aV _ hq)];rfl
theorem dL:∀{l:List Pr},gQ l->0<=tot l
 | [],_=>by simp
 | p::l,h=>by
  have:=h p (aQ ..);have:=dL (l:=l) fun q hq=>h q (aV _ hq)
  rw[jk];omega
theorem aa5{l:List Pr}(h:gQ l)(h0:0<l.length):0<tot l:=by
 cases l with
 | nil=>simp at h0
 | cons p l=>
  have:=h p (aQ ..);have:=dL (l:=l) fun q hq=>h q (aV _ hq)
  rw[jk];omega
theorem xE{A B:List Pr}(h:gQ (A++B)):gQ A/\gQ B:=⟨fun p hp=>h p (List.mem_append_left _ hp),fun p hp=>h p (List.mem_append_right _ hp)⟩
theorem qW:∀{b a:List Pr},iD a->iD b->(∀p∈a,∃q∈b,q.1=p.1)->a.length<=b.length
 | _,[],_,_,_=>by simp
 | [],p::a,_,_,h=>by
  obtain⟨q,hq,_⟩:=h p (aQ ..)
  cases hq
 | q::b,p::a,sa,sb,h=>by
  have s1:=aZ.1 sa;have s2:=aZ.1 sb
  by_cases e:p.1=q.1
  ·have:=qW (b:=b) (a:=a) s1.2 s2.2 fun x hx=>by
    obtain⟨y,hy,ey⟩:=h x (aV _ hx)
    rcases a_.1 hy with rfl|hy
    ·have:=s1.1 x hx;omega
    ·exact⟨y,hy,ey⟩
   simp only[aP];omega
  ·have:=qW (b:=b) (a:=p::a) sa s2.2 fun x hx=>by
    obtain⟨y,hy,ey⟩:=h x hx
    rcases a_.1 hy with rfl|hy
    ·obtain⟨z,hz,ez⟩:=h p (aQ ..)
     rcases a_.1 hz with rfl|hz
     ·exact absurd ez.symm e
     ·have:=s2.1 z hz
      rcases a_.1 hx with rfl|hx
      ·omega
      ·have:=s1.1 x hx;omega
    ·exact⟨y,hy,ey⟩
   simp only[aP] at this |-;omega
theorem AO{A B:List Pr}(hA:gQ A)(hB:gQ B)(k:Int):(∃p∈fA A B,p.1=k)<->(∃p∈A,p.1=k)\/(∃p∈B,p.1=k):=by
 rw[mO (kF hA hB),mO hA,mO hB,Ih];have:=iY (k:=k) hA;have:=iY (k:=k) hB;omega
theorem JU(t:Int):∀{l:List Pr},iD l->∃A H,l=A++H/\(∀p∈A,p.1<t)/\∀p∈H,t<=p.1
 | [],_=>⟨[],[],rfl,ag,ag⟩
 | p::l,h=>by
  have h1:=aZ.1 h
  by_cases hp:p.1<t
  ·obtain⟨A,H,e,a1,a2⟩:=JU t h1.2
   refine⟨p::A,H,by rw[e];rfl,fun q hq=>?_,a2⟩
   rcases a_.1 hq with rfl|hq
   ·exact hp
   ·exact a1 q hq
  ·refine⟨[],p::l,rfl,ag,fun q hq=>?_⟩
   rcases a_.1 hq with rfl|hq
   ·omega
   ·have:=h1.1 q hq;omega
def kP:List Pr->Int
 | []=>0
 | p::_=>p.1
theorem Gj(n:Int)(l:List Pr):kP (bump n l)=kP l:=by cases l<;>rfl
def fH(f:Int)(L L':List Pr):Int:=if 0<f/\kP L=kP L' then f else 0
def kX(m:Nat)(a b:List Pr × Int)(M:List Pr):List Pr × Int:=
 ((dW m M).1,(dW m M).2+fH a.2 a.1 (dW m M).1+fH b.2 b.1 (dW m M).1)
theorem WR{m:Nat}{l:List Pr}(hm:0<m)(hp:gQ l)(h:¬0<(dW m l).2):dW m l=(l,0)/\l.length<=m:=by
 by_cases hl:l.length<=m
 ·exact⟨lT hl,hl⟩
 ·obtain⟨A,q,B,rfl,e,hA⟩:=uz m hm l ae
  rw[<-e,xB] at h;exact absurd (aa5 (xE hp).1 hA) h
theorem QK{m:Nat}(hm:0<m){A S:List Pr}(sA:iD A)(pA:gQ A){A0 B0:List Pr}{q:Pr}(eS:S=A0++q::B0)(sS:iD S)(hB:(q::B0).length=m)
 (hk:∀p∈A,∃x∈S,x.1=p.1):∃F,F=(if 0<(dW m A).2/\kP (dW m A).1=q.1 then(dW m A).2 else 0)/\yP (dW m A).1 q.1+F=yP A q.1 /\
  (∀k,q.1<=k->kC (dW m A).1 k=kC A k+if k=q.1 then F else 0)/\gQ (dW m A).1/\iD (dW m A).1:=by
 by_cases h0:0<(dW m A).2
 ·by_cases hl:A.length<=m
  ·rw[lT hl] at h0
   exact absurd h0 ag
  ·obtain⟨A1,qa,B1,rfl,e,hA⟩:=uz m hm A ae
   have hc:dW m (A1++qa::B1)=(bump (tot A1) (qa::B1),tot A1):=by rw[<-e,xB]
   rw[hc] at h0 |-;obtain⟨s1,s2,s3⟩:=xC sA;obtain⟨p1,p2⟩:=xE pA;have s4:=aZ.1 s2;subst eS;obtain⟨t1,t2,t3⟩:=xC sS;have t4:=aZ.1 t2;have ht:qa.1<=q.1:=by
    by_cases hc:qa.1<=q.1
    ·exact hc
    ·have:=qW (a:=(q.1,1)::qa::B1) (b:=q::B0) (aZ.2 ⟨fun x hx=>by
      show q.1<x.1
      rcases a_.1 hx with rfl|hx
      ·omega
      ·have:=s4.1 x hx;omega,s2⟩) t2 fun x hx=>by
       rcases a_.1 hx with rfl|hx
       ·exact⟨q,aQ ..,rfl⟩
       ·obtain⟨y,hy,ey⟩:=hk x (List.mem_append_right _ hx)
        have hxq:q.1<x.1:=by
         rcases a_.1 hx with rfl|hx
         ·omega
         ·have:=s4.1 x hx;omega
        rcases cO.1 hy with hy|hy
        ·have:=t3 y hy q (aQ ..);omega
        ·exact⟨y,hy,ey⟩
     rw[aP,e,hB] at this;omega
   have hb:yP B1 qa.1=0:=AL fun p hp=>by have:=s4.1 p hp;omega
   have hA1:∀t,qa.1<=t->yP A1 t=tot A1:=fun t h=>Ij fun p hp=>by have:=s3 p hp qa (aQ ..);omega
   have hA2:∀k,qa.1<=k->kC A1 k=0:=fun k h=>nH fun p hp e=>by have:=s3 p hp qa (aQ ..);omega
   refine⟨_,rfl,?_,fun k hk=>?_,?_,?_⟩
   ·show yP ((qa.1,qa.2+tot A1)::B1) q.1+(if 0<tot A1/\qa.1=q.1 then tot A1 else 0)=yP (A1++qa::B1) q.1
    rw[oW,yQ,oW,hA1 _ ht];have h0':0<tot A1:=h0;show(if qa.1<q.1 then qa.2+tot A1 else 0)+yP B1 q.1+_=_
    have hb':qa.1=q.1->yP B1 q.1=0:=fun e=>by rw[<-e];exact hb
    by_cases hq:qa.1=q.1
    ·have:=hb' hq
     simp only[h0',hq,and_self,if_true,Int.lt_irrefl,if_false];omega
    ·have:qa.1<q.1:=ae
     simp only[hq,and_false,if_false,this,if_true];omega
   ·show kC ((qa.1,qa.2+tot A1)::B1) k=kC (A1++qa::B1) k+(if k=q.1 then(if 0<tot A1/\qa.1=q.1 then tot A1 else 0) else 0)
    rw[gV,Gi,gV,hA2 k ae]
    have h0':0<tot A1:=h0;show(if qa.1=k then qa.2+tot A1 else 0)+kC B1 k=_
    by_cases hq:qa.1=q.1
    ·simp only[h0',hq,and_self,if_true]
     by_cases hk2:k=q.1
     ·simp only[hk2,if_true];omega
     ·simp only[hk2,if_false];omega
    ·have:¬qa.1=k:=ae
     simp only[hq,and_false,if_false,this,ite_self];omega
   ·intro p hp
    rcases a_.1 hp with rfl|hp
    ·have:=p2 qa (aQ ..)
     show 0<qa.2+tot A1
     have h0':0<tot A1:=h0;omega
    ·exact p2 p (aV _ hp)
   ·exact aZ.2 ⟨fun x hx=>s4.1 x hx,s4.2⟩
 ·obtain⟨e,_⟩:=WR hm pA h0
  rw[e];exact⟨0,ag,ag,ag,pA,sA⟩
theorem JV{m:Nat}(hm:0<m){A B:List Pr}(sA:iD A)(pA:gQ A)(sB:iD B)(pB:gQ B) :
 kX m (dW m A) (dW m B) (fA (dW m A).1 (dW m B).1)=dW m (fA A B):=by
 have sS:iD (fA A B):=lM sA;have pS:=kF pA pB;have kA:∀p∈A,∃x∈fA A B,x.1=p.1:=fun p hp=>(AO pA pB p.1).2 (.inl ⟨p,hp,rfl⟩)
 have kB:∀p∈B,∃x∈fA A B,x.1=p.1:=fun p hp=>(AO pA pB p.1).2 (.inr ⟨p,hp,rfl⟩)
 by_cases hl:(fA A B).length<=m
 ·have:=qW sA sS kA
  have:=qW sB sS kB;rw[lT (l:=A) ae,lT (l:=B) ae]
  unfold kX;rw[lT hl];simp[fH]
 ·obtain⟨A0,q,B0,e,hB,_⟩:=uz m hm _ (show m<(fA A B).length by omega)
  obtain⟨FA,hFA,la,ca,pA',sA'⟩:=QK hm sA pA e sS hB kA;obtain⟨FB,hFB,lb,cb,pB',_⟩:=QK hm sB pB e sS hB kB;obtain⟨LA,hLA⟩:∃x,x=(dW m A).1:=⟨_,rfl⟩;obtain⟨LB,hLB⟩:∃x,x=(dW m B).1:=⟨_,rfl⟩;rw[<-hLA] at la ca pA' sA' hFA;rw[<-hLB] at lb cb pB' hFB;have sM:iD (fA LA LB):=lM sA';have pM:=kF pA' pB';obtain⟨M1,H,eM,m1,m2⟩:=JU q.1 sM;have e':=e;rw[e] at sS pS;obtain⟨t1,t2,t3⟩:=xC sS;have t4:=aZ.1 t2;obtain⟨x1,x2⟩:=xE pS;have sM':=sM;rw[eM] at sM' pM;obtain⟨u1,u2,u3⟩:=xC sM';obtain⟨v1,v2⟩:=xE pM;have hcH:∀k,q.1<=k->kC H k=kC (q::B0) k+if k=q.1 then FA+FB else 0:=fun k hk=>by
   have h1:=congrArg (kC · k) eM
   have h2:=congrArg (kC · k) e
   simp only[Gi,Ih] at h1 h2;rw[nH (l:=M1) fun p hp e=>by have:=m1 p hp;omega,ca k hk,cb k hk] at h1
   rw[nH (l:=A0) fun p hp e=>by have:=t3 p hp q (aQ ..);omega] at h2
   split at h1<;>rename_i hkq
   ·rw[if_pos hkq];omega
   ·rw[if_neg hkq];omega
  have hF0:0<=FA:=by rw[hFA];split<;>omega
  have hF1:0<=FB:=by rw[hFB];split<;>omega
  have hlo:yP (fA LA LB) q.1+FA+FB=yP (fA A B) q.1:=by rw[N8,N8];omega
  have hA0:yP (fA A B) q.1=tot A0:=by
   rw[e,yQ,Ij fun p hp=>t3 p hp q (aQ ..),AL fun p hp=>by
    rcases a_.1 hp with rfl|hp
    ·omega
    ·have:=t4.1 p hp;omega]
   omega
  have hM1:yP (fA LA LB) q.1=tot M1:=by
   rw[eM,yQ,Ij m1,AL m2];omega
  have hkey:∀k,(∃p∈H,p.1=k)<->∃p∈q::B0,p.1=k:=fun k=>by
   by_cases hk:q.1<=k
   ·rw[mO v2,mO x2,hcH k hk]
    have:=iY (k:=k) x2
    by_cases hkq:k=q.1
    ·have h3:=vS x2 (aQ ..)
     rw[if_pos hkq,hkq];constructor<;>intro<;>omega
    ·rw[if_neg hkq,Int.add_zero]
   ·constructor
    ·rintro ⟨p,hp,rfl⟩;exact absurd (m2 p hp) hk
    ·rintro ⟨p,hp,rfl⟩
     rcases a_.1 hp with rfl|hp
     ·omega
     ·have:=t4.1 p hp;omega
  have hH:H.length=m:=by
   have h1:=qW u2 t2 fun p hp=>(hkey p.1).1 ⟨p,hp,rfl⟩
   have h2:=qW t2 u2 fun p hp=>(hkey p.1).2 ⟨p,hp,rfl⟩
   omega
  have hcM:dW m (fA LA LB)=(bump (tot M1) H,tot M1):=by rw[eM,<-hH,xB]
  have hcS:dW m (fA A B)=(bump (tot A0) (q::B0),tot A0):=by rw[e,<-hB,xB]
  obtain⟨h,H',rfl⟩:∃h H',H=h::H':=by
   cases H with
   | nil=>simp at hH;omega
   | cons h H'=>exact⟨h,H',rfl⟩
  have hh:h.1=q.1:=by
   have h1:=m2 h (aQ ..);obtain⟨y,hy,ey⟩:=(hkey q.1).2 ⟨q,aQ ..,rfl⟩
   rcases a_.1 hy with rfl|hy
   ·exact ey
   ·have:=(aZ.1 u2).1 y hy;omega
  have u4:=aZ.1 u2;unfold kX;rw[<-hLA,<-hLB,hcM,hcS];have f1:fH (dW m A).2 LA (bump (tot M1) (h::H'))=FA:=by rw[hFA,fH,Gj,<-hh];rfl
  have f2:fH (dW m B).2 LB (bump (tot M1) (h::H'))=FB:=by rw[hFB,fH,Gj,<-hh];rfl
  refine Prod.ext ?_ ?_
  ·show bump (tot M1) (h::H')=bump (tot A0) (q::B0)
   have n1:=dL v1;have n2:=dL x1;refine QJ (aZ.2 ⟨fun x hx=>u4.1 x hx,u4.2⟩) (aZ.2 ⟨fun x hx=>t4.1 x hx,t4.2⟩) (fun p hp=>?_) (fun p hp=>?_) fun k=>?_
   ·rcases a_.1 hp with rfl|hp
    ·have:=v2 h (aQ ..)
     show 0<h.2+tot M1;omega
    ·exact v2 p (aV _ hp)
   ·rcases a_.1 hp with rfl|hp
    ·have:=x2 q (aQ ..)
     show 0<q.2+tot A0;omega
    ·exact x2 p (aV _ hp)
   ·show kC ((h.1,h.2+tot M1)::H') k=kC ((q.1,q.2+tot A0)::B0) k
    by_cases hk:q.1<=k
    ·have:=hcH k hk
     rw[gV,gV] at this |-;rw[hh] at this |-
     by_cases hkq:k=q.1
     ·rw[if_pos hkq,if_pos hkq.symm,if_pos hkq.symm] at this
      rw[if_pos (show q.1=k from hkq.symm),if_pos (show q.1=k from hkq.symm)]
      show h.2+tot M1+_=q.2+tot A0+_
      omega
     ·rw[if_neg hkq,if_neg (fun e=>hkq e.symm),if_neg (fun e=>hkq e.symm)] at this
      rw[if_neg (show ¬q.1=k from fun e=>hkq e.symm),if_neg (show ¬q.1=k from fun e=>hkq e.symm)]
      omega
    ·rw[nH fun p hp e=>?_,nH fun p hp e=>?_]
     ·rcases a_.1 hp with rfl|hp
      ·have e1:q.1=k:=e
       omega
      ·have:=t4.1 p hp;omega
     ·rcases a_.1 hp with rfl|hp
      ·have e1:h.1=k:=e
       omega
      ·have:=u4.1 p hp;omega
  ·show tot M1+fH (dW m A).2 LA (bump (tot M1) (h::H'))+fH (dW m B).2 LB (bump (tot M1) (h::H'))=tot A0
   rw[f1,f2];omega
theorem WS{m:Nat}(hm:0<m){A:List Pr}(sA:iD A)(pA:gQ A)(k n:Int)(hn:0<n) :
 kX m (dW m A) ([],0) (eQ k n (dW m A).1)=dW m (eQ k n A):=by
 have h:=JV hm sA pA (B:=[(k,n)]) ag (by intro p hp;simp at hp;rw[hp];exact hn)
 rw[lT (l:=[(k,n)]) ah] at h
 show kX m (dW m A) ([],0) (fA (dW m A).1 [(k,n)])=dW m (fA A [(k,n)])
 rw[<-h];simp[kX,fH]
def mP:List Pr->List Pr->List Pr
 | [],b=>b
 | a,[]=>a
 | p::a,q::b=>if p.1<q.1 then p::mP a (q::b) else if q.1<p.1 then q::mP (p::a) b else(p.1,p.2+q.2)::mP a b
termination_by a b=>a.length+b.length
theorem zip_nil_left(b:List Pr):mP [] b=b:=by unfold mP;rfl
theorem zip_nil_right(a:List Pr):mP a []=a:=by cases a<;>unfold mP<;>rfl
theorem N9{p q:Pr}(a b:List Pr)(h:p.1<q.1):mP (p::a) (q::b)=p::mP a (q::b):=by rw[mP,if_pos h]
theorem N_{p q:Pr}(a b:List Pr)(h:q.1<p.1):mP (p::a) (q::b)=q::mP (p::a) b:=by rw[mP,if_neg ae,if_pos h]
theorem Oa{p q:Pr}(a b:List Pr)(h:p.1=q.1):mP (p::a) (q::b)=(p.1,p.2+q.2)::mP a b:=by rw[mP,if_neg ae,if_neg ae]
theorem AP:∀(n:Nat) (a b:List Pr),a.length+b.length<=n->iD a->iD b->gQ a->gQ b ->
 iD (mP a b)/\gQ (mP a b)/\(∀t,(∀p∈a,t<p.1)->(∀p∈b,t<p.1)->∀p∈mP a b,t<p.1)/\∀k,kC (mP a b) k=kC a k+kC b k
 | _,[],b,_,_,sb,_,pb=>by rw[zip_nil_left];exact⟨sb,pb,fun t _ h=>h,ag⟩
 | _,p::a,[],_,sa,_,pa,_=>by rw[zip_nil_right];exact⟨sa,pa,fun t h _=>h,ag⟩
 | 0,p::a,q::b,h,_,_,_,_=>by simp at h
 | n+1,p::a,q::b,h,sa,sb,pa,pb=>by
  have s1:=aZ.1 sa;have s2:=aZ.1 sb;have pa':gQ a:=fun x hx=>pa x (aV _ hx)
  have pb':gQ b:=fun x hx=>pb x (aV _ hx)
  have hp:=pa p (aQ ..);have hq:=pb q (aQ ..);simp only[aP] at h
  by_cases c:p.1<q.1
  ·rw[N9 a b c]
   obtain⟨i1,i2,i3,i4⟩:=AP n a (q::b) (by simp only[aP];omega) s1.2 sb pa' pb
   refine⟨aZ.2 ⟨i3 p.1 s1.1 fun x hx=>?_,i1⟩,fun x hx=>?_,fun t ha hb x hx=>?_,fun k=>?_⟩
   ·rcases a_.1 hx with rfl|hx
    ·exact c
    ·have:=s2.1 x hx;omega
   ·rcases a_.1 hx with rfl|hx
    ·exact hp
    ·exact i2 x hx
   ·rcases a_.1 hx with rfl|hx
    ·exact ha x (aQ ..)
    ·exact i3 t (fun y hy=>ha y (aV _ hy)) hb x hx
   ·rw[gV,i4,gV p];omega
  ·by_cases c2:q.1<p.1
   ·rw[N_ a b c2]
    obtain⟨i1,i2,i3,i4⟩:=AP n (p::a) b (by simp only[aP];omega) sa s2.2 pa pb'
    refine⟨aZ.2 ⟨i3 q.1 (fun x hx=>?_) s2.1,i1⟩,fun x hx=>?_,fun t ha hb x hx=>?_,fun k=>?_⟩
    ·rcases a_.1 hx with rfl|hx
     ·exact c2
     ·have:=s1.1 x hx;omega
    ·rcases a_.1 hx with rfl|hx
     ·exact hq
     ·exact i2 x hx
    ·rcases a_.1 hx with rfl|hx
     ·exact hb x (aQ ..)
     ·exact i3 t ha (fun y hy=>hb y (aV _ hy)) x hx
    ·rw[gV,i4,gV q];omega
   ·have e:p.1=q.1:=ae
    rw[Oa a b e];obtain⟨i1,i2,i3,i4⟩:=AP n a b ae s1.2 s2.2 pa' pb'
    refine⟨aZ.2 ⟨i3 p.1 s1.1 fun x hx=>?_,i1⟩,fun x hx=>?_,fun t ha hb x hx=>?_,fun k=>?_⟩
    ·have:=s2.1 x hx;omega
    ·rcases a_.1 hx with rfl|hx
     ·show 0<p.2+q.2;omega
     ·exact i2 x hx
    ·rcases a_.1 hx with rfl|hx
     ·exact ha p (aQ ..)
     ·exact i3 t (fun y hy=>ha y (aV _ hy)) (fun y hy=>hb y (aV _ hy)) x hx
    ·rw[gV,i4,gV,gV]
     show(if p.1=k then p.2+q.2 else 0)+_=_
     rw[e]
     split<;>omega
theorem Ik{a b:List Pr}(sa:iD a)(sb:iD b)(pa:gQ a)(pb:gQ b):mP a b=fA a b:=by
 obtain⟨h1,h2,_,h4⟩:=AP _ a b (aK _) sa sb pa pb;exact QJ h1 (lM sa) h2 (kF pa pb) fun k=>by rw[h4,Ih]
theorem Il{m:Nat}(hm:0<m){l:List Pr}(h:iD l)(hp:gQ l):iD (dW m l).1/\gQ (dW m l).1/\tot (dW m l).1=tot l/\(dW m l).1.length<=m/\0<=(dW m l).2:=by
 by_cases hl:l.length<=m
 ·rw[lT hl];exact⟨h,hp,rfl,hl,ag⟩
 ·obtain⟨A,q,B,rfl,e,hA⟩:=uz m hm l ae
  rw[<-e,xB];obtain⟨_,s2,_⟩:=xC h;obtain⟨p1,p2⟩:=xE hp;have s4:=aZ.1 s2;have n1:=dL p1;refine⟨aZ.2 ⟨fun x hx=>s4.1 x hx,s4.2⟩,fun p hp=>?_,?_,?_,n1⟩
  ·rcases a_.1 hp with rfl|hp
   ·have:=p2 q (aQ ..)
    show 0<q.2+tot A;omega
   ·exact p2 p (aV _ hp)
  ·show tot ((q.1,q.2+tot A)::B)=_
   rw[dS,jk,jk];show q.2+tot A+_=_
   omega
  ·exact Nat.le_of_eq (bump_length (tot A) (q::B))
def rP(k:Int):List Pr->Nat
 | []=>0
 | p::l=>if p.1<k then rP k l+1 else 0
theorem QL(k:Int):∀l,rP k l<=l.length
 | []=>aK _
 | p::l=>by
  have:=QL k l;unfold rP
  split<;>simp only[aP]<;>omega
theorem ai3(k:Int):∀(l:List Pr) (j:Nat) (h:j<l.length),j<rP k l->l[j].1<k
 | [],_,h,_=>by simp at h
 | p::l,j,h,hj=>by
  unfold rP at hj
  split at hj
  ·rename_i hp
   cases j with
   | zero=>exact hp
   | succ j=>exact ai3 k l j (by simpa using h) ae
  ·omega
theorem ai4(k:Int):∀(l:List Pr),iD l->∀(j:Nat) (h:j<l.length),rP k l<=j->k<=l[j].1
 | [],_,_,h,_=>by simp at h
 | p::l,s,j,h,hj=>by
  have s1:=aZ.1 s;unfold rP at hj
  split at hj
  ·cases j with
   | zero=>omega
   | succ j=>exact ai4 k l s1.2 j (by simpa using h) ae
  ·rename_i hp
   cases j with
   | zero=>show k<=p.1;omega
   | succ j=>
    have hj':j<l.length:=by simpa using h
    have:=s1.1 (l[j]'hj') (bu hj');show k<=(l[j]'hj').1
    omega
theorem Tq(k:Int){l:List Pr}(s:iD l)(i:Nat)(hi:i<=l.length)(h1:∀(j:Nat) (h:j<l.length),j<i->l[j].1<k)(h2:∀(j:Nat) (h:j<l.length),i<=j->k<=l[j].1):i=rP k l:=by
 have hp:=QL k l
 rcases Nat.lt_trichotomy i (rP k l) with h|h|h
 ·have a:=ai3 k l i ae h
  have b:=h2 i ae (aK _)
  omega
 ·exact h
 ·have a:=h1 (rP k l) ae h
  have b:=ai4 k l s (rP k l) ae (aK _)
  omega
def n_(l:List Pr)(i:Nat)(x:Pr):List Pr:=l.take i++x::l.drop i
theorem Gl(k n:Int):∀(l:List Pr) (m:Int),l[rP k l]?=some (k,m)->eQ k n l=l.set (rP k l) (k,m+n)
 | [],m,h=>by simp at h
 | p::l,m,h=>by
  unfold rP at h |-;unfold eQ
  split at h
  ·rename_i hp
   rw[if_pos hp,if_pos hp,List.set_cons_succ,Gl k n l m (by simpa using h)]
  ·rename_i hp
   simp only[aC,bC] at h;rw[if_neg hp,if_neg hp,if_pos (by rw[h])]
   rw[h];rfl
theorem QM(k n:Int):∀(l:List Pr),(∀p,l[rP k l]?=some p->p.1≠k)->eQ k n l=n_ l (rP k l) (k,n)
 | [],_=>rfl
 | p::l,h=>by
  unfold rP at h |-;unfold eQ
  split at h
  ·rename_i hp
   rw[if_pos hp,if_pos hp,QM k n l fun q hq=>h q (by simpa using hq)]
   rfl
  ·rename_i hp
   have:=h p ag
   rw[if_neg hp,if_neg hp,if_neg this];rfl
theorem JW(k n:Int)(l:List Pr):(n_ l (rP k l) (k,0)).set (rP k l) (k,0+n)=n_ l (rP k l) (k,n):=by
 have hp:=QL k l;unfold n_;rw[List.set_append_right _ _ (by rw[bg];omega)]
 simp only[bg];rw[show rP k l - min (rP k l) l.length=0 by omega]
 simp
theorem Gm{B:Int}{l:List Pr}(h:∀p∈l,-B<=p.1/\p.1<=B){k n:Int}(hk:-B<=k/\k<=B):∀p∈eQ k n l,-B<=p.1/\p.1<=B:=fun p hp=>by
 rcases put_mem hp with e|hp
 ·rw[e];exact hk
 ·exact h p hp
theorem pR{l:List Pr}(h:gQ l):∀p∈l,p.2<=tot l:=by
 induction l with
 | nil=>intro p hp;cases hp
 | cons q l ih=>
  intro p hp;have hq:=h q (aQ ..);have hl:gQ l:=fun x hx=>h x (aV _ hx)
  have:=dL hl;rw[jk]
  rcases a_.1 hp with rfl|hp
  ·omega
  ·have:=ih hl p hp;omega
end Go.Proofs.YtkiebccnpheloaaGreat.D
