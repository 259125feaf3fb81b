/- Parts. No condition. -/
import Derived.Test.YtdicblkhpcphfaaGreatPA04
set_option maxRecDepth 100000
set_option maxHeartbeats 0
set_option linter.all false
namespace Go.Proofs.YtdicblkhpcphfaaGreat
open Tryz Go.RowKit
open _root_.List renaming length→ao
open _root_.Go renaming Calls→ar
open Tryz renaming prog→Oe
namespace D
variable{k n:Int}{m:Nat}
abbrev Pr:=Int × Int
def tot(l:List Pr):Int:=(l.map Prod.snd).sum
abbrev iE(l:List Pr):Prop:=l.Pairwise (λa b=>a.1<b.1)
abbrev iu(l:List Pr):Prop:=∀p∈l,0<p.2
def hO(k n:Int):List Pr->List Pr
 | []=>[(k,n)]
 | p::l=>if p.1<k then p::hO k n l else if p.1=k then(k,p.2+n)::l else(k,n)::p::l
def hX(a b:List Pr):List Pr:=b.foldl (λl p=>hO p.1 p.2 l) a
def kn(l:List Pr)(k:Int):Int:=(l.map λp=>if p.1=k then p.2 else 0).sum
def jt(l:List Pr)(t:Int):Int:=(l.map λp=>if p.1<t then p.2 else 0).sum
@[simp] theorem EK:tot []=0:=rfl
@[simp] theorem jP (p:Pr) (l:List Pr):tot (p::l)=p.2+tot l:=by simp[tot]
def gY(a b:List Pr):tot (a++b)=tot a+tot b:=by simp[tot]
@[simp] theorem S8 (k:Int):kn [] k=0:=rfl
@[simp] theorem iP (p:Pr) (l:List Pr) (k:Int):kn (p::l) k=(if p.1=k then p.2 else 0)+kn l k:=by simp[kn]
def xh(a b:List Pr)(k:Int):kn (a++b) k=kn a k+kn b k:=by simp[kn]
@[simp] theorem S9 (k:Int):jt [] k=0:=rfl
@[simp] theorem kI (p:Pr) (l:List Pr) (k:Int):jt (p::l) k=(if p.1<k then p.2 else 0)+jt l k:=by simp[jt]
def pR(a b:List Pr)(k:Int):jt (a++b) k=jt a k+jt b k:=by simp[jt]
def pT(k n:Int):∀l,tot (hO k n l)=tot l+n
 | []=>by simp[hO]
 | p::l=>by
  unfold hO
  split
  ·simp only[jP,pT k n l];omega
  ·split<;>simp only[jP]<;>omega
def sm(k n j:Int):∀l,kn (hO k n l) j=kn l j+if k=j then n else 0
 | []=>by simp[hO]
 | p::l=>by
  unfold hO
  split
  ·simp only[iP,sm k n j l];omega
  ·split
   ·rename_i h
    simp only[iP,h];split<;>omega
   ·simp only[iP];omega
def JD(k n t:Int):∀l,jt (hO k n l) t=jt l t+if k<t then n else 0
 | []=>by simp[hO]
 | p::l=>by
  unfold hO
  split
  ·simp only[kI,JD k n t l];omega
  ·split
   ·rename_i h
    simp only[kI,h];split<;>omega
   ·simp only[kI];omega
def put_mem{l:List Pr}{p:Pr}(h:p∈hO k n l):p.1=k\/p∈l:=by
 induction l with
 | nil=>left;simp[hO] at h;rw[h]
 | cons q l ih=>
  unfold hO at h
  split at h
  ·rcases aS.1 h with rfl|h
   ·exact .inr (aK ..)
   ·exact(ih h).imp id (aP _)
  ·split at h
   ·rcases aS.1 h with rfl|h
    ·exact .inl rfl
    ·exact .inr (aP _ h)
   ·rcases aS.1 h with rfl|h
    ·exact .inl rfl
    ·exact .inr h
def tz{k n:Int}:∀{l:List Pr},iE l->iE (hO k n l)
 | [],_=>by simp[hO]
 | p::l,h=>by
  have y:=aT.1 h;unfold hO
  split
  ·rename_i x
   refine aT.2 ⟨λq z=>?_,tz y.2⟩
   rcases put_mem z with e|z
   ·rw[e];exact x
   ·exact y.1 q z
  ·split
   ·rename_i x
    refine aT.2 ⟨λq z=>?_,y.2⟩
    have:=y.1 q z;show k<q.1
    omega
   ·refine aT.2 ⟨λq z=>?_,h⟩
    show k<q.1
    rcases aS.1 z with rfl|z
    ·omega
    ·have:=y.1 q z;omega
def put_pos{k n:Int}(y:0<n):∀{l:List Pr},iu l->iu (hO k n l)
 | [],_=>by intro p z;simp[hO] at z;rw[z];exact y
 | q::l,h=>by
  intro p z;have u:=h q (aK ..);have v:iu l:=λx t=>h x (aP _ t)
  unfold hO at z
  split at z
  ·rcases aS.1 z with rfl|z
   ·exact u
   ·exact put_pos y v p z
  ·split at z
   ·rcases aS.1 z with rfl|z
    ·show 0<q.2+n;omega
    ·exact v p z
   ·rcases aS.1 z with rfl|z
    ·exact y
    ·exact h p z
def oj(k n:Int):∀l:List Pr,ao l<=ao (hO k n l)/\ao (hO k n l)<=ao l+1
 | []=>by simp[hO]
 | q::l=>by
  have:=oj k n l;unfold hO
  split
  ·simp only[aJ];omega
  ·split<;>simp only[aJ]<;>omega
def om(a:List Pr):hX a []=a:=rfl
def rp(a:List Pr)(p:Pr)(b:List Pr):hX a (p::b)=hX (hO p.1 p.2 a) b:=rfl
def uH(a b:List Pr)(p:Pr):hX a (b++[p])=hO p.1 p.2 (hX a b):=by simp[hX,eo]
def mj:∀(b a:List Pr),tot (hX a b)=tot a+tot b
 | [],a=>by simp[om]
 | p::b,a=>by rw[rp,mj b,pT,jP];omega
def yv(j:Int):∀(b a:List Pr),kn (hX a b) j=kn a j+kn b j
 | [],a=>by simp[om]
 | p::b,a=>by rw[rp,yv j b,sm,iP];omega
def CC(j:Int):∀(b a:List Pr),jt (hX a b) j=jt a j+jt b j
 | [],a=>by simp[om]
 | p::b,a=>by rw[rp,CC j b,JD,kI];omega
def lD:∀{b a:List Pr},iE a->iE (hX a b)
 | [],_,h=>h
 | _::b,_,h=>lD (b:=b) (tz h)
def kJ:∀{b a:List Pr},iu a->iu b->iu (hX a b)
 | [],_,h,_=>h
 | p::b,_,h,hb=>kJ (b:=b) (put_pos (hb p (aK ..)) h) λx z=>hb x (aP _ z)
def ml{k:Int}:∀{l:List Pr},(∀p∈l,p.1≠k)->kn l k=0
 | [],_=>rfl
 | p::l,h=>by
  rw[iP,aG (h p (aK ..)),ml λq z=>h q (aP _ z)];rfl
def jy{k:Int}:∀{l:List Pr},iu l->0<=kn l k
 | [],_=>by simp
 | p::l,h=>by
  have:=h p (aK ..);have:=jy (k:=k) (l:=l) λq z=>h q (aP _ z)
  rw[iP];split<;>omega
def qG{l:List Pr}(y:iu l){p:Pr}(h:p∈l):0<kn l p.1:=by
 induction l with
 | nil=>cases h
 | cons q l ih=>
  have u:=y q (aK ..);have z:iu l:=λx v=>y x (aP _ v)
  rw[iP]
  rcases aS.1 h with rfl|h
  ·have:=jy (k:=p.1) z
   simp only[if_true];omega
  ·have:=ih z h
   split<;>omega
def lV{l:List Pr}(z:iu l)(k:Int):(∃p∈l,p.1=k)<->kn l k≠0:=by
 constructor
 ·rintro ⟨p,h,rfl⟩
  have:=qG z h;omega
 ·intro h
  by_cases y:∃p∈l,p.1=k
  ·exact y
  ·exact absurd (ml λp z e=>y ⟨p,z,e⟩) h
def yw{p:Pr}{l:List Pr}(h:iE (p::l)):kn (p::l) p.1=p.2:=by
 rw[iP,ml λq z e=>by have:=(aT.1 h).1 q z;omega];simp
def EL:∀{a b:List Pr},iE a->iE b->iu a->iu b->(∀k,kn a k=kn b k)->a=b
 | [],[],_,_,_,_,_=>rfl
 | [],q::b,_,_,_,hb,h=>by
  have:=qG hb (aK ..);rw[<-h] at this;simp at this
 | p::a,[],_,_,ha,_,h=>by
  have:=qG ha (aK ..);rw[h] at this;simp at this
 | p::a,q::b,sa,sb,ha,hb,h=>by
  have u:=aT.1 sa;have t:=aT.1 sb;have e:p.1=q.1:=by
   have s:=qG ha (aK ..);have r:=qG hb (aK ..);rw[h] at s;rw[<-h] at r;obtain⟨x,z,g⟩:=(lV hb p.1).2 aa
   obtain⟨y,v,f⟩:=(lV ha q.1).2 aa
   have d:q.1<=p.1:=by
    rcases aS.1 z with rfl|z
    ·omega
    ·have:=t.1 x z;omega
   have c:p.1<=q.1:=by
    rcases aS.1 v with rfl|v
    ·omega
    ·have:=u.1 y v;omega
   omega
  have y:p.2=q.2:=by
   have:=h p.1;rw[yw sa,e,yw sb] at this;exact this
  have:p=q:=Prod.ext e y;subst this;rw[EL u.2 t.2 (λx z=>ha x (aP _ z)) (λx z=>hb x (aP _ z)) (λk=>by
   have:=h k;rw[iP,iP] at this;omega)]
def bump(n:Int):List Pr->List Pr
 | []=>[]
 | p::l=>(p.1,p.2+n)::l
def GB(l:List Pr):bump 0 l=l:=by cases l<;>simp[bump]
def bump_length(n:Int)(l:List Pr):ao (bump n l)=ao l:=by cases l<;>simp[bump]
def gV(m:Nat)(l:List Pr):List Pr × Int:=(bump (tot (l.take (ao l - m))) (l.drop (ao l - m)),tot (l.take (ao l - m)))
def lF{l:List Pr}(h:ao l<=m):gV m l=(l,0):=by
 unfold gV;rw[show ao l - m=0 by omega]
 simp[GB]
def rq(A B:List Pr):gV (ao B) (A++B)=(bump (tot A) B,tot A):=by
 unfold gV;rw[show(A++B).length - ao B=ao A by rw[aE];omega]
 rw[List.take_left' rfl,List.drop_left' rfl]
def pU(m:Nat)(y:0<m)(l:List Pr)(h:m<ao l):∃A q B,l=A++q::B/\ao (q::B)=m/\0<ao A:=by
 have z:=bK (ao l - m) l
 cases hd:l.drop (ao l - m) with
 | nil=>
  have:=bq List.length hd;rw[aZ] at this;simp at this
  omega
 | cons q B=>
  refine⟨l.take (ao l - m),q,B,by rw[<-hd,z],?_,?_⟩
  ·rw[<-hd,aZ];omega
  ·rw[aU];omega
def rr{A B:List Pr}(h:iE (A++B)):iE A/\iE B/\∀a∈A,∀b∈B,a.1<b.1:=by
 rw[iE,gx] at h;exact h
def uI{t:Int}:∀{l:List Pr},(∀p∈l,p.1<t)->jt l t=tot l
 | [],_=>rfl
 | p::l,h=>by
  rw[kI,aH (h p (aK ..)),uI λq z=>h q (aP _ z),jP]
def pV{t:Int}:∀{l:List Pr},(∀p∈l,t<=p.1)->jt l t=0
 | [],_=>rfl
 | p::l,h=>by
  have:=h p (aK ..);rw[kI,aG aa,pV λq z=>h q (aP _ z)];rfl
def gP:∀{l:List Pr},iu l->0<=tot l
 | [],_=>by simp
 | p::l,h=>by
  have:=h p (aK ..);have:=gP (l:=l) λq z=>h q (aP _ z)
  rw[jP];omega
def EO{l:List Pr}(h:iu l)(z:0<ao l):0<tot l:=by
 cases l with
 | nil=>simp at z
 | cons p l=>
  have:=h p (aK ..);have:=gP (l:=l) λq y=>h q (aP _ y)
  rw[jP];omega
def ru{A B:List Pr}(h:iu (A++B)):iu A/\iu B:=⟨λp z=>h p (dR _ z),λp z=>h p (dQ _ z)⟩
def oo:∀{b a:List Pr},iE a->iE b->(∀p∈a,∃q∈b,q.1=p.1)->ao a<=ao b
 | _,[],_,_,_=>by simp
 | [],p::a,_,_,h=>by
  obtain⟨q,z,_⟩:=h p (aK ..)
  cases z
 | q::b,p::a,sa,sb,h=>by
  have r:=aT.1 sa;have g:=aT.1 sb
  by_cases e:p.1=q.1
  ·have:=oo (b:=b) (a:=a) r.2 g.2 λx v=>by
    obtain⟨y,u,t⟩:=h x (aP _ v)
    rcases aS.1 u with rfl|u
    ·have:=r.1 x v;omega
    ·exact⟨y,u,t⟩
   simp only[aJ];omega
  ·have:=oo (b:=b) (a:=p::a) sa g.2 λx v=>by
    obtain⟨y,u,t⟩:=h x v
    rcases aS.1 u with rfl|u
    ·obtain⟨z,s,f⟩:=h p (aK ..)
     rcases aS.1 s with rfl|s
     ·exact absurd f.symm e
     ·have:=g.1 z s
      rcases aS.1 v with rfl|v
      ·omega
      ·have:=r.1 x v;omega
    ·exact⟨y,u,t⟩
   simp only[aJ] at this |-;omega
def tA{A B:List Pr}(z:iu A)(y:iu B)(k:Int):(∃p∈hX A B,p.1=k)<->(∃p∈A,p.1=k)\/(∃p∈B,p.1=k):=by
 rw[lV (kJ z y),lV z,lV y,yv];have:=jy (k:=k) z;have:=jy (k:=k) y;omega
def zY(t:Int):∀{l:List Pr},iE l->∃A H,l=A++H/\(∀p∈A,p.1<t)/\∀p∈H,t<=p.1
 | [],_=>⟨[],[],rfl,ad,ad⟩
 | p::l,h=>by
  have y:=aT.1 h
  by_cases u:p.1<t
  ·obtain⟨A,H,e,x,v⟩:=zY t y.2
   refine⟨p::A,H,by rw[e];rfl,λq z=>?_,v⟩
   rcases aS.1 z with rfl|z
   ·exact u
   ·exact x q z
  ·refine⟨[],p::l,rfl,ad,λq z=>?_⟩
   rcases aS.1 z with rfl|z
   ·omega
   ·have:=y.1 q z;omega
def jY:List Pr->Int
 | []=>0
 | p::_=>p.1
def xi(n:Int)(l:List Pr):jY (bump n l)=jY l:=by cases l<;>rfl
def ij(f:Int)(L L':List Pr):Int:=if 0<f/\jY L=jY L' then f else 0
def kZ(m:Nat)(a b:List Pr × Int)(M:List Pr):List Pr × Int:=
 ((gV m M).1,(gV m M).2+ij a.2 a.1 (gV m M).1+ij b.2 b.1 (gV m M).1)
def JE{l:List Pr}(x:0<m)(v:iu l)(h:¬0<(gV m l).2):gV m l=(l,0)/\ao l<=m:=by
 by_cases z:ao l<=m
 ·exact⟨lF z,z⟩
 ·obtain⟨A,q,B,rfl,e,y⟩:=pU m x l aa
  rw[<-e,rq] at h;exact absurd (EO (ru v).1 y) h
def EP(V:0<m){A S:List Pr}(Q:iE A)(Y:iu A){A0 B0:List Pr}{q:Pr}(P:S=A0++q::B0)(J:iE S)(N:ao (q::B0)=m)
 (X:∀p∈A,∃x∈S,x.1=p.1):∃F,F=(if 0<(gV m A).2/\jY (gV m A).1=q.1 then(gV m A).2 else 0)/\jt (gV m A).1 q.1+F=jt A q.1 /\
  (∀k,q.1<=k->kn (gV m A).1 k=kn A k+if k=q.1 then F else 0)/\iu (gV m A).1/\iE (gV m A).1:=by
 by_cases r:0<(gV m A).2
 ·by_cases L:ao A<=m
  ·rw[lF L] at r
   exact absurd r ad
  ·obtain⟨v,z,s,rfl,e,G⟩:=pU m V A aa
   have c:gV m (v++z::s)=(bump (tot v) (z::s),tot v):=by rw[<-e,rq]
   rw[c] at r |-;obtain⟨D,T,R⟩:=rr Q;obtain⟨E,U⟩:=ru Y;have f:=aT.1 T;subst P;obtain⟨C,I,H⟩:=rr J;have K:z.1<=q.1:=by
    by_cases c:z.1<=q.1
    ·exact c
    ·have:=oo (a:=(q.1,1)::z::s) (b:=q::B0) (aT.2 ⟨λx u=>by
      show q.1<x.1
      rcases aS.1 u with rfl|u
      ·omega
      ·have:=f.1 x u;omega,T⟩) I λx u=>by
       rcases aS.1 u with rfl|u
       ·exact⟨q,aK ..,rfl⟩
       ·obtain⟨y,t,g⟩:=X x (dQ _ u)
        have d:q.1<x.1:=by
         rcases aS.1 u with rfl|u
         ·omega
         ·have:=f.1 x u;omega
        rcases cV.1 t with t|t
        ·have:=H y t q (aK ..);omega
        ·exact⟨y,t,g⟩
     rw[aJ,e,N] at this;omega
   have M:jt s z.1=0:=pV λp y=>by have:=f.1 p y;omega
   have a:∀t,z.1<=t->jt v t=tot v:=λt h=>uI λp y=>by have:=R p y z (aK ..);omega
   have O:∀k,z.1<=k->kn v k=0:=λk h=>ml λp y e=>by have:=R p y z (aK ..);omega
   refine⟨_,rfl,?_,λk X=>?_,?_,?_⟩
   ·show jt ((z.1,z.2+tot v)::s) q.1+(if 0<tot v/\z.1=q.1 then tot v else 0)=jt (v++z::s) q.1
    rw[kI,pR,kI,a _ K];have d:0<tot v:=r;show(if z.1<q.1 then z.2+tot v else 0)+jt s q.1+_=_
    have b:z.1=q.1->jt s q.1=0:=λe=>by rw[<-e];exact M
    by_cases g:z.1=q.1
    ·have:=b g
     simp only[d,g,and_self,if_true,Int.lt_irrefl,if_false];omega
    ·have:z.1<q.1:=aa
     simp only[g,and_false,if_false,this,if_true];omega
   ·show kn ((z.1,z.2+tot v)::s) k=kn (v++z::s) k+(if k=q.1 then(if 0<tot v/\z.1=q.1 then tot v else 0) else 0)
    rw[iP,xh,iP,O k aa]
    have d:0<tot v:=r;show(if z.1=k then z.2+tot v else 0)+kn s k=_
    by_cases g:z.1=q.1
    ·simp only[d,g,and_self,if_true]
     by_cases b:k=q.1
     ·simp only[b,if_true];omega
     ·simp only[b,if_false];omega
    ·have:¬z.1=k:=aa
     simp only[g,and_false,if_false,this,ite_self];omega
   ·intro p y
    rcases aS.1 y with rfl|y
    ·have:=U z (aK ..)
     show 0<z.2+tot v
     have d:0<tot v:=r;omega
    ·exact U p (aP _ y)
   ·exact aT.2 ⟨λx u=>f.1 x u,f.2⟩
 ·obtain⟨e,_⟩:=JE V Y r
  rw[e];exact⟨0,ad,ad,ad,Y,Q⟩
def zZ(N:0<m){A B:List Pr}(K:iE A)(U:iu A)(sB:iE B)(T:iu B) :
 kZ m (gV m A) (gV m B) (hX (gV m A).1 (gV m B).1)=gV m (hX A B):=by
 have f:iE (hX A B):=lD K;have pS:=kJ U T;have o:∀p∈A,∃x∈hX A B,x.1=p.1:=λp z=>(tA U T p.1).2 (.inl ⟨p,z,rfl⟩)
 have n:∀p∈B,∃x∈hX A B,x.1=p.1:=λp z=>(tA U T p.1).2 (.inr ⟨p,z,rfl⟩)
 by_cases hl:ao (hX A B)<=m
 ·have:=oo K f o
  have:=oo sB f n;rw[lF (l:=A) aa,lF (l:=B) aa]
  unfold kZ;rw[lF hl];simp[ij]
 ·obtain⟨t,q,d,e,S,_⟩:=pU m N _ (show m<ao (hX A B) by omega)
  obtain⟨Y,R,la,G,i,sA'⟩:=EP N K U e f S o;obtain⟨X,Q,lb,F,w,_⟩:=EP N sB T e f S n;obtain⟨r,D⟩:∃x,x=(gV m A).1:=⟨_,rfl⟩;obtain⟨g,C⟩:∃x,x=(gV m B).1:=⟨_,rfl⟩;rw[<-D] at la G i sA' R;rw[<-C] at lb F w Q;have sM:iE (hX r g):=lD sA';have pM:=kJ i w;obtain⟨u,H,V,W,L⟩:=zY q.1 sM;have e':=e;rw[e] at f pS;obtain⟨t1,J,t3⟩:=rr f;have b:=aT.1 J;obtain⟨x1,a⟩:=ru pS;have U3:=sM;rw[V] at U3 pM;obtain⟨u1,u2,u3⟩:=rr U3;obtain⟨v1,I⟩:=ru pM;have j:∀k,q.1<=k->kn H k=kn (q::d) k+if k=q.1 then Y+X else 0:=λk s=>by
   have c:=bq (kn · k) V
   have y:=bq (kn · k) e
   simp only[xh,yv] at c y;rw[ml (l:=u) λp z e=>by have:=W p z;omega,G k s,F k s] at c
   rw[ml (l:=t) λp z e=>by have:=t3 p z q (aK ..);omega] at y
   split at c<;>rename_i v
   ·rw[aH v];omega
   ·rw[aG v];omega
  have Y9:0<=Y:=by rw[R];split<;>omega
  have hF1:0<=X:=by rw[Q];split<;>omega
  have hlo:jt (hX r g) q.1+Y+X=jt (hX A B) q.1:=by rw[CC,CC];omega
  have hA0:jt (hX A B) q.1=tot t:=by
   rw[e,pR,uI λp z=>t3 p z q (aK ..),pV λp z=>by
    rcases aS.1 z with rfl|z
    ·omega
    ·have:=b.1 p z;omega]
   omega
  have hM1:jt (hX r g) q.1=tot u:=by
   rw[V,pR,uI W,pV L];omega
  have O:∀k,(∃p∈H,p.1=k)<->∃p∈q::d,p.1=k:=λk=>by
   by_cases s:q.1<=k
   ·rw[lV I,lV a,j k s]
    have:=jy (k:=k) a
    by_cases v:k=q.1
    ·have P:=qG a (aK ..)
     rw[aH v,v];constructor<;>intro<;>omega
    ·rw[aG v,dJ]
   ·constructor
    ·rintro ⟨p,z,rfl⟩;exact absurd (L p z) s
    ·rintro ⟨p,z,rfl⟩
     rcases aS.1 z with rfl|z
     ·omega
     ·have:=b.1 p z;omega
  have E:ao H=m:=by
   have c:=oo u2 J λp z=>(O p.1).1 ⟨p,z,rfl⟩
   have y:=oo J u2 λp z=>(O p.1).2 ⟨p,z,rfl⟩
   omega
  have hcM:gV m (hX r g)=(bump (tot u) H,tot u):=by rw[V,<-E,rq]
  have hcS:gV m (hX A B)=(bump (tot t) (q::d),tot t):=by rw[e,<-S,rq]
  obtain⟨h,H',rfl⟩:∃h H',H=h::H':=by
   cases H with
   | nil=>simp at E;omega
   | cons h H'=>exact⟨h,H',rfl⟩
  have P:h.1=q.1:=by
   have c:=L h (aK ..);obtain⟨y,M,ey⟩:=(O q.1).2 ⟨q,aK ..,rfl⟩
   rcases aS.1 M with rfl|M
   ·exact ey
   ·have:=(aT.1 u2).1 y M;omega
  have u4:=aT.1 u2;unfold kZ;rw[<-D,<-C,hcM,hcS];have c:ij (gV m A).2 r (bump (tot u) (h::H'))=Y:=by rw[R,ij,xi,<-P];rfl
  have M:ij (gV m B).2 g (bump (tot u) (h::H'))=X:=by rw[Q,ij,xi,<-P];rfl
  refine Prod.ext ?_ ?_
  ·show bump (tot u) (h::H')=bump (tot t) (q::d)
   have n1:=gP v1;have n2:=gP x1;refine EL (aT.2 ⟨λx y=>u4.1 x y,u4.2⟩) (aT.2 ⟨λx y=>b.1 x y,b.2⟩) (λp z=>?_) (λp z=>?_) λk=>?_
   ·rcases aS.1 z with rfl|z
    ·have:=I h (aK ..)
     show 0<h.2+tot u;omega
    ·exact I p (aP _ z)
   ·rcases aS.1 z with rfl|z
    ·have:=a q (aK ..)
     show 0<q.2+tot t;omega
    ·exact a p (aP _ z)
   ·show kn ((h.1,h.2+tot u)::H') k=kn ((q.1,q.2+tot t)::d) k
    by_cases s:q.1<=k
    ·have:=j k s
     rw[iP,iP] at this |-;rw[P] at this |-
     by_cases v:k=q.1
     ·rw[aH v,aH v.symm,aH v.symm] at this
      rw[aH (show q.1=k from v.symm),aH (show q.1=k from v.symm)]
      show h.2+tot u+_=q.2+tot t+_
      omega
     ·rw[aG v,aG (λe=>v e.symm),aG (λe=>v e.symm)] at this
      rw[aG (show ¬q.1=k from λe=>v e.symm),aG (show ¬q.1=k from λe=>v e.symm)]
      omega
    ·rw[ml λp z e=>?_,ml λp z e=>?_]
     ·rcases aS.1 z with rfl|z
      ·have y:q.1=k:=e
       omega
      ·have:=b.1 p z;omega
     ·rcases aS.1 z with rfl|z
      ·have y:h.1=k:=e
       omega
      ·have:=u4.1 p z;omega
  ·show tot u+ij (gV m A).2 r (bump (tot u) (h::H'))+ij (gV m B).2 g (bump (tot u) (h::H'))=tot t
   rw[c,M];omega
def JF(y:0<m){A:List Pr}(u:iE A)(v:iu A)(k n:Int)(x:0<n) :
 kZ m (gV m A) ([],0) (hO k n (gV m A).1)=gV m (hO k n A):=by
 have h:=zZ y u v (B:=[(k,n)]) ad (by intro p z;simp at z;rw[z];exact x)
 rw[lF (l:=[(k,n)]) af] at h
 show kZ m (gV m A) ([],0) (hX (gV m A).1 [(k,n)])=gV m (hX A [(k,n)])
 rw[<-h];simp[kZ,ij]
def lW:List Pr->List Pr->List Pr
 | [],b=>b
 | a,[]=>a
 | p::a,q::b=>if p.1<q.1 then p::lW a (q::b) else if q.1<p.1 then q::lW (p::a) b else(p.1,p.2+q.2)::lW a b
termination_by a b=>ao a+ao b
def zip_nil_left(b:List Pr):lW [] b=b:=by unfold lW;rfl
def zip_nil_right(a:List Pr):lW a []=a:=by cases a<;>unfold lW<;>rfl
def CD{p q:Pr}(a b:List Pr)(h:p.1<q.1):lW (p::a) (q::b)=p::lW a (q::b):=by rw[lW,aH h]
def CE{p q:Pr}(a b:List Pr)(h:q.1<p.1):lW (p::a) (q::b)=q::lW (p::a) b:=by rw[lW,aG aa,aH h]
def CG{p q:Pr}(a b:List Pr)(h:p.1=q.1):lW (p::a) (q::b)=(p.1,p.2+q.2)::lW a b:=by rw[lW,aG aa,aG aa]
def tB:∀(n:Nat) (a b:List Pr),ao a+ao b<=n->iE a->iE b->iu a->iu b ->
 iE (lW a b)/\iu (lW a b)/\(∀t,(∀p∈a,t<p.1)->(∀p∈b,t<p.1)->∀p∈lW a b,t<p.1)/\∀k,kn (lW a b) k=kn a k+kn b k
 | _,[],b,_,_,sb,_,pb=>by rw[zip_nil_left];exact⟨sb,pb,λt _ h=>h,ad⟩
 | _,p::a,[],_,sa,_,pa,_=>by rw[zip_nil_right];exact⟨sa,pa,λt h _=>h,ad⟩
 | 0,p::a,q::b,h,_,_,_,_=>by simp at h
 | n+1,p::a,q::b,h,sa,sb,pa,pb=>by
  have Y:=aT.1 sa;have X:=aT.1 sb;have U:iu a:=λx z=>pa x (aP _ z)
  have T:iu b:=λx z=>pb x (aP _ z)
  have S:=pa p (aK ..);have R:=pb q (aK ..);simp only[aJ] at h
  by_cases c:p.1<q.1
  ·rw[CD a b c]
   obtain⟨g,f,v,d⟩:=tB n a (q::b) (by simp only[aJ];omega) Y.2 sb U pb
   refine⟨aT.2 ⟨v p.1 Y.1 λx z=>?_,g⟩,λx z=>?_,λt u r x z=>?_,λk=>?_⟩
   ·rcases aS.1 z with rfl|z
    ·exact c
    ·have:=X.1 x z;omega
   ·rcases aS.1 z with rfl|z
    ·exact S
    ·exact f x z
   ·rcases aS.1 z with rfl|z
    ·exact u x (aK ..)
    ·exact v t (λy s=>u y (aP _ s)) r x z
   ·rw[iP,d,iP p];omega
  ·by_cases V:q.1<p.1
   ·rw[CE a b V]
    obtain⟨g,f,v,d⟩:=tB n (p::a) b (by simp only[aJ];omega) sa X.2 pa T
    refine⟨aT.2 ⟨v q.1 (λx z=>?_) X.1,g⟩,λx z=>?_,λt u r x z=>?_,λk=>?_⟩
    ·rcases aS.1 z with rfl|z
     ·exact V
     ·have:=Y.1 x z;omega
    ·rcases aS.1 z with rfl|z
     ·exact R
     ·exact f x z
    ·rcases aS.1 z with rfl|z
     ·exact r x (aK ..)
     ·exact v t u (λy s=>r y (aP _ s)) x z
    ·rw[iP,d,iP q];omega
   ·have e:p.1=q.1:=aa
    rw[CG a b e];obtain⟨g,f,v,d⟩:=tB n a b aa Y.2 X.2 U T
    refine⟨aT.2 ⟨v p.1 Y.1 λx z=>?_,g⟩,λx z=>?_,λt u r x z=>?_,λk=>?_⟩
    ·have:=X.1 x z;omega
    ·rcases aS.1 z with rfl|z
     ·show 0<p.2+q.2;omega
     ·exact f x z
    ·rcases aS.1 z with rfl|z
     ·exact u p (aK ..)
     ·exact v t (λy s=>u y (aP _ s)) (λy s=>r y (aP _ s)) x z
    ·rw[iP,d,iP,iP]
     show(if p.1=k then p.2+q.2 else 0)+_=_
     rw[e]
     split<;>omega
def yx{a b:List Pr}(x:iE a)(s:iE b)(z:iu a)(y:iu b):lW a b=hX a b:=by
 obtain⟨v,u,_,t⟩:=tB _ a b (aD _) x s z y;exact EL v (lD x) u (kJ z y) λk=>by rw[t,yv]
def pW(t:0<m){l:List Pr}(h:iE l)(z:iu l):iE (gV m l).1/\iu (gV m l).1/\tot (gV m l).1=tot l/\ao (gV m l).1<=m/\0<=(gV m l).2:=by
 by_cases y:ao l<=m
 ·rw[lF y];exact⟨h,z,rfl,y,ad⟩
 ·obtain⟨A,q,B,rfl,e,d⟩:=pU m t l aa
  rw[<-e,rq];obtain⟨_,f,_⟩:=rr h;obtain⟨g,v⟩:=ru z;have u:=aT.1 f;have r:=gP g;refine⟨aT.2 ⟨λx s=>u.1 x s,u.2⟩,λp z=>?_,?_,?_,r⟩
  ·rcases aS.1 z with rfl|z
   ·have:=v q (aK ..)
    show 0<q.2+tot A;omega
   ·exact v p (aP _ z)
  ·show tot ((q.1,q.2+tot A)::B)=_
   rw[gY,jP,jP];show q.2+tot A+_=_
   omega
  ·exact Nat.le_of_eq (bump_length (tot A) (q::B))
def kS(k:Int):List Pr->Nat
 | []=>0
 | p::l=>if p.1<k then kS k l+1 else 0
def sY(k:Int):∀l,kS k l<=ao l
 | []=>aD _
 | p::l=>by
  have:=sY k l;unfold kS
  split<;>simp only[aJ]<;>omega
def z6(k:Int):∀(l:List Pr) (j:Nat) (h:j<ao l),j<kS k l->l[j].1<k
 | [],_,h,_=>by simp at h
 | p::l,j,h,hj=>by
  unfold kS at hj
  split at hj
  ·rename_i z
   cases j with
   | zero=>exact z
   | succ j=>exact z6 k l j (by simpa using h) aa
  ·omega
def xj(k:Int):∀(l:List Pr),iE l->∀(j:Nat) (h:j<ao l),kS k l<=j->k<=l[j].1
 | [],_,_,h,_=>by simp at h
 | p::l,s,j,h,hj=>by
  have y:=aT.1 s;unfold kS at hj
  split at hj
  ·cases j with
   | zero=>omega
   | succ j=>exact xj k l y.2 j (by simpa using h) aa
  ·rename_i x
   cases j with
   | zero=>show k<=p.1;omega
   | succ j=>
    have z:j<ao l:=by simpa using h
    have:=y.1 (l[j]'z) (aX z);show k<=(l[j]'z).1
    omega
def GC(k:Int){l:List Pr}(s:iE l)(i:Nat)(x:i<=ao l)(z:∀(j:Nat) (h:j<ao l),j<i->l[j].1<k)(y:∀(j:Nat) (h:j<ao l),i<=j->k<=l[j].1):i=kS k l:=by
 have v:=sY k l
 rcases Nat.lt_trichotomy i (kS k l) with h|h|h
 ·have a:=z6 k l i aa h
  have b:=y i aa (aD _)
  omega
 ·exact h
 ·have a:=z (kS k l) aa h
  have b:=xj k l s (kS k l) aa (aD _)
  omega
def mJ(l:List Pr)(i:Nat)(x:Pr):List Pr:=l.take i++x::l.drop i
def xk(k n:Int):∀(l:List Pr) (m:Int),l[kS k l]?=some (k,m)->hO k n l=l.set (kS k l) (k,m+n)
 | [],m,h=>by simp at h
 | p::l,m,h=>by
  unfold kS at h |-;unfold hO
  split at h
  ·rename_i z
   rw[aH z,aH z,bm,xk k n l m (by simpa using h)]
  ·rename_i z
   simp only[az,aW] at h;rw[aG z,aG z,aH (by rw[h])]
   rw[h];rfl
def ER(k n:Int):∀(l:List Pr),(∀p,l[kS k l]?=some p->p.1≠k)->hO k n l=mJ l (kS k l) (k,n)
 | [],_=>rfl
 | p::l,h=>by
  unfold kS at h |-;unfold hO
  split at h
  ·rename_i z
   rw[aH z,aH z,ER k n l λq y=>h q (by simpa using y)]
   rfl
  ·rename_i z
   have:=h p ad
   rw[aG z,aG z,aG this];rfl
def z7(k n:Int)(l:List Pr):(mJ l (kS k l) (k,0)).set (kS k l) (k,0+n)=mJ l (kS k l) (k,n):=by
 have z:=sY k l;unfold mJ;rw[gg _ _ (by rw[aU];omega)]
 simp only[aU];rw[show kS k l - min (kS k l) (ao l)=0 by omega]
 simp
def xl{B:Int}{l:List Pr}(h:∀p∈l,-B<=p.1/\p.1<=B)(y:-B<=k/\k<=B):∀p∈hO k n l,-B<=p.1/\p.1<=B:=λp z=>by
 rcases put_mem z with e|z
 ·rw[e];exact y
 ·exact h p z
def nm{l:List Pr}(h:iu l):∀p∈l,p.2<=tot l:=by
 induction l with
 | nil=>intro p z;cases z
 | cons q l ih=>
  intro p z;have u:=h q (aK ..);have y:iu l:=λx v=>h x (aP _ v)
  have:=gP y;rw[jP]
  rcases aS.1 z with rfl|z
  ·omega
  ·have:=ih y p z;omega
end D
structure uJ(α:Type) where
 k:Nat
 t:TypeId
 enc:α->List Value
 len:∀x,ao (enc x)=k
 one:∀x,∀u∈enc x,u.oneCell'=true
section
variable {α : Type} (E : uJ α)
def cellsE(l:List α):List Value:=l.flatMap E.enc
@[simp] theorem Pf:cellsE E []=[]:=rfl
def ja(x:α)(l:List α):cellsE E (x::l)=E.enc x++cellsE E l:=rfl
def js(a b:List α):cellsE E (a++b)=cellsE E a++cellsE E b:=List.flatMap_append
def hU:∀l:List α,ao (cellsE E l)=ao l * E.k
 | []=>by simp
 | x::l=>by rw[ja,aE,E.len,hU l,aJ,dZ,fD]
def ll:∀(l:List α) (j:Nat) (hj:j<ao l) (i:Nat),i<E.k->(cellsE E l)[j * E.k+i]?=(E.enc l[j])[i]?
 | x::l,0,_,i,hi=>by
  rw[ja,cO (by rw[E.len];omega)]
  simp
 | x::l,j+1,hj,i,hi=>by
  have z:j<ao l:=by simpa using hj
  rw[ja,cU (by rw[E.len,dZ];omega),E.len]
  rw[show(j+1) * E.k+i - E.k=j * E.k+i by rw[dZ];omega]
  exact ll l j z i hi
def sZ(l:List α)(n:Nat):(cellsE E l).take (n * E.k)=cellsE E (l.take n):=by
 rcases fs (ao l) n with h|h
 ·rw[bj h,bj (by rw[hU];exact cd _ h)]
 ·conv=>lhs;rw[<-bK n l,js]
  have z:ao (cellsE E (l.take n))=n * E.k:=by rw[hU,aU,dk h]
  rw[<-z,gn]
def s3(l:List α)(n:Nat):(cellsE E l).drop (n * E.k)=cellsE E (l.drop n):=by
 rcases fs (ao l) n with h|h
 ·rw[e8 h,e8 (by rw[hU];exact cd _ h)];rfl
 ·conv=>lhs;rw[<-bK n l,js]
  have z:ao (cellsE E (l.take n))=n * E.k:=by rw[hU,aU,dk h]
  rw[<-z,List.drop_left]
def mK(l:List α):∀u∈cellsE E l,u.oneCell'=true:=λu z=>by
 obtain⟨x,_,h⟩:=List.mem_flatMap.1 z;exact E.one x u h
def GD:List Value->Nat->List Value->List Value
 | xs,_,[]=>xs
 | xs,p,u::us=>GD (xs.set p u) (p+1) us
def EV:∀(us xs:List Value) (p:Nat),p+ao us<=ao xs->GD xs p us=xs.take p++us++xs.drop (p+ao us)
 | [],xs,p,_=>by simp[GD]
 | u::us,xs,p,h=>by
  rw[aJ] at h;rw[GD,EV us (xs.set p u) (p+1) (by rw[bD];omega)]
  rw[List.drop_set,aH aa,aJ,show p+1+ao us=p+(ao us+1) by omega]
  congr 1
  have z:p<ao (xs.set p u):=by rw[bD];omega
  rw[aM z,gw,List.take_set,List.set_eq_of_length_le (by rw[aU];omega)]
  simp
def uK(l:List α)(j:Nat)(y:j<ao l)(x:α):GD (cellsE E l) (j * E.k) (E.enc x)=cellsE E (l.set j x):=by
 have z:(j+1) * E.k<=ao l * E.k:=cd _ y;rw[dZ] at z;rw[EV _ _ _ (by rw[E.len,hU];exact z),E.len,sZ,show j * E.k+E.k=(j+1) * E.k by rw[dZ],s3,List.set_eq_take_append_cons_drop,aH y,js,ja,aO]
def stores(w:World)(g:Nat):Nat->List Value->World
 | _,[]=>w
 | p,u::us=>stores (w.setCell ⟨g,p,none⟩ u) g (p+1) us
def iA(w:World)(v:Value)(l:List α):Prop:=Rd E.k w v (ao l) (cellsE E l)
def jQ(w:World)(A:Option Addr)(l:List α):Prop:=0<ao l->∃g off,A=some ⟨g,off,none⟩/\g<w.heap.size/\∀j (h:j<ao l) i,i<E.k->w.cell? ⟨g,off+j * E.k+i,none⟩=(E.enc l[j])[i]?
def gO(base:Nat)(w:World)(v:Value)(l:List α):Prop:=w.ownsRow base E.t E.k v (ao l) (cellsE E l)
end
section
variable {α : Type} {E : uJ α} {w w' : World} {v : Value} {l : List α} {base : Nat}
variable{A:Option Addr}{c g:Nat}
def iA.keep(h:iA E w v l)(z:aq w w'):iA E w' v l:=Rd.keep h z
def iA.form(h:iA E w v l):∃A c,v=.slice A (ao l) c/\ao l<=c/\c<=9223372036854775807/\jQ E w A l:=by
 obtain⟨_,A,c,p,y,x,u⟩:=h;refine⟨A,c,p,y,by unfold maxLen at x;omega,λz=>?_⟩
 obtain⟨g,f,t,s,q⟩:=u z;refine⟨g,f,t,s,λj h i r=>?_⟩
 have z:(j+1) * E.k<=ao l * E.k:=cd _ h;rw[dZ] at z;rw[cX,q (j * E.k+i) aa,ll E l j h i r]
def iA.jj(v:ao l<=c)(q:c<=9223372036854775807)(h:jQ E w A l):iA E w (.slice A (ao l) c) l:=by
 refine⟨hU E l,A,c,rfl,v,by unfold maxLen;omega,λz=>?_⟩
 obtain⟨g,r,u,t,s⟩:=h z;refine⟨g,r,u,t,λj y=>?_⟩
 have x:0<E.k:=Nat.pos_of_ne_zero λe=>by rw[e] at y;omega
 have e:=Nat.div_add_mod j E.k;rw[cL] at e;have z:j / E.k<ao l:=(dO x).2 y;have y:=fw j x;rw[<-e,<-cX,s _ z _ y,ll E l _ z _ y]
def jQ.keep(h:jQ E w A l)(z:aq w w'):jQ E w' A l:=λv=>by
 obtain⟨g,x,u,y,s⟩:=h v;exact⟨g,x,u,aR y z.size,λj r i t=>(z.cell (p:=⟨g,x+j * E.k+i,none⟩) y).trans (s j r i t)⟩
def jQ.drop(h:jQ E w A l){off:Nat}(x:A=some ⟨g,off,none⟩)(k:Nat):jQ E w (some ⟨g,off+k * E.k,none⟩) (l.drop k):=λy=>by
 rw[aZ] at y;obtain⟨r,q,z,u,v⟩:=h aa
 rw[x] at z;injection z with z;injection z with e1 e2;subst e1;subst e2;refine⟨g,_,rfl,u,λj s i t=>?_⟩
 rw[aZ] at s;rw[cX off,<-dS,v (k+j) aa i t,eS]
def jQ.take(h:jQ E w A l)(k:Nat):jQ E w A (l.take k):=λt=>by
 have s:=gC k l;obtain⟨g,u,z,x,y⟩:=h aa
 refine⟨g,u,z,x,λj v i v=>?_⟩
 rw[y j aa i v,List.getElem_take]
def jQ.nil:jQ E w A []:=λh=>absurd h ad
def iA.nil_(w:World):iA E w (.slice none 0 0) []:=Rd.nil_ w E.k
def gO.rd(h:gO E base w v l):iA E w v l:=Rd.lT h
def gO.nil_(base:Nat)(w:World):gO E base w (.slice none 0 0) []:=World.ownsRow_nil w base _ _
def gO.more{base':Nat}(h:gO E base w v l)(q:base'<=base):gO E base' w v l:=by
 obtain⟨t,z⟩:=h;refine⟨t,?_⟩
 rcases z with z|⟨g,y,x,u,s,r⟩
 ·exact .inl z
 ·exact .inr ⟨g,y,x,u,aa,r⟩
def gO.stay(h:gO E base w v l)(q:∀g,v.ownBlock=some g->w'.heap[g]?=w.heap[g]?):gO E base w' v l:=by
 obtain⟨s,z⟩:=h;refine⟨s,?_⟩
 rcases z with z|⟨g,y,x,rfl,u,t,r⟩
 ·exact .inl z
 ·exact .inr ⟨g,y,x,rfl,u,by rw[q g rfl];exact t,r⟩
def gO.lt(h:gO E base w v l):∀g,v.ownBlock=some g->base<=g/\g<w.heap.size:=fc h
def gO.keep(h:gO E base w v l)(z:aq w w'):gO E base w' v l:=h.stay λg y=>z.block g (h.lt g y).2
def gO.drewN(h:gO E base w v l)(n:Nat):gO E base (w.drewN n) v l:=h
def gO.drew(h:gO E base w v l):gO E base w.drew v l:=h
def gO.alloc(h:gO E base w v l)(o:Obj):gO E base (w.alloc o) v l:=eI h o
def gO.far(h:gO E base w v l){p:Addr}(y:v.ownBlock≠some p.block)(u:Value):gO E base (w.setCell p u) v l:=
 h.stay λg z=>bl w p u g (λe=>y (by rw[z,e]))
def gO.grown{row:Option Nat}(h:gO E base w v l)(z:w.grownBy w' row)(y:v.ownBlock=none\/v.ownBlock≠row):gO E base w' v l:=World.ownsRow.kept h z y
def gO.form(h:gO E base w v l):∃A c,v=.slice A (ao l) c/\ao l<=c/\c<=9223372036854775807/\jQ E w A l:=h.rd.form
def gO.pos(h:gO E base w v l)(r:0<ao l):∃g c,v=.slice (some ⟨g,0,none⟩) (ao l) c/\base<=g/\g<w.heap.size/\ao l<=c/\c<=9223372036854775807:=by
 rcases h.2 with⟨_,q⟩|⟨g,z,t,rfl,y,s,x,u,_⟩
 ·omega
 ·exact⟨g,z,rfl,y,(h.lt g rfl).2,x,by unfold maxLen at u;omega⟩
def gO.cellAt{g c n:Nat}(h:gO E base w (.slice (some ⟨g,0,none⟩) n c) l){j:Nat}(z:j<ao l)(i:Nat)(x:i<E.k):w.cell? ⟨g,j * E.k+i,none⟩=(E.enc l[j])[i]?:=by
 have v:n=ao l:=by
  obtain⟨A,u,y,_⟩:=h.form;injection y
 subst v;have y:(j+1) * E.k<=ao l * E.k:=cd _ z;rw[dZ] at y;rw[fo h _ aa,ll E l j z i x]
def gO.frozenAt{g c n:Nat}(h:gO E base w (.slice (some ⟨g,0,none⟩) n c) l)(j:Nat):w.frozen? ⟨g,j,none⟩=false:=by
 have z:n=ao l:=by
  obtain⟨A,x,y,_⟩:=h.form;injection y
 subst z;exact e6 h _
def s4{t:TypeId}{k g c n:Nat}:∀(us z:List Value) (w:World) (p:Nat),w.ownsRow base t k (.slice (some ⟨g,0,none⟩) n c) n z->(stores w g p us).ownsRow base t k (.slice (some ⟨g,0,none⟩) n c) n (GD z p us)
 | [],_,_,_,h=>h
 | u::us,Y_,_w,p,h=>s4 us _ _ _ (eC h p u).1
def gO.gR{n:Nat}(h:gO E base w (.slice (some ⟨g,0,none⟩) n c) l)(j:Nat)(z:j<ao l)(x:α):gO E base (stores w g (j * E.k) (E.enc x)) (.slice (some ⟨g,0,none⟩) n c) (l.set j x):=by
 have y:n=ao l:=by
  obtain⟨A,u,v,_⟩:=h.form;injection v
 subst y;have:=s4 (E.enc x) (cellsE E l) w (j * E.k) h;rw[uK E l j z x] at this;unfold gO;rw[bD];exact this
def gO.one(w:World)(x:α)(T:TypeId)(y:T=E.t)(z:Array Value)(v:z=(E.enc x).toArray):gO E w.heap.size (w.alloc (.cells z T)) (.slice (some ⟨w.heap.size,0,none⟩) 1 1) [x]:=by
 subst y;subst v;have h:=World.ownsRow_lit (e:=E.t) (size:=E.k) w (E.enc x).toArray 1 (aD w.heap.size) (by unfold maxLen;omega) (by simp[E.len])
 unfold gO;rw[show cellsE E [x]=(E.enc x) by rw[ja];simp]
 exact h
def iA.hJ(w:World)(x:α)(T:TypeId)(y:T=E.t)(z:Array Value)(v:z=(E.enc x).toArray)(H:Nat)(h:w.heap.size=H):iA E (w.alloc (.cells z T)) (.slice (some ⟨H,0,none⟩) 1 1) [x]:=by
 subst h;exact(gO.one w x T y z v).rd
def gO.lit(w:World)(l:List α)(T:TypeId)(y:T=E.t)(z:Array Value)(x:z=(cellsE E l).toArray)(v:ao l<=1099511627776):gO E w.heap.size (w.alloc (.cells z T)) (.slice (some ⟨w.heap.size,0,none⟩) (ao l) (ao l)) l:=by
 subst y;subst x;have h:=World.ownsRow_lit (e:=E.t) (size:=E.k) w (cellsE E l).toArray (ao l) (aD w.heap.size) (by unfold maxLen;omega) (by simp[hU])
 unfold gO;exact h
end
section
variable {P : Program} {α : Type} (E : uJ α)
def g8{ts:TypeId}(r:TypeInfo)(z:Value)(q:Nat)(L:P.underlying ts=some (.slice E.t))(U:P.info? E.t=some r)(J:r.zero=some z)(M:r.size=E.k)(X:r.bytes=q)(I:z.cells.size=E.k)(T:0<E.k)(b:q<=128)
 {w:World} {ops:Array Oper} {rest:List Oper} {o:Oper} {a:Act} {Q:Exit->Act->World->Prop} (V:o.guard=none) (s x:Operand)
 (R:o.op=.call {callee:=.builtin .append,args:=#[s,x],argTypes:=#[ts,ts]})
 (base:Nat) (v:Value) (xs:List α) (N:a.eval s=v) (O:gO E base w v xs) (u:Value) (y:List α) (K:a.eval x=u) (p:iA E w u y) (S:ao xs+ao y<=1099511627776) (Y:base<=w.heap.size)
 (h:∀t w',gO E base w' t (xs++y)->w.grownBy w' v.ownBlock->(t.ownBlock=v.ownBlock\/t.ownBlock=some w.heap.size)->wpList P ops Q rest (a.put o.dst t) w'):wpList P ops Q (o::rest) a w:=by
 obtain⟨A,c,rfl,_,_,_⟩:=p.form;have H:(ao xs+ao y) * q<=1099511627776 * 128:=cT S b;refine jv w V s x ts R base E.t r z E.k q L U J M X I T v (ao xs) (cellsE E xs) N O A (ao y) c (cellsE E y) K p (mK E y) (by unfold maxLen;omega) aa Y λt w' g f d=>h t w' ?_ f d
 unfold gO;rw[aE,js];exact g
end
section
variable {P : Program} {ops : Array Oper} {md : Region.Mode} {S : World -> Prop} {Q : Exit -> Act -> World -> Prop} {t : Nat}
variable{i id:Nat}{v:Value}{a a':Act}{w:World}{d:Bool}{r:List (Nat × Nat)}{o:Oper}
def wpAnyS(P:Program)(md:Region.Mode)(ops:Array Oper)(Q:Exit->Act->World->Prop)(S:World->Prop)(t:Nat):Nat->Array Bool->Act->World->Prop
 | 0,listed,a,w=>Region.ready md ops listed=[]/\Q .normal a w
 | f+1,listed,a,w=>
  (Region.ready md ops listed=[]->Q .normal a w) /\
  ∀i∈Region.ready md ops listed,wpOp P ops Q i (λa' w'=>((listed.setIfInBounds i true).getD t true=false->S w')/\wpAnyS P md ops Q S t f (listed.setIfInBounds i true) a' w') a w
def qH:∀(f:Nat) (z:Array Bool) (a:Act) (w:World),wpAnyS P md ops Q S t f z a w->wpAny P md ops Q f z a w
 | 0,_,_,_,h=>h
 | f+1,_,_,_,h=>⟨h.1,λi x=>wpOp_mono (λz v y=>qH f _ z v y.2) (h.2 i x)⟩
def Oq(md:Region.Mode)(ops:Array Oper)(t i:Nat):Prop:=∃o,ops[t]?=some o/\∃e∈o.after,Region.binds md e=true/\e.on=i
def wpAnyS_first{oi:Oper}{S0:World->Prop}(T:i≠t)(U:ops[i]?=some oi)(N:∀(j:Nat) (o:Oper) p b,ops[j]?=some o->o.op≠.select p b)
 (J:∀c a w,Q (.panic c) (a.put oi.dst v) w->Q (.panic c) a w) :
 ∀(fuel:Nat) (z:Array Bool) (a:Act) (w:World),
  (∀j r,ops[j]?=some r->j≠i->z.getD j true=false->(∀e∈r.after,Region.binds md e=true->e.on≠i)->oi.apart ops r=true) ->
  i∈Region.ready md ops z->YieldsIf P ops S0 oi v a->(z.getD t true=false->S w) ->
  ((∀w,S0 w)\/((∀w,S w->S0 w)/\z.getD t true=false/\Oq md ops t i)) ->
  wpAnyS P md ops Q S t fuel (z.setIfInBounds i true) (a.put oi.dst v) w->wpAnyS P md ops Q S t (fuel+1) z a w:=by
 intro fuel
 induction fuel with
 | zero=>
  intro z a w _ s Y f y H;have q:S0 w:=by
   rcases y with y|⟨x,g,_⟩
   ·exact y w
   ·exact x w (f g)
  refine⟨λh=>(by rw[h] at s;cases s),λj d=>?_⟩
  by_cases u:j=i
  ·subst u;exact Y.wpOp U q ⟨λh=>f (by rwa [getD_set_ne true T] at h),H⟩
  ·have:=ready_mono d u
   rw[H.1] at this
   cases this
 | succ fuel ih=>
  intro z a w R s Y f y H;have q:S0 w:=by
   rcases y with y|⟨x,g,_⟩
   ·exact y w
   ·exact x w (f g)
  refine⟨λh=>(by rw[h] at s;cases s),λj d=>?_⟩
  by_cases u:j=i
  ·subst u;exact Y.wpOp U q ⟨λh=>f (by rwa [getD_set_ne true T] at h),H⟩
  ·have x:=H.2 j (ready_mono d u)
   obtain⟨P,r,c,I⟩:=mem_ready.1 d;have O:∀e∈r.after,Region.binds md e=true->e.on≠i:=λe V X G=>by
    have x:=I e V X;have q:=(mem_ready.1 s).1;rw[G] at x
    rcases bg i z.size with d|d
    ·simp[d] at q x;rw[q] at x;cases x
    ·simp[dd d] at x
   have g:=wpOp_putIf c (R j r c u P O) (λp b=>N i oi p b U) (λp b=>N j r p b c) J Y x
   have F:∀k p,ops[k]?=some p->k≠i->(z.setIfInBounds j true).getD k true=false ->
    (∀e∈p.after,Region.binds md e=true->e.on≠i)->oi.apart ops p=true:=λk p y D M C=>by
    refine R k p y D ?_ C
    by_cases d:j=k
    ·subst d;exact P
    ·rw[getD_set_ne true d] at M;exact M
   have E:(∀w,S0 w)\/((∀w,S w->S0 w)/\(z.setIfInBounds j true).getD t true=false/\Oq md ops t i):=by
    rcases y with y|⟨B,A,b⟩
    ·exact .inl y
    ·refine .inr ⟨B,?_,b⟩
     have L:j≠t:=by
      rintro rfl;obtain⟨o,d,e,V,X,K⟩:=b;rw[c] at d;injection d with d;subst d;exact O e V X K
     rw[getD_set_ne true L];exact A
   refine wpOp_mono (λK L d=>?_) g
   have b:(z.setIfInBounds j true).getD t true=false->S L:=λh=>d.2.1 (by rw[dV _ _ (Ne.symm u),getD_set_ne true T];exact h)
   refine⟨b,ih (z.setIfInBounds j true) K L F (ready_mono s (Ne.symm u)) d.1 b E ?_⟩
   rw[dV _ _ u];exact d.2.2
def np(md:Region.Mode)(ops:Array Oper)(t:Nat):List (Nat × Nat)->Array Bool->Bool
 | [],listed=>(Region.ready md ops listed).isEmpty
 | (i,0)::r,listed=>decide (Region.ready md ops listed=[i]) && np md ops t r (listed.setIfInBounds i true)
 | (i,1)::r,listed=>(Region.ready md ops listed).contains i && Region.free md ops listed i && decide (i≠t) && (listed.getD t true == false) && Region.waitsFor md ops t i && np md ops t r (listed.setIfInBounds i true)
 | (i,_+2)::r,listed=>(Region.ready md ops listed).contains i && Region.free md ops listed i && decide (i≠t) && np md ops t r (listed.setIfInBounds i true)
def ix(P:Program)(ops:Array Oper)(Q:Exit->Act->World->Prop)(S:World->Prop)(t:Nat):Bool->List (Nat × Nat)->Act->World->Prop
 | _,[],a,w=>Q .normal a w
 | d,(i,0)::r,a,w=>wpOp P ops Q i (λa' w'=>((d || i == t)=false->S w')/\ix P ops Q S t (d || i == t) r a' w') a w
 | d,(i,1)::r,a,w=>∃o v,ops[i]?=some o/\YieldsIf P ops S o v a/\ix P ops Q S t d r (a.put o.dst v) w
 | d,(i,_+2)::r,a,w=>∃o v,ops[i]?=some o/\YieldsIf P ops (λ_=>True) o v a/\ix P ops Q S t d r (a.put o.dst v) w
def m_(u:Region.noSelect ops=true)(y:∀c a w,¬Q (.panic c) a w):∀(l:List (Nat × Nat)) (d:Bool) (listed:Array Bool) (a:Act) (w:World),np md ops t l listed=true->listed.getD t true=d->(d=false->S w) ->
 ix P ops Q S t d l a w->wpAnyS P md ops Q S t (ao l) listed a w
 | [],d,listed,a,w,hB,_,_,h=>⟨by simpa[np] using hB,h⟩
 | (i,1)::r,d,listed,a,w,hB,hd,hS,h=>by
  simp only[np,bQ,a_,beq_iff_eq] at hB;obtain⟨⟨⟨⟨⟨s,q⟩,z⟩,Y⟩,X⟩,p⟩:=hB;obtain⟨o,v,x,b,g⟩:=h;exact wpAnyS_first z x (dK u) (λc a w f=>absurd f (y c _ w)) _ listed a w (dW x q) (by simpa using s) b (λh=>hS (by rw[<-hd];exact h))
   (.inr ⟨λ_ h=>h,Y,Region.waitsFor_spec X⟩) (m_ u y r d _ _ w p (by rw[getD_set_ne true z];exact hd) hS g)
 | (i,_+2)::r,d,listed,a,w,hB,hd,hS,h=>by
  simp only[np,bQ,a_] at hB;obtain⟨⟨⟨s,q⟩,z⟩,p⟩:=hB;obtain⟨o,v,x,b,g⟩:=h;exact wpAnyS_first z x (dK u) (λc a w f=>absurd f (y c _ w)) _ listed a w (dW x q) (by simpa using s) b (λh=>hS (by rw[<-hd];exact h))
   (.inl λ_=>trivial) (m_ u y r d _ _ w p (by rw[getD_set_ne true z];exact hd) hS g)
 | (i,0)::r,d,listed,a,w,hB,hd,hS,h=>by
  simp only[np,bQ,a_] at hB;refine⟨λx=>(by rw[hB.1] at x;cases x),λj z=>?_⟩
  have q:=mem_ready.1 z;rw[hB.1] at z;have p:j=i:=by simpa using z
  subst p;have s:(listed.setIfInBounds j true).getD t true=(d || j == t):=by
   by_cases v:j=t
   ·subst v
    have g:j<listed.size:=by
     rcases bg j listed.size with z|z
     ·exact z
     ·have:=q.1;simp[dd z] at this
    simp[g]
   ·rw[getD_set_ne true v,hd];simp[v]
  exact wpOp_mono (λv g z=>⟨λx=>z.1 (by rw[<-s];exact x),m_ u y r _ _ v g hB.2 s z.1 z.2⟩) h
def ti(S:World->Prop)(t:Nat)(l:List (Nat × Nat))(r:P.follows .mixedOrders=true)
 (z:(Region.noSelect ops && decide (ao l=ops.size) && decide (t<ops.size) && np .any ops t l (Array.replicate ops.size false))=true)
 (s:S w.drew) (h:ix P ops (Calm Q) S t false l a w.drew):(Code.region id ops true).wp P Q a w:=by
 simp only[bQ,a_] at z;obtain⟨⟨⟨y,x⟩,v⟩,u⟩:=z;have H:=m_ (Q:=Calm Q) y (λ_ _ _ h=>h) l false _ a _ u (by simp[v]) (λ_=>s) h
 rw[x] at H;exact ft Calm.imp (wp_region_any r (qH _ _ _ _ H))
def yy(q:ops[i]?=some o)(p:Region.wanted o (yielded ops a.tmps)=true)
 (h:∀R:Act->Prop,(∀z,ix P ops Q S t d r z w->R z)->∃v,(∀z,S z->nE v z ((execOp a.eval o).run P z))/\R (a.put o.dst v)):ix P ops Q S t d ((i,1)::r) a w:=by
 obtain⟨v,u,s⟩:=h _ (λ_ h=>h)
 refine⟨o,v,q,.inl ⟨p,λz x=>?_⟩,s⟩
 have y:=u z x;generalize (execOp a.eval o).run P z=x at *
 cases x with
 | ok n w''=>obtain⟨rfl,rfl⟩:=y;rfl
 | halt x w''=>exact y.elim
def yz(q:ops[i]?=some o)(p:Region.wanted o (yielded ops a.tmps)=true)
 (h:∀R:Act->Prop,(∀z,ix P ops Q S t d r z w->R z)->∃v,(∀z,nE v z ((execOp a.eval o).run P z))/\R (a.put o.dst v)):ix P ops Q S t d ((i,2)::r) a w:=by
 obtain⟨v,u,s⟩:=h _ (λ_ h=>h)
 refine⟨o,v,q,.inl ⟨p,λz _=>?_⟩,s⟩
 have y:=u z;generalize (execOp a.eval o).run P z=x at *
 cases x with
 | ok n w''=>obtain⟨rfl,rfl⟩:=y;rfl
 | halt x w''=>exact y.elim
def CH(x:(i == t)=false)(v:ops[i]?=some o)(u:Region.wanted o (yielded ops a.tmps)=true)
 (h:∀K:Act->World->Prop,(∀y z,S z->ix P ops Q S t d r y z->K y z)->o.wp P a w K Q):ix P ops Q S t d ((i,0)::r) a w:=by
 unfold ix wpOp;simp only[v,u,if_true,x,Bool.or_false];exact .inl (h _ λ_ _ z y=>⟨λ_=>z,y⟩)
def z8(x:(d || i == t)=true)(v:ops[i]?=some o)(u:Region.wanted o (yielded ops a.tmps)=true)
 (h:∀K:Act->World->Prop,(∀z y,ix P ops Q S t true r z y->K z y)->o.wp P a w K Q):ix P ops Q S t d ((i,0)::r) a w:=by
 unfold ix wpOp;simp only[v,u,if_true,x];exact .inl (h _ λ_ _ z=>⟨λh=>(by cases h),z⟩)
def jk(h:Q .normal a w):ix P ops (Calm Q) S t d [] a w:=h
def yA:Nat->Nat->List (Nat × Nat)->List (Nat × Nat)
 | _,0,r=>r
 | i,n+1,r=>(i,1)::yA (i+1) n r
def QB:Nat->Nat->List (Nat × Nat)->List (Nat × Nat)
 | _,0,r=>r
 | i,n+1,r=>(i,2)::QB (i+1) n r
def CI(i:Nat)(r:List (Nat × Nat)):List (Nat × Nat):=(i,0)::r
def oQ(k:ix P ops Q S t d r a' w)(u:ops[i]?=some o:=by rfl)(s:Region.wanted o (yielded ops a.tmps)=true:=by rfl)
 (h:∀z,S z->nE v z ((execOp a.eval o).run P z):=by
  intro z y
  first
  | (have q:=Z.o z y;(repeat ((with_reducible have p:=And.left q);(with_reducible replace q:=And.right q)));exact Qv)
  | (exact Qv))
 (x:∀R:Act->Prop,R a'->R (a.put o.dst v):=by intro R y;go_simp;exact y):ix P ops Q S t d ((i,1)::r) a w:=
 yy u s λR y=>⟨v,h,x R (y _ k)⟩
def JG(k:ix P ops Q S t d r a' w)(u:ops[i]?=some o:=by rfl)(s:Region.wanted o (yielded ops a.tmps)=true:=by rfl)
 (h:∀y,nE v y ((execOp a.eval o).run P y):=by intro y;exact Qv)
 (x:∀R:Act->Prop,R a'->R (a.put o.dst v):=by intro R z;go_simp;exact z):ix P ops Q S t d ((i,2)::r) a w:=
 yz u s λR z=>⟨v,h,x R (z _ k)⟩
def GF(h:∀K:Act->World->Prop,(∀y z,S z->ix P ops Q S t d r y z->K y z)->o.wp P a w K Q)(x:(i == t)=false:=by rfl)(v:ops[i]?=some o:=by rfl)(u:Region.wanted o (yielded ops a.tmps)=true:=by rfl):ix P ops Q S t d ((i,0)::r) a w:=CH x v u h
def yB(h:∀K:Act->World->Prop,(∀z y,ix P ops Q S t true r z y->K z y)->o.wp P a w K Q)(x:(d || i == t)=true:=by rfl)(v:ops[i]?=some o:=by rfl)(u:Region.wanted o (yielded ops a.tmps)=true:=by rfl):ix P ops Q S t d ((i,0)::r) a w:=z8 x v u h
def yC(S:World->Prop)(t:Nat)(l:List (Nat × Nat))(y:S w.drew)(h:ix P ops (Calm Q) S t false l a w.drew)(x:P.follows .mixedOrders=true:=by kernel_rfl)
 (z:(Region.noSelect ops && decide (ao l=ops.size) && decide (t<ops.size) && np .any ops t l (Array.replicate ops.size false))=true:=by kernel_rfl):(Code.region id ops true).wp P Q a w:=ti S t l x z y h
end
end Go.Proofs.YtdicblkhpcphfaaGreat
