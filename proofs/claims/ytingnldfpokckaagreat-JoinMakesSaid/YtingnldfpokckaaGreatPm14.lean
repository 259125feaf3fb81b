/- Parts of a proof: what its theorem reaches, words cut short. No condition of its own. -/
import Derived.Test.YtingnldfpokckaaGreatPm01
set_option maxRecDepth 100000
set_option maxHeartbeats 16000000
set_option linter.unusedVariables false
set_option linter.unusedSimpArgs false
namespace Go.Proofs.YtingnldfpokckaaGreat.D
abbrev Pr:=Int × Int
def tot(l:List Pr):Int:=(l.map Prod.snd).sum
abbrev SrtP(l:List Pr):Prop:=l.Pairwise (fun a b=>a.1<b.1)
abbrev PosP(l:List Pr):Prop:=∀p∈l,0<p.2
def putP(k n:Int):List Pr->List Pr
 | []=>[(k,n)]
 | p::l=>if p.1<k then p::putP k n l else if p.1=k then(k,p.2+n)::l else(k,n)::p::l
def mrgP(a b:List Pr):List Pr:=b.foldl (fun l p=>putP p.1 p.2 l) a
def cnP(l:List Pr)(k:Int):Int:=(l.map fun p=>if p.1=k then p.2 else 0).sum
def loP(l:List Pr)(t:Int):Int:=(l.map fun p=>if p.1<t then p.2 else 0).sum
@[simp] theorem tot_nil:tot []=0:=rfl
@[simp] theorem tot_cons (p:Pr) (l:List Pr):tot (p::l)=p.2+tot l:=by simp[tot]
theorem tot_append(a b:List Pr):tot (a++b)=tot a+tot b:=by simp[tot]
@[simp] theorem cn_nil (k:Int):cnP [] k=0:=rfl
@[simp] theorem cn_cons (p:Pr) (l:List Pr) (k:Int):cnP (p::l) k=(if p.1=k then p.2 else 0)+cnP l k:=by simp[cnP]
theorem cn_append(a b:List Pr)(k:Int):cnP (a++b) k=cnP a k+cnP b k:=by simp[cnP]
@[simp] theorem lo_nil (k:Int):loP [] k=0:=rfl
@[simp] theorem lo_cons (p:Pr) (l:List Pr) (k:Int):loP (p::l) k=(if p.1<k then p.2 else 0)+loP l k:=by simp[loP]
theorem lo_append(a b:List Pr)(k:Int):loP (a++b) k=loP a k+loP b k:=by simp[loP]
theorem tot_put(k n:Int):∀l,tot (putP k n l)=tot l+n
 | []=>by simp[putP]
 | p::l=>by
  unfold putP
  split
  ·simp only[tot_cons,tot_put k n l];omega
  ·split<;>simp only[tot_cons]<;>omega
theorem cn_put(k n j:Int):∀l,cnP (putP k n l) j=cnP l j+if k=j then n else 0
 | []=>by simp[putP]
 | p::l=>by
  unfold putP
  split
  ·simp only[cn_cons,cn_put k n j l];omega
  ·split
   ·rename_i h
    simp only[cn_cons,h];split<;>omega
   ·simp only[cn_cons];omega
theorem lo_put(k n t:Int):∀l,loP (putP k n l) t=loP l t+if k<t then n else 0
 | []=>by simp[putP]
 | p::l=>by
  unfold putP
  split
  ·simp only[lo_cons,lo_put k n t l];omega
  ·split
   ·rename_i h
    simp only[lo_cons,h];split<;>omega
   ·simp only[lo_cons];omega
theorem put_mem{k n:Int}{l:List Pr}{p:Pr}(h:p∈putP k n l):p.1=k\/p∈l:=by
 induction l with
 | nil=>left;simp[putP] at h;rw[h]
 | cons q l ih=>
  unfold putP at h
  split at h
  ·rcases List.mem_cons.1 h with rfl|h
   ·exact .inr (List.mem_cons_self ..)
   ·exact(ih h).imp id (List.mem_cons_of_mem _)
  ·split at h
   ·rcases List.mem_cons.1 h with rfl|h
    ·exact .inl rfl
    ·exact .inr (List.mem_cons_of_mem _ h)
   ·rcases List.mem_cons.1 h with rfl|h
    ·exact .inl rfl
    ·exact .inr h
theorem put_srt{k n:Int}:∀{l:List Pr},SrtP l->SrtP (putP k n l)
 | [],_=>by simp[putP]
 | p::l,h=>by
  have h1:=List.pairwise_cons.1 h
  unfold putP
  split
  ·rename_i hp
   refine List.pairwise_cons.2 ⟨fun q hq=>?_,put_srt h1.2⟩
   rcases put_mem hq with e|hq
   ·rw[e];exact hp
   ·exact h1.1 q hq
  ·split
   ·rename_i hp
    refine List.pairwise_cons.2 ⟨fun q hq=>?_,h1.2⟩
    have:=h1.1 q hq
    show k<q.1
    omega
   ·refine List.pairwise_cons.2 ⟨fun q hq=>?_,h⟩
    show k<q.1
    rcases List.mem_cons.1 hq with rfl|hq
    ·omega
    ·have:=h1.1 q hq;omega
theorem put_pos{k n:Int}(hn:0<n):∀{l:List Pr},PosP l->PosP (putP k n l)
 | [],_=>by intro p hp;simp[putP] at hp;rw[hp];exact hn
 | q::l,h=>by
  intro p hp
  have hq:=h q (List.mem_cons_self ..)
  have hl:PosP l:=fun x hx=>h x (List.mem_cons_of_mem _ hx)
  unfold putP at hp
  split at hp
  ·rcases List.mem_cons.1 hp with rfl|hp
   ·exact hq
   ·exact put_pos hn hl p hp
  ·split at hp
   ·rcases List.mem_cons.1 hp with rfl|hp
    ·show 0<q.2+n;omega
    ·exact hl p hp
   ·rcases List.mem_cons.1 hp with rfl|hp
    ·exact hn
    ·exact h p hp
theorem put_length(k n:Int):∀l:List Pr,l.length<=(putP k n l).length/\(putP k n l).length<=l.length+1
 | []=>by simp[putP]
 | q::l=>by
  have:=put_length k n l
  unfold putP
  split
  ·simp only[List.length_cons];omega
  ·split<;>simp only[List.length_cons]<;>omega
theorem mrg_nil(a:List Pr):mrgP a []=a:=rfl
theorem mrg_cons(a:List Pr)(p:Pr)(b:List Pr):mrgP a (p::b)=mrgP (putP p.1 p.2 a) b:=rfl
theorem mrg_snoc(a b:List Pr)(p:Pr):mrgP a (b++[p])=putP p.1 p.2 (mrgP a b):=by simp[mrgP,List.foldl_append]
theorem tot_mrg:∀(b a:List Pr),tot (mrgP a b)=tot a+tot b
 | [],a=>by simp[mrg_nil]
 | p::b,a=>by rw[mrg_cons,tot_mrg b,tot_put,tot_cons];omega
theorem cn_mrg(j:Int):∀(b a:List Pr),cnP (mrgP a b) j=cnP a j+cnP b j
 | [],a=>by simp[mrg_nil]
 | p::b,a=>by rw[mrg_cons,cn_mrg j b,cn_put,cn_cons];omega
theorem lo_mrg(j:Int):∀(b a:List Pr),loP (mrgP a b) j=loP a j+loP b j
 | [],a=>by simp[mrg_nil]
 | p::b,a=>by rw[mrg_cons,lo_mrg j b,lo_put,lo_cons];omega
theorem mrg_srt:∀{b a:List Pr},SrtP a->SrtP (mrgP a b)
 | [],_,h=>h
 | _::b,_,h=>mrg_srt (b:=b) (put_srt h)
theorem mrg_pos:∀{b a:List Pr},PosP a->PosP b->PosP (mrgP a b)
 | [],_,h,_=>h
 | p::b,_,h,hb=>mrg_pos (b:=b) (put_pos (hb p (List.mem_cons_self ..)) h) fun x hx=>hb x (List.mem_cons_of_mem _ hx)
theorem cn_zero{k:Int}:∀{l:List Pr},(∀p∈l,p.1≠k)->cnP l k=0
 | [],_=>rfl
 | p::l,h=>by
  rw[cn_cons,if_neg (h p (List.mem_cons_self ..)),cn_zero fun q hq=>h q (List.mem_cons_of_mem _ hq)];rfl
theorem cn_nonneg{k:Int}:∀{l:List Pr},PosP l->0<=cnP l k
 | [],_=>by simp
 | p::l,h=>by
  have:=h p (List.mem_cons_self ..)
  have:=cn_nonneg (k:=k) (l:=l) fun q hq=>h q (List.mem_cons_of_mem _ hq)
  rw[cn_cons];split<;>omega
theorem cn_pos{l:List Pr}(hp:PosP l){p:Pr}(h:p∈l):0<cnP l p.1:=by
 induction l with
 | nil=>cases h
 | cons q l ih=>
  have hq:=hp q (List.mem_cons_self ..)
  have hl:PosP l:=fun x hx=>hp x (List.mem_cons_of_mem _ hx)
  rw[cn_cons]
  rcases List.mem_cons.1 h with rfl|h
  ·have:=cn_nonneg (k:=p.1) hl
   simp only[if_true];omega
  ·have:=ih hl h
   split<;>omega
theorem cn_key{l:List Pr}(hp:PosP l)(k:Int):(∃p∈l,p.1=k)<->cnP l k≠0:=by
 constructor
 ·rintro ⟨p,h,rfl⟩
  have:=cn_pos hp h
  omega
 ·intro h
  by_cases he:∃p∈l,p.1=k
  ·exact he
  ·exact absurd (cn_zero fun p hp e=>he ⟨p,hp,e⟩) h
theorem cn_head{p:Pr}{l:List Pr}(h:SrtP (p::l)):cnP (p::l) p.1=p.2:=by
 rw[cn_cons,cn_zero fun q hq e=>by have:=(List.pairwise_cons.1 h).1 q hq;omega];simp
theorem ext_P:∀{a b:List Pr},SrtP a->SrtP b->PosP a->PosP b->(∀k,cnP a k=cnP b k)->a=b
 | [],[],_,_,_,_,_=>rfl
 | [],q::b,_,_,_,hb,h=>by
  have:=cn_pos hb (List.mem_cons_self ..)
  rw[<-h] at this
  simp at this
 | p::a,[],_,_,ha,_,h=>by
  have:=cn_pos ha (List.mem_cons_self ..)
  rw[h] at this
  simp at this
 | p::a,q::b,sa,sb,ha,hb,h=>by
  have s1:=List.pairwise_cons.1 sa
  have s2:=List.pairwise_cons.1 sb
  have e:p.1=q.1:=by
   have h1:=cn_pos ha (List.mem_cons_self ..)
   have h2:=cn_pos hb (List.mem_cons_self ..)
   rw[h] at h1
   rw[<-h] at h2
   obtain⟨x,hx,ex⟩:=(cn_key hb p.1).2 (by omega)
   obtain⟨y,hy,ey⟩:=(cn_key ha q.1).2 (by omega)
   have l1:q.1<=p.1:=by
    rcases List.mem_cons.1 hx with rfl|hx
    ·omega
    ·have:=s2.1 x hx;omega
   have l2:p.1<=q.1:=by
    rcases List.mem_cons.1 hy with rfl|hy
    ·omega
    ·have:=s1.1 y hy;omega
   omega
  have e2:p.2=q.2:=by
   have:=h p.1
   rw[cn_head sa,e,cn_head sb] at this
   exact this
  have:p=q:=Prod.ext e e2
  subst this
  rw[ext_P s1.2 s2.2 (fun x hx=>ha x (List.mem_cons_of_mem _ hx)) (fun x hx=>hb x (List.mem_cons_of_mem _ hx)) (fun k=>by
   have:=h k
   rw[cn_cons,cn_cons] at this
   omega)]
def bump(n:Int):List Pr->List Pr
 | []=>[]
 | p::l=>(p.1,p.2+n)::l
theorem bump_zero(l:List Pr):bump 0 l=l:=by cases l<;>simp[bump]
theorem bump_length(n:Int)(l:List Pr):(bump n l).length=l.length:=by cases l<;>simp[bump]
def cutP(m:Nat)(l:List Pr):List Pr × Int:=(bump (tot (l.take (l.length - m))) (l.drop (l.length - m)),tot (l.take (l.length - m)))
theorem cut_few{m:Nat}{l:List Pr}(h:l.length<=m):cutP m l=(l,0):=by
 unfold cutP
 rw[show l.length - m=0 by omega]
 simp[bump_zero]
theorem cut_app(A B:List Pr):cutP B.length (A++B)=(bump (tot A) B,tot A):=by
 unfold cutP
 rw[show(A++B).length - B.length=A.length by rw[List.length_append];omega]
 rw[List.take_left' rfl,List.drop_left' rfl]
theorem cut_split(m:Nat)(hm:0<m)(l:List Pr)(h:m<l.length):∃A q B,l=A++q::B/\(q::B).length=m/\0<A.length:=by
 have h1:=List.take_append_drop (l.length - m) l
 cases hd:l.drop (l.length - m) with
 | nil=>
  have:=congrArg List.length hd
  rw[List.length_drop] at this
  simp at this
  omega
 | cons q B=>
  refine⟨l.take (l.length - m),q,B,by rw[<-hd,h1],?_,?_⟩
  ·rw[<-hd,List.length_drop];omega
  ·rw[List.length_take];omega
theorem srt_app{A B:List Pr}(h:SrtP (A++B)):SrtP A/\SrtP B/\∀a∈A,∀b∈B,a.1<b.1:=by
 rw[SrtP,List.pairwise_append] at h
 exact h
theorem lo_all{t:Int}:∀{l:List Pr},(∀p∈l,p.1<t)->loP l t=tot l
 | [],_=>rfl
 | p::l,h=>by
  rw[lo_cons,if_pos (h p (List.mem_cons_self ..)),lo_all fun q hq=>h q (List.mem_cons_of_mem _ hq),tot_cons]
theorem lo_none{t:Int}:∀{l:List Pr},(∀p∈l,t<=p.1)->loP l t=0
 | [],_=>rfl
 | p::l,h=>by
  have:=h p (List.mem_cons_self ..)
  rw[lo_cons,if_neg (by omega),lo_none fun q hq=>h q (List.mem_cons_of_mem _ hq)];rfl
theorem tot_nonneg:∀{l:List Pr},PosP l->0<=tot l
 | [],_=>by simp
 | p::l,h=>by
  have:=h p (List.mem_cons_self ..)
  have:=tot_nonneg (l:=l) fun q hq=>h q (List.mem_cons_of_mem _ hq)
  rw[tot_cons];omega
theorem tot_pos{l:List Pr}(h:PosP l)(h0:0<l.length):0<tot l:=by
 cases l with
 | nil=>simp at h0
 | cons p l=>
  have:=h p (List.mem_cons_self ..)
  have:=tot_nonneg (l:=l) fun q hq=>h q (List.mem_cons_of_mem _ hq)
  rw[tot_cons];omega
theorem pos_app{A B:List Pr}(h:PosP (A++B)):PosP A/\PosP B:=⟨fun p hp=>h p (List.mem_append_left _ hp),fun p hp=>h p (List.mem_append_right _ hp)⟩
theorem len_sub:∀{b a:List Pr},SrtP a->SrtP b->(∀p∈a,∃q∈b,q.1=p.1)->a.length<=b.length
 | _,[],_,_,_=>by simp
 | [],p::a,_,_,h=>by
  obtain⟨q,hq,_⟩:=h p (List.mem_cons_self ..)
  cases hq
 | q::b,p::a,sa,sb,h=>by
  have s1:=List.pairwise_cons.1 sa
  have s2:=List.pairwise_cons.1 sb
  by_cases e:p.1=q.1
  ·have:=len_sub (b:=b) (a:=a) s1.2 s2.2 fun x hx=>by
    obtain⟨y,hy,ey⟩:=h x (List.mem_cons_of_mem _ hx)
    rcases List.mem_cons.1 hy with rfl|hy
    ·have:=s1.1 x hx;omega
    ·exact⟨y,hy,ey⟩
   simp only[List.length_cons];omega
  ·have:=len_sub (b:=b) (a:=p::a) sa s2.2 fun x hx=>by
    obtain⟨y,hy,ey⟩:=h x hx
    rcases List.mem_cons.1 hy with rfl|hy
    ·obtain⟨z,hz,ez⟩:=h p (List.mem_cons_self ..)
     rcases List.mem_cons.1 hz with rfl|hz
     ·exact absurd ez.symm e
     ·have:=s2.1 z hz
      rcases List.mem_cons.1 hx with rfl|hx
      ·omega
      ·have:=s1.1 x hx;omega
    ·exact⟨y,hy,ey⟩
   simp only[List.length_cons] at this |-;omega
theorem mrg_key{A B:List Pr}(hA:PosP A)(hB:PosP B)(k:Int):(∃p∈mrgP A B,p.1=k)<->(∃p∈A,p.1=k)\/(∃p∈B,p.1=k):=by
 rw[cn_key (mrg_pos hA hB),cn_key hA,cn_key hB,cn_mrg]
 have:=cn_nonneg (k:=k) hA
 have:=cn_nonneg (k:=k) hB
 omega
theorem split_at(t:Int):∀{l:List Pr},SrtP l->∃A H,l=A++H/\(∀p∈A,p.1<t)/\∀p∈H,t<=p.1
 | [],_=>⟨[],[],rfl,by simp,by simp⟩
 | p::l,h=>by
  have h1:=List.pairwise_cons.1 h
  by_cases hp:p.1<t
  ·obtain⟨A,H,e,a1,a2⟩:=split_at t h1.2
   refine⟨p::A,H,by rw[e];rfl,fun q hq=>?_,a2⟩
   rcases List.mem_cons.1 hq with rfl|hq
   ·exact hp
   ·exact a1 q hq
  ·refine⟨[],p::l,rfl,by simp,fun q hq=>?_⟩
   rcases List.mem_cons.1 hq with rfl|hq
   ·omega
   ·have:=h1.1 q hq;omega
def key0:List Pr->Int
 | []=>0
 | p::_=>p.1
theorem key0_bump(n:Int)(l:List Pr):key0 (bump n l)=key0 l:=by cases l<;>rfl
def foldF(f:Int)(L L':List Pr):Int:=if 0<f/\key0 L=key0 L' then f else 0
def stepK(m:Nat)(a b:List Pr × Int)(M:List Pr):List Pr × Int:=
 ((cutP m M).1,(cutP m M).2+foldF a.2 a.1 (cutP m M).1+foldF b.2 b.1 (cutP m M).1)
theorem cut_zero{m:Nat}{l:List Pr}(hm:0<m)(hp:PosP l)(h:¬0<(cutP m l).2):cutP m l=(l,0)/\l.length<=m:=by
 by_cases hl:l.length<=m
 ·exact⟨cut_few hl,hl⟩
 ·obtain⟨A,q,B,rfl,e,hA⟩:=cut_split m hm l (by omega)
  rw[<-e,cut_app] at h
  exact absurd (tot_pos (pos_app hp).1 hA) h
theorem kept_at{m:Nat}(hm:0<m){A S:List Pr}(sA:SrtP A)(pA:PosP A){A0 B0:List Pr}{q:Pr}(eS:S=A0++q::B0)(sS:SrtP S)(hB:(q::B0).length=m)
 (hk:∀p∈A,∃x∈S,x.1=p.1):∃F,F=(if 0<(cutP m A).2/\key0 (cutP m A).1=q.1 then(cutP m A).2 else 0)/\loP (cutP m A).1 q.1+F=loP A q.1 /\
  (∀k,q.1<=k->cnP (cutP m A).1 k=cnP A k+if k=q.1 then F else 0)/\PosP (cutP m A).1/\SrtP (cutP m A).1:=by
 by_cases h0:0<(cutP m A).2
 ·by_cases hl:A.length<=m
  ·rw[cut_few hl] at h0
   exact absurd h0 (by simp)
  ·obtain⟨A1,qa,B1,rfl,e,hA⟩:=cut_split m hm A (by omega)
   have hc:cutP m (A1++qa::B1)=(bump (tot A1) (qa::B1),tot A1):=by rw[<-e,cut_app]
   rw[hc] at h0 |-
   obtain⟨s1,s2,s3⟩:=srt_app sA
   obtain⟨p1,p2⟩:=pos_app pA
   have s4:=List.pairwise_cons.1 s2
   subst eS
   obtain⟨t1,t2,t3⟩:=srt_app sS
   have t4:=List.pairwise_cons.1 t2
   have ht:qa.1<=q.1:=by
    by_cases hc:qa.1<=q.1
    ·exact hc
    ·have:=len_sub (a:=(q.1,1)::qa::B1) (b:=q::B0) (List.pairwise_cons.2 ⟨fun x hx=>by
      show q.1<x.1
      rcases List.mem_cons.1 hx with rfl|hx
      ·omega
      ·have:=s4.1 x hx;omega,s2⟩) t2 fun x hx=>by
       rcases List.mem_cons.1 hx with rfl|hx
       ·exact⟨q,List.mem_cons_self ..,rfl⟩
       ·obtain⟨y,hy,ey⟩:=hk x (List.mem_append_right _ hx)
        have hxq:q.1<x.1:=by
         rcases List.mem_cons.1 hx with rfl|hx
         ·omega
         ·have:=s4.1 x hx;omega
        rcases List.mem_append.1 hy with hy|hy
        ·have:=t3 y hy q (List.mem_cons_self ..);omega
        ·exact⟨y,hy,ey⟩
     rw[List.length_cons,e,hB] at this
     omega
   have hb:loP B1 qa.1=0:=lo_none fun p hp=>by have:=s4.1 p hp;omega
   have hA1:∀t,qa.1<=t->loP A1 t=tot A1:=fun t h=>lo_all fun p hp=>by have:=s3 p hp qa (List.mem_cons_self ..);omega
   have hA2:∀k,qa.1<=k->cnP A1 k=0:=fun k h=>cn_zero fun p hp e=>by have:=s3 p hp qa (List.mem_cons_self ..);omega
   refine⟨_,rfl,?_,fun k hk=>?_,?_,?_⟩
   ·show loP ((qa.1,qa.2+tot A1)::B1) q.1+(if 0<tot A1/\qa.1=q.1 then tot A1 else 0)=loP (A1++qa::B1) q.1
    rw[lo_cons,lo_append,lo_cons,hA1 _ ht]
    have h0':0<tot A1:=h0
    show(if qa.1<q.1 then qa.2+tot A1 else 0)+loP B1 q.1+_=_
    have hb':qa.1=q.1->loP B1 q.1=0:=fun e=>by rw[<-e];exact hb
    by_cases hq:qa.1=q.1
    ·have:=hb' hq
     simp only[h0',hq,and_self,if_true,Int.lt_irrefl,if_false];omega
    ·have:qa.1<q.1:=by omega
     simp only[hq,and_false,if_false,this,if_true];omega
   ·show cnP ((qa.1,qa.2+tot A1)::B1) k=cnP (A1++qa::B1) k+(if k=q.1 then(if 0<tot A1/\qa.1=q.1 then tot A1 else 0) else 0)
    rw[cn_cons,cn_append,cn_cons,hA2 k (by omega)]
    have h0':0<tot A1:=h0
    show(if qa.1=k then qa.2+tot A1 else 0)+cnP B1 k=_
    by_cases hq:qa.1=q.1
    ·simp only[h0',hq,and_self,if_true]
     by_cases hk2:k=q.1
     ·simp only[hk2,if_true];omega
     ·simp only[hk2,if_false];omega
    ·have:¬qa.1=k:=by omega
     simp only[hq,and_false,if_false,this,ite_self];omega
   ·intro p hp
    rcases List.mem_cons.1 hp with rfl|hp
    ·have:=p2 qa (List.mem_cons_self ..)
     show 0<qa.2+tot A1
     have h0':0<tot A1:=h0
     omega
    ·exact p2 p (List.mem_cons_of_mem _ hp)
   ·exact List.pairwise_cons.2 ⟨fun x hx=>s4.1 x hx,s4.2⟩
 ·obtain⟨e,_⟩:=cut_zero hm pA h0
  rw[e]
  exact⟨0,by simp,by simp,by simp,pA,sA⟩
theorem mrg_step{m:Nat}(hm:0<m){A B:List Pr}(sA:SrtP A)(pA:PosP A)(sB:SrtP B)(pB:PosP B) :
 stepK m (cutP m A) (cutP m B) (mrgP (cutP m A).1 (cutP m B).1)=cutP m (mrgP A B):=by
 have sS:SrtP (mrgP A B):=mrg_srt sA
 have pS:=mrg_pos pA pB
 have kA:∀p∈A,∃x∈mrgP A B,x.1=p.1:=fun p hp=>(mrg_key pA pB p.1).2 (.inl ⟨p,hp,rfl⟩)
 have kB:∀p∈B,∃x∈mrgP A B,x.1=p.1:=fun p hp=>(mrg_key pA pB p.1).2 (.inr ⟨p,hp,rfl⟩)
 by_cases hl:(mrgP A B).length<=m
 ·have:=len_sub sA sS kA
  have:=len_sub sB sS kB
  rw[cut_few (l:=A) (by omega),cut_few (l:=B) (by omega)]
  unfold stepK
  rw[cut_few hl]
  simp[foldF]
 ·obtain⟨A0,q,B0,e,hB,_⟩:=cut_split m hm _ (show m<(mrgP A B).length by omega)
  obtain⟨FA,hFA,la,ca,pA',sA'⟩:=kept_at hm sA pA e sS hB kA
  obtain⟨FB,hFB,lb,cb,pB',_⟩:=kept_at hm sB pB e sS hB kB
  obtain⟨LA,hLA⟩:∃x,x=(cutP m A).1:=⟨_,rfl⟩
  obtain⟨LB,hLB⟩:∃x,x=(cutP m B).1:=⟨_,rfl⟩
  rw[<-hLA] at la ca pA' sA' hFA
  rw[<-hLB] at lb cb pB' hFB
  have sM:SrtP (mrgP LA LB):=mrg_srt sA'
  have pM:=mrg_pos pA' pB'
  obtain⟨M1,H,eM,m1,m2⟩:=split_at q.1 sM
  have e':=e
  rw[e] at sS pS
  obtain⟨t1,t2,t3⟩:=srt_app sS
  have t4:=List.pairwise_cons.1 t2
  obtain⟨x1,x2⟩:=pos_app pS
  have sM':=sM
  rw[eM] at sM' pM
  obtain⟨u1,u2,u3⟩:=srt_app sM'
  obtain⟨v1,v2⟩:=pos_app pM
  have hcH:∀k,q.1<=k->cnP H k=cnP (q::B0) k+if k=q.1 then FA+FB else 0:=fun k hk=>by
   have h1:=congrArg (cnP · k) eM
   have h2:=congrArg (cnP · k) e
   simp only[cn_append,cn_mrg] at h1 h2
   rw[cn_zero (l:=M1) fun p hp e=>by have:=m1 p hp;omega,ca k hk,cb k hk] at h1
   rw[cn_zero (l:=A0) fun p hp e=>by have:=t3 p hp q (List.mem_cons_self ..);omega] at h2
   split at h1<;>rename_i hkq
   ·rw[if_pos hkq];omega
   ·rw[if_neg hkq];omega
  have hF0:0<=FA:=by rw[hFA];split<;>omega
  have hF1:0<=FB:=by rw[hFB];split<;>omega
  have hlo:loP (mrgP LA LB) q.1+FA+FB=loP (mrgP A B) q.1:=by rw[lo_mrg,lo_mrg];omega
  have hA0:loP (mrgP A B) q.1=tot A0:=by
   rw[e,lo_append,lo_all fun p hp=>t3 p hp q (List.mem_cons_self ..),lo_none fun p hp=>by
    rcases List.mem_cons.1 hp with rfl|hp
    ·omega
    ·have:=t4.1 p hp;omega]
   omega
  have hM1:loP (mrgP LA LB) q.1=tot M1:=by
   rw[eM,lo_append,lo_all m1,lo_none m2];omega
  have hkey:∀k,(∃p∈H,p.1=k)<->∃p∈q::B0,p.1=k:=fun k=>by
   by_cases hk:q.1<=k
   ·rw[cn_key v2,cn_key x2,hcH k hk]
    have:=cn_nonneg (k:=k) x2
    by_cases hkq:k=q.1
    ·have h3:=cn_pos x2 (List.mem_cons_self ..)
     rw[if_pos hkq,hkq]
     constructor<;>intro<;>omega
    ·rw[if_neg hkq,Int.add_zero]
   ·constructor
    ·rintro ⟨p,hp,rfl⟩;exact absurd (m2 p hp) hk
    ·rintro ⟨p,hp,rfl⟩
     rcases List.mem_cons.1 hp with rfl|hp
     ·omega
     ·have:=t4.1 p hp;omega
  have hH:H.length=m:=by
   have h1:=len_sub u2 t2 fun p hp=>(hkey p.1).1 ⟨p,hp,rfl⟩
   have h2:=len_sub t2 u2 fun p hp=>(hkey p.1).2 ⟨p,hp,rfl⟩
   omega
  have hcM:cutP m (mrgP LA LB)=(bump (tot M1) H,tot M1):=by rw[eM,<-hH,cut_app]
  have hcS:cutP m (mrgP A B)=(bump (tot A0) (q::B0),tot A0):=by rw[e,<-hB,cut_app]
  obtain⟨h,H',rfl⟩:∃h H',H=h::H':=by
   cases H with
   | nil=>simp at hH;omega
   | cons h H'=>exact⟨h,H',rfl⟩
  have hh:h.1=q.1:=by
   have h1:=m2 h (List.mem_cons_self ..)
   obtain⟨y,hy,ey⟩:=(hkey q.1).2 ⟨q,List.mem_cons_self ..,rfl⟩
   rcases List.mem_cons.1 hy with rfl|hy
   ·exact ey
   ·have:=(List.pairwise_cons.1 u2).1 y hy;omega
  have u4:=List.pairwise_cons.1 u2
  unfold stepK
  rw[<-hLA,<-hLB,hcM,hcS]
  have f1:foldF (cutP m A).2 LA (bump (tot M1) (h::H'))=FA:=by rw[hFA,foldF,key0_bump,<-hh];rfl
  have f2:foldF (cutP m B).2 LB (bump (tot M1) (h::H'))=FB:=by rw[hFB,foldF,key0_bump,<-hh];rfl
  refine Prod.ext ?_ ?_
  ·show bump (tot M1) (h::H')=bump (tot A0) (q::B0)
   have n1:=tot_nonneg v1
   have n2:=tot_nonneg x1
   refine ext_P (List.pairwise_cons.2 ⟨fun x hx=>u4.1 x hx,u4.2⟩) (List.pairwise_cons.2 ⟨fun x hx=>t4.1 x hx,t4.2⟩) (fun p hp=>?_) (fun p hp=>?_) fun k=>?_
   ·rcases List.mem_cons.1 hp with rfl|hp
    ·have:=v2 h (List.mem_cons_self ..)
     show 0<h.2+tot M1;omega
    ·exact v2 p (List.mem_cons_of_mem _ hp)
   ·rcases List.mem_cons.1 hp with rfl|hp
    ·have:=x2 q (List.mem_cons_self ..)
     show 0<q.2+tot A0;omega
    ·exact x2 p (List.mem_cons_of_mem _ hp)
   ·show cnP ((h.1,h.2+tot M1)::H') k=cnP ((q.1,q.2+tot A0)::B0) k
    by_cases hk:q.1<=k
    ·have:=hcH k hk
     rw[cn_cons,cn_cons] at this |-
     rw[hh] at this |-
     by_cases hkq:k=q.1
     ·rw[if_pos hkq,if_pos hkq.symm,if_pos hkq.symm] at this
      rw[if_pos (show q.1=k from hkq.symm),if_pos (show q.1=k from hkq.symm)]
      show h.2+tot M1+_=q.2+tot A0+_
      omega
     ·rw[if_neg hkq,if_neg (fun e=>hkq e.symm),if_neg (fun e=>hkq e.symm)] at this
      rw[if_neg (show ¬q.1=k from fun e=>hkq e.symm),if_neg (show ¬q.1=k from fun e=>hkq e.symm)]
      omega
    ·rw[cn_zero fun p hp e=>?_,cn_zero fun p hp e=>?_]
     ·rcases List.mem_cons.1 hp with rfl|hp
      ·have e1:q.1=k:=e
       omega
      ·have:=t4.1 p hp;omega
     ·rcases List.mem_cons.1 hp with rfl|hp
      ·have e1:h.1=k:=e
       omega
      ·have:=u4.1 p hp;omega
  ·show tot M1+foldF (cutP m A).2 LA (bump (tot M1) (h::H'))+foldF (cutP m B).2 LB (bump (tot M1) (h::H'))=tot A0
   rw[f1,f2];omega
def zipP:List Pr->List Pr->List Pr
 | [],b=>b
 | a,[]=>a
 | p::a,q::b=>if p.1<q.1 then p::zipP a (q::b) else if q.1<p.1 then q::zipP (p::a) b else(p.1,p.2+q.2)::zipP a b
termination_by a b=>a.length+b.length
theorem zip_nil_left(b:List Pr):zipP [] b=b:=by unfold zipP;rfl
theorem zip_nil_right(a:List Pr):zipP a []=a:=by cases a<;>unfold zipP<;>rfl
theorem zip_lt{p q:Pr}(a b:List Pr)(h:p.1<q.1):zipP (p::a) (q::b)=p::zipP a (q::b):=by rw[zipP,if_pos h]
theorem zip_gt{p q:Pr}(a b:List Pr)(h:q.1<p.1):zipP (p::a) (q::b)=q::zipP (p::a) b:=by rw[zipP,if_neg (by omega),if_pos h]
theorem zip_eq{p q:Pr}(a b:List Pr)(h:p.1=q.1):zipP (p::a) (q::b)=(p.1,p.2+q.2)::zipP a b:=by rw[zipP,if_neg (by omega),if_neg (by omega)]
theorem zip_all:∀(n:Nat) (a b:List Pr),a.length+b.length<=n->SrtP a->SrtP b->PosP a->PosP b ->
 SrtP (zipP a b)/\PosP (zipP a b)/\(∀t,(∀p∈a,t<p.1)->(∀p∈b,t<p.1)->∀p∈zipP a b,t<p.1)/\∀k,cnP (zipP a b) k=cnP a k+cnP b k
 | _,[],b,_,_,sb,_,pb=>by rw[zip_nil_left];exact⟨sb,pb,fun t _ h=>h,by simp⟩
 | _,p::a,[],_,sa,_,pa,_=>by rw[zip_nil_right];exact⟨sa,pa,fun t h _=>h,by simp⟩
 | 0,p::a,q::b,h,_,_,_,_=>by simp at h
 | n+1,p::a,q::b,h,sa,sb,pa,pb=>by
  have s1:=List.pairwise_cons.1 sa
  have s2:=List.pairwise_cons.1 sb
  have pa':PosP a:=fun x hx=>pa x (List.mem_cons_of_mem _ hx)
  have pb':PosP b:=fun x hx=>pb x (List.mem_cons_of_mem _ hx)
  have hp:=pa p (List.mem_cons_self ..)
  have hq:=pb q (List.mem_cons_self ..)
  simp only[List.length_cons] at h
  by_cases c:p.1<q.1
  ·rw[zip_lt a b c]
   obtain⟨i1,i2,i3,i4⟩:=zip_all n a (q::b) (by simp only[List.length_cons];omega) s1.2 sb pa' pb
   refine⟨List.pairwise_cons.2 ⟨i3 p.1 s1.1 fun x hx=>?_,i1⟩,fun x hx=>?_,fun t ha hb x hx=>?_,fun k=>?_⟩
   ·rcases List.mem_cons.1 hx with rfl|hx
    ·exact c
    ·have:=s2.1 x hx;omega
   ·rcases List.mem_cons.1 hx with rfl|hx
    ·exact hp
    ·exact i2 x hx
   ·rcases List.mem_cons.1 hx with rfl|hx
    ·exact ha x (List.mem_cons_self ..)
    ·exact i3 t (fun y hy=>ha y (List.mem_cons_of_mem _ hy)) hb x hx
   ·rw[cn_cons,i4,cn_cons p];omega
  ·by_cases c2:q.1<p.1
   ·rw[zip_gt a b c2]
    obtain⟨i1,i2,i3,i4⟩:=zip_all n (p::a) b (by simp only[List.length_cons];omega) sa s2.2 pa pb'
    refine⟨List.pairwise_cons.2 ⟨i3 q.1 (fun x hx=>?_) s2.1,i1⟩,fun x hx=>?_,fun t ha hb x hx=>?_,fun k=>?_⟩
    ·rcases List.mem_cons.1 hx with rfl|hx
     ·exact c2
     ·have:=s1.1 x hx;omega
    ·rcases List.mem_cons.1 hx with rfl|hx
     ·exact hq
     ·exact i2 x hx
    ·rcases List.mem_cons.1 hx with rfl|hx
     ·exact hb x (List.mem_cons_self ..)
     ·exact i3 t ha (fun y hy=>hb y (List.mem_cons_of_mem _ hy)) x hx
    ·rw[cn_cons,i4,cn_cons q];omega
   ·have e:p.1=q.1:=by omega
    rw[zip_eq a b e]
    obtain⟨i1,i2,i3,i4⟩:=zip_all n a b (by omega) s1.2 s2.2 pa' pb'
    refine⟨List.pairwise_cons.2 ⟨i3 p.1 s1.1 fun x hx=>?_,i1⟩,fun x hx=>?_,fun t ha hb x hx=>?_,fun k=>?_⟩
    ·have:=s2.1 x hx;omega
    ·rcases List.mem_cons.1 hx with rfl|hx
     ·show 0<p.2+q.2;omega
     ·exact i2 x hx
    ·rcases List.mem_cons.1 hx with rfl|hx
     ·exact ha p (List.mem_cons_self ..)
     ·exact i3 t (fun y hy=>ha y (List.mem_cons_of_mem _ hy)) (fun y hy=>hb y (List.mem_cons_of_mem _ hy)) x hx
    ·rw[cn_cons,i4,cn_cons,cn_cons]
     show(if p.1=k then p.2+q.2 else 0)+_=_
     rw[e]
     split<;>omega
theorem zip_mrg{a b:List Pr}(sa:SrtP a)(sb:SrtP b)(pa:PosP a)(pb:PosP b):zipP a b=mrgP a b:=by
 obtain⟨h1,h2,_,h4⟩:=zip_all _ a b (Nat.le_refl _) sa sb pa pb
 exact ext_P h1 (mrg_srt sa) h2 (mrg_pos pa pb) fun k=>by rw[h4,cn_mrg]
theorem cut_srt{m:Nat}(hm:0<m){l:List Pr}(h:SrtP l)(hp:PosP l):SrtP (cutP m l).1/\PosP (cutP m l).1/\tot (cutP m l).1=tot l/\(cutP m l).1.length<=m/\0<=(cutP m l).2:=by
 by_cases hl:l.length<=m
 ·rw[cut_few hl];exact⟨h,hp,rfl,hl,by simp⟩
 ·obtain⟨A,q,B,rfl,e,hA⟩:=cut_split m hm l (by omega)
  rw[<-e,cut_app]
  obtain⟨_,s2,_⟩:=srt_app h
  obtain⟨p1,p2⟩:=pos_app hp
  have s4:=List.pairwise_cons.1 s2
  have n1:=tot_nonneg p1
  refine⟨List.pairwise_cons.2 ⟨fun x hx=>s4.1 x hx,s4.2⟩,fun p hp=>?_,?_,?_,n1⟩
  ·rcases List.mem_cons.1 hp with rfl|hp
   ·have:=p2 q (List.mem_cons_self ..)
    show 0<q.2+tot A;omega
   ·exact p2 p (List.mem_cons_of_mem _ hp)
  ·show tot ((q.1,q.2+tot A)::B)=_
   rw[tot_append,tot_cons,tot_cons]
   show q.2+tot A+_=_
   omega
  ·exact Nat.le_of_eq (bump_length (tot A) (q::B))
theorem pos_le{l:List Pr}(h:PosP l):∀p∈l,p.2<=tot l:=by
 induction l with
 | nil=>intro p hp;cases hp
 | cons q l ih=>
  intro p hp
  have hq:=h q (List.mem_cons_self ..)
  have hl:PosP l:=fun x hx=>h x (List.mem_cons_of_mem _ hx)
  have:=tot_nonneg hl
  rw[tot_cons]
  rcases List.mem_cons.1 hp with rfl|hp
  ·omega
  ·have:=ih hl p hp;omega
end Go.Proofs.YtingnldfpokckaaGreat.D
