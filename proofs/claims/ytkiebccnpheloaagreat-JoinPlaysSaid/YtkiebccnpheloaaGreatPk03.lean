/- Parts of a proof: what its theorem reaches, words cut short. No condition of its own. -/
import Derived.Test.YtkiebccnpheloaaGreatPk02
set_option maxRecDepth 100000
set_option maxHeartbeats 16000000
set_option linter.unusedVariables false
set_option linter.unusedSimpArgs false
namespace Go.Proofs.YtkiebccnpheloaaGreat
open Go.RowKit
theorem wY{α:Type}{motive:List α->Prop}(nil:motive [])(snoc:∀l x,motive l->motive (l++[x]))(l:List α):motive l:=by
 have h:∀n (l:List α),l.length=n->motive l:=by
  intro n
  induction n with
  | zero=>intro l hl;rw[aW hl];exact nil
  | succ n ih=>
   intro l hl;have hne:l≠[]:=by rintro rfl;simp at hl
   rw[<-List.dropLast_concat_getLast hne];exact snoc _ _ (ih _ (by simp[hl]))
 exact h _ l rfl
abbrev Mn:=Int × Int
def E5(m:Mn):List Value:=[.int .i64 m.1,.int .u64 m.2]
def fD(l:List Mn):List Value:=l.flatMap E5
theorem E8(l:List Mn):(fD l).length=l.length * 2:=by
 induction l with
 | nil=>rfl
 | cons m l ih=>simp only[fD,List.flatMap_cons,aI,aP] at *;rw[ih];simp[E5];omega
theorem ve(a b:List Mn):fD (a++b)=fD a++fD b:=by simp[fD]
theorem su:∀(l:List Mn) (i:Nat) (h:i<l.length),(fD l)[i * 2]?=some (.int .i64 l[i].1)
 | m::l,0,_=>rfl
 | m::l,i+1,h=>by
  have:=su l i (by simpa using h)
  rw[show(i+1) * 2=i * 2+2 by omega]
  simpa[fD,E5] using this
theorem sD:∀(l:List Mn) (i:Nat) (h:i<l.length),(fD l)[i * 2+1]?=some (.int .u64 l[i].2)
 | m::l,0,_=>rfl
 | m::l,i+1,h=>by
  have:=sD l i (by simpa using h)
  rw[show(i+1) * 2+1=i * 2+1+2 by omega]
  simpa[fD,E5] using this
theorem Bo(l:List Mn):∀u∈fD l,u.oneCell'=true:=by
 intro u hu;obtain⟨m,_,hm⟩:=List.mem_flatMap.1 hu;simp[E5] at hm
 rcases hm with rfl|rfl<;>rfl
theorem Jq(l:List Mn)(k:Nat):(fD l).drop (k * 2)=fD (l.drop k):=by
 induction k generalizing l with
 | zero=>simp
 | succ k ih=>
  cases l with
  | nil=>simp[fD]
  | cons m l=>
   rw[show(k+1) * 2=k * 2+2 by omega]
   have:=ih l
   simpa[fD,E5] using this
theorem Jr(l:List Mn)(k:Nat):(fD l).take (k * 2)=fD (l.take k):=by
 induction k generalizing l with
 | zero=>simp[fD]
 | succ k ih=>
  cases l with
  | nil=>simp[fD]
  | cons m l=>
   rw[show(k+1) * 2=k * 2+2 by omega]
   have:=ih l
   simpa[fD,E5] using this
def nN(w:World)(v:Value)(l:List Mn):Prop:=Rd 2 w v l.length (fD l)
theorem nN.keep{w w':World}{v:Value}{l:List Mn}(h:nN w v l)(hb:Below w.heap.size w w'):nN w' v l:=Rd.keep h hb
def kW(w:World)(A:Option Addr)(l:List Mn):Prop:=0<l.length->∃g off,A=some ⟨g,off,none⟩/\g<w.heap.size/\∀j,j<l.length * 2->w.cell? ⟨g,off+j,none⟩=(fD l)[j]?
theorem nN.form{w:World}{v:Value}{l:List Mn}(h:nN w v l):∃A c,v=.slice A l.length c/\l.length<=c/\c<=9223372036854775807/\kW w A l:=by
 obtain⟨_,A,c,hv,h1,h2,h3⟩:=h;exact⟨A,c,hv,h1,by unfold maxLen at h2;omega,h3⟩
theorem nN.iO{w:World}{A:Option Addr}{l:List Mn}{c:Nat}(h1:l.length<=c)(h2:c<=9223372036854775807)(h:kW w A l):nN w (.slice A l.length c) l:=
 ⟨E8 l,A,c,rfl,h1,by unfold maxLen;omega,h⟩
theorem kW.keep{w w':World}{A:Option Addr}{l:List Mn}(h:kW w A l)(hb:Below w.heap.size w w'):kW w' A l:=fun h0=>by
 obtain⟨g,off,hA,hg,hj⟩:=h h0;exact⟨g,off,hA,aU hg hb.size,fun j hj'=>(hb.cell (p:=⟨g,off+j,none⟩) hg).trans (hj j hj')⟩
theorem kW.at_{w:World}{A:Option Addr}{l:List Mn}(h:kW w A l){j:Nat}(hj:j<l.length) :
 ∃g off,A=some ⟨g,off,none⟩/\g<w.heap.size/\w.cell? ⟨g,off+j * 2,none⟩=some (.int .i64 l[j].1)/\w.cell? ⟨g,off+j * 2+1,none⟩=some (.int .u64 l[j].2):=by
 obtain⟨g,off,hA,hg,hc⟩:=h ae
 refine⟨g,off,hA,hg,?_,?_⟩
 ·rw[hc (j * 2) ae,su l j hj]
 ·rw[Nat.add_assoc,hc (j * 2+1) ae,sD l j hj]
theorem kW.tail{w:World}{A:Option Addr}{l:List Mn}(h:kW w A l){g off:Nat}(hA:A=some ⟨g,off,none⟩)(k:Nat):kW w (some ⟨g,off+k * 2,none⟩) (l.drop k):=fun h0=>by
 rw[bn] at h0;obtain⟨g',off',hA',hg,hc⟩:=h ae
 rw[hA] at hA';injection hA' with hA';injection hA' with e1 e2;subst e1;subst e2;refine⟨g,_,rfl,hg,fun j hj=>?_⟩
 rw[bn] at hj;rw[Nat.add_assoc,hc _ ae,<-Jq,List.getElem?_drop]
theorem kW.head{w:World}{A:Option Addr}{l:List Mn}(h:kW w A l)(k:Nat):kW w A (l.take k):=fun h0=>by
 have hl:=List.length_take_le k l;have hl':=List.length_take_le' k l;obtain⟨g,off,hA,hg,hc⟩:=h ae
 refine⟨g,off,hA,hg,fun j hj=>?_⟩
 rw[hc j ae,<-Jr,List.getElem?_take,if_pos ae]
theorem kW.nil{w:World}{A:Option Addr}:kW w A []:=fun h=>absurd h ag
def dU(base:Nat)(w:World)(v:Value)(l:List Mn):Prop:=w.ownsRow base 231 2 v l.length (fD l)
theorem dU.rd{base:Nat}{w:World}{v:Value}{l:List Mn}(h:dU base w v l):nN w v l:=Rd.nU h
theorem dU.nil_(base:Nat)(w:World):dU base w (.slice none 0 0) []:=World.ownsRow_nil w base _ _
theorem dU.more{base base':Nat}{w:World}{v:Value}{l:List Mn}(h:dU base w v l)(hb:base'<=base):dU base' w v l:=by
 obtain⟨h1,h2⟩:=h;refine⟨h1,?_⟩
 rcases h2 with h2|⟨g,cap,cur,e1,e2,r⟩
 ·exact .inl h2
 ·exact .inr ⟨g,cap,cur,e1,ae,r⟩
theorem dU.stay{base:Nat}{w w':World}{v:Value}{l:List Mn}(h:dU base w v l)(hk:∀g,v.ownBlock=some g->w'.heap[g]?=w.heap[g]?):dU base w' v l:=by
 obtain⟨h1,h2⟩:=h;refine⟨h1,?_⟩
 rcases h2 with h2|⟨g,cap,cur,rfl,e2,e3,r⟩
 ·exact .inl h2
 ·exact .inr ⟨g,cap,cur,rfl,e2,by rw[hk g rfl];exact e3,r⟩
theorem dU.lt{base:Nat}{w:World}{v:Value}{l:List Mn}(h:dU base w v l):∀g,v.ownBlock=some g->base<=g/\g<w.heap.size:=World.ownsRow.lt h
theorem dU.keep{base:Nat}{w w':World}{v:Value}{l:List Mn}(h:dU base w v l)(hb:Below w.heap.size w w'):dU base w' v l:=h.stay fun g hg=>hb.block g (h.lt g hg).2
theorem dU.drewN{base:Nat}{w:World}{v:Value}{l:List Mn}(h:dU base w v l)(n:Nat):dU base (w.drewN n) v l:=h
theorem dU.drew{base:Nat}{w:World}{v:Value}{l:List Mn}(h:dU base w v l):dU base w.drew v l:=h
theorem dU.alloc{base:Nat}{w:World}{v:Value}{l:List Mn}(h:dU base w v l)(o:Obj):dU base (w.alloc o) v l:=World.ownsRow.alloc h o
theorem dU.far{base:Nat}{w:World}{v:Value}{l:List Mn}(h:dU base w v l){p:Addr}(hp:v.ownBlock≠some p.block)(u:Value):dU base (w.setCell p u) v l:=
 h.stay fun g hg=>bF w p u g (fun e=>hp (by rw[hg,e]))
theorem dU.form{base:Nat}{w:World}{v:Value}{l:List Mn}(h:dU base w v l):∃A c,v=.slice A l.length c/\l.length<=c/\c<=9223372036854775807/\kW w A l:=h.rd.form
theorem dU.pos{base:Nat}{w:World}{v:Value}{l:List Mn}(h:dU base w v l)(h0:0<l.length):∃g c,v=.slice (some ⟨g,0,none⟩) l.length c/\base<=g/\g<w.heap.size/\l.length<=c/\c<=9223372036854775807:=by
 rcases h.2 with⟨_,h2⟩|⟨g,cap,cur,rfl,e2,e3,e4,e5,_⟩
 ·omega
 ·exact⟨g,cap,rfl,e2,(h.lt g rfl).2,e4,by unfold maxLen at e5;omega⟩
theorem dU.at_{base g c:Nat}{w:World}{l:List Mn}(h:dU base w (.slice (some ⟨g,0,none⟩) l.length c) l){j:Nat}(hj:j<l.length) :
 w.cell? ⟨g,j * 2,none⟩=some (.int .i64 l[j].1)/\w.cell? ⟨g,j * 2+1,none⟩=some (.int .u64 l[j].2)/\w.frozen? ⟨g,j * 2,none⟩=false/\w.frozen? ⟨g,j * 2+1,none⟩=false:=by
 refine⟨?_,?_,World.ownsRow.frozenAt h _,World.ownsRow.frozenAt h _⟩
 ·rw[World.ownsRow.cellAt h _ ae,su l j hj]
 ·rw[World.ownsRow.cellAt h _ ae,sD l j hj]
theorem Bq:∀(l:List Mn) (j:Nat) (m:Mn),((fD l).set (j * 2) (.int .i64 m.1)).set (j * 2+1) (.int .u64 m.2)=fD (l.set j m)
 | [],_,_=>rfl
 | x::l,0,m=>by simp[fD,E5]
 | x::l,j+1,m=>by
  have:=Bq l j m;rw[show(j+1) * 2=j * 2+2 by omega,show j * 2+2+1=j * 2+1+2 by omega]
  simp only[fD,E5,List.flatMap_cons,List.cons_append,List.nil_append,List.set_cons_succ] at this |-;rw[this]
theorem dU.dP{base g c:Nat}{w:World}{l:List Mn}(h:dU base w (.slice (some ⟨g,0,none⟩) l.length c) l)(j:Nat)(m:Mn) :
 dU base ((w.setCell ⟨g,j * 2,none⟩ (.int .i64 m.1)).setCell ⟨g,j * 2+1,none⟩ (.int .u64 m.2)) (.slice (some ⟨g,0,none⟩) (l.set j m).length c) (l.set j m):=by
 have h1:=(World.ownsRow.stored h (j * 2) (.int .i64 m.1)).1;have h2:=(World.ownsRow.stored h1 (j * 2+1) (.int .u64 m.2)).1;unfold dU;rw[<-Bq,bU];exact h2
theorem dU.setLast{base g c N m:Nat}{w:World}{acc:List Mn}{now:Mn}(x:Mn)(h:dU base w (.slice (some ⟨g,0,none⟩) N c) (acc++[now]))(hm:acc.length=m)(hN:(acc++[now]).length=N) :
 dU base ((w.setCell ⟨g,m * 2,none⟩ (.int .i64 x.1)).setCell ⟨g,m * 2+1,none⟩ (.int .u64 x.2)) (.slice (some ⟨g,0,none⟩) N c) (acc++[x]):=by
 subst hm hN;have h1:=h.dP acc.length x;rw[bU] at h1;rw[show(acc++[now]).set acc.length x=acc++[x] by simp] at h1
 exact h1
theorem nN.one(w:World)(m:Mn):nN (w.alloc (.cells #[.int .i64 m.1,.int .u64 m.2] 231)) (.slice (some ⟨w.heap.size,0,none⟩) 1 1) [m]:=by
 refine nN.iO ag ae (fun _=>⟨w.heap.size,0,rfl,ag,fun j hj=>?_⟩)
 simp only[bK] at hj;have:j=0\/j=1:=ae
 rcases this with rfl|rfl<;>simp[fD,E5,World.cell?_alloc_new]
theorem nN.ak6{w:World}{g off c:Nat}{l:List Mn}(h1:0<l.length)(h2:l.length<=c)(h3:c<=9223372036854775807)(h:kW w (some ⟨g,off,none⟩) l) :
 nN w (.slice (if c=1 then some ⟨g,off,none⟩ else some ⟨g,off+2,none⟩) (l.length - 1) (c - 1)) (l.drop 1):=by
 by_cases hc:c=1
 ·rw[if_pos hc]
  have h0:l.drop 1=[]:=aW (by rw[bn];omega)
  rw[h0,show l.length - 1=0 by omega]
  exact nN.iO (l:=[]) ag ae kW.nil
 ·rw[if_neg hc]
  have:=nN.iO (c:=c - 1) (l:=l.drop 1) (by rw[bn];omega) ae (h.tail rfl 1)
  rwa [bn] at this
def ins(x:Mn):List Mn->List Mn
 | []=>[x]
 | y::l=>if y.1<=x.1 then y::ins x l else x::y::l
def gY(l:List Mn):List Mn:=l.foldl (fun o x=>ins x o) []
def mrg:List Mn->List Mn->List Mn
 | [],b=>b
 | a,[]=>a
 | x::a,y::b=>if y.1<x.1 then y::mrg (x::a) b else x::mrg a (y::b)
theorem mrg_nil_right(a:List Mn):mrg a []=a:=by cases a<;>simp[mrg]
theorem mrg_nil_left(b:List Mn):mrg [] b=b:=by cases b<;>simp[mrg]
theorem ND{xs ys:List Mn}(ha:0<xs.length)(hb:0<ys.length)(h:ys[0].1<xs[0].1):mrg xs ys=ys[0]::mrg xs (ys.drop 1):=by
 match xs,ys,ha,hb,h with
 | x::xs,y::ys,_,_,h=>simp only[List.getElem_cons_zero] at h;rw[mrg,if_pos h];rfl
theorem NG{xs ys:List Mn}(ha:0<xs.length)(hb:0<ys.length)(h:¬ys[0].1<xs[0].1):mrg xs ys=xs[0]::mrg (xs.drop 1) ys:=by
 match xs,ys,ha,hb,h with
 | x::xs,y::ys,_,_,h=>simp only[List.getElem_cons_zero] at h;rw[mrg,if_neg h];rfl
theorem wZ(x:Mn):∀s t:List Mn,mrg s (ins x t)=ins x (mrg s t)
 | [],t=>by simp[mrg]
 | y::s,[]=>by
  simp only[ins,mrg_nil_right];unfold mrg
  by_cases h:x.1<y.1
  ·rw[if_pos h,mrg_nil_right,if_neg ae]
  ·rw[if_neg h,if_pos ae]
   have:=wZ x s [];simp only[ins,mrg_nil_right] at this;rw[this]
 | y::s,z::t=>by
  by_cases hz:z.1<=x.1
  ·have e:ins x (z::t)=z::ins x t:=by simp[ins,hz]
   rw[e];unfold mrg
   by_cases h:z.1<y.1
   ·rw[if_pos h,if_pos h,wZ x (y::s) t]
    simp[ins,hz]
   ·rw[if_neg h,if_neg h]
    have:=wZ x s (z::t);rw[e] at this;rw[this];simp only[ins];rw[if_pos (show y.1<=x.1 by omega)]
  ·have e:ins x (z::t)=x::z::t:=by simp[ins,hz]
   rw[e]
   by_cases hx:x.1<y.1
   ·rw[mrg,if_pos hx]
    unfold mrg
    by_cases h:z.1<y.1
    ·rw[if_pos h];simp only[ins];rw[if_neg hz]
    ·rw[if_neg h];simp only[ins];rw[if_neg ae]
   ·rw[mrg,if_neg hx]
    have:=wZ x s (z::t);rw[e] at this;rw[this]
    conv=>rhs;rw[mrg,if_neg ae]
    simp only[ins];rw[if_pos (show y.1<=x.1 by omega)]
 termination_by s t=>s.length+t.length
theorem yz(x:Mn):∀(l:List Mn) (k:Nat),k<=l.length->(∀j (h:j<l.length),j<k->l[j].1<=x.1)->(∀h:k<l.length,x.1<l[k].1)->ins x l=l.take k++x::l.drop k
 | [],k,_,_,_=>by simp[ins]
 | y::l,0,_,_,h2=>by
  have:=h2 ag
  simp only[List.getElem_cons_zero] at this;simp only[ins,List.take_zero,List.nil_append,bQ];rw[if_neg ae]
 | y::l,k+1,h0,h1,h2=>by
  have hy:=h1 0 ag ae
  simp only[List.getElem_cons_zero] at hy;simp only[ins,List.take_succ_cons,List.cons_append,bD];rw[if_pos hy,yz x l k (by simpa using h0) (fun j h hj=>h1 (j+1) (Nat.succ_lt_succ h) ae) (fun h=>h2 (Nat.succ_lt_succ h))]
theorem V9{x:Mn}{S T:List Mn}{q:Nat}(h:T=S.take q++x::S.drop q)(hq:q<=S.length) :
 T.length=S.length+1/\T.take (q+1)=S.take q++[x]/\∀k (hk:k<S.length),q<=k->T.take (k+1+1)=T.take (k+1)++[S[k]]:=by
 subst h;have hl:(S.take q).length=q:=by rw[bg];omega
 refine⟨by simp;omega,?_,fun k hk hqk=>?_⟩
 ·rw[List.take_append,hl,bH ae,show q+1 - q=1 by omega];rfl
 ·have hT:k+1<(S.take q++x::S.drop q).length:=ah
  rw[aT hT]
  congr 2
  rw[List.getElem_append_right ae]
  simp only[hl];have:k+1 - q=(k - q)+1:=ae
  simp only[this,List.getElem_cons_succ,List.getElem_drop]
  congr 1
  omega
theorem qg(l:List Mn)(x:Mn):gY (l++[x])=ins x (gY l):=by simp[gY]
theorem E_(l:List Mn)(i:Nat)(h:i<l.length):gY (l.take (i+1))=ins l[i] (gY (l.take i)):=by
 rw[aT h,qg]
theorem SL(s:List Mn):∀b:List Mn,mrg s (gY b)=b.foldl (fun o x=>ins x o) s:=by
 intro b
 induction b using wY with
 | nil=>simp[gY,mrg_nil_right]
 | snoc b x ih=>rw[qg,wZ,ih,List.foldl_append];rfl
theorem lM(a b:List Mn):mrg (gY a) (gY b)=gY (a++b):=by
 rw[SL,gY,gY,List.foldl_append]
theorem vJ(x:Mn)(l:List Mn):(ins x l).length=l.length+1:=by
 induction l with
 | nil=>rfl
 | cons y l ih=>simp only[ins];split<;>simp[ih]
theorem jy(l:List Mn):(gY l).length=l.length:=by
 induction l using wY with
 | nil=>rfl
 | snoc l x ih=>rw[qg,vJ,ih];simp
theorem Qv(x:Mn)(l:List Mn)(m:Mn):m∈ins x l<->m=x\/m∈l:=by
 induction l with
 | nil=>simp[ins]
 | cons y l ih=>
  simp only[ins]
  split
  ·simp only[a_,ih];constructor
   ·rintro (h|h|h)<;>simp[h]
   ·rintro (h|h|h)<;>simp[h]
  ·simp
theorem Qw(l:List Mn)(m:Mn):m∈gY l<->m∈l:=by
 induction l using wY with
 | nil=>simp[gY]
 | snoc l x ih=>rw[qg,Qv,ih];simp[or_comm]
def mV(l:List Mn):Prop:=l.Pairwise (fun a b=>a.1<=b.1)
theorem FI(x:Mn):∀l:List Mn,mV l->mV (ins x l)
 | [],_=>by simp[ins,mV]
 | y::l,h=>by
  have h':=aZ.1 h;simp only[ins]
  split
  ·rename_i hy
   refine aZ.2 ⟨fun m hm=>?_,FI x l h'.2⟩
   rcases(Qv x l m).1 hm with rfl|hm
   ·exact hy
   ·exact h'.1 m hm
  ·rename_i hy
   refine aZ.2 ⟨fun m hm=>?_,h⟩
   rcases a_.1 hm with rfl|hm
   ·omega
   ·have:=h'.1 m hm;omega
theorem yA(l:List Mn):mV (gY l):=by
 induction l using wY with
 | nil=>simp[gY,mV]
 | snoc l x ih=>rw[qg];exact FI x _ ih
def tot:List Mn->Int
 | []=>0
 | m::l=>m.2+tot l
theorem dS(a b:List Mn):tot (a++b)=tot a+tot b:=by
 induction a with
 | nil=>simp[tot]
 | cons m a ih=>simp only[List.cons_append,tot,ih];omega
theorem ZR(x:Mn)(l:List Mn):tot (ins x l)=x.2+tot l:=by
 induction l with
 | nil=>rfl
 | cons y l ih=>simp only[ins];split<;>simp only[tot,ih];omega
theorem w_(l:List Mn):tot (gY l)=tot l:=by
 induction l using wY with
 | nil=>rfl
 | snoc l x ih=>rw[qg,ZR,ih,dS];simp only[tot];omega
theorem iy(l:List Mn)(j:Nat)(h:j<l.length):tot (l.take (j+1))=tot (l.take j)+l[j].2:=by
 rw[aT h,dS];simp[tot]
def okM(m:Mn):Prop:=-9223372036854775808<=m.1/\m.1<=9223372036854775807/\0<m.2
def jY(l:List Mn):Prop:=∀m∈l,okM m
theorem jY.dL:∀{l:List Mn},jY l->0<=tot l
 | [],_=>by simp[tot]
 | m::l,h=>by
  have h1:=jY.dL (l:=l) (fun x hx=>h x (aV _ hx))
  have h2:=(h m (aQ ..)).2.2;simp only[tot];omega
theorem jY.tail{m:Mn}{l:List Mn}(h:jY (m::l)):jY l:=fun x hx=>h x (aV _ hx)
theorem jY.append{a b:List Mn}(h:jY a)(k:jY b):jY (a++b):=fun m hm=>by
 rcases cO.1 hm with h1|h1
 ·exact h m h1
 ·exact k m h1
theorem jY.gY{l:List Mn}(h:jY l):jY (gY l):=fun m hm=>h m ((Qw l m).1 hm)
theorem jY.take{l:List Mn}(h:jY l)(j:Nat):jY (l.take j):=fun m hm=>h m (List.mem_of_mem_take hm)
theorem jY.drop{l:List Mn}(h:jY l)(j:Nat):jY (l.drop j):=fun m hm=>h m (List.mem_of_mem_drop hm)
theorem jY.get{l:List Mn}(h:jY l){j:Nat}(hj:j<l.length):okM l[j]:=h _ (bu hj)
theorem jY.xh{l:List Mn}(h:jY l)(j:Nat):0<=tot (l.take j)/\tot (l.take j)<=tot l:=by
 have h1:=(h.take j).dL;have h2:=(h.drop j).dL;have h3:=dS (l.take j) (l.drop j);rw[List.take_append_drop] at h3;omega
theorem jY.Hy{l:List Mn}(h:jY l){j:Nat}(hj:j<l.length):tot (l.take j)+l[j].2<=tot l:=by
 rw[<-iy l j hj];exact(h.xh _).2
def xk(d n done weight:Int):Bool:=decide (weight * d * n<=(2 * done+weight) * (2 * n - 2 * done - weight))
def iI(d n:Int):List Mn->Int->Mn->List Mn
 | [],_,now=>[now]
 | m::l,done,now=>if xk d n done (now.2+m.2) then iI d n l done (kV now.1 m.1 m.2 (now.2+m.2),now.2+m.2) else now::iI d n l (done+now.2) m
def nX(d n:Int):List Mn->List Mn
 | []=>[]
 | m::l=>iI d n l 0 m
def sF(d:Int)(l:List Mn):List Mn:=nX d (tot l) (gY l)
theorem vK(d n:Int):∀(l:List Mn) (done:Int) (now:Mn),tot (iI d n l done now)=now.2+tot l
 | [],_,now=>by simp[iI,tot]
 | m::l,done,now=>by
  unfold iI
  split
  ·rw[vK];simp only[tot];omega
  ·simp only[tot];rw[vK]
theorem SN(d n:Int)(l:List Mn):tot (nX d n l)=tot l:=by
 cases l with
 | nil=>rfl
 | cons m l=>simp only[nX,vK,tot]
theorem Aq(d:Int)(l:List Mn):tot (sF d l)=tot l:=by rw[sF,SN,w_]
theorem lN(d n:Int):∀(l:List Mn) (done:Int) (now:Mn),1<=(iI d n l done now).length/\(iI d n l done now).length<=l.length+1
 | [],_,now=>by simp[iI]
 | m::l,done,now=>by
  unfold iI
  split
  ·have:=lN d n l done (kV now.1 m.1 m.2 (now.2+m.2),now.2+m.2);simp only[aP];omega
  ·have:=lN d n l (done+now.2) m;simp only[aP];omega
theorem NH(d:Int)(l:List Mn):(sF d l).length<=l.length:=by
 unfold sF;have h:=jy l
 cases hs:gY l with
 | nil=>simp[nX]
 | cons m s=>rw[hs] at h;have:=(lN d (tot l) s 0 m).2;simp only[nX,aP] at *;omega
theorem Qx(d:Int){l:List Mn}(hl:l≠[]):sF d l≠[]:=by
 unfold sF;have h:=jy l
 cases hs:gY l with
 | nil=>rw[hs] at h;simp at h;exact absurd h.symm (by simpa using hl)
 | cons m s=>intro h2;have:=(lN d (tot l) s 0 m).1;simp only[nX] at h2;rw[h2] at this;simp at this
theorem yD(d n lo hi:Int):∀(l:List Mn) (done:Int) (now:Mn),jY (now::l)->mV (now::l)->(∀m∈now::l,lo<=m.1/\m.1<=hi) ->
 jY (iI d n l done now)/\mV (iI d n l done now)/\(∀m∈iI d n l done now,now.1<=m.1/\m.1<=hi)
 | [],_,now,h1,h2,h3=>⟨h1,h2,fun m hm=>by
  have:=h3 m hm;simp only[iI,List.mem_singleton] at hm;subst hm;exact⟨Int.le_refl _,this.2⟩⟩
 | m::l,done,now,h1,h2,h3=>by
  have hp:=aZ.1 h2;have hp2:=aZ.1 hp.2;have hle:now.1<=m.1:=hp.1 m (aQ ..);have o1:=h1 now (aQ ..);have o2:=h1 m (aV _ (aQ ..));have o1':=o1.2.2;have o2':=o2.2.2;unfold iI
  split
  ·have hl:=wX hle (x:=m.2) (y:=now.2+m.2) ae  ae  ae
   have ob:okM (kV now.1 m.1 m.2 (now.2+m.2),now.2+m.2):=by
    unfold okM at *;refine⟨?_,?_,?_⟩<;>simp only<;>omega
   obtain⟨a,b,c⟩:=yD d n lo hi l done (kV now.1 m.1 m.2 (now.2+m.2),now.2+m.2)
    (by intro x hx;rcases a_.1 hx with rfl|hx;exact ob;exact h1 x (by simp[hx]))
    (by refine aZ.2 ⟨fun x hx=>?_,hp2.2⟩;have:=hp2.1 x hx;simp only;omega)
    (by
     have b1:=h3 now (aQ ..);have b2:=h3 m ag
     intro x hx;rcases a_.1 hx with rfl|hx
     ·simp only;omega
     ·exact h3 x (by simp[hx]))
   refine⟨a,b,fun x hx=>?_⟩
   have:=c x hx;simp only at this;omega
  ·obtain⟨a,b,c⟩:=yD d n lo hi l (done+now.2) m h1.tail hp.2 (fun x hx=>h3 x (aV _ hx))
   refine⟨?_,aZ.2 ⟨fun x hx=>?_,b⟩,fun x hx=>?_⟩
   ·intro x hx;rcases a_.1 hx with rfl|hx;exact o1;exact a x hx
   ·have:=c x hx;omega
   ·rcases a_.1 hx with rfl|hx
    ·exact⟨Int.le_refl _,(h3 x (aQ ..)).2⟩
    ·have:=c x hx;omega
theorem Bv(d lo hi:Int){l:List Mn}(h:jY l)(hb:∀m∈l,lo<=m.1/\m.1<=hi):jY (sF d l)/\mV (sF d l)/\(∀m∈sF d l,lo<=m.1/\m.1<=hi):=by
 unfold sF;have h1:=h.gY;have h2:=yA l;have h3:∀m∈gY l,lo<=m.1/\m.1<=hi:=fun m hm=>hb m ((Qw l m).1 hm)
 cases hs:gY l with
 | nil=>exact⟨(fun m hm=>by simp[nX] at hm),by simp[nX,mV],(fun m hm=>by simp[nX] at hm)⟩
 | cons m s=>
  rw[hs] at h1 h2 h3;obtain⟨a,b,c⟩:=yD d (tot l) lo hi s 0 m h1 h2 h3;refine⟨a,b,fun x hx=>?_⟩
  have:=c x hx;have:=h3 m (aQ ..);omega
structure sG(d n:Int)(l:List Mn)(j:Nat)(acc:List Mn)(now:Mn):Prop where
 e:nX d n l=acc++iI d n (l.drop j) (tot acc) now
 t:tot acc+now.2+tot (l.drop j)=n
 ok:jY (now::l.drop j)
 oka:jY acc
 rise:mV (now::l.drop j)
 len:acc.length+1<=j
theorem sG.start(d:Int){l:List Mn}(h0:0<l.length)(ho:jY l)(hr:mV l):sG d (tot l) l 1 [] l[0]:=by
 match l,h0 with
 | m::l,_=>
  refine⟨by simp[nX,tot],by simp[tot],ho,(fun m hm=>by simp at hm),hr,ag⟩
theorem drop_cons{l:List Mn}{j:Nat}(h:j<l.length):l.drop j=l[j]::l.drop (j+1):=List.drop_eq_getElem_cons h
theorem sG.facts{d n:Int}{l:List Mn}{j:Nat}{acc:List Mn}{now:Mn}(h:sG d n l j acc now)(hj:j<l.length) :
 0<=tot acc/\okM now/\okM l[j]/\now.1<=l[j].1/\tot acc+(now.2+l[j].2)<=n:=by
 have h1:=h.oka.dL;have h2:=h.ok;have h3:=h.rise;have h4:=h.t;rw[drop_cons hj] at h2 h3 h4;have h5:=h2.tail.tail.dL;simp only[tot] at h4;refine⟨h1,h2 _ (aQ ..),h2 l[j] (aV _ (aQ ..)),(aZ.1 h3).1 _ (aQ ..),ae⟩
theorem sG.merge{d n:Int}{l:List Mn}{j:Nat}{acc:List Mn}{now:Mn}(h:sG d n l j acc now)(hj:j<l.length)(hm:xk d n (tot acc) (now.2+l[j].2)=true) :
 sG d n l (j+1) acc (kV now.1 l[j].1 l[j].2 (now.2+l[j].2),now.2+l[j].2):=by
 obtain⟨f1,f2,f3,f4,f5⟩:=h.facts hj;obtain⟨e,t,ok,oka,rise,len⟩:=h;rw[drop_cons hj] at e t ok rise;have o1:=f2.2.2;have o2:=f3.2.2;have hl:=wX f4 (x:=l[j].2) (y:=now.2+l[j].2) ae  ae  ae
 have hp:=aZ.1 rise;have hp2:=aZ.1 hp.2;refine⟨?_,?_,?_,oka,?_,ae⟩
 ·rw[e];conv=>lhs;rw[iI,if_pos hm]
 ·simp only[tot] at t |-;omega
 ·intro x hx
  rcases a_.1 hx with rfl|hx
  ·unfold okM at *;refine⟨?_,?_,?_⟩<;>simp only<;>omega
  ·exact ok x (aV _ (aV _ hx))
 ·refine aZ.2 ⟨fun x hx=>?_,hp2.2⟩
  have:=hp2.1 x hx;simp only;omega
theorem sG.push{d n:Int}{l:List Mn}{j:Nat}{acc:List Mn}{now:Mn}(h:sG d n l j acc now)(hj:j<l.length)(hm:xk d n (tot acc) (now.2+l[j].2)=false) :
 sG d n l (j+1) (acc++[now]) l[j]:=by
 obtain⟨e,t,ok,oka,rise,len⟩:=h;rw[drop_cons hj] at e t ok rise;have hp:=aZ.1 rise;have ht:tot (acc++[now])=tot acc+now.2:=by rw[dS];simp[tot]
 refine⟨?_,?_,ok.tail,?_,hp.2,ah⟩
 ·rw[e,ht,aS];conv=>lhs;rw[iI,if_neg (by rw[hm];simp)]
  rfl
 ·rw[ht];simp only[tot] at t;omega
 ·exact oka.append (fun m hm=>by simp only[List.mem_singleton] at hm;subst hm;exact ok m (aQ ..))
theorem sG.fin{d n:Int}{l:List Mn}{acc:List Mn}{now:Mn}(h:sG d n l l.length acc now):nX d n l=acc++[now]:=by
 have e:=h.e;rw[List.drop_length] at e;exact e
def gW(d:Int)(L W:List Mn)(m:Mn):List Mn:=if d<=(W.length:Int)+1 then sF d (L++(W++[m])) else L
def ni(d:Int)(W:List Mn)(m:Mn):List Mn:=if d<=(W.length:Int)+1 then [] else W++[m]
theorem Jt(d:Int)(L W:List Mn)(m:Mn):tot (gW d L W m++ni d W m)=tot (L++W)+m.2:=by
 unfold gW ni
 split
 ·rw[List.append_nil,Aq];simp only[dS,tot];omega
 ·simp only[dS,tot];omega
theorem Ju(d:Int)(L W:List Mn)(m:Mn):(gW d L W m).length+(ni d W m).length<=L.length+W.length+1:=by
 unfold gW ni
 split
 ·have:=NH d (L++(W++[m]));simp only[aI,aP,bf] at this |-;omega
 ·simp only[aI,aP,bf];omega
theorem NI(d:Int)(L W:List Mn)(m:Mn):gW d L W m++ni d W m≠[]:=by
 unfold gW ni
 split
 ·rw[List.append_nil];exact Qx d ag
 ·simp
theorem V_(d:Int)(W:List Mn)(m:Mn)(hd:0<d):((ni d W m).length:Int)<d:=by
 unfold ni
 split
 ·simpa using hd
 ·simp only[aI,aP,bf];omega
structure St where
 L:List Mn
 W:List Mn
 lo:Int
 hi:Int
namespace St
def zero:St:=⟨[],[],0,0⟩
def add(d:Int)(s:St)(a k:Int):St:=⟨gW d s.L s.W (a,k),ni d s.W (a,k),if tot (s.L++s.W)=0 then a else min s.lo a,if tot (s.L++s.W)=0 then a else max s.hi a⟩
def take(d:Int)(s t:St):St:=
 if tot (t.L++t.W)=0 then s else⟨sF d (s.L++(s.W++(t.L++t.W))),[],if tot (s.L++s.W)=0 then t.lo else min s.lo t.lo,if tot (s.L++s.W)=0 then t.hi else max s.hi t.hi⟩
structure Ok(d:Int)(s:St)(k:Nat):Prop where
 ok:jY (s.L++s.W)
 bd:∀m∈s.L++s.W,s.lo<=m.1/\m.1<=s.hi
 We:-9223372036854775808<=s.lo
 lo1:s.lo<=9223372036854775807
 hi0:-9223372036854775808<=s.hi
 hi1:s.hi<=9223372036854775807
 emp:s.L++s.W=[]->s.lo=0/\s.hi=0
 len:s.L.length+s.W.length<=k
 wl:(s.W.length:Int)<d
 rise:mV s.L
theorem ZT(d:Int)(h:0<d):zero.Ok d 0:=⟨fun m hm=>by simp[zero] at hm,fun m hm=>by simp[zero] at hm,by simp[zero],by simp[zero],by simp[zero],by simp[zero],fun _=>⟨rfl,rfl⟩,by simp[zero],by simpa[zero] using h,by simp[zero,mV]⟩
theorem Ok.more{d:Int}{s:St}{k j:Nat}(h:s.Ok d k)(hk:k<=j):s.Ok d j:=⟨h.ok,h.bd,h.We,h.lo1,h.hi0,h.hi1,h.emp,bG h.len hk,h.wl,h.rise⟩
theorem ZU{l:List Mn}(h:jY l)(hne:l≠[]):0<tot l:=by
 match l,hne with
 | m::l,_=>
  have h1:=(h m (aQ ..)).2.2;have h2:=h.tail.dL;simp only[tot];omega
theorem Ok.yE{d:Int}{s:St}{k:Nat}(h:s.Ok d k):tot (s.L++s.W)=0<->s.L++s.W=[]:=by
 constructor
 ·intro h0
  by_cases hne:s.L++s.W=[]
  ·exact hne
  ·have:=ZU h.ok hne;omega
 ·intro h0;rw[h0];rfl
theorem Ok.jA{d:Int}{s:St}{k:Nat}(h:s.Ok d k):0<=tot (s.L++s.W):=h.ok.dL
theorem ah7(d:Int)(s:St)(a k:Int):tot ((s.add d a k).L++(s.add d a k).W)=tot (s.L++s.W)+k:=Jt d s.L s.W (a,k)
theorem Ok.add{d:Int}{s:St}{k:Nat}(h:s.Ok d k)(hd:0<d){a n:Int}(a0:-9223372036854775808<=a)(a1:a<=9223372036854775807)(n0:0<n):(s.add d a n).Ok d (k+1):=by
 have hlo:(if tot (s.L++s.W)=0 then a else min s.lo a)<=a/\(tot (s.L++s.W)≠0->(if tot (s.L++s.W)=0 then a else min s.lo a)<=s.lo)/\-9223372036854775808<=(if tot (s.L++s.W)=0 then a else min s.lo a):=by
  have:=h.We
  split<;>refine⟨by omega,ae,ae⟩
 have hhi:a<=(if tot (s.L++s.W)=0 then a else max s.hi a)/\(tot (s.L++s.W)≠0->s.hi<=(if tot (s.L++s.W)=0 then a else max s.hi a))/\(if tot (s.L++s.W)=0 then a else max s.hi a)<=9223372036854775807:=by
  have:=h.hi1
  split<;>refine⟨by omega,ae,ae⟩
 have hall:jY (s.L++(s.W++[(a,n)])):=by
  rw[<-aS];exact h.ok.append (fun m hm=>by simp only[List.mem_singleton] at hm;subst hm;exact⟨a0,a1,n0⟩)
 have hbd:∀m∈s.L++(s.W++[(a,n)]),(if tot (s.L++s.W)=0 then a else min s.lo a)<=m.1/\m.1<=(if tot (s.L++s.W)=0 then a else max s.hi a):=by
  intro m hm;rw[<-aS] at hm
  rcases cO.1 hm with h1|h1
  ·have h2:=h.bd m h1
   have h3:tot (s.L++s.W)≠0:=fun e=>by rw[h.yE.1 e] at h1;cases h1
   have:=hlo.2.1 h3;have:=hhi.2.1 h3;omega
  ·simp only[List.mem_singleton] at h1
   subst h1;exact⟨hlo.1,hhi.1⟩
 refine⟨?_,?_,hlo.2.2,by show(if _ then _ else _)<=_;omega,by show _<=(if _ then _ else _);omega,hhi.2.2,fun e=>absurd e (NI d s.L s.W (a,n)),?_,V_ d s.W (a,n) hd,?_⟩
 ·show jY (gW d s.L s.W (a,n)++ni d s.W (a,n))
  unfold gW ni
  split
  ·rw[List.append_nil]
   exact(Bv d _ _ hall hbd).1
  ·exact hall
 ·show ∀m∈gW d s.L s.W (a,n)++ni d s.W (a,n),(if tot (s.L++s.W)=0 then a else min s.lo a)<=m.1/\m.1<=(if tot (s.L++s.W)=0 then a else max s.hi a)
  generalize (if tot (s.L++s.W)=0 then a else min s.lo a)=lo at *
  generalize (if tot (s.L++s.W)=0 then a else max s.hi a)=hi at *
  unfold gW ni
  split
  ·rw[List.append_nil]
   exact(Bv d _ _ hall hbd).2.2
  ·exact hbd
 ·have:=Ju d s.L s.W (a,n)
  have:=h.len;show(gW d s.L s.W (a,n)).length+(ni d s.W (a,n)).length<=k+1
  omega
 ·show mV (gW d s.L s.W (a,n))
  unfold gW
  split
  ·exact(Bv d _ _ hall hbd).2.1
  ·exact h.rise
end St
def ak7(l:List Mn):Prop:=∀m∈l,-9223372036854775808<=m.1/\m.1<=9223372036854775807/\0<=m.2/\m.2<=18446744073709551615
open Go.RowKit Go.Lib
def dN(t:TypeId)(k:IntKind)(base:Nat)(w:World)(v:Value)(l:List Int):Prop:=w.ownsRow base t 1 v l.length (l.map (Value.int k))
section
variable {t : TypeId} {k : IntKind} {base : Nat} {w w' : World} {v : Value} {l : List Int}
theorem dN.rd(h:dN t k base w v l):iH k w v l:=Rd.nU h
theorem dN.alloc(h:dN t k base w v l)(o:Obj):dN t k base (w.alloc o) v l:=World.ownsRow.alloc h o
theorem dN.drewN(h:dN t k base w v l)(n:Nat):dN t k base (w.drewN n) v l:=h
theorem dN.drew(h:dN t k base w v l):dN t k base w.drew v l:=h
theorem dN.lt(h:dN t k base w v l):∀g,v.ownBlock=some g->base<=g/\g<w.heap.size:=World.ownsRow.lt h
theorem dN.stay(h:dN t k base w v l)(hk:∀g,v.ownBlock=some g->w'.heap[g]?=w.heap[g]?):dN t k base w' v l:=by
 obtain⟨h1,h2⟩:=h;refine⟨h1,?_⟩
 rcases h2 with h2|⟨g,cap,cur,rfl,e2,e3,r⟩
 ·exact .inl h2
 ·exact .inr ⟨g,cap,cur,rfl,e2,(hk g rfl).trans e3,r⟩
theorem dN.keep(h:dN t k base w v l)(hb:Below w.heap.size w w'):dN t k base w' v l:=h.stay fun g hg=>hb.block g (h.lt g hg).2
theorem dN.nil_(t:TypeId)(k:IntKind)(base:Nat)(w:World):dN t k base w (.slice none 0 0) []:=⟨rfl,.inl ⟨rfl,rfl⟩⟩
theorem dN.one(t:TypeId)(k:IntKind)(w:World)(x:Int):dN t k w.heap.size (w.alloc (.cells #[.int k x] t)) (.slice (some ⟨w.heap.size,0,none⟩) 1 1) [x]:=
 ⟨rfl,.inr ⟨w.heap.size,1,_,rfl,aK _,heap_alloc_new _ _,ag,by unfold maxLen;omega,rfl,ag⟩⟩
theorem iH.dY(t:TypeId)(k:IntKind)(w:World)(x:Int)(H:Nat)(h:w.heap.size=H):iH k (w.alloc (.cells #[.int k x] t)) (.slice (some ⟨H,0,none⟩) 1 1) [x]:=by
 subst h;exact(dN.one t k w x).rd
end
theorem ah8:(Tryz.prog.info? 2).map (fun i=>(i.zero,i.size,i.bytes))=some (some (.int .i64 0),1,8):=by kernel_rfl
theorem Qy(k:IntKind)(l:List Int):∀u∈l.map (Value.int k),u.oneCell'=true:=fun u hu=>by
 obtain⟨x,_,rfl⟩:=List.mem_map.1 hu;rfl
theorem Jv{ts t:TypeId}{k:IntKind}(ht:Tryz.prog.underlying ts=some (.slice t))(hinfo:(Tryz.prog.info? t).map (fun i=>(i.zero,i.size,i.bytes))=some (some (.int k 0),1,8))
 {w:World} {ops:Array Oper} {rest:List Oper} {o:Oper} {a:Act} {Q:Exit->Act->World->Prop} (hgd:o.guard=none) (s x:Operand)
 (ho:o.op=.call {callee:=.builtin .append,args:=#[s,x],argTypes:=#[ts,ts]})
 (base:Nat) (v:Value) (xs:List Int) (hs:a.eval s=v) (hown:dN t k base w v xs)
 (u:Value) (news:List Int) (hx:a.eval x=u) (hr:iH k w u news)
 (hlen:xs.length+news.length<=1099511627776) (hbase:base<=w.heap.size)
 (h:∀v' w',dN t k base w' v' (xs++news)->w.grownBy w' v.ownBlock->(v'.ownBlock=v.ownBlock\/v'.ownBlock=some w.heap.size)->wpList Tryz.prog ops Q rest (a.put o.dst v') w'):wpList Tryz.prog ops Q (o::rest) a w:=by
 obtain⟨i0,hi,hz0,hz1,hz2⟩:=info_parts hinfo;obtain⟨A,c,rfl,_,_,_⟩:=hr.form;refine jG w hgd s x ts ho base t i0 _ 1 8 ht hi hz0 hz1 hz2 rfl ae v xs.length (xs.map (Value.int k)) hs hown A news.length c (news.map (Value.int k)) hx hr (Qy k _)
  (by unfold maxLen;omega) ae hbase fun v' w' h1 h2 h3=>h v' w' ?_ h2 h3
 unfold dN;rw[aI,List.map_append];exact h1
end Go.Proofs.YtkiebccnpheloaaGreat
