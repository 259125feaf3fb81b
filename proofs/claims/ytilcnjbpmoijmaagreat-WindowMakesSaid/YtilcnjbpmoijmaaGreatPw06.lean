/- Parts of a proof. No condition. -/
import Derived.Test.YtilcnjbpmoijmaaGreatPw05
import Derived.StillTail
import Derived.OrdersHeld
set_option maxRecDepth 100000
set_option maxHeartbeats 16000000
set_option linter.unusedVariables false
set_option linter.unusedSimpArgs false
namespace Go.Proofs.YtilcnjbpmoijmaaGreat
open Tryz
section
open Go.RowKit
def DK(p:Option Int)(v:Int):List Int:=match p with
 | none=>zg v
 | some q=>eG (v - q)
def uz:Option Int->List Mn->List Int
 | _,[]=>[]
 | p,m::l=>DK p m.1++(eG m.2++uz (some m.1) l)
def xM:List Mn->List Int
 | []=>[]
 | m::l=>zg m.1++(eG m.2++xM l)
def IY(d:Int)(L W:List Mn)(lo hi:Int):List Int:=eG d++(zg lo++(zg hi++(eG L.length++(uz none L++(eG W.length++xM W)))))
def IZ:Option Int->List Mn->Option Int
 | p,[]=>p
 | _,m::l=>IZ (some m.1) l
theorem Fa(m:Mn):∀(p:Option Int) (l:List Mn),IZ p (l++[m])=some m.1
 | _,[]=>rfl
 | _,x::l=>Fa m (some x.1) l
theorem Fb(m:Mn):∀(p:Option Int) (l:List Mn),uz p (l++[m])=uz p l++(DK (IZ p l) m.1++eG m.2)
 | p,[]=>by simp[uz,IZ]
 | p,x::l=>by simp only[List.cons_append,uz,Fb m (some x.1) l,IZ,aX]
theorem Nl(m:Mn):∀(l:List Mn),xM (l++[m])=xM l++(zg m.1++eG m.2)
 | []=>by simp[xM]
 | x::l=>by simp only[List.cons_append,xM,Nl m l,aX]
theorem I4(l:List Mn)(h:0<l.length):uz none (l.take 1)=uz none (l.take 0)++(zg l[0].1++eG l[0].2):=by
 have:=Fb l[0] none (l.take 0);rw[<-bg h] at this;rw[this];simp[IZ,DK]
theorem Np(l:List Mn)(j:Nat)(h:j+1<l.length):uz none (l.take (j+1+1))=uz none (l.take (j+1))++(eG (l[j+1].1 - l[j].1)++eG l[j+1].2):=by
 have:=Fb l[j+1] none (l.take (j+1));rw[<-bg h] at this;rw[this,bg (show j<l.length by omega),Fa]
 rfl
theorem Nq(l:List Mn)(j:Nat)(h:j<l.length):xM (l.take (j+1))=xM (l.take j)++(zg l[j].1++eG l[j].2):=by
 rw[bg h,Nl]
theorem Zn(p:Option Int)(v:Int):1<=(DK p v).length/\(DK p v).length<=10:=by
 unfold DK
 split
 ·exact dM _
 ·exact dM _
theorem sG:∀(p:Option Int) (l:List Mn),2 * l.length<=(uz p l).length/\(uz p l).length<=20 * l.length
 | _,[]=>by simp[uz]
 | p,m::l=>by
  have h1:=sG (some m.1) l;have h2:=Zn p m.1;have h3:=dM m.2;simp only[uz,aQ,aU];omega
theorem yR:∀(l:List Mn),2 * l.length<=(xM l).length/\(xM l).length<=20 * l.length
 | []=>by simp[xM]
 | m::l=>by
  have h1:=yR l;have h2:=dM (qA m.1);have h3:=dM m.2;simp only[xM,zg,aQ,aU];omega
theorem yS(l:List Mn)(j:Nat):(uz none (l.take j)).length<=20 * l.length:=by
 have h1:=(sG none (l.take j)).2;have h2:(l.take j).length<=l.length:=by rw[bG];omega
 omega
theorem yT(l:List Mn)(j:Nat):(xM (l.take j)).length<=20 * l.length:=by
 have h1:=(yR (l.take j)).2;have h2:(l.take j).length<=l.length:=by rw[bG];omega
 omega
end
section
open Go.RowKit
def ik(l:List Int):Option (Nat × List Int):=match dW l with
 | some p=>if p.1<=65536/\p.1<=p.2.length then some (p.1.toNat,p.2) else none
 | none=>none
def Wu(p:Option Int)(n:Int):Option Int:=match p with
 | none=>some (lC n)
 | some q=>if wrap64 ((ub q+n) % 18446744073709551616)<q then none else some (wrap64 ((ub q+n) % 18446744073709551616))
def jg(p:Option Int)(l:List Int):Option (Mn × List Int):=match dW l with
 | none=>none
 | some x=>match Wu p x.1 with
  | none=>none
  | some v=>match dW x.2 with
   | none=>none
   | some y=>some ((v,y.1),y.2)
def MO:Nat->List Mn->List Int->Option (List Mn × List Int)
 | 0,acc,l=>some (acc,l)
 | k+1,acc,l=>match jg (acc.getLast?.map (·.1)) l with
  | none=>none
  | some x=>MO k (acc++[x.1]) x.2
def MP:Nat->List Mn->List Int->Option (List Mn × List Int)
 | 0,acc,l=>some (acc,l)
 | k+1,acc,l=>match jg none l with
  | none=>none
  | some x=>MP k (acc++[x.1]) x.2
def jT(l:List Int):Option (List Mn × List Int):=match ik l with
 | none=>none
 | some x=>MO x.1 [] x.2
def kN(l:List Int):Option (List Mn × List Int):=match ik l with
 | none=>none
 | some x=>MP x.1 [] x.2
structure Rd5 where
 d:Int
 lo:Int
 hi:Int
 L:List Mn
 W:List Mn
def rdD(l:List Int):Option (Rd5 × List Int):=match dW l with
 | none=>none
 | some a=>match dW a.2 with
  | none=>none
  | some b=>match dW b.2 with
   | none=>none
   | some c=>match jT c.2 with
    | none=>none
    | some x=>match kN x.2 with
     | none=>none
     | some y=>some (⟨a.1,lC b.1,lC c.1,x.1,y.1⟩,y.2)
theorem Fe(m:Mn)(r:List Int)(h0:-9223372036854775808<=m.1)(h1:m.1<=9223372036854775807)(n0:0<=m.2)(n1:m.2<18446744073709551616):jg none (DK none m.1++(eG m.2++r))=some (m,r):=by
 have hs:=jl h0 h1;unfold jg DK zg;rw[gZ hs.1 hs.2];simp only[Wu,Ec];rw[gZ n0 n1]
theorem QP(q:Int)(m:Mn)(r:List Int)(q0:-9223372036854775808<=q)(qv:q<=m.1)(h1:m.1<=9223372036854775807)(n0:0<=m.2)(n1:m.2<18446744073709551616):jg (some q) (DK (some q) m.1++(eG m.2++r))=some (m,r):=by
 unfold jg DK;rw[gZ ae  ae]
 simp only[Wu,IW q0 qv h1];rw[if_neg ae]
 simp only;rw[gZ n0 n1]
theorem UK(r:List Int):∀(l acc:List Mn),qK (acc++l)->iE (acc++l)->MO l.length acc (uz (acc.getLast?.map (·.1)) l++r)=some (acc++l,r)
 | [],acc,_,_=>by simp[MO,uz]
 | m::l,acc,hr,hs=>by
  have hm:=hr m ag
  have h2:=UK r l (acc++[m]) (by simpa using hr) (by simpa using hs)
  rw[List.getLast?_concat] at h2;simp only[aU,MO,uz,aX,Option.map_some] at h2 |-
  cases hl:acc.getLast? with
  | none=>
   simp only[Option.map_none];rw[Fe m _ hm.1 hm.2.1 hm.2.2.1 ae]
   simp only;rw[h2];simp
  | some q=>
   have hq:q∈acc:=List.mem_of_getLast? hl;have hqr:=hr q (by simp[hq])
   have hle:q.1<=m.1:=(List.pairwise_append.1 hs).2.2 q hq m ag
   simp only[Option.map_some];rw[QP q.1 m _ hqr.1 hle hm.2.1 hm.2.2.1 ae]
   simp only;rw[h2];simp
theorem UL(r:List Int):∀(l acc:List Mn),qK l->MP l.length acc (xM l++r)=some (acc++l,r)
 | [],acc,_=>by simp[MP,xM]
 | m::l,acc,hr=>by
  have hm:=hr m ag
  have h2:=UL r l (acc++[m]) (fun x hx=>hr x (aY _ hx))
  have h3:=Fe m (xM l++r) hm.1 hm.2.1 hm.2.2.1 ae
  simp only[DK] at h3;simp only[aU,MP,xM,aX];rw[h3];simp only;rw[h2];simp
theorem Ff(n:Nat)(r:List Int)(h:n<=65536)(hr:n<=r.length):ik (eG n++r)=some (n,r):=by
 unfold ik;rw[gZ ae  ae]
 simp only;rw[if_pos ⟨by omega,ae⟩]
 simp
theorem am2{d lo hi:Int}{L W:List Mn}(r:List Int)(d0:0<=d)(d1:d<18446744073709551616)(l0:-9223372036854775808<=lo)(l1:lo<=9223372036854775807)(h0:-9223372036854775808<=hi)(h1:hi<=9223372036854775807)
 (hL:qK L) (hs:iE L) (hW:qK W) (nL:L.length<=65536) (nW:W.length<=65536):rdD (IY d L W lo hi++r)=some (⟨d,lo,hi,L,W⟩,r):=by
 have sl:=jl l0 l1;have sh:=jl h0 h1;have wl:=(sG none L).1;have ww:=(yR W).1;unfold rdD IY zg;simp only[aX];rw[gZ d0 d1];simp only;rw[gZ sl.1 sl.2];simp only;rw[gZ sh.1 sh.2];simp only;have e1:jT (eG L.length++(uz none L++(eG W.length++(xM W++r))))=some (L,eG W.length++(xM W++r)):=by
  unfold jT;rw[Ff _ _ nL (by rw[aQ];omega)]
  simp only;have:=UK (eG W.length++(xM W++r)) L [] (by simpa using hL) (by simpa using hs)
  simpa using this
 rw[e1];simp only;have e2:kN (eG W.length++(xM W++r))=some (W,r):=by
  unfold kN;rw[Ff _ _ nW (by rw[aQ];omega)]
  simp only;have:=UL r W [] hW
  simpa using this
 rw[e2];simp only[Ec]
end
section
open Go.RowKit
variable{p:Nat × List Int}{bs l r1 r2 r3 r4:List Int}{x:List Mn × List Int}{d h:Int}{L W:List Mn}
theorem I5{p:Option Int}{x:Mn × List Int}(hb:iD l)(h:jg p l=some x):(-9223372036854775808<=x.1.1/\x.1.1<=9223372036854775807/\0<=x.1.2/\x.1.2<=18446744073709551615)/\iD x.2:=by
 unfold jg at h
 cases h1:dW l with
 | none=>rw[h1] at h;cases h
 | some a=>
  rw[h1] at h;simp only at h;have ab:=gY hb h1;have ay:=E5 hb h1
  cases h2:Wu p a.1 with
  | none=>rw[h2] at h;cases h
  | some v=>
   rw[h2] at h;simp only at h
   cases h3:dW a.2 with
   | none=>rw[h3] at h;cases h
   | some y=>
    rw[h3] at h;simp only[bH] at h;subst h;have yb:=gY ay h3;refine⟨?_,E5 ay h3⟩
    have hv:-9223372036854775808<=v/\v<=9223372036854775807:=by
     unfold Wu at h2
     cases p with
     | none=>simp only[bH] at h2;rw[<-h2];exact xK ab.1 ab.2
     | some q=>
      simp only at h2
      split at h2
      ·cases h2
      ·simp only[bH] at h2;rw[<-h2];unfold wrap64;omega
    simp only;omega
theorem UM:∀(k:Nat) (acc:List Mn) (l:List Int) (x:List Mn × List Int),iD l->qK acc->MO k acc l=some x->qK x.1/\x.1.length=acc.length+k/\iD x.2
 | 0,acc,l,x,hb,hr,h=>by simp only[MO,bH] at h;subst h;exact⟨hr,rfl,hb⟩
 | k+1,acc,l,x,hb,hr,h=>by
  rw[MO] at h
  cases h1:jg (acc.getLast?.map (·.1)) l with
  | none=>rw[h1] at h;cases h
  | some y=>
   rw[h1] at h;obtain⟨a,b⟩:=I5 hb h1;have:=UM k (acc++[y.1]) y.2 x b (fun m hm=>by
    rcases dB.1 hm with hm|hm
    ·exact hr m hm
    ·simp only[List.mem_singleton] at hm;subst hm;exact a) h
   refine⟨this.1,?_,this.2.2⟩
   rw[this.2.1];simp;omega
theorem UN:∀(k:Nat) (acc:List Mn) (l:List Int) (x:List Mn × List Int),iD l->qK acc->MP k acc l=some x->qK x.1/\x.1.length=acc.length+k/\iD x.2
 | 0,acc,l,x,hb,hr,h=>by simp only[MP,bH] at h;subst h;exact⟨hr,rfl,hb⟩
 | k+1,acc,l,x,hb,hr,h=>by
  rw[MP] at h
  cases h1:jg none l with
  | none=>rw[h1] at h;cases h
  | some y=>
   rw[h1] at h;obtain⟨a,b⟩:=I5 hb h1;have:=UN k (acc++[y.1]) y.2 x b (fun m hm=>by
    rcases dB.1 hm with hm|hm
    ·exact hr m hm
    ·simp only[List.mem_singleton] at hm;subst hm;exact a) h
   refine⟨this.1,?_,this.2.2⟩
   rw[this.2.1];simp;omega
theorem I7(hb:iD l)(h:ik l=some p):p.1<=65536/\iD p.2:=by
 unfold ik at h
 cases h1:dW l with
 | none=>rw[h1] at h;cases h
 | some a=>
  rw[h1] at h;simp only at h
  split at h
  ·rename_i hc
   simp only[bH] at h;subst h;exact⟨by simp only;omega,E5 hb h1⟩
  ·cases h
theorem QR(hb:iD l)(h:jT l=some x):qK x.1/\x.1.length<=65536/\iD x.2:=by
 unfold jT at h
 cases h1:ik l with
 | none=>rw[h1] at h;cases h
 | some a=>
  rw[h1] at h;obtain⟨k1,k2⟩:=I7 hb h1;obtain⟨a1,a2,a3⟩:=UM a.1 [] a.2 x k2 (fun m hm=>by cases hm) h
  exact⟨a1,by rw[a2];simpa using k1,a3⟩
theorem QS(hb:iD l)(h:kN l=some x):qK x.1/\x.1.length<=65536/\iD x.2:=by
 unfold kN at h
 cases h1:ik l with
 | none=>rw[h1] at h;cases h
 | some a=>
  rw[h1] at h;obtain⟨k1,k2⟩:=I7 hb h1;obtain⟨a1,a2,a3⟩:=UN a.1 [] a.2 x k2 (fun m hm=>by cases hm) h
  exact⟨a1,by rw[a2];simpa using k1,a3⟩
theorem I8{p:Option Int}{x:Mn × List Int}(h:jg p l=some x):∃j,x.2=l.drop j:=by
 unfold jg at h
 cases h1:dW l with
 | none=>rw[h1] at h;cases h
 | some a=>
  rw[h1] at h;simp only at h
  cases h2:Wu p a.1 with
  | none=>rw[h2] at h;cases h
  | some v=>
   rw[h2] at h;simp only at h
   cases h3:dW a.2 with
   | none=>rw[h3] at h;cases h
   | some y=>
    rw[h3] at h;simp only[bH] at h;subst h;exact mQ (lD h1).2 (lD h3).2
theorem UO:∀(k:Nat) (acc:List Mn) (l:List Int) (x:List Mn × List Int),MO k acc l=some x->∃j,x.2=l.drop j
 | 0,acc,l,x,h=>by simp only[MO,bH] at h;subst h;exact⟨0,ag⟩
 | k+1,acc,l,x,h=>by
  rw[MO] at h
  cases h1:jg (acc.getLast?.map (·.1)) l with
  | none=>rw[h1] at h;cases h
  | some y=>rw[h1] at h;exact mQ (I8 h1) (UO k _ _ x h)
theorem UQ:∀(k:Nat) (acc:List Mn) (l:List Int) (x:List Mn × List Int),MP k acc l=some x->∃j,x.2=l.drop j
 | 0,acc,l,x,h=>by simp only[MP,bH] at h;subst h;exact⟨0,ag⟩
 | k+1,acc,l,x,h=>by
  rw[MP] at h
  cases h1:jg none l with
  | none=>rw[h1] at h;cases h
  | some y=>rw[h1] at h;exact mQ (I8 h1) (UQ k _ _ x h)
theorem Fg(h:ik l=some p):∃j,p.2=l.drop j:=by
 unfold ik at h
 cases h1:dW l with
 | none=>rw[h1] at h;cases h
 | some a=>
  rw[h1] at h;simp only at h
  split at h
  ·simp only[bH] at h;subst h;exact(lD h1).2
  ·cases h
theorem QT(h:jT l=some x):∃j,x.2=l.drop j:=by
 unfold jT at h
 cases h1:ik l with
 | none=>rw[h1] at h;cases h
 | some a=>rw[h1] at h;exact mQ (Fg h1) (UO _ _ _ _ h)
theorem QU(h:kN l=some x):∃j,x.2=l.drop j:=by
 unfold kN at h
 cases h1:ik l with
 | none=>rw[h1] at h;cases h
 | some a=>rw[h1] at h;exact mQ (Fg h1) (UQ _ _ _ _ h)
def jy(bs:List Int):Option Rd5:=match rdD bs with
 | some (x,[])=>if x.d<=1000/\iq x.d x.lo x.hi x.L x.W=true/\IY x.d x.L x.W x.lo x.hi=bs then some x else none
 | _=>none
def wG(bs:List Int)(x:Rd5):List Int->Option Rd5
 | []=>if x.d<=1000/\iq x.d x.lo x.hi x.L x.W=true/\IY x.d x.L x.W x.lo x.hi=bs then some x else none
 | _::_=>none
theorem Zo{r5:List Int}{l:Int}(hA:dW bs=some (d,r1))(hB:dW r1=some (l,r2))(hC:dW r2=some (h,r3))(hD:jT r3=some (L,r4))(hE:kN r4=some (W,r5)) :
 jy bs=wG bs ⟨d,lC l,lC h,L,W⟩ r5:=by
 unfold jy rdD;rw[hA];simp only;rw[hB];simp only;rw[hC];simp only;rw[hD];simp only;rw[hE]
 cases r5<;>rfl
theorem am3{l:Int}(hA:dW bs=some (d,r1))(hB:dW r1=some (l,r2))(hC:dW r2=some (h,r3))(hD:jT r3=none):jy bs=none:=by
 unfold jy rdD;rw[hA];simp only;rw[hB];simp only;rw[hC];simp only;rw[hD]
theorem am4{l:Int}(hA:dW bs=some (d,r1))(hB:dW r1=some (l,r2))(hC:dW r2=some (h,r3))(hD:jT r3=some (L,r4))(hE:kN r4=none):jy bs=none:=by
 unfold jy rdD;rw[hA];simp only;rw[hB];simp only;rw[hC];simp only;rw[hD];simp only;rw[hE]
theorem Wv{lo hi:Int}(d0:0<=d)(d1:d<=9223372036854775807)(l0:-9223372036854775808<=lo)(l1:lo<=9223372036854775807)(h0:-9223372036854775808<=hi)(h1:hi<=9223372036854775807)
 (hL:qK L) (hs:iE L) (hW:qK W) (nL:L.length<=65536) (nW:W.length<=65536):jy (IY d L W lo hi)=if iq d lo hi L W=true then some ⟨d,lo,hi,L,W⟩ else none:=by
 have h:=am2 (r:=[]) d0 ae l0 l1 h0 h1 hL hs hW nL nW
 rw[List.append_nil] at h;unfold jy;rw[h];simp only
 by_cases hr:iq d lo hi L W=true
 ·have hd:d<=1000:=by
   have:=hr;unfold iq at this;simp only[Bool.and_eq_true,decide_eq_true_eq] at this;omega
  rw[if_pos hr,if_pos ⟨hd,hr,trivial⟩]
 ·rw[if_neg hr,if_neg (fun h=>hr h.2.1)]
end
open Tryz
open Tryz
open Go.RowKit
section
variable {P : Program} {ops : Array Oper} {md : Region.Mode} {S : World -> Prop}
variable{v:Value}
def aw4(S:World->Prop)(v u:Value)(w:World):Prop:=u=v/\S w
def bk6(S:World->Prop)(v:Value)(e:Ending)(w:World):Prop:=e=.returned v/\S w
def Gives(P:Program)(S:World->Prop)(v:Value):Result Next->Prop
 | .ok (.value u) w=>aw4 S v u w
 | .ok (.enter f args) w=>Calls P f args w (bk6 S v)
 | _=>False
@[go_sem] theorem aw5  (u:Value) (w:World):Gives P S v (.ok (.value u) w)=aw4 S v u w:=rfl
@[go_sem] theorem aw6  (f:FuncId) (args:Array Value) (w:World):Gives P S v (.ok (.enter f args) w)=Calls P f args w (bk6 S v):=rfl
end
open Tryz
open Go.RowKit
section
variable {P : Program} {ops : Array Oper} {md : Region.Mode} {S : World -> Prop} {Q : Exit -> Act -> World -> Prop}
variable{i id:Nat}{a a':Act}{w:World}{v:Value}{l:List Oper}{r:List (Nat × Bool)}{o:Oper}{Lq:Act->World->Prop}
def B_(md:Region.Mode)(ops:Array Oper):List (Nat × Bool)->Array Bool->Bool
 | [],listed=>(Region.ready md ops listed).isEmpty
 | (i,true)::r,listed=>(Region.ready md ops listed).contains i && Region.free md ops listed i && B_ md ops r (listed.setIfInBounds i true)
 | (i,false)::r,listed=>decide (Region.ready md ops listed=[i]) && B_ md ops r (listed.setIfInBounds i true)
def jc(P:Program)(ops:Array Oper)(Q:Exit->Act->World->Prop)(S:World->Prop):List (Nat × Bool)->Act->World->Prop
 | [],a,w=>Q .normal a w
 | (i,true)::r,a,w=>∃o v,ops[i]?=some o/\YieldsIf P ops S o v a/\jc P ops Q S r (a.put o.dst v) w
 | (i,false)::r,a,w=>wpOp P ops Q i (fun a' w'=>S w'/\jc P ops Q S r a' w') a w
theorem xN(hsel:Region.noSelect ops=true)(hQ:∀c a w,¬Q (.panic c) a w):∀(l:List (Nat × Bool)) (listed:Array Bool) (a:Act) (w:World),B_ md ops l listed=true->S w ->
 jc P ops Q S l a w->wpAnyH P md ops Q S l.length listed a w
 | [],listed,a,w,hB,_,h=>⟨by simpa[B_] using hB,h⟩
 | (i,true)::r,listed,a,w,hB,hS,h=>by
  simp only[B_,Bool.and_eq_true] at hB;obtain⟨o,v,ho,hy,hn⟩:=h;exact wpAnyH_take ho hsel hB.1.2 hB.1.1 (fun c a w hp=>absurd hp (hQ c _ w)) hy hS (xN hsel hQ r _ _ w hB.2 hS hn)
 | (i,false)::r,listed,a,w,hB,hS,h=>by
  simp only[B_,Bool.and_eq_true,decide_eq_true_eq] at hB;refine⟨fun h0=>(by rw[hB.1] at h0;cases h0),fun j hj=>?_⟩
  rw[hB.1] at hj;have hji:j=i:=by simpa using hj
  subst hji;exact wpOp_mono (fun a' w' h'=>⟨h'.1,xN hsel hQ r _ a' w' hB.2 h'.1 h'.2⟩) h
def Calm(Q:Exit->Act->World->Prop):Exit->Act->World->Prop
 | .panic _,_,_=>False
 | e,a,w=>Q e a w
theorem Calm.imp:∀(e:Exit) (a:Act) (w:World),Calm Q e a w->Q e a w:=fun e a w h=>by
 cases e<;>first|exact h|exact(h:False).elim
theorem Fh(S:World->Prop)(l:List (Nat × Bool))(hm:P.follows .mixedOrders=true)
 (hB:(Region.noSelect ops && decide (l.length=ops.size) && B_ .any ops l (Array.replicate ops.size false))=true)
 (hS:S w.drew) (h:jc P ops (Calm Q) S l a w.drew):(Code.region id ops true).wp P Q a w:=by
 simp only[Bool.and_eq_true,decide_eq_true_eq] at hB;have H:=xN (Q:=Calm Q) hB.1.1 (fun _ _ _ h=>h) l _ a _ hB.2 hS h
 rw[hB.1.2] at H;exact Code.wp_mono Calm.imp (wp_region_any hm (wpAny_of_held _ _ _ _ H))
def Fj(P:Program)(md:Region.Mode)(ops:Array Oper)(Q:Exit->Act->World->Prop)(S:World->Prop)(n:Nat)(L:Array Bool->Act->World->Prop):Nat->Array Bool->Act->World->Prop
 | 0,listed,a,w=>L listed a w
 | f+1,listed,a,w=>
  Region.ready md ops listed≠[]/\∀i∈Region.ready md ops listed,i<n/\wpOp P ops Q i (fun a' w'=>S w'/\Fj P md ops Q S n L f (listed.setIfInBounds i true) a' w') a w
theorem qY{n g:Nat}{L:Array Bool->Act->World->Prop}(hL:∀listed a w,L listed a w->wpAny P md ops Q g listed a w) :
 ∀(f:Nat) (listed:Array Bool) (a:Act) (w:World),Fj P md ops Q S n L f listed a w->wpAny P md ops Q (f+g) listed a w
 | 0,listed,a,w,h=>by rw[Nat.zero_add];exact hL _ _ _ h
 | f+1,listed,a,w,h=>by
  rw[show f+1+g=(f+g)+1 by omega]
  exact⟨fun h0=>absurd h0 h.1,fun i hi=>wpOp_mono (fun a' w' h'=>qY hL f _ a' w' h'.2) (h.2 i hi).2⟩
theorem J_{n:Nat}{oi:Oper}{L:Array Bool->Act->World->Prop}(hi:ops[i]?=some oi)(hsel:∀(j:Nat) (o:Oper) cs b,ops[j]?=some o->o.op≠.select cs b)
 (hQ:∀c a w,¬Q (.panic c) a w) (hs:Region.sinkB md ops n=true) (hc:Region.chainB md ops n=true) (hn:n<ops.size) (hin:i<n)
 (hdone:∀listed a w,L listed a w->∀j∈Region.ready md ops listed,n<=j) :
 ∀(f:Nat) (listed:Array Bool) (a:Act) (w:World),HeadInv md ops n listed ->
  (∀j oj,ops[j]?=some oj->j≠i->listed.getD j true=false->(∀e∈oj.after,Region.binds md e=true->e.on≠i)->oi.apart ops oj=true) ->
  i∈Region.ready md ops listed->YieldsIf P ops S oi v a->S w ->
  Fj P md ops Q S n L f (listed.setIfInBounds i true) (a.put oi.dst v) w->Fj P md ops Q S n L (f+1) listed a w:=by
 intro f
 induction f with
 | zero=>
  intro listed a w inv _ hr hy hS H;have hun:=(mem_ready.1 hr).1;refine⟨fun h=>(by rw[h] at hr;cases hr),fun j hj=>?_⟩
  have hjn:j<n:=by
   rcases bV j n with h|h
   ·exact h
   ·exact absurd hj (tail_waits hs hc hn inv _ i rfl hin hun j h)
  refine⟨hjn,?_⟩
  by_cases hji:j=i
  ·subst hji;exact hy.wpOp hi hS ⟨hS,H⟩
  ·have:=hdone _ _ _ H j (ready_mono hj hji)
   omega
 | succ f ih=>
  intro listed a w inv hfree hr hy hS H;have hun:=(mem_ready.1 hr).1;refine⟨fun h=>(by rw[h] at hr;cases hr),fun j hj=>?_⟩
  have hjn:j<n:=by
   rcases bV j n with h|h
   ·exact h
   ·exact absurd hj (tail_waits hs hc hn inv _ i rfl hin hun j h)
  refine⟨hjn,?_⟩
  by_cases hji:j=i
  ·subst hji;exact hy.wpOp hi hS ⟨hS,H⟩
  ·have h1:=(H.2 j (ready_mono hj hji)).2
   obtain⟨hjun,oj,hoj,hall⟩:=mem_ready.1 hj;have hnot:∀e∈oj.after,Region.binds md e=true->e.on≠i:=fun e he hb heq=>by
    have h1:=hall e he hb;rw[heq,getD_both hun] at h1
    cases h1
   have h2:=wpOp_putIf hoj (hfree j oj hoj hji hjun hnot) (fun cs b=>hsel i oi cs b hi) (fun cs b=>hsel j oj cs b hoj) (fun c a w hp=>absurd hp (hQ c _ w)) hy h1
   have hfree':∀k ok,ops[k]?=some ok->k≠i->(listed.setIfInBounds j true).getD k true=false ->
    (∀e∈ok.after,Region.binds md e=true->e.on≠i)->oi.apart ops ok=true:=fun k ok hk hki hun' hno=>by
    refine hfree k ok hk hki ?_ hno
    by_cases hjk:j=k
    ·subst hjk;exact hjun
    ·rw[getD_set_ne true hjk] at hun';exact hun'
   refine wpOp_mono (fun a' w' h3=>⟨h3.2.1,ih (listed.setIfInBounds j true) a' w' (inv.set hj hjn) hfree' (ready_mono hr (Ne.symm hji)) h3.1 h3.2.1 ?_⟩) h2
   rw[Array.setIfInBounds_comm _ _ hji];exact h3.2.2
def Cb(md:Region.Mode)(ops:Array Oper)(n g:Nat):List (Nat × Bool)->Array Bool->Bool
 | [],listed=>Region.seqB md ops g n listed
 | (i,true)::r,listed=>decide (i<n) && (Region.ready md ops listed).contains i && Region.free md ops listed i && Cb md ops n g r (listed.setIfInBounds i true)
 | (i,false)::r,listed=>decide (i<n) && decide (Region.ready md ops listed=[i]) && Cb md ops n g r (listed.setIfInBounds i true)
def jC(P:Program)(ops:Array Oper)(Q:Exit->Act->World->Prop)(S:World->Prop)(Lq:Act->World->Prop):List (Nat × Bool)->Act->World->Prop
 | [],a,w=>Lq a w
 | (i,true)::r,a,w=>∃o v,ops[i]?=some o/\YieldsIf P ops S o v a/\jC P ops Q S Lq r (a.put o.dst v) w
 | (i,false)::r,a,w=>wpOp P ops Q i (fun a' w'=>S w'/\jC P ops Q S Lq r a' w') a w
theorem uT{n g:Nat}{Lq:Act->World->Prop}(hsel:Region.noSelect ops=true)(hQ:∀c a w,¬Q (.panic c) a w)(hs:Region.sinkB md ops n=true)(hc:Region.chainB md ops n=true)(hn:n<ops.size) :
 ∀(l:List (Nat × Bool)) (listed:Array Bool) (a:Act) (w:World),Cb md ops n g l listed=true->HeadInv md ops n listed->S w ->
 jC P ops Q S Lq l a w->Fj P md ops Q S n (fun listed' a' w'=>Region.seqB md ops g n listed'=true/\Lq a' w') l.length listed a w
 | [],listed,a,w,hB,_,_,h=>⟨by simpa[Cb] using hB,h⟩
 | (i,true)::r,listed,a,w,hB,inv,hS,h=>by
  simp only[Cb,Bool.and_eq_true,decide_eq_true_eq] at hB;obtain⟨⟨⟨hin,hr⟩,hf⟩,hB'⟩:=hB;obtain⟨o,v,ho,hy,hnx⟩:=h;have hr':i∈Region.ready md ops listed:=by simpa using hr
  exact J_ ho (Region.noSelect_spec hsel) hQ hs hc hn hin (fun _ _ _ hL=>seqB_ready hL.1) r.length listed a w inv (Region.free_spec ho hf) hr' hy hS
   (uT hsel hQ hs hc hn r _ _ w hB' (inv.set hr' hin) hS hnx)
 | (i,false)::r,listed,a,w,hB,inv,hS,h=>by
  simp only[Cb,Bool.and_eq_true,decide_eq_true_eq] at hB;obtain⟨⟨hin,hr⟩,hB'⟩:=hB;refine⟨fun h0=>(by rw[hr] at h0;cases h0),fun j hj=>?_⟩
  rw[hr] at hj;have hji:j=i:=by simpa using hj
  subst hji;refine⟨hin,wpOp_mono (fun a' w' h'=>⟨h'.1,uT hsel hQ hs hc hn r _ a' w' hB' (inv.set (by rw[hr];simp) hin) h'.1 h'.2⟩) h⟩
theorem DL(S:World->Prop)(n:Nat)(pl:List (Nat × Bool))(hm:P.follows .mixedOrders=true)
 (hB:(Region.noSelect l.toArray && decide (n<l.toArray.size) && decide (pl.length=n) && Region.sinkB .any l.toArray n && Region.chainB .any l.toArray n && Cb .any l.toArray n (l.toArray.size - n) pl (Array.replicate l.toArray.size false))=true)
 (hS:S w.drew) (h:jC P l.toArray (Calm Q) S (fun a' w'=>wpList P l.toArray (Calm Q) (l.drop n) a' w') pl a w.drew):(Code.region id l.toArray true).wp P Q a w:=by
 simp only[Bool.and_eq_true,decide_eq_true_eq] at hB;obtain⟨⟨⟨⟨⟨hsel,hn⟩,hpl⟩,hs⟩,hc⟩,hp⟩:=hB;have hn':n<l.length:=by simpa using hn
 have hdl:(l.drop n).length=l.toArray.size - n:=ag
 have inv0:HeadInv .any l.toArray n (Array.replicate l.toArray.size false):=
  ⟨by simp,fun j oj _ hl=>(by rw[getD_replicate_false] at hl;cases hl),fun t _ ht=>getD_in (by simpa using ht) (getD_replicate_false _ _)⟩
 have H:=uT (Q:=Calm Q) (md:=.any) (g:=l.toArray.size - n) hsel (fun _ _ _ h=>h) hs hc hn pl _ a _ hp inv0 hS h
 have K:=qY (Q:=Calm Q) (g:=l.toArray.size - n) (fun listed a' w' hL=>by
  have:=wpAny_of_seq (md:=.any) (Q':=Calm Q) (l.drop n) n listed a' w' (fun j=>by simp[List.getElem?_drop]) (by rw[hdl];exact hL.1) hL.2
  rwa [hdl] at this) _ _ _ _ H
 rw[hpl,show n+(l.toArray.size - n)=l.toArray.size by omega] at K
 exact Code.wp_mono Calm.imp (wp_region_any hm K)
def uj(v:Value)(w:World):Result Next->Prop
 | .ok r w'=>r=.value v/\w'=w
 | _=>False
def UR(v:Value)(w:World)(u:Value)(w':World):Prop:=u=v/\w'=w
@[go_sem] theorem aw7   (u:Value) (w':World):uj v w (.ok (.value u) w')=UR v w u w':=by
 simp[uj,UR]
theorem nJ(ho:ops[i]?=some o)(hw:Region.wanted o (yielded ops a.tmps)=true)
 (h:∀R:Act->Prop,(∀a',jc P ops Q S r a' w->R a')->∃v,(∀w',S w'->uj v w' ((execOp a.eval o).run P w'))/\R (a.put o.dst v)):jc P ops Q S ((i,true)::r) a w:=by
 obtain⟨v,h1,h2⟩:=h _ (fun _ h=>h)
 refine⟨o,v,ho,.inl ⟨hw,fun w' hS=>?_⟩,h2⟩
 have h3:=h1 w' hS;generalize (execOp a.eval o).run P w'=x at *
 cases x with
 | ok n w''=>obtain⟨rfl,rfl⟩:=h3;rfl
 | halt x w''=>exact h3.elim
theorem Nr(ho:ops[i]?=some o)(hw:Region.wanted o (yielded ops a.tmps)=false)
 (h:jc P ops Q S r (a.put o.dst undef) w):jc P ops Q S ((i,true)::r) a w:=⟨o,undef,ho,.inr ⟨hw,rfl⟩,h⟩
theorem mV(ho:ops[i]?=some o)(hw:Region.wanted o (yielded ops a.tmps)=true)
 (h:∀K:Act->World->Prop,(∀a' w',S w'->jc P ops Q S r a' w'->K a' w')->o.wp P a w K Q):jc P ops Q S ((i,false)::r) a w:=by
 unfold jc wpOp;simp only[ho,hw,if_true];exact .inl (h _ fun _ _ h1 h2=>⟨h1,h2⟩)
theorem dJ(h:Q .normal a w):jc P ops (Calm Q) S [] a w:=h
theorem Ko(ho:ops[i]?=some o)(hw:Region.wanted o (yielded ops a.tmps)=true)
 (h:∀R:Act->Prop,(∀a',jC P ops Q S Lq r a' w->R a')->∃v,(∀w',S w'->uj v w' ((execOp a.eval o).run P w'))/\R (a.put o.dst v)):jC P ops Q S Lq ((i,true)::r) a w:=by
 obtain⟨v,h1,h2⟩:=h _ (fun _ h=>h)
 refine⟨o,v,ho,.inl ⟨hw,fun w' hS=>?_⟩,h2⟩
 have h3:=h1 w' hS;generalize (execOp a.eval o).run P w'=x at *
 cases x with
 | ok n w''=>obtain⟨rfl,rfl⟩:=h3;rfl
 | halt x w''=>exact h3.elim
theorem QV(ho:ops[i]?=some o)(hw:Region.wanted o (yielded ops a.tmps)=true)
 (h:∀K:Act->World->Prop,(∀a' w',S w'->jC P ops Q S Lq r a' w'->K a' w')->o.wp P a w K Q):jC P ops Q S Lq ((i,false)::r) a w:=by
 unfold jC wpOp;simp only[ho,hw,if_true];exact .inl (h _ fun _ _ h1 h2=>⟨h1,h2⟩)
theorem d_(h:Lq a w):jC P ops Q S Lq [] a w:=h
theorem dR(h:Q .normal a w):Calm Q .normal a w:=h
def dV:Nat->Nat->List (Nat × Bool)->List (Nat × Bool)
 | _,0,r=>r
 | i,n+1,r=>(i,true)::dV (i+1) n r
def fJ(i:Nat)(r:List (Nat × Bool)):List (Nat × Bool):=(i,false)::r
theorem eQ(k:jc P ops Q S r a' w)(ho:ops[i]?=some o:=by rfl)(hw:Region.wanted o (yielded ops a.tmps)=true:=by rfl)
 (h:∀w',S w'->uj v w' ((execOp a.eval o).run P w'):=by
  intro w' hS'
  first
  | (have q:=mW.o w' hS';(repeat ((with_reducible have q1:=And.left q);(with_reducible replace q:=And.right q)));go_simp;exact⟨rfl,rfl⟩)
  | (go_simp;exact⟨rfl,rfl⟩))
 (he:∀R:Act->Prop,R a'->R (a.put o.dst v):=by intro R hR;go_simp;exact hR):jc P ops Q S ((i,true)::r) a w:=
 nJ ho hw fun R hR=>⟨v,h,he R (hR _ k)⟩
theorem mr(k:jC P ops Q S Lq r a' w)(ho:ops[i]?=some o:=by rfl)(hw:Region.wanted o (yielded ops a.tmps)=true:=by rfl)
 (h:∀w',S w'->uj v w' ((execOp a.eval o).run P w'):=by
  intro w' hS'
  first
  | (have q:=mW.o w' hS';(repeat ((with_reducible have q1:=And.left q);(with_reducible replace q:=And.right q)));go_simp;exact⟨rfl,rfl⟩)
  | (go_simp;exact⟨rfl,rfl⟩))
 (he:∀R:Act->Prop,R a'->R (a.put o.dst v):=by intro R hR;go_simp;exact hR):jC P ops Q S Lq ((i,true)::r) a w:=
 Ko ho hw fun R hR=>⟨v,h,he R (hR _ k)⟩
theorem fO(h:∀K:Act->World->Prop,(∀a' w',S w'->jc P ops Q S r a' w'->K a' w')->o.wp P a w K Q)
 (ho:ops[i]?=some o:=by rfl) (hw:Region.wanted o (yielded ops a.tmps)=true:=by rfl):jc P ops Q S ((i,false)::r) a w:=mV ho hw h
theorem yU(h:∀K:Act->World->Prop,(∀a' w',S w'->jC P ops Q S Lq r a' w'->K a' w')->o.wp P a w K Q)
 (ho:ops[i]?=some o:=by rfl) (hw:Region.wanted o (yielded ops a.tmps)=true:=by rfl):jC P ops Q S Lq ((i,false)::r) a w:=QV ho hw h
theorem Ee(h:jc P ops Q S r (a.put o.dst undef) w)(ho:ops[i]?=some o:=by rfl)(hw:Region.wanted o (yielded ops a.tmps)=false:=by rfl):jc P ops Q S ((i,true)::r) a w:=Nr ho hw h
theorem jh(S:World->Prop)(l:List (Nat × Bool))(hS:S w.drew)(h:jc P ops (Calm Q) S l a w.drew)(hm:P.follows .mixedOrders=true:=by kernel_rfl)
 (hB:(Region.noSelect ops && decide (l.length=ops.size) && B_ .any ops l (Array.replicate ops.size false))=true:=by kernel_rfl):(Code.region id ops true).wp P Q a w:=Fh S l hm hB hS h
theorem qm(S:World->Prop)(n:Nat)(pl:List (Nat × Bool))(hS:S w.drew)(h:jC P l.toArray (Calm Q) S (fun a' w'=>wpList P l.toArray (Calm Q) (l.drop n) a' w') pl a w.drew)(hm:P.follows .mixedOrders=true:=by kernel_rfl)
 (hB:(Region.noSelect l.toArray && decide (n<l.toArray.size) && decide (pl.length=n) && Region.sinkB .any l.toArray n && Region.chainB .any l.toArray n && Cb .any l.toArray n (l.toArray.size - n) pl (Array.replicate l.toArray.size false))=true:=by kernel_rfl):(Code.region id l.toArray true).wp P Q a w:=DL S n pl hm hB hS h
end
open Tryz
open Go.RowKit Go.Lib
structure bk7(d n done weight:Int):Prop where
 d0:0<=d
 d1:d<=1000
 n1:n<=281474976710656
 e0:0<=done
 w0:0<weight
 dw:done+weight<=n
theorem am5(d n done weight:Int)(w:World)(M:bk7 d n done weight) :
 aH 295 #[.int .i64 d,.int .u64 n,.int .u64 done,.int .u64 weight] w (aG w (.bool (EG d n done weight))):=by
 obtain⟨d0,d1,n1,e0,w0,dw⟩:=M;have p0:0<=weight * d:=Int.mul_nonneg ae d0
 have p1:weight * d<=weight * 1000:=Int.mul_le_mul_of_nonneg_left d1 ae
 have HF:=aI (al7 (weight * d * n) ((2 * done+weight) * (2 * n - 2 * done - weight)))
 go_enter func295,ntmps295
 go_wp2_with fail;refine(ED (weight * d) n _ p0 ae  ae  ae).mono ?_
 rintro e w1 ⟨rfl,hb1⟩;have hz1:=hb1.size
 go_wp2_with fail;refine(ED (2 * done+weight) (2 * n - 2 * done - weight) _ ae  ae  ae  ae).mono ?_
 rintro e w2 ⟨rfl,hb2⟩;have hz2:=hb2.size
 go_wp2_with fail;refine(al6 _ _ _).mono ?_
 rintro e w3 ⟨rfl,hb3⟩;have hz3:=hb3.size
 go_wp2_with fail
 go_ret;exact⟨uJ HF.o,bw⟩
theorem I9(a b:Mn)(w:World) :
 aH 218 #[.agg #[.int .i64 a.1,.int .u64 a.2],.agg #[.int .i64 b.1,.int .u64 b.2]] w (aG w (.bool (decide (a.1<b.1)))):=by
 go_enter func218,ntmps218
 go_wp2
 go_ret;exact⟨rfl,bw⟩
theorem xO(v:Value)(l:List Mn)(w:World)(h:qw w v l)(ho:mi l)(ht:tot l<=18446744073709551615) :
 aH 60 #[v] w (aG w (.int .u64 (tot l))):=by
 obtain⟨A,c,rfl,hn,hc,hp⟩:=h.form;have HP:=aI hp;clear hp h
 go_enter func60,ntmps60
 go_wp2_with fail
 go_loopg [3,4] l.length (fun k n i wr=>∃j:Nat,k=l.length - j/\j<=l.length/\n=.int .u64 (tot (l.take j))/\i=.int .i64 j/\Below w.heap.size w wr)
 case atStart=>exact⟨0,rfl,ae,rfl,rfl,aO _ _⟩
 case round=>
  obtain⟨j,hk,hj,rfl,rfl,hb⟩:=hrel;have HK:=aI hk;have hz:=hb.size;clear hk
  by_cases hlt:j<l.length
  ·obtain⟨g,off,rfl,hg,c0,c1⟩:=(HP.o.keep hb).at_ hlt
   have t0:=ho.yL j;have t1:=ho.J5 hlt;have o1:=(ho.get hlt).2.2;have HT:=aI (iC l j hlt);obtain⟨x,hx⟩:=aF (l[j].2);rw[hx] at c1 t1 o1;have HX:=aI hx;clear hx c0
   go_wp2_with fail
   go_roundg (l.length - (j+1))
   case measure=>have:=HK.o;omega
   case rel=>exact⟨j+1,rfl,ae,by rw[HT.o,HX.o],ai,bw⟩
  ·go_wp2_with fail
   go_ret;exact⟨kK (by rw[bP ae]),bw⟩
end Go.Proofs.YtilcnjbpmoijmaaGreat
