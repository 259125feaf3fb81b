/- Parts of a proof. No condition. -/
import Derived.Test.YtilcnjbpmoijmaaGreatPw02
import Derived.ProofKit
import Derived.OpenShut
import Derived.Carry
import Derived.ChangeSame
set_option maxRecDepth 100000
set_option maxHeartbeats 16000000
set_option linter.unusedVariables false
set_option linter.unusedSimpArgs false
namespace Go.Proofs.YtilcnjbpmoijmaaGreat
open Tryz
open Go.RowKit
variable{w w':World}{v:Value}{A:Option Addr}{base c g j off:Nat}{d n:Int}
theorem yJ{α:Type}{motive:List α->Prop}(nil:motive [])(snoc:∀l x,motive l->motive (l++[x]))(l:List α):motive l:=by
 have h:∀n (l:List α),l.length=n->motive l:=by
  intro n
  induction n with
  | zero=>intro l hl;rw[bz hl];exact nil
  | succ n ih=>
   intro l hl;have hne:l≠[]:=by rintro rfl;simp at hl
   rw[<-List.dropLast_concat_getLast hne];exact snoc _ _ (ih _ (by simp[hl]))
 exact h _ l rfl
abbrev Mn:=Int × Int
def MX(m:Mn):List Value:=[.int .i64 m.1,.int .u64 m.2]
def fM(l:List Mn):List Value:=l.flatMap MX
theorem Io(l:List Mn):(fM l).length=l.length * 2:=by
 induction l with
 | nil=>rfl
 | cons m l ih=>simp only[fM,List.flatMap_cons,aQ,aU] at *;rw[ih];simp[MX];omega
theorem xm(a b:List Mn):fM (a++b)=fM a++fM b:=by simp[fM]
theorem uN:∀(l:List Mn) (i:Nat) (h:i<l.length),(fM l)[i * 2]?=some (.int .i64 l[i].1)
 | m::l,0,_=>rfl
 | m::l,i+1,h=>by
  have:=uN l i (by simpa using h)
  rw[show(i+1) * 2=i * 2+2 by omega]
  simpa[fM,MX] using this
theorem uO:∀(l:List Mn) (i:Nat) (h:i<l.length),(fM l)[i * 2+1]?=some (.int .u64 l[i].2)
 | m::l,0,_=>rfl
 | m::l,i+1,h=>by
  have:=uO l i (by simpa using h)
  rw[show(i+1) * 2+1=i * 2+1+2 by omega]
  simpa[fM,MX] using this
theorem EF(l:List Mn):∀u∈fM l,u.oneCell'=true:=by
 intro u hu;obtain⟨m,_,hm⟩:=List.mem_flatMap.1 hu;simp[MX] at hm
 rcases hm with rfl|rfl<;>rfl
theorem MZ(l:List Mn)(k:Nat):(fM l).drop (k * 2)=fM (l.drop k):=by
 induction k generalizing l with
 | zero=>simp
 | succ k ih=>
  cases l with
  | nil=>simp[fM]
  | cons m l=>
   rw[show(k+1) * 2=k * 2+2 by omega]
   have:=ih l
   simpa[fM,MX] using this
theorem M_(l:List Mn)(k:Nat):(fM l).take (k * 2)=fM (l.take k):=by
 induction k generalizing l with
 | zero=>simp[fM]
 | succ k ih=>
  cases l with
  | nil=>simp[fM]
  | cons m l=>
   rw[show(k+1) * 2=k * 2+2 by omega]
   have:=ih l
   simpa[fM,MX] using this
def qw(w:World)(v:Value)(l:List Mn):Prop:=Rd 2 w v l.length (fM l)
theorem qw.keep{w w':World}{v:Value}{l:List Mn}(h:qw w v l)(hb:Below w.heap.size w w'):qw w' v l:=Rd.keep h hb
def mG(w:World)(A:Option Addr)(l:List Mn):Prop:=0<l.length->∃g off,A=some ⟨g,off,none⟩/\g<w.heap.size/\∀j,j<l.length * 2->w.cell? ⟨g,off+j,none⟩=(fM l)[j]?
theorem qw.form{l:List Mn}(h:qw w v l):∃A c,v=.slice A l.length c/\l.length<=c/\c<=9223372036854775807/\mG w A l:=by
 obtain⟨_,A,c,hv,h1,h2,h3⟩:=h;exact⟨A,c,hv,h1,by unfold maxLen at h2;omega,h3⟩
theorem qw.jY{l:List Mn}(h1:l.length<=c)(h2:c<=9223372036854775807)(h:mG w A l):qw w (.slice A l.length c) l:=
 ⟨Io l,A,c,rfl,h1,by unfold maxLen;omega,h⟩
theorem mG.keep{l:List Mn}(h:mG w A l)(hb:Below w.heap.size w w'):mG w' A l:=fun h0=>by
 obtain⟨g,off,hA,hg,hj⟩:=h h0;exact⟨g,off,hA,bF hg hb.size,fun j hj'=>(hb.cell (p:=⟨g,off+j,none⟩) hg).trans (hj j hj')⟩
theorem mG.at_{l:List Mn}(h:mG w A l)(hj:j<l.length) :
 ∃g off,A=some ⟨g,off,none⟩/\g<w.heap.size/\w.cell? ⟨g,off+j * 2,none⟩=some (.int .i64 l[j].1)/\w.cell? ⟨g,off+j * 2+1,none⟩=some (.int .u64 l[j].2):=by
 obtain⟨g,off,hA,hg,hc⟩:=h ae
 refine⟨g,off,hA,hg,?_,?_⟩
 ·rw[hc (j * 2) ae,uN l j hj]
 ·rw[Nat.add_assoc,hc (j * 2+1) ae,uO l j hj]
theorem mG.tail{l:List Mn}(h:mG w A l)(hA:A=some ⟨g,off,none⟩)(k:Nat):mG w (some ⟨g,off+k * 2,none⟩) (l.drop k):=fun h0=>by
 rw[bu] at h0;obtain⟨g',off',hA',hg,hc⟩:=h ae
 rw[hA] at hA';injection hA' with hA';injection hA' with e1 e2;subst e1;subst e2;refine⟨g,_,rfl,hg,fun j hj=>?_⟩
 rw[bu] at hj;rw[Nat.add_assoc,hc _ ae,<-MZ,List.getElem?_drop]
theorem mG.head{l:List Mn}(h:mG w A l)(k:Nat):mG w A (l.take k):=fun h0=>by
 have hl:=List.length_take_le k l;have hl':=List.length_take_le' k l;obtain⟨g,off,hA,hg,hc⟩:=h ae
 refine⟨g,off,hA,hg,fun j hj=>?_⟩
 rw[hc j ae,<-M_,List.getElem?_take,if_pos ae]
theorem mG.nil:mG w A []:=fun h=>absurd h ag
def fA(base:Nat)(w:World)(v:Value)(l:List Mn):Prop:=w.ownsRow base 203 2 v l.length (fM l)
theorem fA.rd{l:List Mn}(h:fA base w v l):qw w v l:=Rd.uK h
theorem fA.nil_(base:Nat)(w:World):fA base w (.slice none 0 0) []:=World.ownsRow_nil w base _ _
theorem fA.more{base':Nat}{l:List Mn}(h:fA base w v l)(hb:base'<=base):fA base' w v l:=by
 obtain⟨h1,h2⟩:=h;refine⟨h1,?_⟩
 rcases h2 with h2|⟨g,cap,cur,e1,e2,r⟩
 ·exact .inl h2
 ·exact .inr ⟨g,cap,cur,e1,ae,r⟩
theorem fA.stay{l:List Mn}(h:fA base w v l)(hk:∀g,v.ownBlock=some g->w'.heap[g]?=w.heap[g]?):fA base w' v l:=by
 obtain⟨h1,h2⟩:=h;refine⟨h1,?_⟩
 rcases h2 with h2|⟨g,cap,cur,rfl,e2,e3,r⟩
 ·exact .inl h2
 ·exact .inr ⟨g,cap,cur,rfl,e2,by rw[hk g rfl];exact e3,r⟩
theorem fA.lt{base:Nat}{w:World}{v:Value}{l:List Mn}(h:fA base w v l):∀g,v.ownBlock=some g->base<=g/\g<w.heap.size:=World.ownsRow.lt h
theorem fA.keep{l:List Mn}(h:fA base w v l)(hb:Below w.heap.size w w'):fA base w' v l:=h.stay fun g hg=>hb.block g (h.lt g hg).2
theorem fA.drew{base:Nat}{w:World}{v:Value}{l:List Mn}(h:fA base w v l):fA base w.drew v l:=h
theorem fA.alloc{base:Nat}{w:World}{v:Value}{l:List Mn}(h:fA base w v l)(o:Obj):fA base (w.alloc o) v l:=World.ownsRow.alloc h o
theorem fA.far{l:List Mn}(h:fA base w v l){p:Addr}(hp:v.ownBlock≠some p.block)(u:Value):fA base (w.setCell p u) v l:=
 h.stay fun g hg=>bM w p u g (fun e=>hp (by rw[hg,e]))
theorem fA.form{base:Nat}{w:World}{v:Value}{l:List Mn}(h:fA base w v l):∃A c,v=.slice A l.length c/\l.length<=c/\c<=9223372036854775807/\mG w A l:=h.rd.form
theorem fA.pos{l:List Mn}(h:fA base w v l)(h0:0<l.length):∃g c,v=.slice (some ⟨g,0,none⟩) l.length c/\base<=g/\g<w.heap.size/\l.length<=c/\c<=9223372036854775807:=by
 rcases h.2 with⟨_,h2⟩|⟨g,cap,cur,rfl,e2,e3,e4,e5,_⟩
 ·omega
 ·exact⟨g,cap,rfl,e2,(h.lt g rfl).2,e4,by unfold maxLen at e5;omega⟩
theorem fA.at_{l:List Mn}(h:fA base w (.slice (some ⟨g,0,none⟩) l.length c) l)(hj:j<l.length) :
 w.cell? ⟨g,j * 2,none⟩=some (.int .i64 l[j].1)/\w.cell? ⟨g,j * 2+1,none⟩=some (.int .u64 l[j].2)/\w.frozen? ⟨g,j * 2,none⟩=false/\w.frozen? ⟨g,j * 2+1,none⟩=false:=by
 refine⟨?_,?_,World.ownsRow.frozenAt h _,World.ownsRow.frozenAt h _⟩
 ·rw[World.ownsRow.cellAt h _ ae,uN l j hj]
 ·rw[World.ownsRow.cellAt h _ ae,uO l j hj]
theorem qw.one(w:World)(m:Mn):qw (w.alloc (.cells #[.int .i64 m.1,.int .u64 m.2] 203)) (.slice (some ⟨w.heap.size,0,none⟩) 1 1) [m]:=by
 refine qw.jY ag ae (fun _=>⟨w.heap.size,0,rfl,ag,fun j hj=>?_⟩)
 simp only[bW] at hj;have:j=0\/j=1:=ae
 rcases this with rfl|rfl<;>simp[fM,MX,World.cell?_alloc_new]
theorem qw.az0{l:List Mn}(h1:0<l.length)(h2:l.length<=c)(h3:c<=9223372036854775807)(h:mG w (some ⟨g,off,none⟩) l) :
 qw w (.slice (if c=1 then some ⟨g,off,none⟩ else some ⟨g,off+2,none⟩) (l.length - 1) (c - 1)) (l.drop 1):=by
 by_cases hc:c=1
 ·rw[if_pos hc]
  have h0:l.drop 1=[]:=bz (by rw[bu];omega)
  rw[h0,show l.length - 1=0 by omega]
  exact qw.jY (l:=[]) ag ae mG.nil
 ·rw[if_neg hc]
  have:=qw.jY (c:=c - 1) (l:=l.drop 1) (by rw[bu];omega) ae (h.tail rfl 1)
  rwa [bu] at this
def ins(x:Mn):List Mn->List Mn
 | []=>[x]
 | y::l=>if y.1<=x.1 then y::ins x l else x::y::l
def iU(l:List Mn):List Mn:=l.foldl (fun o x=>ins x o) []
def mrg:List Mn->List Mn->List Mn
 | [],b=>b
 | a,[]=>a
 | x::a,y::b=>if y.1<x.1 then y::mrg (x::a) b else x::mrg a (y::b)
theorem mrg_nil_right(a:List Mn):mrg a []=a:=by cases a<;>simp[mrg]
theorem mrg_nil_left(b:List Mn):mrg [] b=b:=by cases b<;>simp[mrg]
theorem QH{xs ys:List Mn}(ha:0<xs.length)(hb:0<ys.length)(h:ys[0].1<xs[0].1):mrg xs ys=ys[0]::mrg xs (ys.drop 1):=by
 match xs,ys,ha,hb,h with
 | x::xs,y::ys,_,_,h=>simp only[List.getElem_cons_zero] at h;rw[mrg,if_pos h];rfl
theorem QI{xs ys:List Mn}(ha:0<xs.length)(hb:0<ys.length)(h:¬ys[0].1<xs[0].1):mrg xs ys=xs[0]::mrg (xs.drop 1) ys:=by
 match xs,ys,ha,hb,h with
 | x::xs,y::ys,_,_,h=>simp only[List.getElem_cons_zero] at h;rw[mrg,if_neg h];rfl
theorem yK(x:Mn):∀s t:List Mn,mrg s (ins x t)=ins x (mrg s t)
 | [],t=>by simp[mrg]
 | y::s,[]=>by
  simp only[ins,mrg_nil_right];unfold mrg
  by_cases h:x.1<y.1
  ·rw[if_pos h,mrg_nil_right,if_neg ae]
  ·rw[if_neg h,if_pos ae]
   have:=yK x s [];simp only[ins,mrg_nil_right] at this;rw[this]
 | y::s,z::t=>by
  by_cases hz:z.1<=x.1
  ·have e:ins x (z::t)=z::ins x t:=by simp[ins,hz]
   rw[e];unfold mrg
   by_cases h:z.1<y.1
   ·rw[if_pos h,if_pos h,yK x (y::s) t]
    simp[ins,hz]
   ·rw[if_neg h,if_neg h]
    have:=yK x s (z::t);rw[e] at this;rw[this];simp only[ins];rw[if_pos (show y.1<=x.1 by omega)]
  ·have e:ins x (z::t)=x::z::t:=by simp[ins,hz]
   rw[e]
   by_cases hx:x.1<y.1
   ·rw[mrg,if_pos hx]
    unfold mrg
    by_cases h:z.1<y.1
    ·rw[if_pos h];simp only[ins];rw[if_neg hz]
    ·rw[if_neg h];simp only[ins];rw[if_neg ae]
   ·rw[mrg,if_neg hx]
    have:=yK x s (z::t);rw[e] at this;rw[this]
    conv=>rhs;rw[mrg,if_neg ae]
    simp only[ins];rw[if_pos (show y.1<=x.1 by omega)]
 termination_by s t=>s.length+t.length
theorem uP(l:List Mn)(x:Mn):iU (l++[x])=ins x (iU l):=by simp[iU]
theorem Wl(s:List Mn):∀b:List Mn,mrg s (iU b)=b.foldl (fun o x=>ins x o) s:=by
 intro b
 induction b using yJ with
 | nil=>simp[iU,mrg_nil_right]
 | snoc b x ih=>rw[uP,yK,ih,List.foldl_append];rfl
theorem nC(a b:List Mn):mrg (iU a) (iU b)=iU (a++b):=by
 rw[Wl,iU,iU,List.foldl_append]
theorem QJ(x:Mn)(l:List Mn):(ins x l).length=l.length+1:=by
 induction l with
 | nil=>rfl
 | cons y l ih=>simp only[ins];split<;>simp[ih]
theorem mO(l:List Mn):(iU l).length=l.length:=by
 induction l using yJ with
 | nil=>rfl
 | snoc l x ih=>rw[uP,QJ,ih];simp
theorem UC(x:Mn)(l:List Mn)(m:Mn):m∈ins x l<->m=x\/m∈l:=by
 induction l with
 | nil=>simp[ins]
 | cons y l ih=>
  simp only[ins]
  split
  ·simp only[bn,ih];constructor
   ·rintro (h|h|h)<;>simp[h]
   ·rintro (h|h|h)<;>simp[h]
  ·simp
theorem UD(l:List Mn)(m:Mn):m∈iU l<->m∈l:=by
 induction l using yJ with
 | nil=>simp[iU]
 | snoc l x ih=>rw[uP,UC,ih];simp[or_comm]
def iE(l:List Mn):Prop:=l.Pairwise (fun a b=>a.1<=b.1)
theorem IM(x:Mn):∀l:List Mn,iE l->iE (ins x l)
 | [],_=>by simp[ins,iE]
 | y::l,h=>by
  have h':=aZ.1 h;simp only[ins]
  split
  ·rename_i hy
   refine aZ.2 ⟨fun m hm=>?_,IM x l h'.2⟩
   rcases(UC x l m).1 hm with rfl|hm
   ·exact hy
   ·exact h'.1 m hm
  ·rename_i hy
   refine aZ.2 ⟨fun m hm=>?_,h⟩
   rcases bn.1 hm with rfl|hm
   ·omega
   ·have:=h'.1 m hm;omega
theorem IP(l:List Mn):iE (iU l):=by
 induction l using yJ with
 | nil=>simp[iU,iE]
 | snoc l x ih=>rw[uP];exact IM x _ ih
def tot:List Mn->Int
 | []=>0
 | m::l=>m.2+tot l
theorem eH(a b:List Mn):tot (a++b)=tot a+tot b:=by
 induction a with
 | nil=>simp[tot]
 | cons m a ih=>simp only[List.cons_append,tot,ih];omega
theorem al9(x:Mn)(l:List Mn):tot (ins x l)=x.2+tot l:=by
 induction l with
 | nil=>rfl
 | cons y l ih=>simp only[ins];split<;>simp only[tot,ih];omega
theorem JY(l:List Mn):tot (iU l)=tot l:=by
 induction l using yJ with
 | nil=>rfl
 | snoc l x ih=>rw[uP,al9,ih,eH];simp only[tot];omega
theorem iC(l:List Mn)(j:Nat)(h:j<l.length):tot (l.take (j+1))=tot (l.take j)+l[j].2:=by
 rw[bg h,eH];simp[tot]
def okM(m:Mn):Prop:=-9223372036854775808<=m.1/\m.1<=9223372036854775807/\0<m.2
def mi(l:List Mn):Prop:=∀m∈l,okM m
theorem mi.dN:∀{l:List Mn},mi l->0<=tot l
 | [],_=>by simp[tot]
 | m::l,h=>by
  have h1:=mi.dN (l:=l) (fun x hx=>h x (aY _ hx))
  have h2:=(h m (aT ..)).2.2;simp only[tot];omega
theorem mi.tail{m:Mn}{l:List Mn}(h:mi (m::l)):mi l:=fun x hx=>h x (aY _ hx)
theorem mi.append{a b:List Mn}(h:mi a)(k:mi b):mi (a++b):=fun m hm=>by
 rcases dB.1 hm with h1|h1
 ·exact h m h1
 ·exact k m h1
theorem mi.iU{l:List Mn}(h:mi l):mi (iU l):=fun m hm=>h m ((UD l m).1 hm)
theorem mi.take{l:List Mn}(h:mi l)(j:Nat):mi (l.take j):=fun m hm=>h m (List.mem_of_mem_take hm)
theorem mi.drop{l:List Mn}(h:mi l)(j:Nat):mi (l.drop j):=fun m hm=>h m (List.mem_of_mem_drop hm)
theorem mi.get{l:List Mn}(h:mi l)(hj:j<l.length):okM l[j]:=h _ (bf hj)
theorem mi.yL{l:List Mn}(h:mi l)(j:Nat):0<=tot (l.take j)/\tot (l.take j)<=tot l:=by
 have h1:=(h.take j).dN;have h2:=(h.drop j).dN;have h3:=eH (l.take j) (l.drop j);rw[List.take_append_drop] at h3;omega
theorem mi.J5{l:List Mn}(h:mi l)(hj:j<l.length):tot (l.take j)+l[j].2<=tot l:=by
 rw[<-iC l j hj];exact(h.yL _).2
def EG(d n done weight:Int):Bool:=decide (weight * d * n<=(2 * done+weight) * (2 * n - 2 * done - weight))
def iV(d n:Int):List Mn->Int->Mn->List Mn
 | [],_,now=>[now]
 | m::l,done,now=>if EG d n done (now.2+m.2) then iV d n l done (pg now.1 m.1 m.2 (now.2+m.2),now.2+m.2) else now::iV d n l (done+now.2) m
def qy(d n:Int):List Mn->List Mn
 | []=>[]
 | m::l=>iV d n l 0 m
def EH(d:Int)(l:List Mn):List Mn:=qy d (tot l) (iU l)
theorem xJ(d n:Int):∀(l:List Mn) (done:Int) (now:Mn),tot (iV d n l done now)=now.2+tot l
 | [],_,now=>by simp[iV,tot]
 | m::l,done,now=>by
  unfold iV
  split
  ·rw[xJ];simp only[tot];omega
  ·simp only[tot];rw[xJ]
theorem Wp(d n:Int)(l:List Mn):tot (qy d n l)=tot l:=by
 cases l with
 | nil=>rfl
 | cons m l=>simp only[qy,xJ,tot]
theorem Eb(d:Int)(l:List Mn):tot (EH d l)=tot l:=by rw[EH,Wp,JY]
theorem nD(d n:Int):∀(l:List Mn) (done:Int) (now:Mn),1<=(iV d n l done now).length/\(iV d n l done now).length<=l.length+1
 | [],_,now=>by simp[iV]
 | m::l,done,now=>by
  unfold iV
  split
  ·have:=nD d n l done (pg now.1 m.1 m.2 (now.2+m.2),now.2+m.2);simp only[aU];omega
  ·have:=nD d n l (done+now.2) m;simp only[aU];omega
theorem QK(d:Int)(l:List Mn):(EH d l).length<=l.length:=by
 unfold EH;have h:=mO l
 cases hs:iU l with
 | nil=>simp[qy]
 | cons m s=>rw[hs] at h;have:=(nD d (tot l) s 0 m).2;simp only[qy,aU] at *;omega
theorem UE(d:Int){l:List Mn}(hl:l≠[]):EH d l≠[]:=by
 unfold EH;have h:=mO l
 cases hs:iU l with
 | nil=>rw[hs] at h;simp at h;exact absurd h.symm (by simpa using hl)
 | cons m s=>intro h2;have:=(nD d (tot l) s 0 m).1;simp only[qy] at h2;rw[h2] at this;simp at this
theorem Ap(d n lo hi:Int):∀(l:List Mn) (done:Int) (now:Mn),mi (now::l)->iE (now::l)->(∀m∈now::l,lo<=m.1/\m.1<=hi) ->
 mi (iV d n l done now)/\iE (iV d n l done now)/\(∀m∈iV d n l done now,now.1<=m.1/\m.1<=hi)
 | [],_,now,h1,h2,h3=>⟨h1,h2,fun m hm=>by
  have:=h3 m hm;simp only[iV,List.mem_singleton] at hm;subst hm;exact⟨Int.le_refl _,this.2⟩⟩
 | m::l,done,now,h1,h2,h3=>by
  have hp:=aZ.1 h2;have hp2:=aZ.1 hp.2;have hle:now.1<=m.1:=hp.1 m (aT ..);have o1:=h1 now (aT ..);have o2:=h1 m (aY _ (aT ..));have o1':=o1.2.2;have o2':=o2.2.2;unfold iV
  split
  ·have hl:=EE hle (x:=m.2) (y:=now.2+m.2) ae  ae  ae
   have ob:okM (pg now.1 m.1 m.2 (now.2+m.2),now.2+m.2):=by
    unfold okM at *;refine⟨?_,?_,?_⟩<;>simp only<;>omega
   obtain⟨a,b,c⟩:=Ap d n lo hi l done (pg now.1 m.1 m.2 (now.2+m.2),now.2+m.2)
    (by intro x hx;rcases bn.1 hx with rfl|hx;exact ob;exact h1 x (by simp[hx]))
    (by refine aZ.2 ⟨fun x hx=>?_,hp2.2⟩;have:=hp2.1 x hx;simp only;omega)
    (by
     have b1:=h3 now (aT ..);have b2:=h3 m ag
     intro x hx;rcases bn.1 hx with rfl|hx
     ·simp only;omega
     ·exact h3 x (by simp[hx]))
   refine⟨a,b,fun x hx=>?_⟩
   have:=c x hx;simp only at this;omega
  ·obtain⟨a,b,c⟩:=Ap d n lo hi l (done+now.2) m h1.tail hp.2 (fun x hx=>h3 x (aY _ hx))
   refine⟨?_,aZ.2 ⟨fun x hx=>?_,b⟩,fun x hx=>?_⟩
   ·intro x hx;rcases bn.1 hx with rfl|hx;exact o1;exact a x hx
   ·have:=c x hx;omega
   ·rcases bn.1 hx with rfl|hx
    ·exact⟨Int.le_refl _,(h3 x (aT ..)).2⟩
    ·have:=c x hx;omega
theorem EJ(d lo hi:Int){l:List Mn}(h:mi l)(hb:∀m∈l,lo<=m.1/\m.1<=hi):mi (EH d l)/\iE (EH d l)/\(∀m∈EH d l,lo<=m.1/\m.1<=hi):=by
 unfold EH;have h1:=h.iU;have h2:=IP l;have h3:∀m∈iU l,lo<=m.1/\m.1<=hi:=fun m hm=>hb m ((UD l m).1 hm)
 cases hs:iU l with
 | nil=>exact⟨(fun m hm=>by simp[qy] at hm),by simp[qy,iE],(fun m hm=>by simp[qy] at hm)⟩
 | cons m s=>
  rw[hs] at h1 h2 h3;obtain⟨a,b,c⟩:=Ap d (tot l) lo hi s 0 m h1 h2 h3;refine⟨a,b,fun x hx=>?_⟩
  have:=c x hx;have:=h3 m (aT ..);omega
structure yN(d n:Int)(l:List Mn)(j:Nat)(acc:List Mn)(now:Mn):Prop where
 e:qy d n l=acc++iV d n (l.drop j) (tot acc) now
 t:tot acc+now.2+tot (l.drop j)=n
 ok:mi (now::l.drop j)
 oka:mi acc
 rise:iE (now::l.drop j)
 len:acc.length+1<=j
theorem yN.start(d:Int){l:List Mn}(h0:0<l.length)(ho:mi l)(hr:iE l):yN d (tot l) l 1 [] l[0]:=by
 match l,h0 with
 | m::l,_=>
  refine⟨by simp[qy,tot],by simp[tot],ho,(fun m hm=>by simp at hm),hr,ag⟩
theorem drop_cons{l:List Mn}(h:j<l.length):l.drop j=l[j]::l.drop (j+1):=List.drop_eq_getElem_cons h
theorem yN.facts{l:List Mn}{acc:List Mn}{now:Mn}(h:yN d n l j acc now)(hj:j<l.length) :
 0<=tot acc/\okM now/\okM l[j]/\now.1<=l[j].1/\tot acc+(now.2+l[j].2)<=n:=by
 have h1:=h.oka.dN;have h2:=h.ok;have h3:=h.rise;have h4:=h.t;rw[drop_cons hj] at h2 h3 h4;have h5:=h2.tail.tail.dN;simp only[tot] at h4;refine⟨h1,h2 _ (aT ..),h2 l[j] (aY _ (aT ..)),(aZ.1 h3).1 _ (aT ..),ae⟩
theorem yN.merge{l:List Mn}{acc:List Mn}{now:Mn}(h:yN d n l j acc now)(hj:j<l.length)(hm:EG d n (tot acc) (now.2+l[j].2)=true) :
 yN d n l (j+1) acc (pg now.1 l[j].1 l[j].2 (now.2+l[j].2),now.2+l[j].2):=by
 obtain⟨f1,f2,f3,f4,f5⟩:=h.facts hj;obtain⟨e,t,ok,oka,rise,len⟩:=h;rw[drop_cons hj] at e t ok rise;have o1:=f2.2.2;have o2:=f3.2.2;have hl:=EE f4 (x:=l[j].2) (y:=now.2+l[j].2) ae  ae  ae
 have hp:=aZ.1 rise;have hp2:=aZ.1 hp.2;refine⟨?_,?_,?_,oka,?_,ae⟩
 ·rw[e];conv=>lhs;rw[iV,if_pos hm]
 ·simp only[tot] at t |-;omega
 ·intro x hx
  rcases bn.1 hx with rfl|hx
  ·unfold okM at *;refine⟨?_,?_,?_⟩<;>simp only<;>omega
  ·exact ok x (aY _ (aY _ hx))
 ·refine aZ.2 ⟨fun x hx=>?_,hp2.2⟩
  have:=hp2.1 x hx;simp only;omega
theorem yN.push{l:List Mn}{acc:List Mn}{now:Mn}(h:yN d n l j acc now)(hj:j<l.length)(hm:EG d n (tot acc) (now.2+l[j].2)=false) :
 yN d n l (j+1) (acc++[now]) l[j]:=by
 obtain⟨e,t,ok,oka,rise,len⟩:=h;rw[drop_cons hj] at e t ok rise;have hp:=aZ.1 rise;have ht:tot (acc++[now])=tot acc+now.2:=by rw[eH];simp[tot]
 refine⟨?_,?_,ok.tail,?_,hp.2,ah⟩
 ·rw[e,ht,aX];conv=>lhs;rw[iV,if_neg (by rw[hm];simp)]
  rfl
 ·rw[ht];simp only[tot] at t;omega
 ·exact oka.append (fun m hm=>by simp only[List.mem_singleton] at hm;subst hm;exact ok m (aT ..))
theorem yN.fin{l:List Mn}{acc:List Mn}{now:Mn}(h:yN d n l l.length acc now):qy d n l=acc++[now]:=by
 have e:=h.e;rw[List.drop_length] at e;exact e
open Tryz
open Tryz
def nT(d:Int)(L W:List Mn)(m:Mn):List Mn:=if d<=(W.length:Int)+1 then EH d (L++(W++[m])) else L
def yO(d:Int)(W:List Mn)(m:Mn):List Mn:=if d<=(W.length:Int)+1 then [] else W++[m]
theorem Na(d:Int)(L W:List Mn)(m:Mn):tot (nT d L W m++yO d W m)=tot (L++W)+m.2:=by
 unfold nT yO
 split
 ·rw[List.append_nil,Eb];simp only[eH,tot];omega
 ·simp only[eH,tot];omega
theorem Nb(d:Int)(L W:List Mn)(m:Mn):(nT d L W m).length+(yO d W m).length<=L.length+W.length+1:=by
 unfold nT yO
 split
 ·have:=QK d (L++(W++[m]));simp only[aQ,aU,bC] at this |-;omega
 ·simp only[aQ,aU,bC];omega
theorem QL(d:Int)(L W:List Mn)(m:Mn):nT d L W m++yO d W m≠[]:=by
 unfold nT yO
 split
 ·rw[List.append_nil];exact UE d ag
 ·simp
theorem Y5(d:Int)(W:List Mn)(m:Mn)(hd:0<d):((yO d W m).length:Int)<d:=by
 unfold yO
 split
 ·simpa using hd
 ·simp only[aQ,aU,bC];omega
structure St where
 L:List Mn
 W:List Mn
 lo:Int
 hi:Int
namespace St
variable{d:Int}{s:St}{k:Nat}
def zero:St:=⟨[],[],0,0⟩
def add(d:Int)(s:St)(a k:Int):St:=⟨nT d s.L s.W (a,k),yO d s.W (a,k),if tot (s.L++s.W)=0 then a else min s.lo a,if tot (s.L++s.W)=0 then a else max s.hi a⟩
def take(d:Int)(s t:St):St:=
 if tot (t.L++t.W)=0 then s else⟨EH d (s.L++(s.W++(t.L++t.W))),[],if tot (s.L++s.W)=0 then t.lo else min s.lo t.lo,if tot (s.L++s.W)=0 then t.hi else max s.hi t.hi⟩
structure Ok(d:Int)(s:St)(k:Nat):Prop where
 ok:mi (s.L++s.W)
 bd:∀m∈s.L++s.W,s.lo<=m.1/\m.1<=s.hi
 Y6:-9223372036854775808<=s.lo
 lo1:s.lo<=9223372036854775807
 hi0:-9223372036854775808<=s.hi
 hi1:s.hi<=9223372036854775807
 emp:s.L++s.W=[]->s.lo=0/\s.hi=0
 len:s.L.length+s.W.length<=k
 wl:(s.W.length:Int)<d
 rise:iE s.L
theorem UF(d:Int)(h:0<d):zero.Ok d 0:=⟨fun m hm=>by simp[zero] at hm,fun m hm=>by simp[zero] at hm,by simp[zero],by simp[zero],by simp[zero],by simp[zero],fun _=>⟨rfl,rfl⟩,by simp[zero],by simpa[zero] using h,by simp[zero,iE]⟩
theorem Ok.more{j:Nat}(h:s.Ok d k)(hk:k<=j):s.Ok d j:=⟨h.ok,h.bd,h.Y6,h.lo1,h.hi0,h.hi1,h.emp,bJ h.len hk,h.wl,h.rise⟩
theorem am0{l:List Mn}(h:mi l)(hne:l≠[]):0<tot l:=by
 match l,hne with
 | m::l,_=>
  have h1:=(h m (aT ..)).2.2;have h2:=h.tail.dN;simp only[tot];omega
theorem Ok.J6(h:s.Ok d k):tot (s.L++s.W)=0<->s.L++s.W=[]:=by
 constructor
 ·intro h0
  by_cases hne:s.L++s.W=[]
  ·exact hne
  ·have:=am0 h.ok hne;omega
 ·intro h0;rw[h0];rfl
theorem Ok.qR(h:s.Ok d k):0<=tot (s.L++s.W):=h.ok.dN
theorem bj9(d:Int)(s:St)(a k:Int):tot ((s.add d a k).L++(s.add d a k).W)=tot (s.L++s.W)+k:=Na d s.L s.W (a,k)
theorem Ok.add{d:Int}{s:St}{k:Nat}(h:s.Ok d k)(hd:0<d){a n:Int}(a0:-9223372036854775808<=a)(a1:a<=9223372036854775807)(n0:0<n):(s.add d a n).Ok d (k+1):=by
 have hlo:(if tot (s.L++s.W)=0 then a else min s.lo a)<=a/\(tot (s.L++s.W)≠0->(if tot (s.L++s.W)=0 then a else min s.lo a)<=s.lo)/\-9223372036854775808<=(if tot (s.L++s.W)=0 then a else min s.lo a):=by
  have:=h.Y6
  split<;>refine⟨by omega,ae,ae⟩
 have hhi:a<=(if tot (s.L++s.W)=0 then a else max s.hi a)/\(tot (s.L++s.W)≠0->s.hi<=(if tot (s.L++s.W)=0 then a else max s.hi a))/\(if tot (s.L++s.W)=0 then a else max s.hi a)<=9223372036854775807:=by
  have:=h.hi1
  split<;>refine⟨by omega,ae,ae⟩
 have hall:mi (s.L++(s.W++[(a,n)])):=by
  rw[<-aX];exact h.ok.append (fun m hm=>by simp only[List.mem_singleton] at hm;subst hm;exact⟨a0,a1,n0⟩)
 have hbd:∀m∈s.L++(s.W++[(a,n)]),(if tot (s.L++s.W)=0 then a else min s.lo a)<=m.1/\m.1<=(if tot (s.L++s.W)=0 then a else max s.hi a):=by
  intro m hm;rw[<-aX] at hm
  rcases dB.1 hm with h1|h1
  ·have h2:=h.bd m h1
   have h3:tot (s.L++s.W)≠0:=fun e=>by rw[h.J6.1 e] at h1;cases h1
   have:=hlo.2.1 h3;have:=hhi.2.1 h3;omega
  ·simp only[List.mem_singleton] at h1
   subst h1;exact⟨hlo.1,hhi.1⟩
 refine⟨?_,?_,hlo.2.2,by show(if _ then _ else _)<=_;omega,by show _<=(if _ then _ else _);omega,hhi.2.2,fun e=>absurd e (QL d s.L s.W (a,n)),?_,Y5 d s.W (a,n) hd,?_⟩
 ·show mi (nT d s.L s.W (a,n)++yO d s.W (a,n))
  unfold nT yO
  split
  ·rw[List.append_nil]
   exact(EJ d _ _ hall hbd).1
  ·exact hall
 ·show ∀m∈nT d s.L s.W (a,n)++yO d s.W (a,n),(if tot (s.L++s.W)=0 then a else min s.lo a)<=m.1/\m.1<=(if tot (s.L++s.W)=0 then a else max s.hi a)
  generalize (if tot (s.L++s.W)=0 then a else min s.lo a)=lo at *
  generalize (if tot (s.L++s.W)=0 then a else max s.hi a)=hi at *
  unfold nT yO
  split
  ·rw[List.append_nil]
   exact(EJ d _ _ hall hbd).2.2
  ·exact hbd
 ·have:=Nb d s.L s.W (a,n)
  have:=h.len;show(nT d s.L s.W (a,n)).length+(yO d s.W (a,n)).length<=k+1
  omega
 ·show iE (nT d s.L s.W (a,n))
  unfold nT
  split
  ·exact(EJ d _ _ hall hbd).2.1
  ·exact h.rise
end St
open Tryz
variable{d hi lo:Int}
def kZ(lo hi:Int)(nl:Nat):Nat->Int->Int->List Mn->Bool
 | _,_,_,[]=>true
 | i,p,t,m::r=>if m.2=0\/281474976710656 - t<m.2\/m.1<lo\/hi<m.1\/(0<i/\i<nl/\m.1<p) then false else kZ lo hi nl (i+1) m.1 (t+m.2) r
def iq(d lo hi:Int)(L W:List Mn):Bool:=decide (10<=d/\d<=1000/\(W.length:Int)<d) && kZ lo hi L.length 0 0 0 (L++W) && decide (0<tot (L++W)\/(lo=0/\hi=0))
def qK(l:List Mn):Prop:=∀m∈l,-9223372036854775808<=m.1/\m.1<=9223372036854775807/\0<=m.2/\m.2<=18446744073709551615
theorem IQ{lo hi:Int}{nl:Nat}:∀{l:List Mn} {i:Nat} {p t:Int},kZ lo hi nl i p t l=true->qK l->0<=t->t<=281474976710656->mi l/\(∀m∈l,lo<=m.1/\m.1<=hi)/\t+tot l<=281474976710656
 | [],i,p,t,_,_,t0,t1=>⟨fun m hm=>(by cases hm),fun m hm=>(by cases hm),by simp only[tot];omega⟩
 | m::r,i,p,t,h,hr,t0,t1=>by
  unfold kZ at h
  split at h
  ·cases h
  ·rename_i hc
   have hm:=hr m (aT ..);obtain⟨a,b,c⟩:=IQ h (fun x hx=>hr x (aY _ hx)) ae  ae
   refine⟨fun x hx=>?_,fun x hx=>?_,by simp only[tot];omega⟩
   ·rcases bn.1 hx with rfl|hx
    ·exact⟨hm.1,hm.2.1,ae⟩
    ·exact a x hx
   ·rcases bn.1 hx with rfl|hx
    ·omega
    ·exact b x hx
theorem EO{lo hi:Int}{nl:Nat}:∀{l:List Mn} {i:Nat} {p t:Int},kZ lo hi nl i p t l=true->0<i->iE ((p,0)::l.take (nl - i))
 | [],i,p,t,_,_=>by simp[iE]
 | m::r,i,p,t,h,h0=>by
  unfold kZ at h
  split at h
  ·cases h
  ·rename_i hc
   rcases bV i nl with hi'|hi'
   ·have ih:=EO h ae
    obtain⟨k,hk⟩:∃k,nl - i=k+1:=⟨nl - i - 1,ae⟩
    have hk2:nl - (i+1)=k:=ae
    rw[hk2] at ih;rw[hk,List.take_succ_cons];have h1:=aZ.1 ih;refine aZ.2 ⟨fun x hx=>?_,aZ.2 ⟨h1.1,h1.2⟩⟩
    rcases bn.1 hx with rfl|hx
    ·simp only;omega
    ·have:=h1.1 x hx;simp only at this |-;omega
   ·rw[show nl - i=0 by omega];simp[iE]
theorem Nc{nl:Nat}{l:List Mn}(h:kZ lo hi nl 0 0 0 l=true):iE (l.take nl):=by
 cases l with
 | nil=>simp[iE]
 | cons m r=>
  unfold kZ at h
  split at h
  ·cases h
  ·cases nl with
   | zero=>simp[iE]
   | succ k=>
    have:=EO h ae
    rw[List.take_succ_cons];simp only[Nat.zero_add,Nat.add_sub_cancel] at this;have h1:=aZ.1 this;exact aZ.2 ⟨h1.1,h1.2⟩
theorem Nh{lo hi:Int}{nl:Nat}:∀{l:List Mn} {i:Nat} {p t:Int},mi l->(∀m∈l,lo<=m.1/\m.1<=hi)->t+tot l<=281474976710656->(0<i->iE ((p,0)::l.take (nl - i)))->(i=0->iE (l.take nl))->kZ lo hi nl i p t l=true
 | [],i,p,t,_,_,_,_,_=>by simp[kZ]
 | m::r,i,p,t,ho,hb,ht,h1,h2=>by
  have hm:=ho m (aT ..);have hm2:=hm.2.2;have hmb:=hb m (aT ..);have hr:=ho.tail.dN;simp only[tot] at ht;have hp:0<i->i<nl->p<=m.1:=fun h3 h4=>by
   have:=h1 h3;obtain⟨k,hk⟩:∃k,nl - i=k+1:=⟨nl - i - 1,ae⟩
   rw[hk,List.take_succ_cons] at this;exact(aZ.1 this).1 m (aT ..)
  have hn:iE ((m.1,0)::r.take (nl - (i+1))):=by
   rcases bQ i with h0|h0
   ·subst h0
    cases nl with
    | zero=>simp[iE]
    | succ k=>
     have:=h2 rfl;rw[List.take_succ_cons] at this;have h3:=aZ.1 this;rw[show k+1 - (0+1)=k by omega]
     exact aZ.2 ⟨h3.1,h3.2⟩
   ·rcases bV i nl with h4|h4
    ·have:=h1 h0
     obtain⟨k,hk⟩:∃k,nl - i=k+1:=⟨nl - i - 1,ae⟩
     have hk2:nl - (i+1)=k:=ae
     rw[hk,List.take_succ_cons] at this;rw[hk2];have h3:=aZ.1 (aZ.1 this).2;exact aZ.2 ⟨h3.1,h3.2⟩
    ·rw[show nl - (i+1)=0 by omega];simp[iE]
  unfold kZ;rw[if_neg ae]
  exact Nh ho.tail (fun x hx=>hb x (aY _ hx)) ae (fun _=>hn) (fun h=>by omega)
theorem Y7{L W:List Mn}(h:iq d lo hi L W=true)(hr:qK (L++W))(l0:-9223372036854775808<=lo)(l1:lo<=9223372036854775807)(h0:-9223372036854775808<=hi)(h1:hi<=9223372036854775807) :
 (St.mk L W lo hi).Ok d (L.length+W.length)/\tot (L++W)<=281474976710656/\10<=d/\d<=1000:=by
 unfold iq at h;simp only[Bool.and_eq_true,decide_eq_true_eq] at h;obtain⟨⟨⟨a,b,c⟩,g⟩,e⟩:=h;obtain⟨g1,g2,g3⟩:=IQ g hr ae  ae
 have g4:=Nc g;rw[List.take_append_of_le_length (aS _),List.take_length] at g4;refine⟨⟨g1,g2,l0,l1,h0,h1,fun he=>?_,aS _,c,g4⟩,ae,a,b⟩
 simp only at he;rw[he] at e;simp only[tot] at e;simp only;omega
theorem Y8{s:St}{k:Nat}(h:s.Ok d k)(ht:tot (s.L++s.W)<=281474976710656)(d0:10<=d)(d1:d<=1000):iq d s.lo s.hi s.L s.W=true:=by
 unfold iq;simp only[Bool.and_eq_true,decide_eq_true_eq];refine⟨⟨⟨d0,d1,h.wl⟩,Nh h.ok h.bd ae (fun h=>absurd h ae) (fun _=>?_)⟩,?_⟩
 ·rw[List.take_append_of_le_length (aS _),List.take_length];exact h.rise
 ·by_cases h0:tot (s.L++s.W)=0
  ·exact .inr (h.emp (h.J6.1 h0))
  ·have:=h.qR;exact .inl ae
open Tryz
open Go.RowKit Go.ChangeShapes Go.WideShapes
def iY(k:IntKind)(w:World)(v:Value)(zs:List Int):Prop:=Rd 1 w v zs.length (zs.map (Value.int k))
def Y9(k:IntKind)(w:World)(A:Option Addr)(zs:List Int):Prop:=0<zs.length->∃g off,A=some ⟨g,off,none⟩/\g<w.heap.size/\∀j (h:j<zs.length),w.cell? ⟨g,off+j,none⟩=some (.int k zs[j])
section
variable {k : IntKind} {w w' : World} {v : Value} {zs : List Int}
theorem iY.keep(h:iY k w v zs)(hb:Below w.heap.size w w'):iY k w' v zs:=Rd.keep h hb
theorem iY.form(h:iY k w v zs):∃A c,v=.slice A zs.length c/\zs.length<=c/\c<=9223372036854775807/\Y9 k w A zs:=by
 obtain⟨_,A,c,hv,h1,h2,h3⟩:=h;refine⟨A,c,hv,h1,by unfold maxLen at h2;omega,fun h0=>?_⟩
 obtain⟨g,off,hA,hg,hj⟩:=h3 h0;refine⟨g,off,hA,hg,fun j h=>?_⟩
 rw[hj j ae]
 simp[a_ h]
theorem Y9.at_{A:Option Addr}(h:Y9 k w A zs){j:Nat}(hj:j<zs.length):∃g off,A=some ⟨g,off,none⟩/\g<w.heap.size/\w.cell? ⟨g,off+j,none⟩=some (.int k zs[j]):=by
 obtain⟨g,off,hA,hg,hc⟩:=h ae
 exact⟨g,off,hA,hg,hc j hj⟩
end
section
variable {H : Type} {enc : TypeId × Value -> H} {P : Program} {w : World} {base : Nat} {held : Bool}
theorem xn(hl:laidOutB P=true){W W':World}(hb:Below W.heap.size W W'){sp:Nat->Bool}:∀{ts:List TypeId} {vs:List Value} {ds:List (DataW H)} {ps:List MemPlace},
 (∀t∈ts,P.readableRec t=true/\t<P.types.size)->DataW.TrodAll enc P W 0 (fun _=>true) true ts vs ds ps->(∀x∈ps,x.block<W.heap.size)->(∀x∈ps,sp x.block=true)->DataW.TrodAll enc P W' 0 sp true ts vs ds ps
 | [],_,_,_,_,h,_,_=>by
  obtain⟨rfl,rfl,rfl⟩:=trodAll_nil h;exact trodAll_mk0
 | t::ts,_,_,_,hr,h,hlt,hsp=>by
  obtain⟨v,vs1,d,ds1,a,b,rfl,rfl,rfl,h1,h2⟩:=trodAll_cons h;obtain⟨r1,r2⟩:=hr t (aT ..);refine trodAll_cons_mk (WideElems.Trod_stays hl r1 r2 h1 (fun x hx=>hb.same (hlt x (by simp[hx]))) (fun x hx=>hsp x (by simp[hx]))) ?_
  exact xn hl hb (fun t ht=>hr t (aY _ ht)) h2 (fun x hx=>hlt x (by simp[hx])) (fun x hx=>hsp x (by simp[hx]))
end
section
variable {H : Type} {enc : TypeId × Value -> H} {P : Program}
theorem bk0{f:Func}{s:ChangeSpec}{fresh handsOn again:Bool}{W W':World}{args:Array Value}{ds:List (DataW H)}{before:List MemPlace}{t:TypeId}
 (hl:laidOutB P=true) (hr:(f.params.toList.all fun t=>P.readableRec t && decide (t<P.types.size))=true) (hv:s.vars=[]) (hrt:f.resultTypes=#[t]) (ht:P.underlying t=some .bool)
 (hW:DataW.Whole enc P f.params.toList s.vars false W args.toList ds [] before) (hsp:s.fn H ds={results:=[.lit (.bool true)],args:=ds}) (hb:Below W.heap.size W W') :
 s.post enc P f false fresh handsOn again W args (.bool true) W':=by
 have hlt:∀p∈before,p.block<W.heap.size:=fun p hp=>hW.lt p hp
 have hold:∀p∈before,(fun b=>decide (b<W.heap.size)) p.block=true:=fun p hp=>by simpa using hlt p hp
 have hW':=hW;obtain⟨p,q,hA,hV,rfl,hz,hn⟩:=hW;have hr':∀t∈f.params.toList,P.readableRec t=true/\t<P.types.size:=fun t ht=>by
  have:=List.all_eq_true.1 hr t ht
  simpa using this
 rw[hv] at hV;obtain⟨_,rfl⟩:=trodVars_none hV;have hlt':∀x∈p,x.block<W.heap.size:=fun x hx=>hlt x (by simp[hx])
 have hargs:∀sp:Nat->Bool,(∀x∈p,sp x.block=true)->DataW.TrodAll enc P W' 0 sp true f.params.toList args.toList (s.fn H (ds++[])).args p:=fun sp hsp2=>by
  rw[List.append_nil,hsp];exact xn hl hb hr' hA hlt' hsp2
 have hres:∀(b:Nat) (sp:Nat->Bool) (hd:Bool),DataW.TrodAll enc P W' b sp hd f.resultTypes.toList ((Value.bool true).resultList f.resultTypes.size) (s.fn H (ds++[])).results []:=fun b sp hd=>by
  rw[List.append_nil,hsp,hrt];exact trodAll_cons_mk (shut_bool ht _) trodAll_mk0
 have hvars:∀sp:Nat->Bool,DataW.TrodVars enc P W' sp s.vars (s.fn H (ds++[])).vars []:=fun sp=>by
  rw[List.append_nil,hsp,hv];exact rfl
 refine⟨ds,[],p++[],[],p,[],hW',hres _ _ _,hargs _ (fun x hx=>by simpa using hlt' x hx),hvars _,World.keptBut_mono (fun x hx=>⟨hx,.inr (by simpa using hx)⟩) (hb.frame (·∈p++[])),fun _=>?_⟩
 refine⟨ok_one hrt rfl (okWide_bool_mk ht _),_,_,([]++p)++[],⟨[]++p,[],trodAll_append (hargs _ (fun _ _=>rfl)) (hres _ _ _),hvars _,rfl,?_,?_⟩,?_⟩
 ·intro b off hp
  have hin:MemPlace.cell b off∈p:=by simpa using hp
  rw[hb.frozen (hlt' _ hin)];exact hz b off (by simpa using hin)
 ·intro ha
  cases ha
 ·intro x hx _
  simpa using hx
end
end Go.Proofs.YtilcnjbpmoijmaaGreat
