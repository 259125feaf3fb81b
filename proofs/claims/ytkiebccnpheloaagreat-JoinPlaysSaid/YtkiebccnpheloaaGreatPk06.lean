/- Parts of a proof: what its theorem reaches, words cut short. No condition of its own. -/
import Derived.StillTail
import Derived.OrdersHeld
import Derived.Test.YtkiebccnpheloaaGreatPk03
import Derived.Test.YtkiebccnpheloaaGreatPk04
set_option maxRecDepth 100000
set_option maxHeartbeats 16000000
set_option linter.unusedVariables false
set_option linter.unusedSimpArgs false
namespace Go.Proofs.YtkiebccnpheloaaGreat
open Go.RowKit
section
variable {P : Program} {ops : Array Oper} {md : Region.Mode} {S : World -> Prop}
def WE(S:World->Prop)(v u:Value)(w:World):Prop:=u=v/\S w
def au4(S:World->Prop)(v:Value)(e:Ending)(w:World):Prop:=e=.returned v/\S w
def Gives(P:Program)(S:World->Prop)(v:Value):Result Next->Prop
 | .ok (.value u) w=>WE S v u w
 | .ok (.enter f args) w=>Calls P f args w (au4 S v)
 | _=>False
@[go_sem] theorem ai0 {v:Value} (u:Value) (w:World):Gives P S v (.ok (.value u) w)=WE S v u w:=rfl
@[go_sem] theorem ai1 {v:Value} (f:FuncId) (args:Array Value) (w:World):Gives P S v (.ok (.enter f args) w)=Calls P f args w (au4 S v):=rfl
def kE(P:Program)(ops:Array Oper)(S:World->Prop)(o:Oper)(v:Value)(a:Act):Prop:=
 (Region.wanted o (yielded ops a.tmps)=true/\∀w,S w->Gives P S v ((execOp a.eval o).run P w)) \/
 (Region.wanted o (yielded ops a.tmps)=false/\v=undef)
theorem kE.of_same{o:Oper}{v:Value}{a a':Act}(hy:kE P ops S o v a)(he:execOp a'.eval o=execOp a.eval o)
 (hw:Region.wanted o (yielded ops a'.tmps)=Region.wanted o (yielded ops a.tmps)):kE P ops S o v a':=by
 unfold kE at *;rw[he,hw];exact hy
theorem kE.wpOp{Q:Exit->Act->World->Prop}{i:Nat}{o:Oper}{v:Value}{a:Act}(hi:ops[i]?=some o)(hy:kE P ops S o v a)
 {K:Act->World->Prop} {w:World} (hS:S w) (h:∀w',S w'->K (a.put o.dst v) w'):Go.wpOp P ops Q i K a w:=by
 unfold Go.wpOp;simp only[hi]
 rcases hy with⟨hw,hv⟩|⟨hw,rfl⟩
 ·simp only[hw,if_true]
  refine .inl ?_
  have hg:=hv w hS;unfold Oper.wp;generalize (execOp a.eval o).run P w=r at *
  cases r with
  | ok n w'=>
   cases n<;>simp only[Gives,WE,Oper.upon] at hg |-
   case value u=>obtain⟨rfl,hS'⟩:=hg;exact h _ hS'
   case enter f args=>
    refine Calls.mono hg fun e w'' he=>?_
    obtain⟨rfl,hS'⟩:=he;exact h _ hS'
  | halt x w'=>simp only[Gives] at hg
 ·simp only[hw,Bool.false_eq_true,if_false];exact h _ hS
def BO(P:Program)(md:Region.Mode)(ops:Array Oper)(S:World->Prop)(n:Nat)(L:Array Bool->Act->Prop):Nat->Array Bool->Act->Prop
 | 0,listed,a=>L listed a
 | f+1,listed,a=>
  Region.ready md ops listed≠[]/\∀i∈Region.ready md ops listed,i<n/\∃o v,ops[i]?=some o/\kE P ops S o v a/\BO P md ops S n L f (listed.setIfInBounds i true) (a.put o.dst v)
theorem sO{n g:Nat}{L:Array Bool->Act->Prop}{Q:Exit->Act->World->Prop}(hL:∀listed a,L listed a->∀w,S w->wpAny P md ops Q g listed a w) :
 ∀(f:Nat) (listed:Array Bool) (a:Act),BO P md ops S n L f listed a->∀w,S w->wpAny P md ops Q (f+g) listed a w
 | 0,listed,a,h,w,hS=>by rw[Nat.zero_add];exact hL _ _ h w hS
 | f+1,listed,a,h,w,hS=>by
  rw[show f+1+g=(f+g)+1 by omega]
  refine⟨fun h0=>absurd h0 h.1,fun i hi=>?_⟩
  obtain⟨_,o,v,ho,hy,hn⟩:=h.2 i hi;exact hy.wpOp ho hS fun w' hS'=>sO hL f _ _ hn w' hS'
theorem H7{n i:Nat}{oi:Oper}{v:Value}{L:Array Bool->Act->Prop}(hi:ops[i]?=some oi)(hsel:∀(j:Nat) (o:Oper) cs b,ops[j]?=some o->o.op≠.select cs b)
 (hs:Region.sinkB md ops n=true) (hc:Region.chainB md ops n=true) (hn:n<ops.size) (hin:i<n)
 (hdone:∀listed a,L listed a->∀j∈Region.ready md ops listed,n<=j) :
 ∀(f:Nat) (listed:Array Bool) (a:Act),HeadInv md ops n listed ->
  (∀j oj,ops[j]?=some oj->j≠i->listed.getD j true=false->(∀e∈oj.after,Region.binds md e=true->e.on≠i)->oi.apart ops oj=true) ->
  i∈Region.ready md ops listed->kE P ops S oi v a ->
  BO P md ops S n L f (listed.setIfInBounds i true) (a.put oi.dst v)->BO P md ops S n L (f+1) listed a:=by
 intro f
 induction f with
 | zero=>
  intro listed a inv _ hr hy H;have hun:=(mem_ready.1 hr).1;refine⟨fun h=>(by rw[h] at hr;cases hr),fun j hj=>?_⟩
  have hjn:j<n:=by
   rcases bJ j n with h|h
   ·exact h
   ·exact absurd hj (tail_waits hs hc hn inv _ i rfl hin hun j h)
  refine⟨hjn,?_⟩
  by_cases hji:j=i
  ·subst hji;exact⟨oi,v,hi,hy,H⟩
  ·have:=hdone _ _ H j (ready_mono hj hji)
   omega
 | succ f ih=>
  intro listed a inv hfree hr hy H;have hun:=(mem_ready.1 hr).1;refine⟨fun h=>(by rw[h] at hr;cases hr),fun j hj=>?_⟩
  have hjn:j<n:=by
   rcases bJ j n with h|h
   ·exact h
   ·exact absurd hj (tail_waits hs hc hn inv _ i rfl hin hun j h)
  refine⟨hjn,?_⟩
  by_cases hji:j=i
  ·subst hji;exact⟨oi,v,hi,hy,H⟩
  ·obtain⟨_,oj,u,hoj,hyj,hnext⟩:=H.2 j (ready_mono hj hji)
   obtain⟨hjun,oj',bd1,hall⟩:=mem_ready.1 hj;have bd2:oj'=oj:=Option.some.inj (bd1.symm.trans hoj);subst bd2;have hnot:∀e∈oj'.after,Region.binds md e=true->e.on≠i:=fun e he hb heq=>by
    have h1:=hall e he hb;rw[heq,getD_both hun] at h1
    cases h1
   obtain⟨h1,h2,h3⟩:=Oper.apart_spec (hfree j oj' hoj hji hjun hnot);have hfree':∀k ok,ops[k]?=some ok->k≠i->(listed.setIfInBounds j true).getD k true=false ->
    (∀e∈ok.after,Region.binds md e=true->e.on≠i)->oi.apart ops ok=true:=fun k ok hk hki hun' hno=>by
    refine hfree k ok hk hki ?_ hno
    by_cases hjk:j=k
    ·subst hjk;exact hjun
    ·rw[getD_set_ne true hjk] at hun';exact hun'
   have bd3:kE P ops S oj' u a:=hyj.of_same (execOp_put oj' (fun cs b=>hsel j oj' cs b hoj) a oi.dst v h1).symm (wanted_put oj' a oi.dst v h1).symm
   have bd4:kE P ops S oi v (a.put oj'.dst u):=hy.of_same (execOp_put oi (fun cs b=>hsel i oi cs b hi) a oj'.dst u h3) (wanted_put oi a oj'.dst u h3)
   refine⟨oj',u,hoj,bd3,ih _ _ (inv.set hj hjn) hfree' (ready_mono hr (Ne.symm hji)) bd4 ?_⟩
   rw[Array.setIfInBounds_comm _ _ hji,<-Act.put_comm a v u h2];exact hnext
def yJ(P:Program)(ops:Array Oper)(S:World->Prop)(Lq:Act->Prop):List Oper->Act->Prop
 | [],a=>Lq a
 | o::rest,a=>∃v,kE P ops S o v a/\yJ P ops S Lq rest (a.put o.dst v)
theorem BP{n g:Nat}{Lq:Act->Prop}(hsel:Region.noSelect ops=true)(hs:Region.sinkB md ops n=true)(hc:Region.chainB md ops n=true)(hn:n<ops.size) :
 ∀(l:List Oper) (k:Nat) (listed:Array Bool) (a:Act),(∀j,j<l.length->l[j]?=ops[k+j]?)->k+l.length=n->HeadInv md ops n listed ->
 Region.lexHead md ops g l.length k listed=true->yJ P ops S Lq l a ->
 BO P md ops S n (fun listed' a'=>Region.seqB md ops g n listed'=true/\Lq a') l.length listed a
 | [],k,listed,a,_,hk,_,hB,h=>by
  have:k=n:=by simpa using hk
  subst this;exact⟨by simpa[Region.lexHead] using hB,h⟩
 | o::l,k,listed,a,hl,hk,inv,hB,h=>by
  have h0:ops[k]?=some o:=by simpa using (hl 0 ag).symm
  simp only[aP,Region.lexHead,Bool.and_eq_true] at hB;obtain⟨⟨hr,hf⟩,hB'⟩:=hB;have hkn:k<n:=by simp only[aP] at hk;omega
  have hr':k∈Region.ready md ops listed:=by simpa using hr
  obtain⟨v,hy,hK⟩:=h;exact H7 h0 (Region.noSelect_spec hsel) hs hc hn hkn (fun listed' a' hL=>seqB_ready hL.1) l.length listed a inv (Region.free_spec h0 hf) hr' hy
   (BP hsel hs hc hn l (k+1) _ _ (fun j hj=>by have:=hl (j+1) ah ;simpa[Nat.add_assoc,Nat.add_comm 1 j] using this) (by simp only[aP] at hk;omega) (inv.set hr' hkn) hB' hK)
theorem BQ{id:Nat}{Q:Exit->Act->World->Prop}{a:Act}{w:World}{l:List Oper}(S:World->Prop)(n:Nat)(hm:P.follows .mixedOrders=true)(hB:Region.lexTailB .any l.toArray n=true)
 (hS:S w.drew) (h:yJ P l.toArray S (fun a'=>∀w',S w'->wpList P l.toArray Q (l.drop n) a' w') (l.take n) a):(Code.region id l.toArray true).wp P Q a w:=by
 simp only[Region.lexTailB,Bool.and_eq_true,decide_eq_true_eq] at hB;obtain⟨⟨⟨⟨hsel,hn⟩,hs⟩,hc⟩,hlex⟩:=hB;have hn':n<l.length:=by simpa using hn
 have htl:(l.take n).length=n:=ah
 have hdl:(l.drop n).length=l.toArray.size - n:=ag
 have inv0:HeadInv .any l.toArray n (Array.replicate l.toArray.size false):=
  ⟨by simp,fun j oj _ hl=>(by rw[getD_replicate_false] at hl;cases hl),fun t _ ht=>getD_in (by simpa using ht) (getD_replicate_false _ _)⟩
 have H:=BP (md:=.any) (g:=l.toArray.size - n) hsel hs hc hn (l.take n) 0 _ a (fun j hj=>by
  have hj':j<n:=by rw[htl] at hj;exact hj
  simp[hj']) (by simpa using htl) inv0 (by rw[htl];exact hlex) h
 refine wp_region_any hm ?_
 have:=sO (Q:=Q) (g:=l.toArray.size - n) (fun listed a' hL w' hS'=>by
  have:=wpAny_of_seq (md:=.any) (Q':=Q) (l.drop n) n listed a' w' (fun j=>by simp[List.getElem?_drop]) (by rw[hdl];exact hL.1) (hL.2 w' hS')
  rwa [hdl] at this) _ _ _ H _ hS
 rw[htl,show n+(l.toArray.size - n)=l.toArray.size by omega] at this
 exact this
theorem NP{Lq:Act->Prop}{a:Act}(h:Lq a):yJ P ops S Lq [] a:=h
theorem SY{Lq:Act->Prop}{a:Act}{o:Oper}{rest:List Oper}(hw:Region.wanted o (yielded ops a.tmps)=true)
 (h:∀R:Act->Prop,(∀a',yJ P ops S Lq rest a'->R a')->∃v,(∀w,S w->Gives P S v ((execOp a.eval o).run P w))/\R (a.put o.dst v)):yJ P ops S Lq (o::rest) a:=by
 obtain⟨v,h1,h2⟩:=h _ (fun _ h=>h)
 exact⟨v,.inl ⟨hw,h1⟩,h2⟩
end
open Go.RowKit
section
variable {P : Program} {ops : Array Oper} {md : Region.Mode} {S : World -> Prop} {Q : Exit -> Act -> World -> Prop}
def BV(md:Region.Mode)(ops:Array Oper):List (Nat × Bool)->Array Bool->Bool
 | [],listed=>(Region.ready md ops listed).isEmpty
 | (i,true)::r,listed=>(Region.ready md ops listed).contains i && Region.free md ops listed i && BV md ops r (listed.setIfInBounds i true)
 | (i,false)::r,listed=>decide (Region.ready md ops listed=[i]) && BV md ops r (listed.setIfInBounds i true)
def mM(P:Program)(ops:Array Oper)(Q:Exit->Act->World->Prop)(S:World->Prop):List (Nat × Bool)->Act->World->Prop
 | [],a,w=>Q .normal a w
 | (i,true)::r,a,w=>∃o v,ops[i]?=some o/\YieldsIf P ops S o v a/\mM P ops Q S r (a.put o.dst v) w
 | (i,false)::r,a,w=>wpOp P ops Q i (fun a' w'=>S w'/\mM P ops Q S r a' w') a w
theorem vN(hsel:Region.noSelect ops=true)(hQ:∀c a w,¬Q (.panic c) a w):∀(l:List (Nat × Bool)) (listed:Array Bool) (a:Act) (w:World),BV md ops l listed=true->S w ->
 mM P ops Q S l a w->wpAnyH P md ops Q S l.length listed a w
 | [],listed,a,w,hB,_,h=>⟨by simpa[BV] using hB,h⟩
 | (i,true)::r,listed,a,w,hB,hS,h=>by
  simp only[BV,Bool.and_eq_true] at hB;obtain⟨o,v,ho,hy,hn⟩:=h;exact wpAnyH_take ho hsel hB.1.2 hB.1.1 (fun c a w hp=>absurd hp (hQ c _ w)) hy hS (vN hsel hQ r _ _ w hB.2 hS hn)
 | (i,false)::r,listed,a,w,hB,hS,h=>by
  simp only[BV,Bool.and_eq_true,decide_eq_true_eq] at hB;refine⟨fun h0=>(by rw[hB.1] at h0;cases h0),fun j hj=>?_⟩
  rw[hB.1] at hj;have hji:j=i:=by simpa using hj
  subst hji;exact wpOp_mono (fun a' w' h'=>⟨h'.1,vN hsel hQ r _ a' w' hB.2 h'.1 h'.2⟩) h
def Calm(Q:Exit->Act->World->Prop):Exit->Act->World->Prop
 | .panic _,_,_=>False
 | e,a,w=>Q e a w
theorem Calm.imp:∀(e:Exit) (a:Act) (w:World),Calm Q e a w->Q e a w:=fun e a w h=>by
 cases e<;>first|exact h|exact(h:False).elim
theorem dD{id:Nat}{a:Act}{w:World}(S:World->Prop)(l:List (Nat × Bool))(hm:P.follows .mixedOrders=true)
 (hB:(Region.noSelect ops && decide (l.length=ops.size) && BV .any ops l (Array.replicate ops.size false))=true)
 (hS:S w.drew) (h:mM P ops (Calm Q) S l a w.drew):(Code.region id ops true).wp P Q a w:=by
 simp only[Bool.and_eq_true,decide_eq_true_eq] at hB;have H:=vN (Q:=Calm Q) hB.1.1 (fun _ _ _ h=>h) l _ a _ hB.2 hS h
 rw[hB.1.2] at H;exact Code.wp_mono Calm.imp (wp_region_any hm (wpAny_of_held _ _ _ _ H))
def BX(P:Program)(md:Region.Mode)(ops:Array Oper)(Q:Exit->Act->World->Prop)(S:World->Prop)(n:Nat)(L:Array Bool->Act->World->Prop):Nat->Array Bool->Act->World->Prop
 | 0,listed,a,w=>L listed a w
 | f+1,listed,a,w=>
  Region.ready md ops listed≠[]/\∀i∈Region.ready md ops listed,i<n/\wpOp P ops Q i (fun a' w'=>S w'/\BX P md ops Q S n L f (listed.setIfInBounds i true) a' w') a w
theorem qj{n g:Nat}{L:Array Bool->Act->World->Prop}(hL:∀listed a w,L listed a w->wpAny P md ops Q g listed a w) :
 ∀(f:Nat) (listed:Array Bool) (a:Act) (w:World),BX P md ops Q S n L f listed a w->wpAny P md ops Q (f+g) listed a w
 | 0,listed,a,w,h=>by rw[Nat.zero_add];exact hL _ _ _ h
 | f+1,listed,a,w,h=>by
  rw[show f+1+g=(f+g)+1 by omega]
  exact⟨fun h0=>absurd h0 h.1,fun i hi=>wpOp_mono (fun a' w' h'=>qj hL f _ a' w' h'.2) (h.2 i hi).2⟩
theorem H9{n i:Nat}{oi:Oper}{v:Value}{L:Array Bool->Act->World->Prop}(hi:ops[i]?=some oi)(hsel:∀(j:Nat) (o:Oper) cs b,ops[j]?=some o->o.op≠.select cs b)
 (hQ:∀c a w,¬Q (.panic c) a w) (hs:Region.sinkB md ops n=true) (hc:Region.chainB md ops n=true) (hn:n<ops.size) (hin:i<n)
 (hdone:∀listed a w,L listed a w->∀j∈Region.ready md ops listed,n<=j) :
 ∀(f:Nat) (listed:Array Bool) (a:Act) (w:World),HeadInv md ops n listed ->
  (∀j oj,ops[j]?=some oj->j≠i->listed.getD j true=false->(∀e∈oj.after,Region.binds md e=true->e.on≠i)->oi.apart ops oj=true) ->
  i∈Region.ready md ops listed->YieldsIf P ops S oi v a->S w ->
  BX P md ops Q S n L f (listed.setIfInBounds i true) (a.put oi.dst v) w->BX P md ops Q S n L (f+1) listed a w:=by
 intro f
 induction f with
 | zero=>
  intro listed a w inv _ hr hy hS H;have hun:=(mem_ready.1 hr).1;refine⟨fun h=>(by rw[h] at hr;cases hr),fun j hj=>?_⟩
  have hjn:j<n:=by
   rcases bJ j n with h|h
   ·exact h
   ·exact absurd hj (tail_waits hs hc hn inv _ i rfl hin hun j h)
  refine⟨hjn,?_⟩
  by_cases hji:j=i
  ·subst hji;exact hy.wpOp hi hS ⟨hS,H⟩
  ·have:=hdone _ _ _ H j (ready_mono hj hji)
   omega
 | succ f ih=>
  intro listed a w inv hfree hr hy hS H;have hun:=(mem_ready.1 hr).1;refine⟨fun h=>(by rw[h] at hr;cases hr),fun j hj=>?_⟩
  have hjn:j<n:=by
   rcases bJ j n with h|h
   ·exact h
   ·exact absurd hj (tail_waits hs hc hn inv _ i rfl hin hun j h)
  refine⟨hjn,?_⟩
  by_cases hji:j=i
  ·subst hji;exact hy.wpOp hi hS ⟨hS,H⟩
  ·have h1:=(H.2 j (ready_mono hj hji)).2
   obtain⟨hjun,oj,hoj,hall⟩:=mem_ready.1 hj;have hnot:∀e∈oj.after,Region.binds md e=true->e.on≠i:=fun e he hb heq=>by
    have h1:=hall e he hb;rw[heq,getD_both hun] at h1
    cases h1
   have h2:=wpOp_putIf hoj (hfree j oj hoj hji hjun hnot) (fun cs b=>hsel i oi cs b hi) (fun cs b=>hsel j oj cs b hoj) (fun c a w hp=>absurd hp (hQ c _ w)) hy h1
   have hfree':∀k ok,ops[k]?=some ok->k≠i->(listed.setIfInBounds j true).getD k true=false ->
    (∀e∈ok.after,Region.binds md e=true->e.on≠i)->oi.apart ops ok=true:=fun k ok hk hki hun' hno=>by
    refine hfree k ok hk hki ?_ hno
    by_cases hjk:j=k
    ·subst hjk;exact hjun
    ·rw[getD_set_ne true hjk] at hun';exact hun'
   refine wpOp_mono (fun a' w' h3=>⟨h3.2.1,ih (listed.setIfInBounds j true) a' w' (inv.set hj hjn) hfree' (ready_mono hr (Ne.symm hji)) h3.1 h3.2.1 ?_⟩) h2
   rw[Array.setIfInBounds_comm _ _ hji];exact h3.2.2
def B_(md:Region.Mode)(ops:Array Oper)(n g:Nat):List (Nat × Bool)->Array Bool->Bool
 | [],listed=>Region.seqB md ops g n listed
 | (i,true)::r,listed=>decide (i<n) && (Region.ready md ops listed).contains i && Region.free md ops listed i && B_ md ops n g r (listed.setIfInBounds i true)
 | (i,false)::r,listed=>decide (i<n) && decide (Region.ready md ops listed=[i]) && B_ md ops n g r (listed.setIfInBounds i true)
def lQ(P:Program)(ops:Array Oper)(Q:Exit->Act->World->Prop)(S:World->Prop)(Lq:Act->World->Prop):List (Nat × Bool)->Act->World->Prop
 | [],a,w=>Lq a w
 | (i,true)::r,a,w=>∃o v,ops[i]?=some o/\YieldsIf P ops S o v a/\lQ P ops Q S Lq r (a.put o.dst v) w
 | (i,false)::r,a,w=>wpOp P ops Q i (fun a' w'=>S w'/\lQ P ops Q S Lq r a' w') a w
theorem sQ{n g:Nat}{Lq:Act->World->Prop}(hsel:Region.noSelect ops=true)(hQ:∀c a w,¬Q (.panic c) a w)(hs:Region.sinkB md ops n=true)(hc:Region.chainB md ops n=true)(hn:n<ops.size) :
 ∀(l:List (Nat × Bool)) (listed:Array Bool) (a:Act) (w:World),B_ md ops n g l listed=true->HeadInv md ops n listed->S w ->
 lQ P ops Q S Lq l a w->BX P md ops Q S n (fun listed' a' w'=>Region.seqB md ops g n listed'=true/\Lq a' w') l.length listed a w
 | [],listed,a,w,hB,_,_,h=>⟨by simpa[B_] using hB,h⟩
 | (i,true)::r,listed,a,w,hB,inv,hS,h=>by
  simp only[B_,Bool.and_eq_true,decide_eq_true_eq] at hB;obtain⟨⟨⟨hin,hr⟩,hf⟩,hB'⟩:=hB;obtain⟨o,v,ho,hy,hnx⟩:=h;have hr':i∈Region.ready md ops listed:=by simpa using hr
  exact H9 ho (Region.noSelect_spec hsel) hQ hs hc hn hin (fun _ _ _ hL=>seqB_ready hL.1) r.length listed a w inv (Region.free_spec ho hf) hr' hy hS
   (sQ hsel hQ hs hc hn r _ _ w hB' (inv.set hr' hin) hS hnx)
 | (i,false)::r,listed,a,w,hB,inv,hS,h=>by
  simp only[B_,Bool.and_eq_true,decide_eq_true_eq] at hB;obtain⟨⟨hin,hr⟩,hB'⟩:=hB;refine⟨fun h0=>(by rw[hr] at h0;cases h0),fun j hj=>?_⟩
  rw[hr] at hj;have hji:j=i:=by simpa using hj
  subst hji;refine⟨hin,wpOp_mono (fun a' w' h'=>⟨h'.1,sQ hsel hQ hs hc hn r _ a' w' hB' (inv.set (by rw[hr];simp) hin) h'.1 h'.2⟩) h⟩
theorem dJ{id:Nat}{a:Act}{w:World}{l:List Oper}(S:World->Prop)(n:Nat)(pl:List (Nat × Bool))(hm:P.follows .mixedOrders=true)
 (hB:(Region.noSelect l.toArray && decide (n<l.toArray.size) && decide (pl.length=n) && Region.sinkB .any l.toArray n && Region.chainB .any l.toArray n && B_ .any l.toArray n (l.toArray.size - n) pl (Array.replicate l.toArray.size false))=true)
 (hS:S w.drew) (h:lQ P l.toArray (Calm Q) S (fun a' w'=>wpList P l.toArray (Calm Q) (l.drop n) a' w') pl a w.drew):(Code.region id l.toArray true).wp P Q a w:=by
 simp only[Bool.and_eq_true,decide_eq_true_eq] at hB;obtain⟨⟨⟨⟨⟨hsel,hn⟩,hpl⟩,hs⟩,hc⟩,hp⟩:=hB;have hn':n<l.length:=by simpa using hn
 have hdl:(l.drop n).length=l.toArray.size - n:=ag
 have inv0:HeadInv .any l.toArray n (Array.replicate l.toArray.size false):=
  ⟨by simp,fun j oj _ hl=>(by rw[getD_replicate_false] at hl;cases hl),fun t _ ht=>getD_in (by simpa using ht) (getD_replicate_false _ _)⟩
 have H:=sQ (Q:=Calm Q) (md:=.any) (g:=l.toArray.size - n) hsel (fun _ _ _ h=>h) hs hc hn pl _ a _ hp inv0 hS h
 have K:=qj (Q:=Calm Q) (g:=l.toArray.size - n) (fun listed a' w' hL=>by
  have:=wpAny_of_seq (md:=.any) (Q':=Calm Q) (l.drop n) n listed a' w' (fun j=>by simp[List.getElem?_drop]) (by rw[hdl];exact hL.1) hL.2
  rwa [hdl] at this) _ _ _ _ H
 rw[hpl,show n+(l.toArray.size - n)=l.toArray.size by omega] at K
 exact Code.wp_mono Calm.imp (wp_region_any hm K)
def Cb(v:Value)(w:World):Result Next->Prop
 | .ok r w'=>r=.value v/\w'=w
 | _=>False
def QE(v:Value)(w:World)(u:Value)(w':World):Prop:=u=v/\w'=w
@[go_sem] theorem ai2 {v:Value} {w:World} (u:Value) (w':World):Cb v w (.ok (.value u) w')=QE v w u w':=by
 simp[Cb,QE]
theorem dC{i:Nat}{r:List (Nat × Bool)}{a:Act}{w:World}{o:Oper}(ho:ops[i]?=some o)(hw:Region.wanted o (yielded ops a.tmps)=true)
 (h:∀R:Act->Prop,(∀a',mM P ops Q S r a' w->R a')->∃v,(∀w',S w'->Cb v w' ((execOp a.eval o).run P w'))/\R (a.put o.dst v)):mM P ops Q S ((i,true)::r) a w:=by
 obtain⟨v,h1,h2⟩:=h _ (fun _ h=>h)
 refine⟨o,v,ho,.inl ⟨hw,fun w' hS=>?_⟩,h2⟩
 have h3:=h1 w' hS;generalize (execOp a.eval o).run P w'=x at *
 cases x with
 | ok n w''=>obtain⟨rfl,rfl⟩:=h3;rfl
 | halt x w''=>exact h3.elim
theorem dG{i:Nat}{r:List (Nat × Bool)}{a:Act}{w:World}{o:Oper}(ho:ops[i]?=some o)(hw:Region.wanted o (yielded ops a.tmps)=false)
 (h:mM P ops Q S r (a.put o.dst undef) w):mM P ops Q S ((i,true)::r) a w:=⟨o,undef,ho,.inr ⟨hw,rfl⟩,h⟩
theorem dE{i:Nat}{r:List (Nat × Bool)}{a:Act}{w:World}{o:Oper}(ho:ops[i]?=some o)(hw:Region.wanted o (yielded ops a.tmps)=true)
 (h:∀K:Act->World->Prop,(∀a' w',S w'->mM P ops Q S r a' w'->K a' w')->o.wp P a w K Q):mM P ops Q S ((i,false)::r) a w:=by
 unfold mM wpOp;simp only[ho,hw,if_true];exact .inl (h _ fun _ _ h1 h2=>⟨h1,h2⟩)
theorem dF{a:Act}{w:World}(h:Q .normal a w):mM P ops (Calm Q) S [] a w:=h
theorem dK{Lq:Act->World->Prop}{i:Nat}{r:List (Nat × Bool)}{a:Act}{w:World}{o:Oper}(ho:ops[i]?=some o)(hw:Region.wanted o (yielded ops a.tmps)=true)
 (h:∀R:Act->Prop,(∀a',lQ P ops Q S Lq r a' w->R a')->∃v,(∀w',S w'->Cb v w' ((execOp a.eval o).run P w'))/\R (a.put o.dst v)):lQ P ops Q S Lq ((i,true)::r) a w:=by
 obtain⟨v,h1,h2⟩:=h _ (fun _ h=>h)
 refine⟨o,v,ho,.inl ⟨hw,fun w' hS=>?_⟩,h2⟩
 have h3:=h1 w' hS;generalize (execOp a.eval o).run P w'=x at *
 cases x with
 | ok n w''=>obtain⟨rfl,rfl⟩:=h3;rfl
 | halt x w''=>exact h3.elim
theorem d_{Lq:Act->World->Prop}{i:Nat}{r:List (Nat × Bool)}{a:Act}{w:World}{o:Oper}(ho:ops[i]?=some o)(hw:Region.wanted o (yielded ops a.tmps)=true)
 (h:∀K:Act->World->Prop,(∀a' w',S w'->lQ P ops Q S Lq r a' w'->K a' w')->o.wp P a w K Q):lQ P ops Q S Lq ((i,false)::r) a w:=by
 unfold lQ wpOp;simp only[ho,hw,if_true];exact .inl (h _ fun _ _ h1 h2=>⟨h1,h2⟩)
theorem dQ{Lq:Act->World->Prop}{a:Act}{w:World}(h:Lq a w):lQ P ops Q S Lq [] a w:=h
theorem dO{a:Act}{w:World}(h:Q .normal a w):Calm Q .normal a w:=h
end
open Go.RowKit Go.Lib
structure ZX(d n done weight:Int):Prop where
 d0:0<=d
 d1:d<=1000
 n1:n<=281474976710656
 e0:0<=done
 w0:0<weight
 dw:done+weight<=n
theorem H_(d n done weight:Int)(w:World)(M:ZX d n done weight) :
 Calls Tryz.prog 360 #[.int .i64 d,.int .u64 n,.int .u64 done,.int .u64 weight] w fun e w'=>e=.returned (.bool (xk d n done weight))/\Below w.heap.size w w':=by
 obtain⟨d0,d1,n1,e0,w0,dw⟩:=M;have p0:0<=weight * d:=Int.mul_nonneg ae d0
 have p1:weight * d<=weight * 1000:=Int.mul_le_mul_of_nonneg_left d1 ae
 have HF:=aB (Qu (weight * d * n) ((2 * done+weight) * (2 * n - 2 * done - weight)))
 go_enter Tryz.func360,Tryz.ntmps360
 go_wp2_with fail;refine(Bl (weight * d) n _ p0 ae  ae  ae).mono ?_
 rintro e w1 ⟨rfl,hb1⟩;have hz1:=hb1.size
 go_wp2_with fail;refine(Bl (2 * done+weight) (2 * n - 2 * done - weight) _ ae  ae  ae  ae).mono ?_
 rintro e w2 ⟨rfl,hb2⟩;have hz2:=hb2.size
 go_wp2_with fail;refine(ZP _ _ _).mono ?_
 rintro e w3 ⟨rfl,hb3⟩;have hz3:=hb3.size
 go_wp2_with fail
 go_ret;exact⟨qc HF.out,bw⟩
theorem WG(d n done weight:Int)(w:World)(M:ZX d n done weight) :
 Calls Tryz.prog 296 #[.int .i64 d,.int .u64 n,.int .u64 done,.int .u64 weight] w fun e w'=>e=.returned (.bool (xk d n done weight))/\Below w.heap.size w w':=by
 obtain⟨d0,d1,n1,e0,w0,dw⟩:=M;have p0:0<=weight * d:=Int.mul_nonneg ae d0
 have p1:weight * d<=weight * 1000:=Int.mul_le_mul_of_nonneg_left d1 ae
 have HF:=aB (Qu (weight * d * n) ((2 * done+weight) * (2 * n - 2 * done - weight)));have HE:=aB (show 2 * (n - done) - weight=2 * n - 2 * done - weight by omega)
 obtain⟨m0,m1⟩:=uk (a:=weight * d) (b:=n) p0 ae  ae  ae
 obtain⟨k0,k1⟩:=uk (a:=2 * done+weight) (b:=2 * (n - done) - weight) ae  ae  ae  ae
 go_enter Tryz.func296,Tryz.ntmps296
 go_wp2_with fail;refine(BF (weight * d) n _ p0 ae  ae  ae).mono ?_
 rintro e w1 ⟨v1,rfl,x1,hb1⟩;have D1:=aB x1;have hz1:=hb1.size;clear x1
 go_wp2_with fail;refine(BF (2 * done+weight) (2 * (n - done) - weight) _ ae  ae  ae  ae).mono ?_
 rintro e w2 ⟨v2,rfl,x2,hb2⟩;have D2:=aB x2;have hz2:=hb2.size;clear x2
 go_wp2_with fail;refine(Ws v1 v2 _ _ _ (D1.out.keep hb2) D2.out m0 m1 k0 k1).mono ?_
 rintro e w3 ⟨rfl,hb3⟩;have hz3:=hb3.size;rw[HE.out]
 go_wp2_with fail
 go_ret;exact⟨qc HF.out,bw⟩
theorem WH(low v high z:Int)(w:World)(m0:-9223372036854775808<=low)(mn:low<=high)(n1:high<=9223372036854775807)(v0:0<=v)(z0:0<z)(vz:v+z<18446744073709551616) :
 Calls Tryz.prog 297 #[.int .i64 low,.int .u64 v,.int .i64 high,.int .u64 z] w fun e w'=>e=.returned (.int .i64 (kV low high z (v+z)))/\Below w.heap.size w w':=by
 have ew:IntKind.u64.wrap (IntKind.u64.wrap high - IntKind.u64.wrap low)=high - low:=by simp only[eH];omega
 obtain⟨b1,b2⟩:=wX mn (x:=z) (y:=v+z) ae  ae  ae
 have f0:0<=(high - low) * z / (v+z):=Int.ediv_nonneg (Int.mul_nonneg ae  ae) ae
 have eF:wrap64 (IntKind.u64.wrap (IntKind.u64.wrap low+(high - low) * z / (v+z)))=kV low high z (v+z):=by
  simp only[eH,wrap64];unfold kV at *;omega
 have EF:=aB eF;clear b1 b2 eF
 go_enter Tryz.func297,Tryz.ntmps297
 go_wp2_with (first|(go_at_call 199;refine(NL (high - low) _ _ _ ae  ae  ae  ae  ae vz).mono ?_;rintro e w1 ⟨rfl,hb1⟩;have⟨hc1,hf1⟩:=zC hb1;have hz1:=hb1.size;try simp only[aO,bZ,World.size_drew,World.fG] at hz1))
 go_ret;exact⟨ik EF.out,bw⟩
theorem FZ(a b:Mn)(w:World) :
 Calls Tryz.prog 262 #[.agg #[.int .i64 a.1,.int .u64 a.2],.agg #[.int .i64 b.1,.int .u64 b.2]] w fun e w'=>e=.returned (.bool (decide (a.1<b.1)))/\Below w.heap.size w w':=by
 go_enter Tryz.func262,Tryz.ntmps262
 go_wp2
 go_ret;exact⟨rfl,bw⟩
theorem fE(v:Value)(l:List Mn)(w:World)(h:nN w v l)(ho:jY l)(ht:tot l<=18446744073709551615) :
 Calls Tryz.prog 128 #[v] w fun e w'=>e=.returned (.int .u64 (tot l))/\Below w.heap.size w w':=by
 obtain⟨A,c,rfl,hn,hc,hp⟩:=h.form;have HP:=aB hp;clear hp h
 go_enter Tryz.func128,Tryz.ntmps128
 go_wp2_with fail
 go_loopg [3,4] l.length (fun k n i wr=>∃j:Nat,k=l.length - j/\j<=l.length/\n=.int .u64 (tot (l.take j))/\i=.int .i64 j/\Below w.heap.size w wr)
 case atStart=>exact⟨0,rfl,ae,rfl,rfl,aH _ _⟩
 case round=>
  obtain⟨j,hk,hj,rfl,rfl,hb⟩:=hrel;have HK:=aB hk;have hz:=hb.size;clear hk
  by_cases hlt:j<l.length
  ·obtain⟨g,off,rfl,hg,c0,c1⟩:=(HP.out.keep hb).at_ hlt
   have t0:=ho.xh j;have t1:=ho.Hy hlt;have o1:=(ho.get hlt).2.2;have HT:=aB (iy l j hlt);obtain⟨x,hx⟩:∃x,l[j].2=x:=⟨_,rfl⟩;rw[hx] at c1 t1 o1;have HX:=aB hx;clear hx c0
   go_wp2_with fail
   go_roundg (l.length - (j+1))
   case measure=>have:=HK.out;omega
   case rel=>exact⟨j+1,rfl,ae,by rw[HT.out,HX.out],ai,bw⟩
  ·go_wp2_with fail
   go_ret;exact⟨ik (by rw[bH ae]),bw⟩
end Go.Proofs.YtkiebccnpheloaaGreat
