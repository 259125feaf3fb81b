/- Parts of a proof: what its theorem reaches, words cut short. No condition of its own. -/
import Derived.StillTail
import Derived.OrdersHeld
import Derived.Test.YtkiebccnpheloaaGreatPv03
import Derived.Test.YtkiebccnpheloaaGreatPv04
set_option maxRecDepth 100000
set_option maxHeartbeats 16000000
set_option linter.unusedVariables false
set_option linter.unusedSimpArgs false
namespace Go.Proofs.YtkiebccnpheloaaGreat
open Go.RowKit
section
variable {P : Program} {ops : Array Oper} {md : Region.Mode} {S : World -> Prop}
def GiveV(S:World->Prop)(v u:Value)(w:World):Prop:=u=v/\S w
def EndV(S:World->Prop)(v:Value)(e:Ending)(w:World):Prop:=e=.returned v/\S w
def Gives(P:Program)(S:World->Prop)(v:Value):Result Next->Prop
 | .ok (.value u) w=>GiveV S v u w
 | .ok (.enter f args) w=>Calls P f args w (EndV S v)
 | _=>False
@[go_sem] theorem gives_value {v:Value} (u:Value) (w:World):Gives P S v (.ok (.value u) w)=GiveV S v u w:=rfl
@[go_sem] theorem gives_enter {v:Value} (f:FuncId) (args:Array Value) (w:World):Gives P S v (.ok (.enter f args) w)=Calls P f args w (EndV S v):=rfl
def YieldsC(P:Program)(ops:Array Oper)(S:World->Prop)(o:Oper)(v:Value)(a:Act):Prop:=
 (Region.wanted o (yielded ops a.tmps)=true/\∀w,S w->Gives P S v ((execOp a.eval o).run P w)) \/
 (Region.wanted o (yielded ops a.tmps)=false/\v=undef)
theorem YieldsC.of_same{o:Oper}{v:Value}{a a':Act}(hy:YieldsC P ops S o v a)(he:execOp a'.eval o=execOp a.eval o)
 (hw:Region.wanted o (yielded ops a'.tmps)=Region.wanted o (yielded ops a.tmps)):YieldsC P ops S o v a':=by
 unfold YieldsC at *
 rw[he,hw]
 exact hy
theorem YieldsC.wpOp{Q:Exit->Act->World->Prop}{i:Nat}{o:Oper}{v:Value}{a:Act}(hi:ops[i]?=some o)(hy:YieldsC P ops S o v a)
 {K:Act->World->Prop} {w:World} (hS:S w) (h:∀w',S w'->K (a.put o.dst v) w'):Go.wpOp P ops Q i K a w:=by
 unfold Go.wpOp
 simp only[hi]
 rcases hy with⟨hw,hv⟩|⟨hw,rfl⟩
 ·simp only[hw,if_true]
  refine .inl ?_
  have hg:=hv w hS
  unfold Oper.wp
  generalize (execOp a.eval o).run P w=r at *
  cases r with
  | ok n w'=>
   cases n<;>simp only[Gives,GiveV,Oper.upon] at hg |-
   case value u=>obtain⟨rfl,hS'⟩:=hg;exact h _ hS'
   case enter f args=>
    refine Calls.mono hg fun e w'' he=>?_
    obtain⟨rfl,hS'⟩:=he
    exact h _ hS'
  | halt x w'=>simp only[Gives] at hg
 ·simp only[hw,Bool.false_eq_true,if_false];exact h _ hS
def wpAnyC(P:Program)(md:Region.Mode)(ops:Array Oper)(S:World->Prop)(n:Nat)(L:Array Bool->Act->Prop):Nat->Array Bool->Act->Prop
 | 0,listed,a=>L listed a
 | f+1,listed,a=>
  Region.ready md ops listed≠[]/\∀i∈Region.ready md ops listed,i<n/\∃o v,ops[i]?=some o/\YieldsC P ops S o v a/\wpAnyC P md ops S n L f (listed.setIfInBounds i true) (a.put o.dst v)
theorem wpAny_of_headC{n g:Nat}{L:Array Bool->Act->Prop}{Q:Exit->Act->World->Prop}(hL:∀listed a,L listed a->∀w,S w->wpAny P md ops Q g listed a w) :
 ∀(f:Nat) (listed:Array Bool) (a:Act),wpAnyC P md ops S n L f listed a->∀w,S w->wpAny P md ops Q (f+g) listed a w
 | 0,listed,a,h,w,hS=>by rw[Nat.zero_add];exact hL _ _ h w hS
 | f+1,listed,a,h,w,hS=>by
  rw[show f+1+g=(f+g)+1 by omega]
  refine⟨fun h0=>absurd h0 h.1,fun i hi=>?_⟩
  obtain⟨_,o,v,ho,hy,hn⟩:=h.2 i hi
  exact hy.wpOp ho hS fun w' hS'=>wpAny_of_headC hL f _ _ hn w' hS'
theorem wpAnyC_first{n i:Nat}{oi:Oper}{v:Value}{L:Array Bool->Act->Prop}(hi:ops[i]?=some oi)(hsel:∀(j:Nat) (o:Oper) cs b,ops[j]?=some o->o.op≠.select cs b)
 (hs:Region.sinkB md ops n=true) (hc:Region.chainB md ops n=true) (hn:n<ops.size) (hin:i<n)
 (hdone:∀listed a,L listed a->∀j∈Region.ready md ops listed,n<=j) :
 ∀(f:Nat) (listed:Array Bool) (a:Act),HeadInv md ops n listed ->
  (∀j oj,ops[j]?=some oj->j≠i->listed.getD j true=false->(∀e∈oj.after,Region.binds md e=true->e.on≠i)->oi.apart ops oj=true) ->
  i∈Region.ready md ops listed->YieldsC P ops S oi v a ->
  wpAnyC P md ops S n L f (listed.setIfInBounds i true) (a.put oi.dst v)->wpAnyC P md ops S n L (f+1) listed a:=by
 intro f
 induction f with
 | zero=>
  intro listed a inv _ hr hy H
  have hun:=(mem_ready.1 hr).1
  refine⟨fun h=>(by rw[h] at hr;cases hr),fun j hj=>?_⟩
  have hjn:j<n:=by
   rcases Nat.lt_or_ge j n with h|h
   ·exact h
   ·exact absurd hj (tail_waits hs hc hn inv _ i rfl hin hun j h)
  refine⟨hjn,?_⟩
  by_cases hji:j=i
  ·subst hji;exact⟨oi,v,hi,hy,H⟩
  ·have:=hdone _ _ H j (ready_mono hj hji)
   omega
 | succ f ih=>
  intro listed a inv hfree hr hy H
  have hun:=(mem_ready.1 hr).1
  refine⟨fun h=>(by rw[h] at hr;cases hr),fun j hj=>?_⟩
  have hjn:j<n:=by
   rcases Nat.lt_or_ge j n with h|h
   ·exact h
   ·exact absurd hj (tail_waits hs hc hn inv _ i rfl hin hun j h)
  refine⟨hjn,?_⟩
  by_cases hji:j=i
  ·subst hji;exact⟨oi,v,hi,hy,H⟩
  ·obtain⟨_,oj,u,hoj,hyj,hnext⟩:=H.2 j (ready_mono hj hji)
   obtain⟨hjun,oj',hoj',hall⟩:=mem_ready.1 hj
   have hojj:oj'=oj:=Option.some.inj (hoj'.symm.trans hoj)
   subst hojj
   have hnot:∀e∈oj'.after,Region.binds md e=true->e.on≠i:=fun e he hb heq=>by
    have h1:=hall e he hb
    rw[heq,getD_both hun] at h1
    cases h1
   obtain⟨h1,h2,h3⟩:=Oper.apart_spec (hfree j oj' hoj hji hjun hnot)
   have hfree':∀k ok,ops[k]?=some ok->k≠i->(listed.setIfInBounds j true).getD k true=false ->
    (∀e∈ok.after,Region.binds md e=true->e.on≠i)->oi.apart ops ok=true:=fun k ok hk hki hun' hno=>by
    refine hfree k ok hk hki ?_ hno
    by_cases hjk:j=k
    ·subst hjk;exact hjun
    ·rw[getD_set_ne true hjk] at hun';exact hun'
   have hyj':YieldsC P ops S oj' u a:=hyj.of_same (execOp_put oj' (fun cs b=>hsel j oj' cs b hoj) a oi.dst v h1).symm (wanted_put oj' a oi.dst v h1).symm
   have hyi':YieldsC P ops S oi v (a.put oj'.dst u):=hy.of_same (execOp_put oi (fun cs b=>hsel i oi cs b hi) a oj'.dst u h3) (wanted_put oi a oj'.dst u h3)
   refine⟨oj',u,hoj,hyj',ih _ _ (inv.set hj hjn) hfree' (ready_mono hr (Ne.symm hji)) hyi' ?_⟩
   rw[Array.setIfInBounds_comm _ _ hji,<-Act.put_comm a v u h2]
   exact hnext
def wpHead(P:Program)(ops:Array Oper)(S:World->Prop)(Lq:Act->Prop):List Oper->Act->Prop
 | [],a=>Lq a
 | o::rest,a=>∃v,YieldsC P ops S o v a/\wpHead P ops S Lq rest (a.put o.dst v)
theorem wpAnyC_lex{n g:Nat}{Lq:Act->Prop}(hsel:Region.noSelect ops=true)(hs:Region.sinkB md ops n=true)(hc:Region.chainB md ops n=true)(hn:n<ops.size) :
 ∀(l:List Oper) (k:Nat) (listed:Array Bool) (a:Act),(∀j,j<l.length->l[j]?=ops[k+j]?)->k+l.length=n->HeadInv md ops n listed ->
 Region.lexHead md ops g l.length k listed=true->wpHead P ops S Lq l a ->
 wpAnyC P md ops S n (fun listed' a'=>Region.seqB md ops g n listed'=true/\Lq a') l.length listed a
 | [],k,listed,a,_,hk,_,hB,h=>by
  have:k=n:=by simpa using hk
  subst this
  exact⟨by simpa[Region.lexHead] using hB,h⟩
 | o::l,k,listed,a,hl,hk,inv,hB,h=>by
  have h0:ops[k]?=some o:=by simpa using (hl 0 (by simp)).symm
  simp only[List.length_cons,Region.lexHead,Bool.and_eq_true] at hB
  obtain⟨⟨hr,hf⟩,hB'⟩:=hB
  have hkn:k<n:=by simp only[List.length_cons] at hk;omega
  have hr':k∈Region.ready md ops listed:=by simpa using hr
  obtain⟨v,hy,hK⟩:=h
  exact wpAnyC_first h0 (Region.noSelect_spec hsel) hs hc hn hkn (fun listed' a' hL=>seqB_ready hL.1) l.length listed a inv (Region.free_spec h0 hf) hr' hy
   (wpAnyC_lex hsel hs hc hn l (k+1) _ _ (fun j hj=>by have:=hl (j+1) (by simp;omega);simpa[Nat.add_assoc,Nat.add_comm 1 j] using this) (by simp only[List.length_cons] at hk;omega) (inv.set hr' hkn) hB' hK)
theorem wp_region_head{id:Nat}{Q:Exit->Act->World->Prop}{a:Act}{w:World}{l:List Oper}(S:World->Prop)(n:Nat)(hm:P.follows .mixedOrders=true)(hB:Region.lexTailB .any l.toArray n=true)
 (hS:S w.drew) (h:wpHead P l.toArray S (fun a'=>∀w',S w'->wpList P l.toArray Q (l.drop n) a' w') (l.take n) a):(Code.region id l.toArray true).wp P Q a w:=by
 simp only[Region.lexTailB,Bool.and_eq_true,decide_eq_true_eq] at hB
 obtain⟨⟨⟨⟨hsel,hn⟩,hs⟩,hc⟩,hlex⟩:=hB
 have hn':n<l.length:=by simpa using hn
 have htl:(l.take n).length=n:=by simp;omega
 have hdl:(l.drop n).length=l.toArray.size - n:=by simp
 have inv0:HeadInv .any l.toArray n (Array.replicate l.toArray.size false):=
  ⟨by simp,fun j oj _ hl=>(by rw[getD_replicate_false] at hl;cases hl),fun t _ ht=>getD_in (by simpa using ht) (getD_replicate_false _ _)⟩
 have H:=wpAnyC_lex (md:=.any) (g:=l.toArray.size - n) hsel hs hc hn (l.take n) 0 _ a (fun j hj=>by
  have hj':j<n:=by rw[htl] at hj;exact hj
  simp[hj']) (by simpa using htl) inv0 (by rw[htl];exact hlex) h
 refine wp_region_any hm ?_
 have:=wpAny_of_headC (Q:=Q) (g:=l.toArray.size - n) (fun listed a' hL w' hS'=>by
  have:=wpAny_of_seq (md:=.any) (Q':=Q) (l.drop n) n listed a' w' (fun j=>by simp[List.getElem?_drop]) (by rw[hdl];exact hL.1) (hL.2 w' hS')
  rwa [hdl] at this) _ _ _ H _ hS
 rw[htl,show n+(l.toArray.size - n)=l.toArray.size by omega] at this
 exact this
theorem wpHead_nil{Lq:Act->Prop}{a:Act}(h:Lq a):wpHead P ops S Lq [] a:=h
theorem wpHead_of{Lq:Act->Prop}{a:Act}{o:Oper}{rest:List Oper}(hw:Region.wanted o (yielded ops a.tmps)=true)
 (h:∀R:Act->Prop,(∀a',wpHead P ops S Lq rest a'->R a')->∃v,(∀w,S w->Gives P S v ((execOp a.eval o).run P w))/\R (a.put o.dst v)):wpHead P ops S Lq (o::rest) a:=by
 obtain⟨v,h1,h2⟩:=h _ (fun _ h=>h)
 exact⟨v,.inl ⟨hw,h1⟩,h2⟩
end
open Go.RowKit
section
variable {P : Program} {ops : Array Oper} {md : Region.Mode} {S : World -> Prop} {Q : Exit -> Act -> World -> Prop}
def planB(md:Region.Mode)(ops:Array Oper):List (Nat × Bool)->Array Bool->Bool
 | [],listed=>(Region.ready md ops listed).isEmpty
 | (i,true)::r,listed=>(Region.ready md ops listed).contains i && Region.free md ops listed i && planB md ops r (listed.setIfInBounds i true)
 | (i,false)::r,listed=>decide (Region.ready md ops listed=[i]) && planB md ops r (listed.setIfInBounds i true)
def wpPlan(P:Program)(ops:Array Oper)(Q:Exit->Act->World->Prop)(S:World->Prop):List (Nat × Bool)->Act->World->Prop
 | [],a,w=>Q .normal a w
 | (i,true)::r,a,w=>∃o v,ops[i]?=some o/\YieldsIf P ops S o v a/\wpPlan P ops Q S r (a.put o.dst v) w
 | (i,false)::r,a,w=>wpOp P ops Q i (fun a' w'=>S w'/\wpPlan P ops Q S r a' w') a w
theorem plan_sound(hsel:Region.noSelect ops=true)(hQ:∀c a w,¬Q (.panic c) a w):∀(l:List (Nat × Bool)) (listed:Array Bool) (a:Act) (w:World),planB md ops l listed=true->S w ->
 wpPlan P ops Q S l a w->wpAnyH P md ops Q S l.length listed a w
 | [],listed,a,w,hB,_,h=>⟨by simpa[planB] using hB,h⟩
 | (i,true)::r,listed,a,w,hB,hS,h=>by
  simp only[planB,Bool.and_eq_true] at hB
  obtain⟨o,v,ho,hy,hn⟩:=h
  exact wpAnyH_take ho hsel hB.1.2 hB.1.1 (fun c a w hp=>absurd hp (hQ c _ w)) hy hS (plan_sound hsel hQ r _ _ w hB.2 hS hn)
 | (i,false)::r,listed,a,w,hB,hS,h=>by
  simp only[planB,Bool.and_eq_true,decide_eq_true_eq] at hB
  refine⟨fun h0=>(by rw[hB.1] at h0;cases h0),fun j hj=>?_⟩
  rw[hB.1] at hj
  have hji:j=i:=by simpa using hj
  subst hji
  exact wpOp_mono (fun a' w' h'=>⟨h'.1,plan_sound hsel hQ r _ a' w' hB.2 h'.1 h'.2⟩) h
def Calm(Q:Exit->Act->World->Prop):Exit->Act->World->Prop
 | .panic _,_,_=>False
 | e,a,w=>Q e a w
theorem Calm.imp:∀(e:Exit) (a:Act) (w:World),Calm Q e a w->Q e a w:=fun e a w h=>by
 cases e<;>first|exact h|exact(h:False).elim
theorem wp_region_plan{id:Nat}{a:Act}{w:World}(S:World->Prop)(l:List (Nat × Bool))(hm:P.follows .mixedOrders=true)
 (hB:(Region.noSelect ops && decide (l.length=ops.size) && planB .any ops l (Array.replicate ops.size false))=true)
 (hS:S w.drew) (h:wpPlan P ops (Calm Q) S l a w.drew):(Code.region id ops true).wp P Q a w:=by
 simp only[Bool.and_eq_true,decide_eq_true_eq] at hB
 have H:=plan_sound (Q:=Calm Q) hB.1.1 (fun _ _ _ h=>h) l _ a _ hB.2 hS h
 rw[hB.1.2] at H
 exact Code.wp_mono Calm.imp (wp_region_any hm (wpAny_of_held _ _ _ _ H))
def wpAnyP(P:Program)(md:Region.Mode)(ops:Array Oper)(Q:Exit->Act->World->Prop)(S:World->Prop)(n:Nat)(L:Array Bool->Act->World->Prop):Nat->Array Bool->Act->World->Prop
 | 0,listed,a,w=>L listed a w
 | f+1,listed,a,w=>
  Region.ready md ops listed≠[]/\∀i∈Region.ready md ops listed,i<n/\wpOp P ops Q i (fun a' w'=>S w'/\wpAnyP P md ops Q S n L f (listed.setIfInBounds i true) a' w') a w
theorem wpAny_of_planned{n g:Nat}{L:Array Bool->Act->World->Prop}(hL:∀listed a w,L listed a w->wpAny P md ops Q g listed a w) :
 ∀(f:Nat) (listed:Array Bool) (a:Act) (w:World),wpAnyP P md ops Q S n L f listed a w->wpAny P md ops Q (f+g) listed a w
 | 0,listed,a,w,h=>by rw[Nat.zero_add];exact hL _ _ _ h
 | f+1,listed,a,w,h=>by
  rw[show f+1+g=(f+g)+1 by omega]
  exact⟨fun h0=>absurd h0 h.1,fun i hi=>wpOp_mono (fun a' w' h'=>wpAny_of_planned hL f _ a' w' h'.2) (h.2 i hi).2⟩
theorem wpAnyP_first{n i:Nat}{oi:Oper}{v:Value}{L:Array Bool->Act->World->Prop}(hi:ops[i]?=some oi)(hsel:∀(j:Nat) (o:Oper) cs b,ops[j]?=some o->o.op≠.select cs b)
 (hQ:∀c a w,¬Q (.panic c) a w) (hs:Region.sinkB md ops n=true) (hc:Region.chainB md ops n=true) (hn:n<ops.size) (hin:i<n)
 (hdone:∀listed a w,L listed a w->∀j∈Region.ready md ops listed,n<=j) :
 ∀(f:Nat) (listed:Array Bool) (a:Act) (w:World),HeadInv md ops n listed ->
  (∀j oj,ops[j]?=some oj->j≠i->listed.getD j true=false->(∀e∈oj.after,Region.binds md e=true->e.on≠i)->oi.apart ops oj=true) ->
  i∈Region.ready md ops listed->YieldsIf P ops S oi v a->S w ->
  wpAnyP P md ops Q S n L f (listed.setIfInBounds i true) (a.put oi.dst v) w->wpAnyP P md ops Q S n L (f+1) listed a w:=by
 intro f
 induction f with
 | zero=>
  intro listed a w inv _ hr hy hS H
  have hun:=(mem_ready.1 hr).1
  refine⟨fun h=>(by rw[h] at hr;cases hr),fun j hj=>?_⟩
  have hjn:j<n:=by
   rcases Nat.lt_or_ge j n with h|h
   ·exact h
   ·exact absurd hj (tail_waits hs hc hn inv _ i rfl hin hun j h)
  refine⟨hjn,?_⟩
  by_cases hji:j=i
  ·subst hji;exact hy.wpOp hi hS ⟨hS,H⟩
  ·have:=hdone _ _ _ H j (ready_mono hj hji)
   omega
 | succ f ih=>
  intro listed a w inv hfree hr hy hS H
  have hun:=(mem_ready.1 hr).1
  refine⟨fun h=>(by rw[h] at hr;cases hr),fun j hj=>?_⟩
  have hjn:j<n:=by
   rcases Nat.lt_or_ge j n with h|h
   ·exact h
   ·exact absurd hj (tail_waits hs hc hn inv _ i rfl hin hun j h)
  refine⟨hjn,?_⟩
  by_cases hji:j=i
  ·subst hji;exact hy.wpOp hi hS ⟨hS,H⟩
  ·have h1:=(H.2 j (ready_mono hj hji)).2
   obtain⟨hjun,oj,hoj,hall⟩:=mem_ready.1 hj
   have hnot:∀e∈oj.after,Region.binds md e=true->e.on≠i:=fun e he hb heq=>by
    have h1:=hall e he hb
    rw[heq,getD_both hun] at h1
    cases h1
   have h2:=wpOp_putIf hoj (hfree j oj hoj hji hjun hnot) (fun cs b=>hsel i oi cs b hi) (fun cs b=>hsel j oj cs b hoj) (fun c a w hp=>absurd hp (hQ c _ w)) hy h1
   have hfree':∀k ok,ops[k]?=some ok->k≠i->(listed.setIfInBounds j true).getD k true=false ->
    (∀e∈ok.after,Region.binds md e=true->e.on≠i)->oi.apart ops ok=true:=fun k ok hk hki hun' hno=>by
    refine hfree k ok hk hki ?_ hno
    by_cases hjk:j=k
    ·subst hjk;exact hjun
    ·rw[getD_set_ne true hjk] at hun';exact hun'
   refine wpOp_mono (fun a' w' h3=>⟨h3.2.1,ih (listed.setIfInBounds j true) a' w' (inv.set hj hjn) hfree' (ready_mono hr (Ne.symm hji)) h3.1 h3.2.1 ?_⟩) h2
   rw[Array.setIfInBounds_comm _ _ hji]
   exact h3.2.2
def planT(md:Region.Mode)(ops:Array Oper)(n g:Nat):List (Nat × Bool)->Array Bool->Bool
 | [],listed=>Region.seqB md ops g n listed
 | (i,true)::r,listed=>decide (i<n) && (Region.ready md ops listed).contains i && Region.free md ops listed i && planT md ops n g r (listed.setIfInBounds i true)
 | (i,false)::r,listed=>decide (i<n) && decide (Region.ready md ops listed=[i]) && planT md ops n g r (listed.setIfInBounds i true)
def wpPlanT(P:Program)(ops:Array Oper)(Q:Exit->Act->World->Prop)(S:World->Prop)(Lq:Act->World->Prop):List (Nat × Bool)->Act->World->Prop
 | [],a,w=>Lq a w
 | (i,true)::r,a,w=>∃o v,ops[i]?=some o/\YieldsIf P ops S o v a/\wpPlanT P ops Q S Lq r (a.put o.dst v) w
 | (i,false)::r,a,w=>wpOp P ops Q i (fun a' w'=>S w'/\wpPlanT P ops Q S Lq r a' w') a w
theorem planT_sound{n g:Nat}{Lq:Act->World->Prop}(hsel:Region.noSelect ops=true)(hQ:∀c a w,¬Q (.panic c) a w)(hs:Region.sinkB md ops n=true)(hc:Region.chainB md ops n=true)(hn:n<ops.size) :
 ∀(l:List (Nat × Bool)) (listed:Array Bool) (a:Act) (w:World),planT md ops n g l listed=true->HeadInv md ops n listed->S w ->
 wpPlanT P ops Q S Lq l a w->wpAnyP P md ops Q S n (fun listed' a' w'=>Region.seqB md ops g n listed'=true/\Lq a' w') l.length listed a w
 | [],listed,a,w,hB,_,_,h=>⟨by simpa[planT] using hB,h⟩
 | (i,true)::r,listed,a,w,hB,inv,hS,h=>by
  simp only[planT,Bool.and_eq_true,decide_eq_true_eq] at hB
  obtain⟨⟨⟨hin,hr⟩,hf⟩,hB'⟩:=hB
  obtain⟨o,v,ho,hy,hnx⟩:=h
  have hr':i∈Region.ready md ops listed:=by simpa using hr
  exact wpAnyP_first ho (Region.noSelect_spec hsel) hQ hs hc hn hin (fun _ _ _ hL=>seqB_ready hL.1) r.length listed a w inv (Region.free_spec ho hf) hr' hy hS
   (planT_sound hsel hQ hs hc hn r _ _ w hB' (inv.set hr' hin) hS hnx)
 | (i,false)::r,listed,a,w,hB,inv,hS,h=>by
  simp only[planT,Bool.and_eq_true,decide_eq_true_eq] at hB
  obtain⟨⟨hin,hr⟩,hB'⟩:=hB
  refine⟨fun h0=>(by rw[hr] at h0;cases h0),fun j hj=>?_⟩
  rw[hr] at hj
  have hji:j=i:=by simpa using hj
  subst hji
  refine⟨hin,wpOp_mono (fun a' w' h'=>⟨h'.1,planT_sound hsel hQ hs hc hn r _ a' w' hB' (inv.set (by rw[hr];simp) hin) h'.1 h'.2⟩) h⟩
theorem wp_region_planT{id:Nat}{a:Act}{w:World}{l:List Oper}(S:World->Prop)(n:Nat)(pl:List (Nat × Bool))(hm:P.follows .mixedOrders=true)
 (hB:(Region.noSelect l.toArray && decide (n<l.toArray.size) && decide (pl.length=n) && Region.sinkB .any l.toArray n && Region.chainB .any l.toArray n && planT .any l.toArray n (l.toArray.size - n) pl (Array.replicate l.toArray.size false))=true)
 (hS:S w.drew) (h:wpPlanT P l.toArray (Calm Q) S (fun a' w'=>wpList P l.toArray (Calm Q) (l.drop n) a' w') pl a w.drew):(Code.region id l.toArray true).wp P Q a w:=by
 simp only[Bool.and_eq_true,decide_eq_true_eq] at hB
 obtain⟨⟨⟨⟨⟨hsel,hn⟩,hpl⟩,hs⟩,hc⟩,hp⟩:=hB
 have hn':n<l.length:=by simpa using hn
 have hdl:(l.drop n).length=l.toArray.size - n:=by simp
 have inv0:HeadInv .any l.toArray n (Array.replicate l.toArray.size false):=
  ⟨by simp,fun j oj _ hl=>(by rw[getD_replicate_false] at hl;cases hl),fun t _ ht=>getD_in (by simpa using ht) (getD_replicate_false _ _)⟩
 have H:=planT_sound (Q:=Calm Q) (md:=.any) (g:=l.toArray.size - n) hsel (fun _ _ _ h=>h) hs hc hn pl _ a _ hp inv0 hS h
 have K:=wpAny_of_planned (Q:=Calm Q) (g:=l.toArray.size - n) (fun listed a' w' hL=>by
  have:=wpAny_of_seq (md:=.any) (Q':=Calm Q) (l.drop n) n listed a' w' (fun j=>by simp[List.getElem?_drop]) (by rw[hdl];exact hL.1) hL.2
  rwa [hdl] at this) _ _ _ _ H
 rw[hpl,show n+(l.toArray.size - n)=l.toArray.size by omega] at K
 exact Code.wp_mono Calm.imp (wp_region_any hm K)
def IsVal(v:Value)(w:World):Result Next->Prop
 | .ok r w'=>r=.value v/\w'=w
 | _=>False
def SameVal(v:Value)(w:World)(u:Value)(w':World):Prop:=u=v/\w'=w
@[go_sem] theorem isVal_value {v:Value} {w:World} (u:Value) (w':World):IsVal v w (.ok (.value u) w')=SameVal v w u w':=by
 simp[IsVal,SameVal]
theorem wpPlan_read{i:Nat}{r:List (Nat × Bool)}{a:Act}{w:World}{o:Oper}(ho:ops[i]?=some o)(hw:Region.wanted o (yielded ops a.tmps)=true)
 (h:∀R:Act->Prop,(∀a',wpPlan P ops Q S r a' w->R a')->∃v,(∀w',S w'->IsVal v w' ((execOp a.eval o).run P w'))/\R (a.put o.dst v)):wpPlan P ops Q S ((i,true)::r) a w:=by
 obtain⟨v,h1,h2⟩:=h _ (fun _ h=>h)
 refine⟨o,v,ho,.inl ⟨hw,fun w' hS=>?_⟩,h2⟩
 have h3:=h1 w' hS
 generalize (execOp a.eval o).run P w'=x at *
 cases x with
 | ok n w''=>obtain⟨rfl,rfl⟩:=h3;rfl
 | halt x w''=>exact h3.elim
theorem wpPlan_skip{i:Nat}{r:List (Nat × Bool)}{a:Act}{w:World}{o:Oper}(ho:ops[i]?=some o)(hw:Region.wanted o (yielded ops a.tmps)=false)
 (h:wpPlan P ops Q S r (a.put o.dst undef) w):wpPlan P ops Q S ((i,true)::r) a w:=⟨o,undef,ho,.inr ⟨hw,rfl⟩,h⟩
theorem wpPlan_do{i:Nat}{r:List (Nat × Bool)}{a:Act}{w:World}{o:Oper}(ho:ops[i]?=some o)(hw:Region.wanted o (yielded ops a.tmps)=true)
 (h:∀K:Act->World->Prop,(∀a' w',S w'->wpPlan P ops Q S r a' w'->K a' w')->o.wp P a w K Q):wpPlan P ops Q S ((i,false)::r) a w:=by
 unfold wpPlan wpOp
 simp only[ho,hw,if_true]
 exact .inl (h _ fun _ _ h1 h2=>⟨h1,h2⟩)
theorem wpPlan_nil{a:Act}{w:World}(h:Q .normal a w):wpPlan P ops (Calm Q) S [] a w:=h
theorem wpPlanT_read{Lq:Act->World->Prop}{i:Nat}{r:List (Nat × Bool)}{a:Act}{w:World}{o:Oper}(ho:ops[i]?=some o)(hw:Region.wanted o (yielded ops a.tmps)=true)
 (h:∀R:Act->Prop,(∀a',wpPlanT P ops Q S Lq r a' w->R a')->∃v,(∀w',S w'->IsVal v w' ((execOp a.eval o).run P w'))/\R (a.put o.dst v)):wpPlanT P ops Q S Lq ((i,true)::r) a w:=by
 obtain⟨v,h1,h2⟩:=h _ (fun _ h=>h)
 refine⟨o,v,ho,.inl ⟨hw,fun w' hS=>?_⟩,h2⟩
 have h3:=h1 w' hS
 generalize (execOp a.eval o).run P w'=x at *
 cases x with
 | ok n w''=>obtain⟨rfl,rfl⟩:=h3;rfl
 | halt x w''=>exact h3.elim
theorem wpPlanT_do{Lq:Act->World->Prop}{i:Nat}{r:List (Nat × Bool)}{a:Act}{w:World}{o:Oper}(ho:ops[i]?=some o)(hw:Region.wanted o (yielded ops a.tmps)=true)
 (h:∀K:Act->World->Prop,(∀a' w',S w'->wpPlanT P ops Q S Lq r a' w'->K a' w')->o.wp P a w K Q):wpPlanT P ops Q S Lq ((i,false)::r) a w:=by
 unfold wpPlanT wpOp
 simp only[ho,hw,if_true]
 exact .inl (h _ fun _ _ h1 h2=>⟨h1,h2⟩)
theorem wpPlanT_nil{Lq:Act->World->Prop}{a:Act}{w:World}(h:Lq a w):wpPlanT P ops Q S Lq [] a w:=h
theorem calm_normal{a:Act}{w:World}(h:Q .normal a w):Calm Q .normal a w:=h
end
open Go.RowKit Go.Lib
structure MayB(d n done weight:Int):Prop where
 d0:0<=d
 d1:d<=1000
 n1:n<=281474976710656
 e0:0<=done
 w0:0<weight
 dw:done+weight<=n
theorem may_any(d n done weight:Int)(w:World)(M:MayB d n done weight) :
 Calls Tryz.prog 360 #[.int .i64 d,.int .u64 n,.int .u64 done,.int .u64 weight] w fun e w'=>e=.returned (.bool (mayI d n done weight))/\Below w.heap.size w w':=by
 obtain⟨d0,d1,n1,e0,w0,dw⟩:=M
 have p0:0<=weight * d:=Int.mul_nonneg (by omega) d0
 have p1:weight * d<=weight * 1000:=Int.mul_le_mul_of_nonneg_left d1 (by omega)
 have HF:=Lib.hid (cmpI_le (weight * d * n) ((2 * done+weight) * (2 * n - 2 * done - weight)))
 go_enter Tryz.func360,Tryz.ntmps360
 go_wp2_with fail
 refine(wmul_any (weight * d) n _ p0 (by omega) (by omega) (by omega)).mono ?_
 rintro e w1 ⟨rfl,hb1⟩
 have hz1:=hb1.size
 go_wp2_with fail
 refine(wmul_any (2 * done+weight) (2 * n - 2 * done - weight) _ (by omega) (by omega) (by omega) (by omega)).mono ?_
 rintro e w2 ⟨rfl,hb2⟩
 have hz2:=hb2.size
 go_wp2_with fail
 refine(wcmp_of _ _ _).mono ?_
 rintro e w3 ⟨rfl,hb3⟩
 have hz3:=hb3.size
 go_wp2_with fail
 go_ret
 exact⟨ret_bool HF.out,by(repeat' (first|(with_reducible exact Below.refl _ _)|(with_reducible refine Below.alloc ?_ ?_ _)|(with_reducible refine Below.drew ?_)|(with_reducible refine below_drewN ?_ _)|(with_reducible refine Below.setCell ?_ ?_ _)|(with_reducible refine below_of (by assumption) ?_ ?_)|go_size))⟩
theorem rmay_any(d n done weight:Int)(w:World)(M:MayB d n done weight) :
 Calls Tryz.prog 296 #[.int .i64 d,.int .u64 n,.int .u64 done,.int .u64 weight] w fun e w'=>e=.returned (.bool (mayI d n done weight))/\Below w.heap.size w w':=by
 obtain⟨d0,d1,n1,e0,w0,dw⟩:=M
 have p0:0<=weight * d:=Int.mul_nonneg (by omega) d0
 have p1:weight * d<=weight * 1000:=Int.mul_le_mul_of_nonneg_left d1 (by omega)
 have HF:=Lib.hid (cmpI_le (weight * d * n) ((2 * done+weight) * (2 * n - 2 * done - weight)))
 have HE:=Lib.hid (show 2 * (n - done) - weight=2 * n - 2 * done - weight by omega)
 obtain⟨m0,m1⟩:=mul_lt128 (a:=weight * d) (b:=n) p0 (by omega) (by omega) (by omega)
 obtain⟨k0,k1⟩:=mul_lt128 (a:=2 * done+weight) (b:=2 * (n - done) - weight) (by omega) (by omega) (by omega) (by omega)
 go_enter Tryz.func296,Tryz.ntmps296
 go_wp2_with fail
 refine(rmul_any (weight * d) n _ p0 (by omega) (by omega) (by omega)).mono ?_
 rintro e w1 ⟨v1,rfl,x1,hb1⟩
 have D1:=Lib.hid x1
 have hz1:=hb1.size
 clear x1
 go_wp2_with fail
 refine(rmul_any (2 * done+weight) (2 * (n - done) - weight) _ (by omega) (by omega) (by omega) (by omega)).mono ?_
 rintro e w2 ⟨v2,rfl,x2,hb2⟩
 have D2:=Lib.hid x2
 have hz2:=hb2.size
 clear x2
 go_wp2_with fail
 refine(rcmp_any v1 v2 _ _ _ (D1.out.keep hb2) D2.out m0 m1 k0 k1).mono ?_
 rintro e w3 ⟨rfl,hb3⟩
 have hz3:=hb3.size
 rw[HE.out]
 go_wp2_with fail
 go_ret
 exact⟨ret_bool HF.out,by(repeat' (first|(with_reducible exact Below.refl _ _)|(with_reducible refine Below.alloc ?_ ?_ _)|(with_reducible refine Below.drew ?_)|(with_reducible refine below_drewN ?_ _)|(with_reducible refine Below.setCell ?_ ?_ _)|(with_reducible refine below_of (by assumption) ?_ ?_)|go_size))⟩
theorem ravg_any(low v high z:Int)(w:World)(m0:-9223372036854775808<=low)(mn:low<=high)(n1:high<=9223372036854775807)(v0:0<=v)(z0:0<z)(vz:v+z<18446744073709551616) :
 Calls Tryz.prog 297 #[.int .i64 low,.int .u64 v,.int .i64 high,.int .u64 z] w fun e w'=>e=.returned (.int .i64 (lerpI low high z (v+z)))/\Below w.heap.size w w':=by
 have ew:IntKind.u64.wrap (IntKind.u64.wrap high - IntKind.u64.wrap low)=high - low:=by simp only[u64w];omega
 obtain⟨b1,b2⟩:=lerpI_bd mn (x:=z) (y:=v+z) (by omega) (by omega) (by omega)
 have f0:0<=(high - low) * z / (v+z):=Int.ediv_nonneg (Int.mul_nonneg (by omega) (by omega)) (by omega)
 have eF:wrap64 (IntKind.u64.wrap (IntKind.u64.wrap low+(high - low) * z / (v+z)))=lerpI low high z (v+z):=by
  simp only[u64w,wrap64]
  unfold lerpI at *
  omega
 have EF:=Lib.hid eF
 clear b1 b2 eF
 go_enter Tryz.func297,Tryz.ntmps297
 go_wp2_with (first|(go_at_call 199;refine(rmuldiv_le (high - low) _ _ _ (by omega) (by omega) (by omega) (by omega) (by omega) vz).mono ?_;rintro e w1 ⟨rfl,hb1⟩;have⟨hc1,hf1⟩:=bcell hb1;have hz1:=hb1.size;try simp only[World.size_alloc,World.size_setCell,World.size_drew,World.size_drewN] at hz1))
 go_ret
 exact⟨ret_int EF.out,by(repeat' (first|(with_reducible exact Below.refl _ _)|(with_reducible refine Below.alloc ?_ ?_ _)|(with_reducible refine Below.drew ?_)|(with_reducible refine below_drewN ?_ _)|(with_reducible refine Below.setCell ?_ ?_ _)|(with_reducible refine below_of (by assumption) ?_ ?_)|go_size))⟩
theorem ahead_any(a b:Mn)(w:World) :
 Calls Tryz.prog 262 #[.agg #[.int .i64 a.1,.int .u64 a.2],.agg #[.int .i64 b.1,.int .u64 b.2]] w fun e w'=>e=.returned (.bool (decide (a.1<b.1)))/\Below w.heap.size w w':=by
 go_enter Tryz.func262,Tryz.ntmps262
 go_wp2
 go_ret
 exact⟨rfl,by(repeat' (first|(with_reducible exact Below.refl _ _)|(with_reducible refine Below.alloc ?_ ?_ _)|(with_reducible refine Below.drew ?_)|(with_reducible refine below_drewN ?_ _)|(with_reducible refine Below.setCell ?_ ?_ _)|(with_reducible refine below_of (by assumption) ?_ ?_)|go_size))⟩
theorem rtotal_any(v:Value)(l:List Mn)(w:World)(h:RdM w v l)(ho:okL l)(ht:tot l<=18446744073709551615) :
 Calls Tryz.prog 128 #[v] w fun e w'=>e=.returned (.int .u64 (tot l))/\Below w.heap.size w w':=by
 obtain⟨A,c,rfl,hn,hc,hp⟩:=h.form
 have HP:=Lib.hid hp
 clear hp h
 go_enter Tryz.func128,Tryz.ntmps128
 go_wp2_with fail
 go_loopg [3,4] l.length (fun k n i wr=>∃j:Nat,k=l.length - j/\j<=l.length/\n=.int .u64 (tot (l.take j))/\i=.int .i64 j/\Below w.heap.size w wr)
 case atStart=>exact⟨0,rfl,by omega,rfl,rfl,Below.refl _ _⟩
 case round=>
  obtain⟨j,hk,hj,rfl,rfl,hb⟩:=hrel
  have HK:=Lib.hid hk
  have hz:=hb.size
  clear hk
  by_cases hlt:j<l.length
  ·obtain⟨g,off,rfl,hg,c0,c1⟩:=(HP.out.keep hb).at_ hlt
   have t0:=ho.tot_take j
   have t1:=ho.tot_get hlt
   have o1:=(ho.get hlt).2.2
   have HT:=Lib.hid (tot_take_succ l j hlt)
   obtain⟨x,hx⟩:∃x,l[j].2=x:=⟨_,rfl⟩
   rw[hx] at c1 t1 o1
   have HX:=Lib.hid hx
   clear hx c0
   go_wp2_with fail
   go_roundg (l.length - (j+1))
   case measure=>have:=HK.out;omega
   case rel=>exact⟨j+1,rfl,by omega,by rw[HT.out,HX.out],by go_num,by(repeat' (first|(with_reducible exact Below.refl _ _)|(with_reducible refine Below.alloc ?_ ?_ _)|(with_reducible refine Below.drew ?_)|(with_reducible refine below_drewN ?_ _)|(with_reducible refine Below.setCell ?_ ?_ _)|(with_reducible refine below_of (by assumption) ?_ ?_)|go_size))⟩
  ·go_wp2_with fail
   go_ret
   exact⟨ret_int (by rw[List.take_of_length_le (by omega)]),by(repeat' (first|(with_reducible exact Below.refl _ _)|(with_reducible refine Below.alloc ?_ ?_ _)|(with_reducible refine Below.drew ?_)|(with_reducible refine below_drewN ?_ _)|(with_reducible refine Below.setCell ?_ ?_ _)|(with_reducible refine below_of (by assumption) ?_ ?_)|go_size))⟩
end Go.Proofs.YtkiebccnpheloaaGreat
