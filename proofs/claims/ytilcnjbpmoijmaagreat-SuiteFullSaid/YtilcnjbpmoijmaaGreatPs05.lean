/- Parts of a proof: what its theorem reaches, words cut short. No condition of its own. -/
import Derived.Test.YtilcnjbpmoijmaaGreatPs04
import Derived.OrdersHeld
set_option maxRecDepth 100000
set_option maxHeartbeats 16000000
set_option linter.unusedVariables false
set_option linter.unusedSimpArgs false
namespace Go.Proofs.YtilcnjbpmoijmaaGreat
open Go.RowKit
section
variable {P : Program} {ops : Array Oper} {md : Region.Mode} {S : World -> Prop} {Q : Exit -> Act -> World -> Prop}
def planB(md:Region.Mode)(ops:Array Oper):List (Nat × Bool)->Array Bool->Bool
 | [],listed=>(Region.ready md ops listed).isEmpty
 | (i,true)::r,listed=>(Region.ready md ops listed).contains i && Region.free md ops listed i && planB md ops r (listed.setIfInBounds i true)
 | (i,false)::r,listed=>decide (Region.ready md ops listed=[i]) && planB md ops r (listed.setIfInBounds i true)
def wpPlan(P:Program)(ops:Array Oper)(Q:Exit->Act->World->Prop)(S:World->Prop):List (Nat × Bool)->Act->World->Prop
 | [],a,w=>Q .normal a w
 | (i,true)::r,a,w=>∃o v,ops[i]?=some o/\YieldsIf P ops S o v a/\wpPlan P ops Q S r (a.put o.dst v) w
 | (i,false)::r,a,w=>wpOp P ops Q i (fun a' w'=>S w'/\wpPlan P ops Q S r a' w') a w
theorem plan_sound(hsel:Region.noSelect ops=true)(hQ:∀c a w,¬Q (.panic c) a w):∀(l:List (Nat × Bool)) (listed:Array Bool) (a:Act) (w:World),planB md ops l listed=true->S w ->
 wpPlan P ops Q S l a w->wpAnyH P md ops Q S l.length listed a w
 | [],listed,a,w,hB,_,h=>⟨by simpa[planB] using hB,h⟩
 | (i,true)::r,listed,a,w,hB,hS,h=>by
  simp only[planB,Bool.and_eq_true] at hB
  obtain⟨o,v,ho,hy,hn⟩:=h
  exact wpAnyH_take ho hsel hB.1.2 hB.1.1 (fun c a w hp=>absurd hp (hQ c _ w)) hy hS (plan_sound hsel hQ r _ _ w hB.2 hS hn)
 | (i,false)::r,listed,a,w,hB,hS,h=>by
  simp only[planB,Bool.and_eq_true,decide_eq_true_eq] at hB
  refine⟨fun h0=>(by rw[hB.1] at h0;cases h0),fun j hj=>?_⟩
  rw[hB.1] at hj
  have hji:j=i:=by simpa using hj
  subst hji
  exact wpOp_mono (fun a' w' h'=>⟨h'.1,plan_sound hsel hQ r _ a' w' hB.2 h'.1 h'.2⟩) h
def Calm(Q:Exit->Act->World->Prop):Exit->Act->World->Prop
 | .panic _,_,_=>False
 | e,a,w=>Q e a w
theorem Calm.imp:∀(e:Exit) (a:Act) (w:World),Calm Q e a w->Q e a w:=fun e a w h=>by
 cases e<;>first|exact h|exact(h:False).elim
theorem wp_region_plan{id:Nat}{a:Act}{w:World}(S:World->Prop)(l:List (Nat × Bool))(hm:P.follows .mixedOrders=true)
 (hB:(Region.noSelect ops && decide (l.length=ops.size) && planB .any ops l (Array.replicate ops.size false))=true)
 (hS:S w.drew) (h:wpPlan P ops (Calm Q) S l a w.drew):(Code.region id ops true).wp P Q a w:=by
 simp only[Bool.and_eq_true,decide_eq_true_eq] at hB
 have H:=plan_sound (Q:=Calm Q) hB.1.1 (fun _ _ _ h=>h) l _ a _ hB.2 hS h
 rw[hB.1.2] at H
 exact Code.wp_mono Calm.imp (wp_region_any hm (wpAny_of_held _ _ _ _ H))
def wpAnyP(P:Program)(md:Region.Mode)(ops:Array Oper)(Q:Exit->Act->World->Prop)(S:World->Prop)(n:Nat)(L:Array Bool->Act->World->Prop):Nat->Array Bool->Act->World->Prop
 | 0,listed,a,w=>L listed a w
 | f+1,listed,a,w=>
  Region.ready md ops listed≠[]/\∀i∈Region.ready md ops listed,i<n/\wpOp P ops Q i (fun a' w'=>S w'/\wpAnyP P md ops Q S n L f (listed.setIfInBounds i true) a' w') a w
theorem wpAny_of_planned{n g:Nat}{L:Array Bool->Act->World->Prop}(hL:∀listed a w,L listed a w->wpAny P md ops Q g listed a w) :
 ∀(f:Nat) (listed:Array Bool) (a:Act) (w:World),wpAnyP P md ops Q S n L f listed a w->wpAny P md ops Q (f+g) listed a w
 | 0,listed,a,w,h=>by rw[Nat.zero_add];exact hL _ _ _ h
 | f+1,listed,a,w,h=>by
  rw[show f+1+g=(f+g)+1 by omega]
  exact⟨fun h0=>absurd h0 h.1,fun i hi=>wpOp_mono (fun a' w' h'=>wpAny_of_planned hL f _ a' w' h'.2) (h.2 i hi).2⟩
theorem wpAnyP_first{n i:Nat}{oi:Oper}{v:Value}{L:Array Bool->Act->World->Prop}(hi:ops[i]?=some oi)(hsel:∀(j:Nat) (o:Oper) cs b,ops[j]?=some o->o.op≠.select cs b)
 (hQ:∀c a w,¬Q (.panic c) a w) (hs:Region.sinkB md ops n=true) (hc:Region.chainB md ops n=true) (hn:n<ops.size) (hin:i<n)
 (hdone:∀listed a w,L listed a w->∀j∈Region.ready md ops listed,n<=j) :
 ∀(f:Nat) (listed:Array Bool) (a:Act) (w:World),HeadInv md ops n listed ->
  (∀j oj,ops[j]?=some oj->j≠i->listed.getD j true=false->(∀e∈oj.after,Region.binds md e=true->e.on≠i)->oi.apart ops oj=true) ->
  i∈Region.ready md ops listed->YieldsIf P ops S oi v a->S w ->
  wpAnyP P md ops Q S n L f (listed.setIfInBounds i true) (a.put oi.dst v) w->wpAnyP P md ops Q S n L (f+1) listed a w:=by
 intro f
 induction f with
 | zero=>
  intro listed a w inv _ hr hy hS H
  have hun:=(mem_ready.1 hr).1
  refine⟨fun h=>(by rw[h] at hr;cases hr),fun j hj=>?_⟩
  have hjn:j<n:=by
   rcases Nat.lt_or_ge j n with h|h
   ·exact h
   ·exact absurd hj (tail_waits hs hc hn inv _ i rfl hin hun j h)
  refine⟨hjn,?_⟩
  by_cases hji:j=i
  ·subst hji;exact hy.wpOp hi hS ⟨hS,H⟩
  ·have:=hdone _ _ _ H j (ready_mono hj hji)
   omega
 | succ f ih=>
  intro listed a w inv hfree hr hy hS H
  have hun:=(mem_ready.1 hr).1
  refine⟨fun h=>(by rw[h] at hr;cases hr),fun j hj=>?_⟩
  have hjn:j<n:=by
   rcases Nat.lt_or_ge j n with h|h
   ·exact h
   ·exact absurd hj (tail_waits hs hc hn inv _ i rfl hin hun j h)
  refine⟨hjn,?_⟩
  by_cases hji:j=i
  ·subst hji;exact hy.wpOp hi hS ⟨hS,H⟩
  ·have h1:=(H.2 j (ready_mono hj hji)).2
   obtain⟨hjun,oj,hoj,hall⟩:=mem_ready.1 hj
   have hnot:∀e∈oj.after,Region.binds md e=true->e.on≠i:=fun e he hb heq=>by
    have h1:=hall e he hb
    rw[heq,getD_both hun] at h1
    cases h1
   have h2:=wpOp_putIf hoj (hfree j oj hoj hji hjun hnot) (fun cs b=>hsel i oi cs b hi) (fun cs b=>hsel j oj cs b hoj) (fun c a w hp=>absurd hp (hQ c _ w)) hy h1
   have hfree':∀k ok,ops[k]?=some ok->k≠i->(listed.setIfInBounds j true).getD k true=false ->
    (∀e∈ok.after,Region.binds md e=true->e.on≠i)->oi.apart ops ok=true:=fun k ok hk hki hun' hno=>by
    refine hfree k ok hk hki ?_ hno
    by_cases hjk:j=k
    ·subst hjk;exact hjun
    ·rw[getD_set_ne true hjk] at hun';exact hun'
   refine wpOp_mono (fun a' w' h3=>⟨h3.2.1,ih (listed.setIfInBounds j true) a' w' (inv.set hj hjn) hfree' (ready_mono hr (Ne.symm hji)) h3.1 h3.2.1 ?_⟩) h2
   rw[Array.setIfInBounds_comm _ _ hji]
   exact h3.2.2
def planT(md:Region.Mode)(ops:Array Oper)(n g:Nat):List (Nat × Bool)->Array Bool->Bool
 | [],listed=>Region.seqB md ops g n listed
 | (i,true)::r,listed=>decide (i<n) && (Region.ready md ops listed).contains i && Region.free md ops listed i && planT md ops n g r (listed.setIfInBounds i true)
 | (i,false)::r,listed=>decide (i<n) && decide (Region.ready md ops listed=[i]) && planT md ops n g r (listed.setIfInBounds i true)
def wpPlanT(P:Program)(ops:Array Oper)(Q:Exit->Act->World->Prop)(S:World->Prop)(Lq:Act->World->Prop):List (Nat × Bool)->Act->World->Prop
 | [],a,w=>Lq a w
 | (i,true)::r,a,w=>∃o v,ops[i]?=some o/\YieldsIf P ops S o v a/\wpPlanT P ops Q S Lq r (a.put o.dst v) w
 | (i,false)::r,a,w=>wpOp P ops Q i (fun a' w'=>S w'/\wpPlanT P ops Q S Lq r a' w') a w
theorem planT_sound{n g:Nat}{Lq:Act->World->Prop}(hsel:Region.noSelect ops=true)(hQ:∀c a w,¬Q (.panic c) a w)(hs:Region.sinkB md ops n=true)(hc:Region.chainB md ops n=true)(hn:n<ops.size) :
 ∀(l:List (Nat × Bool)) (listed:Array Bool) (a:Act) (w:World),planT md ops n g l listed=true->HeadInv md ops n listed->S w ->
 wpPlanT P ops Q S Lq l a w->wpAnyP P md ops Q S n (fun listed' a' w'=>Region.seqB md ops g n listed'=true/\Lq a' w') l.length listed a w
 | [],listed,a,w,hB,_,_,h=>⟨by simpa[planT] using hB,h⟩
 | (i,true)::r,listed,a,w,hB,inv,hS,h=>by
  simp only[planT,Bool.and_eq_true,decide_eq_true_eq] at hB
  obtain⟨⟨⟨hin,hr⟩,hf⟩,hB'⟩:=hB
  obtain⟨o,v,ho,hy,hnx⟩:=h
  have hr':i∈Region.ready md ops listed:=by simpa using hr
  exact wpAnyP_first ho (Region.noSelect_spec hsel) hQ hs hc hn hin (fun _ _ _ hL=>seqB_ready hL.1) r.length listed a w inv (Region.free_spec ho hf) hr' hy hS
   (planT_sound hsel hQ hs hc hn r _ _ w hB' (inv.set hr' hin) hS hnx)
 | (i,false)::r,listed,a,w,hB,inv,hS,h=>by
  simp only[planT,Bool.and_eq_true,decide_eq_true_eq] at hB
  obtain⟨⟨hin,hr⟩,hB'⟩:=hB
  refine⟨fun h0=>(by rw[hr] at h0;cases h0),fun j hj=>?_⟩
  rw[hr] at hj
  have hji:j=i:=by simpa using hj
  subst hji
  refine⟨hin,wpOp_mono (fun a' w' h'=>⟨h'.1,planT_sound hsel hQ hs hc hn r _ a' w' hB' (inv.set (by rw[hr];simp) hin) h'.1 h'.2⟩) h⟩
theorem wp_region_planT{id:Nat}{a:Act}{w:World}{l:List Oper}(S:World->Prop)(n:Nat)(pl:List (Nat × Bool))(hm:P.follows .mixedOrders=true)
 (hB:(Region.noSelect l.toArray && decide (n<l.toArray.size) && decide (pl.length=n) && Region.sinkB .any l.toArray n && Region.chainB .any l.toArray n && planT .any l.toArray n (l.toArray.size - n) pl (Array.replicate l.toArray.size false))=true)
 (hS:S w.drew) (h:wpPlanT P l.toArray (Calm Q) S (fun a' w'=>wpList P l.toArray (Calm Q) (l.drop n) a' w') pl a w.drew):(Code.region id l.toArray true).wp P Q a w:=by
 simp only[Bool.and_eq_true,decide_eq_true_eq] at hB
 obtain⟨⟨⟨⟨⟨hsel,hn⟩,hpl⟩,hs⟩,hc⟩,hp⟩:=hB
 have hn':n<l.length:=by simpa using hn
 have hdl:(l.drop n).length=l.toArray.size - n:=by simp
 have inv0:HeadInv .any l.toArray n (Array.replicate l.toArray.size false):=
  ⟨by simp,fun j oj _ hl=>(by rw[getD_replicate_false] at hl;cases hl),fun t _ ht=>getD_in (by simpa using ht) (getD_replicate_false _ _)⟩
 have H:=planT_sound (Q:=Calm Q) (md:=.any) (g:=l.toArray.size - n) hsel (fun _ _ _ h=>h) hs hc hn pl _ a _ hp inv0 hS h
 have K:=wpAny_of_planned (Q:=Calm Q) (g:=l.toArray.size - n) (fun listed a' w' hL=>by
  have:=wpAny_of_seq (md:=.any) (Q':=Calm Q) (l.drop n) n listed a' w' (fun j=>by simp[List.getElem?_drop]) (by rw[hdl];exact hL.1) hL.2
  rwa [hdl] at this) _ _ _ _ H
 rw[hpl,show n+(l.toArray.size - n)=l.toArray.size by omega] at K
 exact Code.wp_mono Calm.imp (wp_region_any hm K)
def IsVal(v:Value)(w:World):Result Next->Prop
 | .ok r w'=>r=.value v/\w'=w
 | _=>False
def SameVal(v:Value)(w:World)(u:Value)(w':World):Prop:=u=v/\w'=w
@[go_sem] theorem isVal_value {v:Value} {w:World} (u:Value) (w':World):IsVal v w (.ok (.value u) w')=SameVal v w u w':=by
 simp[IsVal,SameVal]
theorem wpPlan_read{i:Nat}{r:List (Nat × Bool)}{a:Act}{w:World}{o:Oper}(ho:ops[i]?=some o)(hw:Region.wanted o (yielded ops a.tmps)=true)
 (h:∀R:Act->Prop,(∀a',wpPlan P ops Q S r a' w->R a')->∃v,(∀w',S w'->IsVal v w' ((execOp a.eval o).run P w'))/\R (a.put o.dst v)):wpPlan P ops Q S ((i,true)::r) a w:=by
 obtain⟨v,h1,h2⟩:=h _ (fun _ h=>h)
 refine⟨o,v,ho,.inl ⟨hw,fun w' hS=>?_⟩,h2⟩
 have h3:=h1 w' hS
 generalize (execOp a.eval o).run P w'=x at *
 cases x with
 | ok n w''=>obtain⟨rfl,rfl⟩:=h3;rfl
 | halt x w''=>exact h3.elim
theorem wpPlan_skip{i:Nat}{r:List (Nat × Bool)}{a:Act}{w:World}{o:Oper}(ho:ops[i]?=some o)(hw:Region.wanted o (yielded ops a.tmps)=false)
 (h:wpPlan P ops Q S r (a.put o.dst undef) w):wpPlan P ops Q S ((i,true)::r) a w:=⟨o,undef,ho,.inr ⟨hw,rfl⟩,h⟩
theorem wpPlan_do{i:Nat}{r:List (Nat × Bool)}{a:Act}{w:World}{o:Oper}(ho:ops[i]?=some o)(hw:Region.wanted o (yielded ops a.tmps)=true)
 (h:∀K:Act->World->Prop,(∀a' w',S w'->wpPlan P ops Q S r a' w'->K a' w')->o.wp P a w K Q):wpPlan P ops Q S ((i,false)::r) a w:=by
 unfold wpPlan wpOp
 simp only[ho,hw,if_true]
 exact .inl (h _ fun _ _ h1 h2=>⟨h1,h2⟩)
theorem wpPlan_nil{a:Act}{w:World}(h:Q .normal a w):wpPlan P ops (Calm Q) S [] a w:=h
theorem wpPlanT_read{Lq:Act->World->Prop}{i:Nat}{r:List (Nat × Bool)}{a:Act}{w:World}{o:Oper}(ho:ops[i]?=some o)(hw:Region.wanted o (yielded ops a.tmps)=true)
 (h:∀R:Act->Prop,(∀a',wpPlanT P ops Q S Lq r a' w->R a')->∃v,(∀w',S w'->IsVal v w' ((execOp a.eval o).run P w'))/\R (a.put o.dst v)):wpPlanT P ops Q S Lq ((i,true)::r) a w:=by
 obtain⟨v,h1,h2⟩:=h _ (fun _ h=>h)
 refine⟨o,v,ho,.inl ⟨hw,fun w' hS=>?_⟩,h2⟩
 have h3:=h1 w' hS
 generalize (execOp a.eval o).run P w'=x at *
 cases x with
 | ok n w''=>obtain⟨rfl,rfl⟩:=h3;rfl
 | halt x w''=>exact h3.elim
theorem wpPlanT_nil{Lq:Act->World->Prop}{a:Act}{w:World}(h:Lq a w):wpPlanT P ops Q S Lq [] a w:=h
theorem calm_normal{a:Act}{w:World}(h:Q .normal a w):Calm Q .normal a w:=h
def plr:Nat->Nat->List (Nat × Bool)->List (Nat × Bool)
 | _,0,r=>r
 | i,n+1,r=>(i,true)::plr (i+1) n r
def ple(i:Nat)(r:List (Nat × Bool)):List (Nat × Bool):=(i,false)::r
theorem plR{i:Nat}{r:List (Nat × Bool)}{a a':Act}{w:World}{o:Oper}{v:Value}(k:wpPlan P ops Q S r a' w)(ho:ops[i]?=some o:=by rfl)(hw:Region.wanted o (yielded ops a.tmps)=true:=by rfl)
 (h:∀w',S w'->IsVal v w' ((execOp a.eval o).run P w'):=by
  intro w' hS'
  first
  | (have q:=FBq.out w' hS';(repeat ((with_reducible have q1:=And.left q);(with_reducible replace q:=And.right q)));go_simp;exact⟨rfl,rfl⟩)
  | (go_simp;exact⟨rfl,rfl⟩))
 (he:∀R:Act->Prop,R a'->R (a.put o.dst v):=by intro R hR;go_simp;exact hR):wpPlan P ops Q S ((i,true)::r) a w:=
 wpPlan_read ho hw fun R hR=>⟨v,h,he R (hR _ k)⟩
theorem plTR{Lq:Act->World->Prop}{i:Nat}{r:List (Nat × Bool)}{a a':Act}{w:World}{o:Oper}{v:Value}(k:wpPlanT P ops Q S Lq r a' w)(ho:ops[i]?=some o:=by rfl)(hw:Region.wanted o (yielded ops a.tmps)=true:=by rfl)
 (h:∀w',S w'->IsVal v w' ((execOp a.eval o).run P w'):=by
  intro w' hS'
  first
  | (have q:=FBq.out w' hS';(repeat ((with_reducible have q1:=And.left q);(with_reducible replace q:=And.right q)));go_simp;exact⟨rfl,rfl⟩)
  | (go_simp;exact⟨rfl,rfl⟩))
 (he:∀R:Act->Prop,R a'->R (a.put o.dst v):=by intro R hR;go_simp;exact hR):wpPlanT P ops Q S Lq ((i,true)::r) a w:=
 wpPlanT_read ho hw fun R hR=>⟨v,h,he R (hR _ k)⟩
theorem plD{i:Nat}{r:List (Nat × Bool)}{a:Act}{w:World}{o:Oper}(h:∀K:Act->World->Prop,(∀a' w',S w'->wpPlan P ops Q S r a' w'->K a' w')->o.wp P a w K Q)
 (ho:ops[i]?=some o:=by rfl) (hw:Region.wanted o (yielded ops a.tmps)=true:=by rfl):wpPlan P ops Q S ((i,false)::r) a w:=wpPlan_do ho hw h
theorem plK{i:Nat}{r:List (Nat × Bool)}{a:Act}{w:World}{o:Oper}(h:wpPlan P ops Q S r (a.put o.dst undef) w)(ho:ops[i]?=some o:=by rfl)(hw:Region.wanted o (yielded ops a.tmps)=false:=by rfl):wpPlan P ops Q S ((i,true)::r) a w:=wpPlan_skip ho hw h
theorem plA{id:Nat}{a:Act}{w:World}(S:World->Prop)(l:List (Nat × Bool))(hS:S w.drew)(h:wpPlan P ops (Calm Q) S l a w.drew)(hm:P.follows .mixedOrders=true:=by kernel_rfl)
 (hB:(Region.noSelect ops && decide (l.length=ops.size) && planB .any ops l (Array.replicate ops.size false))=true:=by kernel_rfl):(Code.region id ops true).wp P Q a w:=wp_region_plan S l hm hB hS h
theorem plTA{id:Nat}{a:Act}{w:World}{l:List Oper}(S:World->Prop)(n:Nat)(pl:List (Nat × Bool))(hS:S w.drew)(h:wpPlanT P l.toArray (Calm Q) S (fun a' w'=>wpList P l.toArray (Calm Q) (l.drop n) a' w') pl a w.drew)(hm:P.follows .mixedOrders=true:=by kernel_rfl)
 (hB:(Region.noSelect l.toArray && decide (n<l.toArray.size) && decide (pl.length=n) && Region.sinkB .any l.toArray n && Region.chainB .any l.toArray n && planT .any l.toArray n (l.toArray.size - n) pl (Array.replicate l.toArray.size false))=true:=by kernel_rfl):(Code.region id l.toArray true).wp P Q a w:=wp_region_planT S n pl hm hB hS h
end
end Go.Proofs.YtilcnjbpmoijmaaGreat
