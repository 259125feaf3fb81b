/- Parts of a proof: what its theorem reaches, words cut short. No condition of its own. -/
import Derived.Test.YtilcnjbpmoijmaaGreatPs05
set_option maxRecDepth 100000
set_option maxHeartbeats 16000000
set_option linter.unusedVariables false
set_option linter.unusedSimpArgs false
namespace Go.Proofs.YtilcnjbpmoijmaaGreat
open Go.RowKit
section
variable {P : Program} {ops : Array Oper} {md : Region.Mode} {S : World -> Prop} {Q : Exit -> Act -> World -> Prop} {t : Nat}
def wpAnyS(P:Program)(md:Region.Mode)(ops:Array Oper)(Q:Exit->Act->World->Prop)(S:World->Prop)(t:Nat):Nat->Array Bool->Act->World->Prop
 | 0,listed,a,w=>Region.ready md ops listed=[]/\Q .normal a w
 | f+1,listed,a,w=>
  (Region.ready md ops listed=[]->Q .normal a w) /\
  ∀i∈Region.ready md ops listed,wpOp P ops Q i (fun a' w'=>((listed.setIfInBounds i true).getD t true=false->S w')/\wpAnyS P md ops Q S t f (listed.setIfInBounds i true) a' w') a w
theorem wpAny_of_S:∀(f:Nat) (listed:Array Bool) (a:Act) (w:World),wpAnyS P md ops Q S t f listed a w->wpAny P md ops Q f listed a w
 | 0,_,_,_,h=>h
 | f+1,_,_,_,h=>⟨h.1,fun i hi=>wpOp_mono (fun a' w' h'=>wpAny_of_S f _ a' w' h'.2) (h.2 i hi)⟩
def Waits(md:Region.Mode)(ops:Array Oper)(t i:Nat):Prop:=∃o,ops[t]?=some o/\∃e∈o.after,Region.binds md e=true/\e.on=i
theorem wpAnyS_first{i:Nat}{oi:Oper}{v:Value}{S0:World->Prop}(hit:i≠t)(hi:ops[i]?=some oi)(hsel:∀(j:Nat) (o:Oper) cs b,ops[j]?=some o->o.op≠.select cs b)
 (hQ:∀c a w,Q (.panic c) (a.put oi.dst v) w->Q (.panic c) a w) :
 ∀(fuel:Nat) (listed:Array Bool) (a:Act) (w:World),
  (∀j oj,ops[j]?=some oj->j≠i->listed.getD j true=false->(∀e∈oj.after,Region.binds md e=true->e.on≠i)->oi.apart ops oj=true) ->
  i∈Region.ready md ops listed->YieldsIf P ops S0 oi v a->(listed.getD t true=false->S w) ->
  ((∀w,S0 w)\/((∀w,S w->S0 w)/\listed.getD t true=false/\Waits md ops t i)) ->
  wpAnyS P md ops Q S t fuel (listed.setIfInBounds i true) (a.put oi.dst v) w->wpAnyS P md ops Q S t (fuel+1) listed a w:=by
 intro fuel
 induction fuel with
 | zero=>
  intro listed a w _ hr hy hS hk H
  have h0:S0 w:=by
   rcases hk with hk|⟨h1,h2,_⟩
   ·exact hk w
   ·exact h1 w (hS h2)
  refine⟨fun h=>(by rw[h] at hr;cases hr),fun j hj=>?_⟩
  by_cases hji:j=i
  ·subst hji;exact hy.wpOp hi h0 ⟨fun h=>hS (by rwa [getD_set_ne true hit] at h),H⟩
  ·have:=ready_mono hj hji
   rw[H.1] at this
   cases this
 | succ fuel ih=>
  intro listed a w hfree hr hy hS hk H
  have h0:S0 w:=by
   rcases hk with hk|⟨h1,h2,_⟩
   ·exact hk w
   ·exact h1 w (hS h2)
  refine⟨fun h=>(by rw[h] at hr;cases hr),fun j hj=>?_⟩
  by_cases hji:j=i
  ·subst hji;exact hy.wpOp hi h0 ⟨fun h=>hS (by rwa [getD_set_ne true hit] at h),H⟩
  ·have h1:=H.2 j (ready_mono hj hji)
   obtain⟨hjun,oj,hoj,hall⟩:=mem_ready.1 hj
   have hnot:∀e∈oj.after,Region.binds md e=true->e.on≠i:=fun e he hb heq=>by
    have h1:=hall e he hb
    have h0:=(mem_ready.1 hr).1
    rw[heq] at h1
    rcases Nat.lt_or_ge i listed.size with h'|h'
    ·simp[h'] at h0 h1;rw[h0] at h1;cases h1
    ·simp[Array.getElem?_eq_none h'] at h1
   have h2:=wpOp_putIf hoj (hfree j oj hoj hji hjun hnot) (fun cs b=>hsel i oi cs b hi) (fun cs b=>hsel j oj cs b hoj) hQ hy h1
   have hfree':∀k ok,ops[k]?=some ok->k≠i->(listed.setIfInBounds j true).getD k true=false ->
    (∀e∈ok.after,Region.binds md e=true->e.on≠i)->oi.apart ops ok=true:=fun k ok hk hki hun hno=>by
    refine hfree k ok hk hki ?_ hno
    by_cases hjk:j=k
    ·subst hjk;exact hjun
    ·rw[getD_set_ne true hjk] at hun;exact hun
   have hk':(∀w,S0 w)\/((∀w,S w->S0 w)/\(listed.setIfInBounds j true).getD t true=false/\Waits md ops t i):=by
    rcases hk with hk|⟨k1,k2,k3⟩
    ·exact .inl hk
    ·refine .inr ⟨k1,?_,k3⟩
     have hjt:j≠t:=by
      rintro rfl
      obtain⟨o,ho,e,he,hb,hon⟩:=k3
      rw[hoj] at ho
      injection ho with ho
      subst ho
      exact hnot e he hb hon
     rw[getD_set_ne true hjt];exact k2
   refine wpOp_mono (fun a' w' h3=>?_) h2
   have hS':(listed.setIfInBounds j true).getD t true=false->S w':=fun h=>h3.2.1 (by rw[Array.setIfInBounds_comm _ _ (Ne.symm hji),getD_set_ne true hit];exact h)
   refine⟨hS',ih (listed.setIfInBounds j true) a' w' hfree' (ready_mono hr (Ne.symm hji)) h3.1 hS' hk' ?_⟩
   rw[Array.setIfInBounds_comm _ _ hji]
   exact h3.2.2
def planSB(md:Region.Mode)(ops:Array Oper)(t:Nat):List (Nat × Nat)->Array Bool->Bool
 | [],listed=>(Region.ready md ops listed).isEmpty
 | (i,0)::r,listed=>decide (Region.ready md ops listed=[i]) && planSB md ops t r (listed.setIfInBounds i true)
 | (i,1)::r,listed=>(Region.ready md ops listed).contains i && Region.free md ops listed i && decide (i≠t) && (listed.getD t true == false) && Region.waitsFor md ops t i && planSB md ops t r (listed.setIfInBounds i true)
 | (i,_+2)::r,listed=>(Region.ready md ops listed).contains i && Region.free md ops listed i && decide (i≠t) && planSB md ops t r (listed.setIfInBounds i true)
def wpPlanS(P:Program)(ops:Array Oper)(Q:Exit->Act->World->Prop)(S:World->Prop)(t:Nat):Bool->List (Nat × Nat)->Act->World->Prop
 | _,[],a,w=>Q .normal a w
 | d,(i,0)::r,a,w=>wpOp P ops Q i (fun a' w'=>((d || i == t)=false->S w')/\wpPlanS P ops Q S t (d || i == t) r a' w') a w
 | d,(i,1)::r,a,w=>∃o v,ops[i]?=some o/\YieldsIf P ops S o v a/\wpPlanS P ops Q S t d r (a.put o.dst v) w
 | d,(i,_+2)::r,a,w=>∃o v,ops[i]?=some o/\YieldsIf P ops (fun _=>True) o v a/\wpPlanS P ops Q S t d r (a.put o.dst v) w
theorem planS_sound(hsel:Region.noSelect ops=true)(hQ:∀c a w,¬Q (.panic c) a w):∀(l:List (Nat × Nat)) (d:Bool) (listed:Array Bool) (a:Act) (w:World),planSB md ops t l listed=true->listed.getD t true=d->(d=false->S w) ->
 wpPlanS P ops Q S t d l a w->wpAnyS P md ops Q S t l.length listed a w
 | [],d,listed,a,w,hB,_,_,h=>⟨by simpa[planSB] using hB,h⟩
 | (i,1)::r,d,listed,a,w,hB,hd,hS,h=>by
  simp only[planSB,Bool.and_eq_true,decide_eq_true_eq,beq_iff_eq] at hB
  obtain⟨⟨⟨⟨⟨h1,h2⟩,h3⟩,h4⟩,h5⟩,h6⟩:=hB
  obtain⟨o,v,ho,hy,hn⟩:=h
  exact wpAnyS_first h3 ho (Region.noSelect_spec hsel) (fun c a w hp=>absurd hp (hQ c _ w)) _ listed a w (Region.free_spec ho h2) (by simpa using h1) hy (fun h=>hS (by rw[<-hd];exact h))
   (.inr ⟨fun _ h=>h,h4,Region.waitsFor_spec h5⟩) (planS_sound hsel hQ r d _ _ w h6 (by rw[getD_set_ne true h3];exact hd) hS hn)
 | (i,_+2)::r,d,listed,a,w,hB,hd,hS,h=>by
  simp only[planSB,Bool.and_eq_true,decide_eq_true_eq] at hB
  obtain⟨⟨⟨h1,h2⟩,h3⟩,h6⟩:=hB
  obtain⟨o,v,ho,hy,hn⟩:=h
  exact wpAnyS_first h3 ho (Region.noSelect_spec hsel) (fun c a w hp=>absurd hp (hQ c _ w)) _ listed a w (Region.free_spec ho h2) (by simpa using h1) hy (fun h=>hS (by rw[<-hd];exact h))
   (.inl fun _=>trivial) (planS_sound hsel hQ r d _ _ w h6 (by rw[getD_set_ne true h3];exact hd) hS hn)
 | (i,0)::r,d,listed,a,w,hB,hd,hS,h=>by
  simp only[planSB,Bool.and_eq_true,decide_eq_true_eq] at hB
  refine⟨fun h0=>(by rw[hB.1] at h0;cases h0),fun j hj=>?_⟩
  have hin:=mem_ready.1 hj
  rw[hB.1] at hj
  have hji:j=i:=by simpa using hj
  subst hji
  have hd':(listed.setIfInBounds j true).getD t true=(d || j == t):=by
   by_cases hjt:j=t
   ·subst hjt
    have hlt:j<listed.size:=by
     rcases Nat.lt_or_ge j listed.size with h'|h'
     ·exact h'
     ·have:=hin.1;simp[Array.getElem?_eq_none h'] at this
    simp[hlt]
   ·rw[getD_set_ne true hjt,hd];simp[hjt]
  exact wpOp_mono (fun a' w' h'=>⟨fun h0=>h'.1 (by rw[<-hd'];exact h0),planS_sound hsel hQ r _ _ a' w' hB.2 hd' h'.1 h'.2⟩) h
theorem wp_region_planS{id:Nat}{a:Act}{w:World}(S:World->Prop)(t:Nat)(l:List (Nat × Nat))(hm:P.follows .mixedOrders=true)
 (hB:(Region.noSelect ops && decide (l.length=ops.size) && decide (t<ops.size) && planSB .any ops t l (Array.replicate ops.size false))=true)
 (hS:S w.drew) (h:wpPlanS P ops (Calm Q) S t false l a w.drew):(Code.region id ops true).wp P Q a w:=by
 simp only[Bool.and_eq_true,decide_eq_true_eq] at hB
 obtain⟨⟨⟨h1,h2⟩,h3⟩,h4⟩:=hB
 have H:=planS_sound (Q:=Calm Q) h1 (fun _ _ _ h=>h) l false _ a _ h4 (by simp[h3]) (fun _=>hS) h
 rw[h2] at H
 exact Code.wp_mono Calm.imp (wp_region_any hm (wpAny_of_S _ _ _ _ H))
theorem wpPlanS_read{d:Bool}{i:Nat}{r:List (Nat × Nat)}{a:Act}{w:World}{o:Oper}(ho:ops[i]?=some o)(hw:Region.wanted o (yielded ops a.tmps)=true)
 (h:∀R:Act->Prop,(∀a',wpPlanS P ops Q S t d r a' w->R a')->∃v,(∀w',S w'->IsVal v w' ((execOp a.eval o).run P w'))/\R (a.put o.dst v)):wpPlanS P ops Q S t d ((i,1)::r) a w:=by
 obtain⟨v,h1,h2⟩:=h _ (fun _ h=>h)
 refine⟨o,v,ho,.inl ⟨hw,fun w' hS=>?_⟩,h2⟩
 have h3:=h1 w' hS
 generalize (execOp a.eval o).run P w'=x at *
 cases x with
 | ok n w''=>obtain⟨rfl,rfl⟩:=h3;rfl
 | halt x w''=>exact h3.elim
theorem wpPlanS_pure{d:Bool}{i:Nat}{r:List (Nat × Nat)}{a:Act}{w:World}{o:Oper}(ho:ops[i]?=some o)(hw:Region.wanted o (yielded ops a.tmps)=true)
 (h:∀R:Act->Prop,(∀a',wpPlanS P ops Q S t d r a' w->R a')->∃v,(∀w',IsVal v w' ((execOp a.eval o).run P w'))/\R (a.put o.dst v)):wpPlanS P ops Q S t d ((i,2)::r) a w:=by
 obtain⟨v,h1,h2⟩:=h _ (fun _ h=>h)
 refine⟨o,v,ho,.inl ⟨hw,fun w' _=>?_⟩,h2⟩
 have h3:=h1 w'
 generalize (execOp a.eval o).run P w'=x at *
 cases x with
 | ok n w''=>obtain⟨rfl,rfl⟩:=h3;rfl
 | halt x w''=>exact h3.elim
theorem wpPlanS_do{d:Bool}{i:Nat}{r:List (Nat × Nat)}{a:Act}{w:World}{o:Oper}(hit:(i == t)=false)(ho:ops[i]?=some o)(hw:Region.wanted o (yielded ops a.tmps)=true)
 (h:∀K:Act->World->Prop,(∀a' w',S w'->wpPlanS P ops Q S t d r a' w'->K a' w')->o.wp P a w K Q):wpPlanS P ops Q S t d ((i,0)::r) a w:=by
 unfold wpPlanS wpOp
 simp only[ho,hw,if_true,hit,Bool.or_false]
 exact .inl (h _ fun _ _ h1 h2=>⟨fun _=>h1,h2⟩)
theorem wpPlanS_end{i:Nat}{r:List (Nat × Nat)}{a:Act}{w:World}{o:Oper}{d:Bool}(hd:(d || i == t)=true)(ho:ops[i]?=some o)(hw:Region.wanted o (yielded ops a.tmps)=true)
 (h:∀K:Act->World->Prop,(∀a' w',wpPlanS P ops Q S t true r a' w'->K a' w')->o.wp P a w K Q):wpPlanS P ops Q S t d ((i,0)::r) a w:=by
 unfold wpPlanS wpOp
 simp only[ho,hw,if_true,hd]
 exact .inl (h _ fun _ _ h2=>⟨fun h=>(by cases h),h2⟩)
theorem wpPlanS_nil{d:Bool}{a:Act}{w:World}(h:Q .normal a w):wpPlanS P ops (Calm Q) S t d [] a w:=h
def pls:Nat->Nat->List (Nat × Nat)->List (Nat × Nat)
 | _,0,r=>r
 | i,n+1,r=>(i,1)::pls (i+1) n r
def plp:Nat->Nat->List (Nat × Nat)->List (Nat × Nat)
 | _,0,r=>r
 | i,n+1,r=>(i,2)::plp (i+1) n r
def plf(i:Nat)(r:List (Nat × Nat)):List (Nat × Nat):=(i,0)::r
theorem plSR{d:Bool}{i:Nat}{r:List (Nat × Nat)}{a a':Act}{w:World}{o:Oper}{v:Value}(k:wpPlanS P ops Q S t d r a' w)(ho:ops[i]?=some o:=by rfl)(hw:Region.wanted o (yielded ops a.tmps)=true:=by rfl)
 (h:∀w',S w'->IsVal v w' ((execOp a.eval o).run P w'):=by
  intro w' hS'
  first
  | (have q:=FBq.out w' hS';(repeat ((with_reducible have q1:=And.left q);(with_reducible replace q:=And.right q)));go_simp;exact⟨rfl,rfl⟩)
  | (go_simp;exact⟨rfl,rfl⟩))
 (he:∀R:Act->Prop,R a'->R (a.put o.dst v):=by intro R hR;go_simp;exact hR):wpPlanS P ops Q S t d ((i,1)::r) a w:=
 wpPlanS_read ho hw fun R hR=>⟨v,h,he R (hR _ k)⟩
theorem plSP{d:Bool}{i:Nat}{r:List (Nat × Nat)}{a a':Act}{w:World}{o:Oper}{v:Value}(k:wpPlanS P ops Q S t d r a' w)(ho:ops[i]?=some o:=by rfl)(hw:Region.wanted o (yielded ops a.tmps)=true:=by rfl)
 (h:∀w',IsVal v w' ((execOp a.eval o).run P w'):=by intro w';go_simp;exact⟨rfl,rfl⟩)
 (he:∀R:Act->Prop,R a'->R (a.put o.dst v):=by intro R hR;go_simp;exact hR):wpPlanS P ops Q S t d ((i,2)::r) a w:=
 wpPlanS_pure ho hw fun R hR=>⟨v,h,he R (hR _ k)⟩
theorem plSD{d:Bool}{i:Nat}{r:List (Nat × Nat)}{a:Act}{w:World}{o:Oper}(h:∀K:Act->World->Prop,(∀a' w',S w'->wpPlanS P ops Q S t d r a' w'->K a' w')->o.wp P a w K Q)(hit:(i == t)=false:=by rfl)(ho:ops[i]?=some o:=by rfl)(hw:Region.wanted o (yielded ops a.tmps)=true:=by rfl):wpPlanS P ops Q S t d ((i,0)::r) a w:=wpPlanS_do hit ho hw h
theorem plSE{i:Nat}{r:List (Nat × Nat)}{a:Act}{w:World}{o:Oper}{d:Bool}(h:∀K:Act->World->Prop,(∀a' w',wpPlanS P ops Q S t true r a' w'->K a' w')->o.wp P a w K Q)(hd:(d || i == t)=true:=by rfl)(ho:ops[i]?=some o:=by rfl)(hw:Region.wanted o (yielded ops a.tmps)=true:=by rfl):wpPlanS P ops Q S t d ((i,0)::r) a w:=wpPlanS_end hd ho hw h
theorem plSA{id:Nat}{a:Act}{w:World}(S:World->Prop)(t:Nat)(l:List (Nat × Nat))(hS:S w.drew)(h:wpPlanS P ops (Calm Q) S t false l a w.drew)(hm:P.follows .mixedOrders=true:=by kernel_rfl)
 (hB:(Region.noSelect ops && decide (l.length=ops.size) && decide (t<ops.size) && planSB .any ops t l (Array.replicate ops.size false))=true:=by kernel_rfl):(Code.region id ops true).wp P Q a w:=wp_region_planS S t l hm hB hS h
end
end Go.Proofs.YtilcnjbpmoijmaaGreat
