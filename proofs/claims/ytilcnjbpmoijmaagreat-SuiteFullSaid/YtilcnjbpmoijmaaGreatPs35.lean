/- Parts of a proof: what its theorem reaches, words cut short. No condition of its own. -/
import Derived.Test.YtilcnjbpmoijmaaGreatPs05
set_option maxRecDepth 100000
set_option maxHeartbeats 16000000
set_option linter.unusedVariables false
set_option linter.unusedSimpArgs false
namespace Go.Proofs.YtilcnjbpmoijmaaGreat
open Go.RowKit
inductive Tr where
 | nil
 | rd (i:Nat) (t:Tr)
 | ef (i:Nat) (t:Tr)
 | two (i j:Nat) (t u:Tr)
def Tr.len:Tr->Nat
 | .nil=>0
 | .rd _ t=>t.len+1
 | .ef _ t=>t.len+1
 | .two _ _ t _=>t.len+1
section
variable {P : Program} {ops : Array Oper} {md : Region.Mode} {S : World -> Prop} {Q : Exit -> Act -> World -> Prop}
def trB(md:Region.Mode)(ops:Array Oper):Tr->Array Bool->Bool
 | .nil,listed=>(Region.ready md ops listed).isEmpty
 | .rd i r,listed=>(Region.ready md ops listed).contains i && Region.free md ops listed i && trB md ops r (listed.setIfInBounds i true)
 | .ef i r,listed=>decide (Region.ready md ops listed=[i]) && trB md ops r (listed.setIfInBounds i true)
 | .two i j r q,listed=>decide (Region.ready md ops listed=[i,j]) && decide (r.len=q.len) && trB md ops r (listed.setIfInBounds i true) && trB md ops q (listed.setIfInBounds j true)
def wpTr(P:Program)(ops:Array Oper)(Q:Exit->Act->World->Prop)(S:World->Prop):Tr->Act->World->Prop
 | .nil,a,w=>Q .normal a w
 | .rd i r,a,w=>∃o v,ops[i]?=some o/\YieldsIf P ops S o v a/\wpTr P ops Q S r (a.put o.dst v) w
 | .ef i r,a,w=>wpOp P ops Q i (fun a' w'=>S w'/\wpTr P ops Q S r a' w') a w
 | .two i j r q,a,w=>wpOp P ops Q i (fun a' w'=>S w'/\wpTr P ops Q S r a' w') a w/\wpOp P ops Q j (fun a' w'=>S w'/\wpTr P ops Q S q a' w') a w
theorem tr_sound(hsel:Region.noSelect ops=true)(hQ:∀c a w,¬Q (.panic c) a w):∀(t:Tr) (listed:Array Bool) (a:Act) (w:World),trB md ops t listed=true->S w ->
 wpTr P ops Q S t a w->wpAnyH P md ops Q S t.len listed a w
 | .nil,listed,a,w,hB,_,h=>⟨by simpa[trB] using hB,h⟩
 | .rd i r,listed,a,w,hB,hS,h=>by
  simp only[trB,Bool.and_eq_true] at hB
  obtain⟨o,v,ho,hy,hn⟩:=h
  exact wpAnyH_take ho hsel hB.1.2 hB.1.1 (fun c a w hp=>absurd hp (hQ c _ w)) hy hS (tr_sound hsel hQ r _ _ w hB.2 hS hn)
 | .ef i r,listed,a,w,hB,hS,h=>by
  simp only[trB,Bool.and_eq_true,decide_eq_true_eq] at hB
  refine⟨fun h0=>(by rw[hB.1] at h0;cases h0),fun j hj=>?_⟩
  rw[hB.1] at hj
  have hji:j=i:=by simpa using hj
  subst hji
  exact wpOp_mono (fun a' w' h'=>⟨h'.1,tr_sound hsel hQ r _ a' w' hB.2 h'.1 h'.2⟩) h
 | .two i j r q,listed,a,w,hB,hS,h=>by
  simp only[trB,Bool.and_eq_true,decide_eq_true_eq] at hB
  obtain⟨⟨⟨h1,h2⟩,h3⟩,h4⟩:=hB
  refine⟨fun h0=>(by rw[h1] at h0;cases h0),fun k hk=>?_⟩
  rw[h1] at hk
  simp only[List.mem_cons,List.not_mem_nil,or_false] at hk
  rcases hk with rfl|rfl
  ·exact wpOp_mono (fun a' w' h'=>⟨h'.1,tr_sound hsel hQ r _ a' w' h3 h'.1 h'.2⟩) h.1
  ·exact wpOp_mono (fun a' w' h'=>⟨h'.1,by
    have:=tr_sound hsel hQ q _ a' w' h4 h'.1 h'.2
    rw[<-h2] at this;exact this⟩) h.2
theorem wp_region_tree{id:Nat}{a:Act}{w:World}(S:World->Prop)(t:Tr)(hm:P.follows .mixedOrders=true)
 (hB:(Region.noSelect ops && decide (t.len=ops.size) && trB .any ops t (Array.replicate ops.size false))=true)
 (hS:S w.drew) (h:wpTr P ops (Calm Q) S t a w.drew):(Code.region id ops true).wp P Q a w:=by
 simp only[Bool.and_eq_true,decide_eq_true_eq] at hB
 have H:=tr_sound (Q:=Calm Q) hB.1.1 (fun _ _ _ h=>h) t _ a _ hB.2 hS h
 rw[hB.1.2] at H
 exact Code.wp_mono Calm.imp (wp_region_any hm (wpAny_of_held _ _ _ _ H))
theorem wpTr_read{i:Nat}{r:Tr}{a:Act}{w:World}{o:Oper}(ho:ops[i]?=some o)(hw:Region.wanted o (yielded ops a.tmps)=true)
 (h:∀R:Act->Prop,(∀a',wpTr P ops Q S r a' w->R a')->∃v,(∀w',S w'->IsVal v w' ((execOp a.eval o).run P w'))/\R (a.put o.dst v)):wpTr P ops Q S (.rd i r) a w:=by
 obtain⟨v,h1,h2⟩:=h _ (fun _ h=>h)
 refine⟨o,v,ho,.inl ⟨hw,fun w' hS=>?_⟩,h2⟩
 have h3:=h1 w' hS
 generalize (execOp a.eval o).run P w'=x at *
 cases x with
 | ok n w''=>obtain⟨rfl,rfl⟩:=h3;rfl
 | halt x w''=>exact h3.elim
theorem wpTr_do{i:Nat}{r:Tr}{a:Act}{w:World}{o:Oper}(ho:ops[i]?=some o)(hw:Region.wanted o (yielded ops a.tmps)=true)
 (h:∀K:Act->World->Prop,(∀a' w',S w'->wpTr P ops Q S r a' w'->K a' w')->o.wp P a w K Q):wpTr P ops Q S (.ef i r) a w:=by
 unfold wpTr wpOp
 simp only[ho,hw,if_true]
 exact .inl (h _ fun _ _ h1 h2=>⟨h1,h2⟩)
theorem wpTr_two{i j:Nat}{r q:Tr}{a:Act}{w:World}{o o2:Oper}(ho:ops[i]?=some o)(hw:Region.wanted o (yielded ops a.tmps)=true)(ho2:ops[j]?=some o2)(hw2:Region.wanted o2 (yielded ops a.tmps)=true)
 (h:∀K:Act->World->Prop,(∀a' w',S w'->wpTr P ops Q S r a' w'->K a' w')->o.wp P a w K Q)
 (h2:∀K:Act->World->Prop,(∀a' w',S w'->wpTr P ops Q S q a' w'->K a' w')->o2.wp P a w K Q):wpTr P ops Q S (.two i j r q) a w:=by
 unfold wpTr wpOp
 simp only[ho,hw,ho2,hw2,if_true]
 exact⟨.inl (h _ fun _ _ h1 h2=>⟨h1,h2⟩),.inl (h2 _ fun _ _ h1 h2=>⟨h1,h2⟩)⟩
theorem wpTr_nil{a:Act}{w:World}(h:Q .normal a w):wpTr P ops (Calm Q) S .nil a w:=h
end
end Go.Proofs.YtilcnjbpmoijmaaGreat
