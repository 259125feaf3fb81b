/- WindowOne: over one slot is what the slot takes alone. No condition. -/
import Derived.Test.YtdicblkhpcphfaaGreatPU38
import Derived.Test.YtdicblkhpcphfaaGreatPU36
import Derived.Test.YtdicblkhpcphfaaGreatRows
import Derived.Test.YtdicblkhpcphfaaGreatPU35
namespace Go.Proofs.YtdicblkhpcphfaaGreat
open Go.ChangeShapes Go.WideShapes Go.ChangeAt Go.RowKit
theorem zR:ownKnob Tryz.prog.godebug=none:=by kernel_rfl
theorem rI:laidOutB Tryz.prog=true:=by kernel_rfl
set_option maxRecDepth 100000 in
theorem vC(os:Os)(started:os.Started)(H:Type)(enc:TypeId × Value->H) :
 ReturnsInHanded {} Tryz.checked os 4 .any (Rows.windowOneSpec.pre6 enc Tryz.prog Tryz.f4 Rows.windowOneRow.domain false) (Rows.windowOneSpec.post enc Tryz.prog Tryz.f4 false true false false):=by
 refine returnsInHanded_of_change (C:=Tryz.checked) zR started (by kernel_rfl) Tryz.func4
  (ChangeSpec.witness6 (enc:=enc) (C:=Tryz.checked) false ⟨#[],#[.int .u8 0,.int .u16 0,.int .u16 0,.slice none 0 0],[]⟩ 8 (by kernel_rfl) (by kernel_rfl) (by kernel_rfl) (by kernel_rfl)) ?_
 intro W base args ds gs before hval0 hW hcnd _
 have hval:∀(j:Nat) t v,Tryz.f4.params[j]?=some t->args[j]?=some v->Value.okWide Tryz.prog W .any base t v:=hval0
 have hW':=hW
 obtain⟨p,q,hA0,hV,rfl,hfz,hnd⟩:=hW
 have hA:DataW.TrodAll enc Tryz.prog W 0 (fun _=>true) true Tryz.f4.params.toList args.toList ds p:=hA0
 rw[Tryz.params4] at hA hval
 obtain⟨v0,vs0,d0,ds0,p0,q0,hargs,rfl,rfl,h0,r0⟩:=trodAll_cons hA
 obtain⟨v1,vs1,d1,ds1,p1,q1,rfl,rfl,rfl,h1,r1⟩:=trodAll_cons r0
 obtain⟨v2,vs2,d2,ds2,p2,q2,rfl,rfl,rfl,h2,r2⟩:=trodAll_cons r1
 obtain⟨v3,vs3,d3,ds3,p3,q3,rfl,rfl,rfl,h3,r3⟩:=trodAll_cons r2
 obtain⟨rfl,rfl,rfl⟩:=trodAll_nil r3
 obtain rfl:args=#[v0,v1,v2,v3]:=by cases args;simp_all
 obtain⟨rfl,rfl⟩:=trodVars_none hV
 obtain⟨a0,rfl,rfl,rfl,w0⟩:=open_int Tryz.underlying5 (hval 0 5 v0 rfl rfl) h0
 obtain⟨a1,rfl,rfl,rfl,w1⟩:=open_int Tryz.underlying22 (hval 1 22 v1 rfl rfl) h1
 obtain⟨a2,rfl,rfl,rfl,w2⟩:=open_int Tryz.underlying22 (hval 2 22 v2 rfl rfl) h2
 have ok3:=hval 3 23 v3 rfl rfl
 clear hA0 hval0 hfz hnd hcnd
 have HC:Calls Tryz.prog 4 #[.int .u8 a0,.int .u16 a1,.int .u16 a2,v3] W fun e W'=>e=.returned (.bool true)/\Below W.heap.size W W':=by
  have b0:=bounds_u8 w0
  have b1:=bounds_u16 w1
  have b2:=bounds_u16 w2
  obtain⟨z3,R3,Z3⟩:=D.vz (hval 3 _ _ rfl rfl) h3
  obtain⟨n0,rfl⟩:∃n:Nat,a0=n:=⟨a0.toNat,by omega⟩
  obtain⟨n1,rfl⟩:∃n:Nat,a1=n:=⟨a1.toNat,by omega⟩
  obtain⟨n2,rfl⟩:∃n:Nat,a2=n:=⟨a2.toNat,by omega⟩
  exact D.Mg n0 n1 n2 v3 z3 W (by omega) (by omega) (by omega) R3 Z3
 refine HC.mono fun e W' ⟨he,hb⟩=>?_
 subst he
 exact⟨_,rfl,xD rI (by kernel_rfl) rfl (by kernel_rfl) Tryz.underlying4 hW' rfl hb⟩
theorem Cq:(Rows.windowOneRow.wf (OpenSpec.ofChange Rows.windowOneSpec))=true:=by kernel_rfl
theorem wR:mapsRowed Tryz.prog=true:=by kernel_rfl
theorem uB:(Rows.windowOneRow.inPlace == Tryz.prog.inPlace 4)=true:=by kernel_rfl
theorem rJ:(Rows.windowOneRow.unfollowed == Tryz.prog.unfollowed 4)=true:=by kernel_rfl
theorem tf:(Rows.windowOneRow.recurses == Tryz.prog.recurses 4)=true:=by kernel_rfl
theorem wS:(Rows.windowOneRow.named == Tryz.prog.varsNamed 4)=true:=by kernel_rfl
theorem zu:(Rows.windowOneRow.plainKeys == Tryz.prog.plainKeys)=true:=by kernel_rfl
theorem wT:Tryz.prog.stopsHeard=true:=by kernel_rfl
theorem wU:Tryz.prog.mayEnter=true:=by kernel_rfl
theorem wV:(Rows.windowOneRow.lifted == Tryz.prog.liftsFinal)=true:=by kernel_rfl
theorem vD:joinedFacts Tryz.prog 4 Tryz.f4 Rows.windowOneSpec Rows.windowOneRow=true:=by
 unfold joinedFacts
 simp only[bC]
 exact⟨⟨⟨⟨⟨⟨⟨⟨⟨⟨⟨⟨⟨⟨⟨⟨⟨⟨⟨⟨⟨⟨⟨⟨⟨⟨⟨⟨⟨⟨⟨Cq,rI⟩,wR⟩,(by kernel_rfl)⟩,(by kernel_rfl)⟩,(by kernel_rfl)⟩,(by kernel_rfl)⟩,(by kernel_rfl)⟩,(by kernel_rfl)⟩,uB⟩,rJ⟩,tf⟩,wS⟩,(by kernel_rfl)⟩,(by kernel_rfl)⟩,(by kernel_rfl)⟩,(by kernel_rfl)⟩,(by kernel_rfl)⟩,(by kernel_rfl)⟩,(by kernel_rfl)⟩,(by kernel_rfl)⟩,(by kernel_rfl)⟩,zu⟩,(by kernel_rfl)⟩,wT⟩,wU⟩,wV⟩,(by kernel_rfl)⟩,(by kernel_rfl)⟩,(by kernel_rfl)⟩,(by kernel_rfl)⟩,(by kernel_rfl)⟩
theorem proved_windowOne:Rows.WindowOneSaid:=
 OpenClaim.holds_of_wide 4 Tryz.f4 rfl rfl rfl rfl rfl rfl rfl ⟨rfl,rfl,rfl,rfl,rfl⟩ rfl rfl rfl rfl rfl (by kernel_rfl) Tryz.func4 vD
  (of_decide_eq_true (by kernel_rfl)) (by unfold Func.isWrapper;first|(rw[aH (by decide +kernel)];kernel_rfl)|(rw[aF (by decide +kernel)];exact⟨rfl,rfl⟩))
  (fun os started H enc _=>vC os started H enc)
end Go.Proofs.YtdicblkhpcphfaaGreat
