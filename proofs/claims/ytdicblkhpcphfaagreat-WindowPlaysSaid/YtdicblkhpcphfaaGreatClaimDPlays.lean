/- WindowPlays: whatever is added, ticked and taken together, each answer, and all slots, are the document's, for each kind. No condition. -/
import Derived.Test.YtdicblkhpcphfaaGreatPU40
import Derived.Test.YtdicblkhpcphfaaGreatPU37
import Derived.Test.YtdicblkhpcphfaaGreatRows
import Derived.Test.YtdicblkhpcphfaaGreatPU35
namespace Go.Proofs.YtdicblkhpcphfaaGreat
open Go.ChangeShapes Go.WideShapes Go.ChangeAt Go.RowKit
theorem wQ:ownKnob Tryz.prog.godebug=none:=by kernel_rfl
theorem pV:laidOutB Tryz.prog=true:=by kernel_rfl
set_option maxRecDepth 100000 in
theorem td(os:Os)(started:os.Started)(H:Type)(enc:TypeId × Value->H) :
 ReturnsInHanded {} Tryz.checked os 3 .any (Rows.windowPlaysSpec.pre6 enc Tryz.prog Tryz.f3 Rows.windowPlaysRow.domain false) (Rows.windowPlaysSpec.post enc Tryz.prog Tryz.f3 false true false false):=by
 refine returnsInHanded_of_change (C:=Tryz.checked) wQ started (by kernel_rfl) Tryz.func3
  (ChangeSpec.witness6 (enc:=enc) (C:=Tryz.checked) false ⟨#[],#[.int .u8 0,.int .u16 0,.int .u16 0,.int .u8 0,.slice none 0 0],[]⟩ 8 (by kernel_rfl) (by kernel_rfl) (by kernel_rfl) (by kernel_rfl)) ?_
 intro W base args ds gs before hval0 hW hcnd _
 have hval:∀(j:Nat) t v,Tryz.f3.params[j]?=some t->args[j]?=some v->Value.okWide Tryz.prog W .any base t v:=hval0
 have hW':=hW
 obtain⟨p,q,hA0,hV,rfl,hfz,hnd⟩:=hW
 have hA:DataW.TrodAll enc Tryz.prog W 0 (fun _=>true) true Tryz.f3.params.toList args.toList ds p:=hA0
 rw[Tryz.params3] at hA hval
 obtain⟨v0,vs0,d0,ds0,p0,q0,hargs,rfl,rfl,h0,r0⟩:=trodAll_cons hA
 obtain⟨v1,vs1,d1,ds1,p1,q1,rfl,rfl,rfl,h1,r1⟩:=trodAll_cons r0
 obtain⟨v2,vs2,d2,ds2,p2,q2,rfl,rfl,rfl,h2,r2⟩:=trodAll_cons r1
 obtain⟨v3,vs3,d3,ds3,p3,q3,rfl,rfl,rfl,h3,r3⟩:=trodAll_cons r2
 obtain⟨v4,vs4,d4,ds4,p4,q4,rfl,rfl,rfl,h4,r4⟩:=trodAll_cons r3
 obtain⟨rfl,rfl,rfl⟩:=trodAll_nil r4
 obtain rfl:args=#[v0,v1,v2,v3,v4]:=by cases args;simp_all
 obtain⟨rfl,rfl⟩:=trodVars_none hV
 obtain⟨a0,rfl,rfl,rfl,w0⟩:=open_int Tryz.underlying5 (hval 0 5 v0 rfl rfl) h0
 obtain⟨a1,rfl,rfl,rfl,w1⟩:=open_int Tryz.underlying22 (hval 1 22 v1 rfl rfl) h1
 obtain⟨a2,rfl,rfl,rfl,w2⟩:=open_int Tryz.underlying22 (hval 2 22 v2 rfl rfl) h2
 obtain⟨a3,rfl,rfl,rfl,w3⟩:=open_int Tryz.underlying5 (hval 3 5 v3 rfl rfl) h3
 have ok4:=hval 4 23 v4 rfl rfl
 clear hA0 hval0 hfz hnd hcnd
 have HC:Calls Tryz.prog 3 #[.int .u8 a0,.int .u16 a1,.int .u16 a2,.int .u8 a3,v4] W fun e W'=>e=.returned (.bool true)/\Below W.heap.size W W':=by
  have b0:=bounds_u8 w0
  have b1:=bounds_u16 w1
  have b2:=bounds_u16 w2
  have b3:=bounds_u8 w3
  obtain⟨z4,R4,Z4⟩:=D.vz (hval 4 _ _ rfl rfl) h4
  obtain⟨n0,rfl⟩:∃n:Nat,a0=n:=⟨a0.toNat,by omega⟩
  obtain⟨n1,rfl⟩:∃n:Nat,a1=n:=⟨a1.toNat,by omega⟩
  obtain⟨n2,rfl⟩:∃n:Nat,a2=n:=⟨a2.toNat,by omega⟩
  obtain⟨n3,rfl⟩:∃n:Nat,a3=n:=⟨a3.toNat,by omega⟩
  exact D.Fx n0 n1 n2 n3 v4 z4 W (by omega) (by omega) (by omega) (by omega) R4 Z4
 refine HC.mono fun e W' ⟨he,hb⟩=>?_
 subst he
 exact⟨_,rfl,xD pV (by kernel_rfl) rfl (by kernel_rfl) Tryz.underlying4 hW' rfl hb⟩
theorem zr:(Rows.windowPlaysRow.wf (OpenSpec.ofChange Rows.windowPlaysSpec))=true:=by kernel_rfl
theorem uv:mapsRowed Tryz.prog=true:=by kernel_rfl
theorem so:(Rows.windowPlaysRow.inPlace == Tryz.prog.inPlace 3)=true:=by kernel_rfl
theorem qA:(Rows.windowPlaysRow.unfollowed == Tryz.prog.unfollowed 3)=true:=by kernel_rfl
theorem rH:(Rows.windowPlaysRow.recurses == Tryz.prog.recurses 3)=true:=by kernel_rfl
theorem uw:(Rows.windowPlaysRow.named == Tryz.prog.varsNamed 3)=true:=by kernel_rfl
theorem vB:(Rows.windowPlaysRow.plainKeys == Tryz.prog.plainKeys)=true:=by kernel_rfl
theorem ux:Tryz.prog.stopsHeard=true:=by kernel_rfl
theorem uy:Tryz.prog.mayEnter=true:=by kernel_rfl
theorem uz:(Rows.windowPlaysRow.lifted == Tryz.prog.liftsFinal)=true:=by kernel_rfl
theorem te:joinedFacts Tryz.prog 3 Tryz.f3 Rows.windowPlaysSpec Rows.windowPlaysRow=true:=by
 unfold joinedFacts
 simp only[bC]
 exact⟨⟨⟨⟨⟨⟨⟨⟨⟨⟨⟨⟨⟨⟨⟨⟨⟨⟨⟨⟨⟨⟨⟨⟨⟨⟨⟨⟨⟨⟨⟨zr,pV⟩,uv⟩,(by kernel_rfl)⟩,(by kernel_rfl)⟩,(by kernel_rfl)⟩,(by kernel_rfl)⟩,(by kernel_rfl)⟩,(by kernel_rfl)⟩,so⟩,qA⟩,rH⟩,uw⟩,(by kernel_rfl)⟩,(by kernel_rfl)⟩,(by kernel_rfl)⟩,(by kernel_rfl)⟩,(by kernel_rfl)⟩,(by kernel_rfl)⟩,(by kernel_rfl)⟩,(by kernel_rfl)⟩,(by kernel_rfl)⟩,vB⟩,(by kernel_rfl)⟩,ux⟩,uy⟩,uz⟩,(by kernel_rfl)⟩,(by kernel_rfl)⟩,(by kernel_rfl)⟩,(by kernel_rfl)⟩,(by kernel_rfl)⟩
theorem proved_windowPlays:Rows.WindowPlaysSaid:=
 OpenClaim.holds_of_wide 3 Tryz.f3 rfl rfl rfl rfl rfl rfl rfl ⟨rfl,rfl,rfl,rfl,rfl⟩ rfl rfl rfl rfl rfl (by kernel_rfl) Tryz.func3 te
  (of_decide_eq_true (by kernel_rfl)) (by unfold Func.isWrapper;first|(rw[aH (by decide +kernel)];kernel_rfl)|(rw[aF (by decide +kernel)];exact⟨rfl,rfl⟩))
  (fun os started H enc _=>td os started H enc)
end Go.Proofs.YtdicblkhpcphfaaGreat
