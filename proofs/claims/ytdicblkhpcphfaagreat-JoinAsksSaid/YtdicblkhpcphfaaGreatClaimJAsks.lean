/- JoinAsks: the answer at any part, and how much is below and up to any value, are the document's, for each kind; asking turns nothing. No condition. -/
import Derived.Test.YtdicblkhpcphfaaGreatRows
import Derived.Test.YtdicblkhpcphfaaGreatPA38
namespace Go.Proofs.YtdicblkhpcphfaaGreat
open Go.ChangeShapes Go.WideShapes Go.ChangeAt Go.RowKit
theorem zo:ownKnob Tryz.prog.godebug=none:=by kernel_rfl
theorem qy:laidOutB Tryz.prog=true:=by kernel_rfl
set_option maxRecDepth 100000 in
theorem tr(os:Os)(started:os.Started)(H:Type)(enc:TypeId × Value->H) :
 ReturnsInHanded {} Tryz.checked os 6 .any (Rows.joinAsksSpec.pre6 enc Tryz.prog Tryz.f6 Rows.joinAsksRow.domain false) (Rows.joinAsksSpec.post enc Tryz.prog Tryz.f6 false true false false):=by
 refine returnsInHanded_of_change (C:=Tryz.checked) zo started (by kernel_rfl) Tryz.func6
  (ChangeSpec.witness6 (enc:=enc) (C:=Tryz.checked) false ⟨#[],#[.int .u8 0,.int .u16 0,.int .u16 0,.bool false,.slice none 0 0,.int .u64 0,.int .u64 0,.int .i64 0],[]⟩ 8 (by kernel_rfl) (by kernel_rfl) (by kernel_rfl) (by kernel_rfl)) ?_
 intro W base args ds gs before hval0 hW hcnd _
 have hval:∀(j:Nat) t v,Tryz.f6.params[j]?=some t->args[j]?=some v->Value.okWide Tryz.prog W .any base t v:=hval0
 have hW':=hW
 obtain⟨p,q,hA0,hV,rfl,hfz,hnd⟩:=hW
 have hA:DataW.TrodAll enc Tryz.prog W 0 (fun _=>true) true Tryz.f6.params.toList args.toList ds p:=hA0
 rw[Tryz.params6] at hA hval
 obtain⟨v0,Z9,d0,ds0,p0,q0,hargs,rfl,rfl,h0,r0⟩:=trodAll_cons hA
 obtain⟨v1,vs1,d1,ds1,p1,q1,rfl,rfl,rfl,h1,r1⟩:=trodAll_cons r0
 obtain⟨v2,vs2,d2,ds2,p2,q2,rfl,rfl,rfl,h2,r2⟩:=trodAll_cons r1
 obtain⟨v3,vs3,d3,ds3,p3,q3,rfl,rfl,rfl,h3,r3⟩:=trodAll_cons r2
 obtain⟨v4,Z_,d4,Z',p4,q4,rfl,rfl,rfl,h4,r4⟩:=trodAll_cons r3
 obtain⟨v5,Vu,d5,ds5,p5,q5,rfl,rfl,rfl,h5,r5⟩:=trodAll_cons r4
 obtain⟨v6,vs6,d6,ds6,p6,q6,rfl,rfl,rfl,h6,r6⟩:=trodAll_cons r5
 obtain⟨v7,vs7,d7,ds7,p7,q7,rfl,rfl,rfl,h7,r7⟩:=trodAll_cons r6
 obtain⟨rfl,rfl,rfl⟩:=trodAll_nil r7
 obtain rfl:args=#[v0,v1,v2,v3,v4,v5,v6,v7]:=by cases args;simp_all
 obtain⟨rfl,rfl⟩:=trodVars_none hV
 obtain⟨a0,rfl,rfl,rfl,w0⟩:=open_int Tryz.underlying5 (hval 0 5 v0 rfl rfl) h0
 obtain⟨a1,rfl,rfl,rfl,w1⟩:=open_int Tryz.underlying22 (hval 1 22 v1 rfl rfl) h1
 obtain⟨a2,rfl,rfl,rfl,w2⟩:=open_int Tryz.underlying22 (hval 2 22 v2 rfl rfl) h2
 obtain⟨a3,rfl,rfl,rfl⟩:=open_bool Tryz.underlying4 (hval 3 4 v3 rfl rfl) h3
 have ok4:=hval 4 67 v4 rfl rfl
 obtain⟨a5,rfl,rfl,rfl,w5⟩:=open_int Tryz.underlying36 (hval 5 36 v5 rfl rfl) h5
 obtain⟨a6,rfl,rfl,rfl,w6⟩:=open_int Tryz.underlying36 (hval 6 36 v6 rfl rfl) h6
 obtain⟨a7,rfl,rfl,rfl,w7⟩:=open_int Tryz.underlying2 (hval 7 2 v7 rfl rfl) h7
 clear hA0 hval0 hfz hnd hcnd
 have HC:Calls Tryz.prog 6 #[.int .u8 a0,.int .u16 a1,.int .u16 a2,.bool a3,v4,.int .u64 a5,.int .u64 a6,.int .i64 a7] W fun e W'=>e=.returned (.bool true)/\Below W.heap.size W W':=by
  have b0:=bounds_u8 w0
  have b1:=bounds_u16 w1
  have b2:=bounds_u16 w2
  have b5:=bounds_u64 w5
  have b6:=bounds_u64 w6
  have b7:=bounds_i64 w7
  obtain⟨z4,R4,Z4⟩:=D.Ix (hval 4 _ _ rfl rfl) h4
  obtain⟨n0,rfl⟩:∃n:Nat,a0=n:=⟨a0.toNat,by omega⟩
  obtain⟨n1,rfl⟩:∃n:Nat,a1=n:=⟨a1.toNat,by omega⟩
  obtain⟨n2,rfl⟩:∃n:Nat,a2=n:=⟨a2.toNat,by omega⟩
  exact D.Ex n0 n1 n2 a3 v4 z4 a5 a6 a7 W (by omega) (by omega) (by omega) R4 Z4 (by omega) (by omega) (by omega) (by omega) (by omega) (by omega)
 refine HC.mono fun e W' ⟨he,hb⟩=>?_
 subst he
 exact⟨_,rfl,I6 qy (by kernel_rfl) rfl (by kernel_rfl) Tryz.underlying4 hW' rfl hb⟩
theorem Cf:(Rows.joinAsksRow.wf (OpenSpec.ofChange Rows.joinAsksSpec))=true:=by kernel_rfl
theorem vU:mapsRowed Tryz.prog=true:=by kernel_rfl
theorem sR:(Rows.joinAsksRow.inPlace == Tryz.prog.inPlace 6)=true:=by kernel_rfl
theorem qp:(Rows.joinAsksRow.unfollowed == Tryz.prog.unfollowed 6)=true:=by kernel_rfl
theorem rY:(Rows.joinAsksRow.recurses == Tryz.prog.recurses 6)=true:=by kernel_rfl
theorem vV:(Rows.joinAsksRow.named == Tryz.prog.varsNamed 6)=true:=by kernel_rfl
theorem wI:(Rows.joinAsksRow.plainKeys == Tryz.prog.plainKeys)=true:=by kernel_rfl
theorem vW:Tryz.prog.stopsHeard=true:=by kernel_rfl
theorem vX:Tryz.prog.mayEnter=true:=by kernel_rfl
theorem vY:(Rows.joinAsksRow.lifted == Tryz.prog.liftsFinal)=true:=by kernel_rfl
theorem tu:joinedFacts Tryz.prog 6 Tryz.f6 Rows.joinAsksSpec Rows.joinAsksRow=true:=by
 unfold joinedFacts
 simp only[bQ]
 exact⟨⟨⟨⟨⟨⟨⟨⟨⟨⟨⟨⟨⟨⟨⟨⟨⟨⟨⟨⟨⟨⟨⟨⟨⟨⟨⟨⟨⟨⟨⟨Cf,qy⟩,vU⟩,(by kernel_rfl)⟩,(by kernel_rfl)⟩,(by kernel_rfl)⟩,(by kernel_rfl)⟩,(by kernel_rfl)⟩,(by kernel_rfl)⟩,sR⟩,qp⟩,rY⟩,vV⟩,(by kernel_rfl)⟩,(by kernel_rfl)⟩,(by kernel_rfl)⟩,(by kernel_rfl)⟩,(by kernel_rfl)⟩,(by kernel_rfl)⟩,(by kernel_rfl)⟩,(by kernel_rfl)⟩,(by kernel_rfl)⟩,wI⟩,(by kernel_rfl)⟩,vW⟩,vX⟩,vY⟩,(by kernel_rfl)⟩,(by kernel_rfl)⟩,(by kernel_rfl)⟩,(by kernel_rfl)⟩,(by kernel_rfl)⟩
theorem proved_joinAsks:Rows.JoinAsksSaid:=
 OpenClaim.holds_of_wide 6 Tryz.f6 rfl rfl rfl rfl rfl rfl rfl ⟨rfl,rfl,rfl,rfl,rfl⟩ rfl rfl rfl rfl rfl (by kernel_rfl) Tryz.func6 tu
  (of_decide_eq_true (by kernel_rfl)) (by unfold Func.isWrapper;first|(rw[aH (by decide +kernel)];kernel_rfl)|(rw[aG (by decide +kernel)];exact⟨rfl,rfl⟩))
  (fun os started H enc _=>tr os started H enc)
end Go.Proofs.YtdicblkhpcphfaaGreat
