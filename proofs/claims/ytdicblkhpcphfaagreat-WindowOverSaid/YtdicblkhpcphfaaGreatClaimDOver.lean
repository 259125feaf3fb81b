/- WindowOver: the last slots, taken together from the eldest on, are the document's, with the same coins; asking turns nothing. No condition. -/
import Derived.Test.YtdicblkhpcphfaaGreatPU39
import Derived.Test.YtdicblkhpcphfaaGreatPU37
import Derived.Test.YtdicblkhpcphfaaGreatPU36
import Derived.Test.YtdicblkhpcphfaaGreatRows
import Derived.Test.YtdicblkhpcphfaaGreatPU35
namespace Go.Proofs.YtdicblkhpcphfaaGreat
open Go.ChangeShapes Go.WideShapes Go.ChangeAt Go.RowKit
theorem zv:ownKnob Tryz.prog.godebug=none:=by kernel_rfl
theorem qH:laidOutB Tryz.prog=true:=by kernel_rfl
set_option maxRecDepth 100000 in
theorem uC(os:Os)(started:os.Started)(H:Type)(enc:TypeId × Value->H) :
 ReturnsInHanded {} Tryz.checked os 5 .any (Rows.windowOverSpec.pre6 enc Tryz.prog Tryz.f5 Rows.windowOverRow.domain false) (Rows.windowOverSpec.post enc Tryz.prog Tryz.f5 false true false false):=by
 refine returnsInHanded_of_change (C:=Tryz.checked) zv started (by kernel_rfl) Tryz.func5
  (ChangeSpec.witness6 (enc:=enc) (C:=Tryz.checked) false ⟨#[],#[.int .u8 0,.int .u16 0,.int .u16 0,.int .u8 0,.slice none 0 0,.int .i64 0,.slice none 0 0],[]⟩ 8 (by kernel_rfl) (by kernel_rfl) (by kernel_rfl) (by kernel_rfl)) ?_
 intro W base args ds gs before hval0 hW hcnd _
 have hval:∀(j:Nat) t v,Tryz.f5.params[j]?=some t->args[j]?=some v->Value.okWide Tryz.prog W .any base t v:=hval0
 have hW':=hW
 obtain⟨p,q,hA0,hV,rfl,hfz,hnd⟩:=hW
 have hA:DataW.TrodAll enc Tryz.prog W 0 (fun _=>true) true Tryz.f5.params.toList args.toList ds p:=hA0
 rw[Tryz.params5] at hA hval
 obtain⟨v0,vs0,d0,ds0,p0,q0,hargs,rfl,rfl,h0,r0⟩:=trodAll_cons hA
 obtain⟨v1,vs1,d1,ds1,p1,q1,rfl,rfl,rfl,h1,r1⟩:=trodAll_cons r0
 obtain⟨v2,vs2,d2,ds2,p2,q2,rfl,rfl,rfl,h2,r2⟩:=trodAll_cons r1
 obtain⟨v3,vs3,d3,ds3,p3,q3,rfl,rfl,rfl,h3,r3⟩:=trodAll_cons r2
 obtain⟨v4,vs4,d4,ds4,p4,q4,rfl,rfl,rfl,h4,r4⟩:=trodAll_cons r3
 obtain⟨v5,vs5,d5,ds5,p5,q5,rfl,rfl,rfl,h5,r5⟩:=trodAll_cons r4
 obtain⟨v6,vs6,d6,ds6,p6,q6,rfl,rfl,rfl,h6,r6⟩:=trodAll_cons r5
 obtain⟨rfl,rfl,rfl⟩:=trodAll_nil r6
 obtain rfl:args=#[v0,v1,v2,v3,v4,v5,v6]:=by cases args;simp_all
 obtain⟨rfl,rfl⟩:=trodVars_none hV
 obtain⟨a0,rfl,rfl,rfl,w0⟩:=open_int Tryz.underlying5 (hval 0 5 v0 rfl rfl) h0
 obtain⟨a1,rfl,rfl,rfl,w1⟩:=open_int Tryz.underlying22 (hval 1 22 v1 rfl rfl) h1
 obtain⟨a2,rfl,rfl,rfl,w2⟩:=open_int Tryz.underlying22 (hval 2 22 v2 rfl rfl) h2
 obtain⟨a3,rfl,rfl,rfl,w3⟩:=open_int Tryz.underlying5 (hval 3 5 v3 rfl rfl) h3
 have ok4:=hval 4 23 v4 rfl rfl
 obtain⟨a5,rfl,rfl,rfl,w5⟩:=open_int Tryz.underlying3 (hval 5 3 v5 rfl rfl) h5
 obtain⟨z6,R6,Z6⟩:=PH (k:=.u8) Tryz.underlying37 Tryz.underlying5 (by kernel_rfl) (hval 6 37 v6 rfl rfl) h6
 clear hA0 hval0 hfz hnd hcnd
 have HC:Calls Tryz.prog 5 #[.int .u8 a0,.int .u16 a1,.int .u16 a2,.int .u8 a3,v4,.int .i64 a5,v6] W fun e W'=>e=.returned (.bool true)/\Below W.heap.size W W':=by
  have b0:=bounds_u8 w0
  have b1:=bounds_u16 w1
  have b2:=bounds_u16 w2
  have b3:=bounds_u8 w3
  have b5:=bounds_i64 w5
  have ho:=K.Mh Tryz.underlying37 (hval 6 _ _ rfl rfl)
  obtain⟨z4,R4,Z4⟩:=D.vz (hval 4 _ _ rfl rfl) h4
  obtain⟨n0,rfl⟩:∃n:Nat,a0=n:=⟨a0.toNat,by omega⟩
  obtain⟨n1,rfl⟩:∃n:Nat,a1=n:=⟨a1.toNat,by omega⟩
  obtain⟨n2,rfl⟩:∃n:Nat,a2=n:=⟨a2.toNat,by omega⟩
  obtain⟨n3,rfl⟩:∃n:Nat,a3=n:=⟨a3.toNat,by omega⟩
  exact D.Iy n0 n1 n2 n3 v4 v6 z4 a5 z6 W (by omega) (by omega) (by omega) (by omega) R4 Z4 b5.1 b5.2 ⟨D.Pn R6,fun k _ e=>ho k e⟩ (fun x hx=>by have:=bounds_u8 (Z6 x hx);omega)
 refine HC.mono fun e W' ⟨he,hb⟩=>?_
 subst he
 exact⟨_,rfl,xD qH (by kernel_rfl) rfl (by kernel_rfl) Tryz.underlying4 hW' rfl hb⟩
theorem zS:(Rows.windowOverRow.wf (OpenSpec.ofChange Rows.windowOverSpec))=true:=by kernel_rfl
theorem vF:mapsRowed Tryz.prog=true:=by kernel_rfl
theorem tg:(Rows.windowOverRow.inPlace == Tryz.prog.inPlace 5)=true:=by kernel_rfl
theorem qO:(Rows.windowOverRow.unfollowed == Tryz.prog.unfollowed 5)=true:=by kernel_rfl
theorem sq:(Rows.windowOverRow.recurses == Tryz.prog.recurses 5)=true:=by kernel_rfl
theorem vG:(Rows.windowOverRow.named == Tryz.prog.varsNamed 5)=true:=by kernel_rfl
theorem wW:(Rows.windowOverRow.plainKeys == Tryz.prog.plainKeys)=true:=by kernel_rfl
theorem vH:Tryz.prog.stopsHeard=true:=by kernel_rfl
theorem vI:Tryz.prog.mayEnter=true:=by kernel_rfl
theorem vJ:(Rows.windowOverRow.lifted == Tryz.prog.liftsFinal)=true:=by kernel_rfl
theorem uE:joinedFacts Tryz.prog 5 Tryz.f5 Rows.windowOverSpec Rows.windowOverRow=true:=by
 unfold joinedFacts
 simp only[bC]
 exact⟨⟨⟨⟨⟨⟨⟨⟨⟨⟨⟨⟨⟨⟨⟨⟨⟨⟨⟨⟨⟨⟨⟨⟨⟨⟨⟨⟨⟨⟨⟨zS,qH⟩,vF⟩,(by kernel_rfl)⟩,(by kernel_rfl)⟩,(by kernel_rfl)⟩,(by kernel_rfl)⟩,(by kernel_rfl)⟩,(by kernel_rfl)⟩,tg⟩,qO⟩,sq⟩,vG⟩,(by kernel_rfl)⟩,(by kernel_rfl)⟩,(by kernel_rfl)⟩,(by kernel_rfl)⟩,(by kernel_rfl)⟩,(by kernel_rfl)⟩,(by kernel_rfl)⟩,(by kernel_rfl)⟩,(by kernel_rfl)⟩,wW⟩,(by kernel_rfl)⟩,vH⟩,vI⟩,vJ⟩,(by kernel_rfl)⟩,(by kernel_rfl)⟩,(by kernel_rfl)⟩,(by kernel_rfl)⟩,(by kernel_rfl)⟩
theorem proved_windowOver:Rows.WindowOverSaid:=
 OpenClaim.holds_of_wide 5 Tryz.f5 rfl rfl rfl rfl rfl rfl rfl ⟨rfl,rfl,rfl,rfl,rfl⟩ rfl rfl rfl rfl rfl (by kernel_rfl) Tryz.func5 uE
  (of_decide_eq_true (by kernel_rfl)) (by unfold Func.isWrapper;first|(rw[aH (by decide +kernel)];kernel_rfl)|(rw[aF (by decide +kernel)];exact⟨rfl,rfl⟩))
  (fun os started H enc _=>uC os started H enc)
end Go.Proofs.YtdicblkhpcphfaaGreat
