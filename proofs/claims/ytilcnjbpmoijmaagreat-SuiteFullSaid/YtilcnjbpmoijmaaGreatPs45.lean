/- Parts of a proof: what its theorem reaches, words cut short. No condition of its own. -/
import Derived.Test.YtilcnjbpmoijmaaGreatPs43
set_option maxRecDepth 100000
set_option maxHeartbeats 16000000
set_option linter.unusedVariables false
set_option linter.unusedSimpArgs false
namespace Go.Proofs.YtilcnjbpmoijmaaGreat.D
open Go.RowKit Go.Lib
section
variable {g n c base : Nat}
theorem parteq_u{a b p:Nat}(hab:a<b)(hb:b<=n)(hp:p<n)(w:World)(h:UAt g n c base w)(hn:n<=1099511627776) :
 Calls Tryz.prog 192 #[slU g n c,.int .i64 a,.int .i64 b,.int .i64 p] w fun e w'=>∃x:Nat,e=.returned (.int .i64 x)/\a<x/\x<=b/\USt g n c base w w':=by
 have HU:Hid (USt g n c base w w):=Lib.hid (USt.refl h)
 clear h
 have ha:a<n:=by omega
 have a0:(0:Int)<=a:=by omega
 have a1:(a:Int)<n:=by omega
 have p0:(0:Int)<=p:=by omega
 have p1:(p:Int)<n:=by omega
 have ea:IntKind.i64.wrap ((a:Int)+1)=((a+1:Nat):Int):=by rw[IntWalk.i64_in _ (by omega)];omega
 obtain⟨bb,hbb⟩:∃bb:Nat,b=bb+1:=⟨b - 1,by omega⟩
 have eb:IntKind.i64.wrap ((b:Int) - 1)=(bb:Int):=by rw[IntWalk.i64_in _ (by omega)];omega
 go_enter Tryz.func192,Tryz.ntmps192
 go_upto_region 1 with fail
 obtain⟨zi,kzi⟩:=HU.out.1.at ha
 obtain⟨zj,kzj⟩:=HU.out.1.at hp
 have KI:=Lib.hid kzi
 have KJ:=Lib.hid kzj
 have KF:=Lib.hid (HU.out.1.fz (a))
 have KG:=Lib.hid HU.out.1.lt
 have O5:Hid (USt g n c base w (w.setCell ⟨g,a,none⟩ (.int .u32 zj))):=Lib.hid ⟨HU.out.1.put ha _,HU.out.2.setCell (.inl rfl) _⟩
 clear kzi kzj
 have FBq:=Lib.hid (fun(w':World) (hS':Below w.heap.size w w')=>(And.intro ((hS'.cell (p:=⟨g,a,none⟩) KG.out).trans KI.out) ((hS'.cell (p:=⟨g,p,none⟩) KG.out).trans KJ.out)))
 refine plSA (fun w'=>Below w.heap.size w w') 13 (pls 0 2 (plp 2 2 (pls 4 4 (plp 8 3 (pls 11 2 (plf 13 (plp 14 1 (plf 15 [])))))))) ((Below.refl _ _).drew) ?_
 iterate 2 refine plSR ?_
 iterate 2 refine plSP ?_
 iterate 4 refine plSR ?_
 iterate 3 refine plSP ?_
 iterate 2 refine plSR ?_
 refine plSE fun K hK=>?_
 have k0:=KI.out
 have k2:=KF.out
 go_simp
 clear k0 k2
 refine hK _ _ ?_
 clear hK K
 refine plSP ?_
 refine plSE fun K hK=>?_
 generalize w.setCell ⟨g,a,none⟩ (.int .u32 zj)=v5 at O5 |-
 obtain⟨zz,k0⟩:=O5.out.1.at hp
 have k2:=O5.out.1.fz (p)
 go_simp
 clear k0 k2
 refine hK _ _ ?_
 clear hK K
 refine wpPlanS_nil ?_
 have O1:Hid (USt g n c base w (v5.setCell ⟨g,p,none⟩ (.int .u32 zi)).drew):=Lib.hid (USt.drew ⟨O5.out.1.put hp _,O5.out.2.setCell (.inl rfl) _⟩)
 clear O5 KI KJ KF KG
 obtain⟨w1,hw1⟩:∃w1,(v5.setCell ⟨g,p,none⟩ (.int .u32 zi)).drew=w1:=⟨_,rfl⟩
 rw[hw1] at O1 |-
 clear hw1
 go_wp2_with fail
 clear ea eb
 have HB:=Lib.hid hbb
 clear hbb
 go_loopg [9,10] (bb+2 - (a+1)) (fun q vi vj wx=>∃i j:Nat,q=j+2 - i/\vi=.int .i64 i/\vj=.int .i64 j/\a+1<=i/\i<=b/\a<=j/\j<b/\Hid (USt g n c base w wx))
 case atStart=>exact⟨a+1,bb,rfl,by go_num,rfl,Nat.le_refl _,by omega,by have:=HB.out;omega,by have:=HB.out;omega,O1⟩
 case round=>
  obtain⟨i0,j0,hq,rfl,rfl,b1,b2,b3,b4,H0⟩:=hrel
  have HQ:=Lib.hid hq
  clear hq
  go_upto_block 2 with fail
  go_cut [9] (fun v wx=>∃i:Nat,v=.int .i64 i/\i0<=i/\(i<=j0+1\/i=i0)/\Hid (USt g n c base w wx))
  case first=>
   go_wp2_with fail
   obtain⟨wo,rfl⟩:∃wo:World,wo=wr:=⟨_,rfl⟩
   go_loopg [9] (j0+1 - i0) (fun q v wx=>∃i:Nat,q=j0+1 - i/\v=.int .i64 i/\i0<=i/\(i<=j0+1\/i=i0)/\Hid (USt g n c base w wx))
   case atStart=>exact⟨i0,rfl,rfl,Nat.le_refl _,.inr rfl,H0⟩
   case round=>
    obtain⟨i,hq,rfl,h1,h2,HI⟩:=hrel
    have HQ2:=Lib.hid hq
    clear hq
    by_cases hij:i<=j0
    ·have k0:(0:Int)<=i:=by omega
     have k1:(i:Int)<n:=by omega
     have k2:(i:Int)<=j0:=by omega
     have k3:i<n:=by omega
     have ew:IntKind.i64.wrap ((i:Int)+1)=(i:Int)+1:=IntWalk.i64_in _ (by omega)
     obtain⟨zi,hzi⟩:=HI.out.1.at k3
     obtain⟨za,hza⟩:=HI.out.1.at ha
     have ZI:=Lib.hid hzi
     have ZA:=Lib.hid hza
     clear hzi hza
     by_cases hless:za<zi
     ·go_wp2_with fail
      refine plA (fun w'=>w'=wr.drew) (plr 0 12 (ple 12 (plr 13 2 []))) (rfl) ?_
      iterate 12 refine plR (h:=fun w' hS'=>by subst hS';have k0:wr.drew.cell? ⟨g,a,none⟩=_:=ZA.out;have k1:wr.drew.cell? ⟨g,i,none⟩=_:=ZI.out;go_simp;exact⟨rfl,rfl⟩) ?_
      refine plD fun K hK=>?_
      go_simp
      refine(less_u _ _ _).mono ?_
      rintro e w3 ⟨rfl,rfl⟩
      refine hK _ _ (rfl) ?_
      clear hK K
      iterate 2 refine plR (h:=fun w' hS'=>by subst hS';have k0:wr.drew.cell? ⟨g,a,none⟩=_:=ZA.out;have k1:wr.drew.cell? ⟨g,i,none⟩=_:=ZI.out;go_simp;exact⟨rfl,rfl⟩) ?_
      refine wpPlan_nil ?_
      go_wp2_with fail
      go_meet
      exact⟨i,rfl,by omega,by omega,Lib.hid HI.out.drew⟩
     ·have hdf:decide (za<zi)=false:=decide_eq_false hless
      go_wp2_with fail
      refine plA (fun w'=>w'=wr.drew) (plr 0 12 (ple 12 (plr 13 2 []))) (rfl) ?_
      iterate 12 refine plR (h:=fun w' hS'=>by subst hS';have k0:wr.drew.cell? ⟨g,a,none⟩=_:=ZA.out;have k1:wr.drew.cell? ⟨g,i,none⟩=_:=ZI.out;go_simp;exact⟨rfl,rfl⟩) ?_
      refine plD fun K hK=>?_
      go_simp
      refine(less_u _ _ _).mono ?_
      rintro e w3 ⟨rfl,rfl⟩
      refine hK _ _ (rfl) ?_
      clear hK K
      iterate 2 refine plR (h:=fun w' hS'=>by subst hS';have k0:wr.drew.cell? ⟨g,a,none⟩=_:=ZA.out;have k1:wr.drew.cell? ⟨g,i,none⟩=_:=ZI.out;go_simp;exact⟨rfl,rfl⟩) ?_
      refine wpPlan_nil ?_
      go_wp2_with fail
      go_roundg (j0+1 - (i+1))
      case measure=>have:=HQ2.out;omega
      case rel=>exact⟨i+1,rfl,by go_num,by omega,by omega,Lib.hid HI.out.drew⟩
    ·have k2:decide ((i:Int)<=j0)=false:=decide_eq_false (by omega)
     go_wp2_with fail
     refine plA (fun w'=>w'=wr.drew) (plr 0 15 []) (rfl) ?_
     iterate 4 refine plR ?_
     refine plK ?_
     try go_simp
     refine plK ?_
     try go_simp
     refine plK ?_
     try go_simp
     refine plK ?_
     try go_simp
     refine plK ?_
     try go_simp
     refine plK ?_
     try go_simp
     refine plK ?_
     try go_simp
     refine plK ?_
     try go_simp
     refine plK ?_
     try go_simp
     refine plK ?_
     try go_simp
     refine plR ?_
     refine wpPlan_nil ?_
     go_wp2_with fail
     go_meet
     exact⟨i,rfl,by omega,by omega,Lib.hid HI.out.drew⟩
  case rest=>
  obtain⟨i1,rfl,hi10,hi11,Hi1⟩:=hcut
  clear H0
  go_upto_block 4 with fail
  go_cut [10] (fun v wx=>∃j:Nat,v=.int .i64 j/\j<=j0/\(i1<=j+1\/j=j0)/\Hid (USt g n c base w wx))
  case first=>
   go_wp2_with fail
   obtain⟨wo,rfl⟩:∃wo:World,wo=wc:=⟨_,rfl⟩
   go_loopg [10] j0 (fun q v wx=>∃j:Nat,q=j/\v=.int .i64 j/\j<=j0/\(i1<=j+1\/j=j0)/\Hid (USt g n c base w wx))
   case atStart=>exact⟨j0,rfl,rfl,Nat.le_refl _,.inr rfl,Hi1⟩
   case round=>
    obtain⟨j,hq,rfl,h1,h2,HI⟩:=hrel
    have HQ2:=Lib.hid hq
    clear hq
    by_cases hij:i1<=j
    ·have k0:(0:Int)<=j:=by omega
     have k1:(j:Int)<n:=by omega
     have k2:(i1:Int)<=j:=by omega
     have k3:j<n:=by omega
     have ew:IntKind.i64.wrap ((j:Int) - 1)=(j:Int) - 1:=IntWalk.i64_in _ (by omega)
     obtain⟨zj,hzj⟩:=HI.out.1.at k3
     obtain⟨za,hza⟩:=HI.out.1.at ha
     have ZJ:=Lib.hid hzj
     have ZA:=Lib.hid hza
     clear hzj hza
     by_cases hless:za<zj
     ·go_wp2_with fail
      refine plA (fun w'=>w'=wr.drew) (plr 0 12 (ple 12 (plr 13 1 []))) (rfl) ?_
      iterate 12 refine plR (h:=fun w' hS'=>by subst hS';have k0:wr.drew.cell? ⟨g,a,none⟩=_:=ZA.out;have k1:wr.drew.cell? ⟨g,j,none⟩=_:=ZJ.out;go_simp;exact⟨rfl,rfl⟩) ?_
      refine plD fun K hK=>?_
      go_simp
      refine(less_u _ _ _).mono ?_
      rintro e w3 ⟨rfl,rfl⟩
      refine hK _ _ (rfl) ?_
      clear hK K
      refine plR (h:=fun w' hS'=>by subst hS';have k0:wr.drew.cell? ⟨g,a,none⟩=_:=ZA.out;have k1:wr.drew.cell? ⟨g,j,none⟩=_:=ZJ.out;go_simp;exact⟨rfl,rfl⟩) ?_
      refine wpPlan_nil ?_
      go_wp2_with fail
      go_roundg (j - 1)
      case measure=>have:=HQ2.out;omega
      case rel=>exact⟨j - 1,rfl,by go_num,by omega,by omega,Lib.hid HI.out.drew⟩
     ·have hdf:decide (za<zj)=false:=decide_eq_false hless
      go_wp2_with fail
      refine plA (fun w'=>w'=wr.drew) (plr 0 12 (ple 12 (plr 13 1 []))) (rfl) ?_
      iterate 12 refine plR (h:=fun w' hS'=>by subst hS';have k0:wr.drew.cell? ⟨g,a,none⟩=_:=ZA.out;have k1:wr.drew.cell? ⟨g,j,none⟩=_:=ZJ.out;go_simp;exact⟨rfl,rfl⟩) ?_
      refine plD fun K hK=>?_
      go_simp
      refine(less_u _ _ _).mono ?_
      rintro e w3 ⟨rfl,rfl⟩
      refine hK _ _ (rfl) ?_
      clear hK K
      refine plR (h:=fun w' hS'=>by subst hS';have k0:wr.drew.cell? ⟨g,a,none⟩=_:=ZA.out;have k1:wr.drew.cell? ⟨g,j,none⟩=_:=ZJ.out;go_simp;exact⟨rfl,rfl⟩) ?_
      refine wpPlan_nil ?_
      go_wp2_with fail
      go_meet
      exact⟨j,rfl,by omega,by omega,Lib.hid HI.out.drew⟩
    ·have k2:decide ((i1:Int)<=j)=false:=decide_eq_false (by omega)
     go_wp2_with fail
     refine plA (fun w'=>w'=wr.drew) (plr 0 14 []) (rfl) ?_
     iterate 4 refine plR ?_
     refine plK ?_
     try go_simp
     refine plK ?_
     try go_simp
     refine plK ?_
     try go_simp
     refine plK ?_
     try go_simp
     refine plK ?_
     try go_simp
     refine plK ?_
     try go_simp
     refine plK ?_
     try go_simp
     refine plK ?_
     try go_simp
     refine plK ?_
     try go_simp
     refine plR ?_
     refine wpPlan_nil ?_
     go_wp2_with fail
     go_meet
     exact⟨j,rfl,by omega,by omega,Lib.hid HI.out.drew⟩
  case rest=>
  obtain⟨j1,rfl,hj10,hj11,Hj1⟩:=hcut
  clear Hi1
  by_cases hgt:j1<i1
  ·have hgt':(i1:Int) > j1:=by omega
   go_wp2_with fail
   go_ret
   exact⟨i1,rfl,by omega,by omega,Hj1.out⟩
  ·have hgt':¬(i1:Int) > j1:=by omega
   have q1:i1<n:=by omega
   have q2:j1<n:=by omega
   have k0:(0:Int)<=i1:=by omega
   have k1:(i1:Int)<n:=by omega
   have k2:(0:Int)<=j1:=by omega
   have k3:(j1:Int)<n:=by omega
   have e1:IntKind.i64.wrap ((i1:Int)+1)=(i1:Int)+1:=IntWalk.i64_in _ (by omega)
   have e2:IntKind.i64.wrap ((j1:Int) - 1)=(j1:Int) - 1:=IntWalk.i64_in _ (by omega)
   go_upto_region 8 with fail
   obtain⟨zi,kzi⟩:=Hj1.out.1.at q1
   obtain⟨zj,kzj⟩:=Hj1.out.1.at q2
   have KI:=Lib.hid kzi
   have KJ:=Lib.hid kzj
   have KF:=Lib.hid (Hj1.out.1.fz (i1))
   have KG:=Lib.hid Hj1.out.1.lt
   have O5:Hid (USt g n c base w (wc.setCell ⟨g,i1,none⟩ (.int .u32 zj))):=Lib.hid ⟨Hj1.out.1.put q1 _,Hj1.out.2.setCell (.inl rfl) _⟩
   clear kzi kzj
   have FBq:=Lib.hid (fun(w':World) (hS':Below wc.heap.size wc w')=>(And.intro ((hS'.cell (p:=⟨g,i1,none⟩) KG.out).trans KI.out) ((hS'.cell (p:=⟨g,j1,none⟩) KG.out).trans KJ.out)))
   refine plSA (fun w'=>Below wc.heap.size wc w') 13 (pls 0 2 (plp 2 2 (pls 4 4 (plp 8 3 (pls 11 2 (plf 13 (plp 14 1 (plf 15 [])))))))) ((Below.refl _ _).drew) ?_
   iterate 2 refine plSR ?_
   iterate 2 refine plSP ?_
   iterate 4 refine plSR ?_
   iterate 3 refine plSP ?_
   iterate 2 refine plSR ?_
   refine plSE fun K hK=>?_
   have k0:=KI.out
   have k2:=KF.out
   go_simp
   clear k0 k2
   refine hK _ _ ?_
   clear hK K
   refine plSP ?_
   refine plSE fun K hK=>?_
   generalize wc.setCell ⟨g,i1,none⟩ (.int .u32 zj)=v5 at O5 |-
   obtain⟨zz,k0⟩:=O5.out.1.at q2
   have k2:=O5.out.1.fz (j1)
   go_simp
   clear k0 k2
   refine hK _ _ ?_
   clear hK K
   refine wpPlanS_nil ?_
   have O7:Hid (USt g n c base w (v5.setCell ⟨g,j1,none⟩ (.int .u32 zi)).drew):=Lib.hid (USt.drew ⟨O5.out.1.put q2 _,O5.out.2.setCell (.inl rfl) _⟩)
   clear O5 KI KJ KF KG
   go_wp2_with fail
   go_roundg (j1 - 1+2 - (i1+1))
   case measure=>have:=HQ.out;omega
   case rel=>exact⟨i1+1,j1 - 1,rfl,by go_num,by go_num,by omega,by omega,by omega,by omega,O7⟩
end
end Go.Proofs.YtilcnjbpmoijmaaGreat.D
