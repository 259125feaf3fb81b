/- Parts of a proof: what its theorem reaches, words cut short. No condition of its own. -/
import Derived.Test.YtilcnjbpmoijmaaGreatPs43
set_option maxRecDepth 100000
set_option maxHeartbeats 16000000
set_option linter.unusedVariables false
set_option linter.unusedSimpArgs false
namespace Go.Proofs.YtilcnjbpmoijmaaGreat.D
open Go.RowKit Go.Lib
section
variable {g n c base : Nat}
def ParP(P:World->Prop)(e:Ending)(w:World):Prop:=∃r:Bool,e=.returned (.bool r)/\P w
theorem partial_u{a b:Nat}(hab:a<b)(hb:b<=n)(w:World)(h:UAt g n c base w)(hn:n<=1099511627776) :
 Calls Tryz.prog 190 #[slU g n c,.int .i64 a,.int .i64 b] w (ParP (USt g n c base w)):=by
 have HU:Hid (USt g n c base w w):=Lib.hid (USt.refl h)
 clear h
 have ea:IntKind.i64.wrap ((a:Int)+1)=(a:Int)+1:=IntWalk.i64_in _ (by omega)
 go_enter Tryz.func190,Tryz.ntmps190
 go_wp2_with fail
 clear ea
 go_loopg [7,8] 5 (fun q vi vk wx=>∃i k:Nat,q=5 - k/\vi=.int .i64 i/\vk=.int .i64 k/\a+1<=i/\i<=b/\k<=5/\Hid (USt g n c base w wx))
 case atStart=>exact⟨a+1,0,rfl,by go_num,rfl,Nat.le_refl _,hab,by omega,HU⟩
 case round=>
  obtain⟨i0,k,hq,rfl,rfl,b0,b1,hk,H0⟩:=hrel
  have HQ:=Lib.hid hq
  clear hq
  by_cases hk5:k<5
  ·have hk5':(k:Int)<5:=by omega
   have ekk:IntKind.i64.wrap ((k:Int)+1)=(k:Int)+1:=IntWalk.i64_in _ (by omega)
   have EKK:=Lib.hid ekk
   clear ekk
   go_upto_block 2 with fail
   go_cut [7] (fun v wx=>∃i:Nat,v=.int .i64 i/\i0<=i/\i<=b/\Hid (USt g n c base w wx))
   case first=>
    go_wp2_with fail
    obtain⟨wo,rfl⟩:∃wo:World,wo=wr:=⟨_,rfl⟩
    go_loopg [7] (b - i0) (fun q v wx=>∃i:Nat,q=b - i/\v=.int .i64 i/\i0<=i/\i<=b/\Hid (USt g n c base w wx))
    case atStart=>exact⟨i0,rfl,rfl,Nat.le_refl _,b1,H0⟩
    case round=>
     obtain⟨i,hq,rfl,h1,h2,HI⟩:=hrel
     have HQ2:=Lib.hid hq
     clear hq
     by_cases hij:i<b
     ·obtain⟨p,rfl⟩:∃p,i=p+1:=⟨i - 1,by omega⟩
      have k0:(0:Int)<=p:=by omega
      have k1:(p:Int)+1<n:=by omega
      have k2:(p:Int)+1<b:=by omega
      have k3:p+1<n:=by omega
      have k4:p<n:=by omega
      have k5:(p:Int)<n:=by omega
      have k6:(0:Int)<=(p:Int)+1:=by omega
      have ew:IntKind.i64.wrap ((p:Int)+1+1)=(p:Int)+1+1:=IntWalk.i64_in _ (by omega)
      have ew2:=IntWalk.i64_in (p:Int) (by omega)
      obtain⟨z1,hz1⟩:=HI.out.1.at k3
      obtain⟨z2,hz2⟩:=HI.out.1.at k4
      have Z1:=Lib.hid hz1
      have Z2:=Lib.hid hz2
      clear hz1 hz2
      by_cases hless:z1<z2
      ·go_wp2_with fail
       refine plA (fun w'=>w'=wr.drew) (plr 0 13 (ple 13 (plr 14 2 []))) (rfl) ?_
       iterate 13 refine plR (h:=fun w' hS'=>by subst hS';have k0:wr.drew.cell? ⟨g,p+1,none⟩=_:=Z1.out;have k1:wr.drew.cell? ⟨g,p,none⟩=_:=Z2.out;go_simp;exact⟨rfl,rfl⟩) ?_
       refine plD fun K hK=>?_
       go_simp
       refine(less_u _ _ _).mono ?_
       rintro e w3 ⟨rfl,rfl⟩
       refine hK _ _ (rfl) ?_
       clear hK K
       iterate 2 refine plR (h:=fun w' hS'=>by subst hS';have k0:wr.drew.cell? ⟨g,p+1,none⟩=_:=Z1.out;have k1:wr.drew.cell? ⟨g,p,none⟩=_:=Z2.out;go_simp;exact⟨rfl,rfl⟩) ?_
       refine wpPlan_nil ?_
       go_wp2_with fail
       go_meet
       exact⟨p+1,rfl,by omega,by omega,Lib.hid HI.out.drew⟩
      ·have hdf:decide (z1<z2)=false:=decide_eq_false hless
       go_wp2_with fail
       refine plA (fun w'=>w'=wr.drew) (plr 0 13 (ple 13 (plr 14 2 []))) (rfl) ?_
       iterate 13 refine plR (h:=fun w' hS'=>by subst hS';have k0:wr.drew.cell? ⟨g,p+1,none⟩=_:=Z1.out;have k1:wr.drew.cell? ⟨g,p,none⟩=_:=Z2.out;go_simp;exact⟨rfl,rfl⟩) ?_
       refine plD fun K hK=>?_
       go_simp
       refine(less_u _ _ _).mono ?_
       rintro e w3 ⟨rfl,rfl⟩
       refine hK _ _ (rfl) ?_
       clear hK K
       iterate 2 refine plR (h:=fun w' hS'=>by subst hS';have k0:wr.drew.cell? ⟨g,p+1,none⟩=_:=Z1.out;have k1:wr.drew.cell? ⟨g,p,none⟩=_:=Z2.out;go_simp;exact⟨rfl,rfl⟩) ?_
       refine wpPlan_nil ?_
       go_wp2_with fail
       go_roundg (b - (p+1+1))
       case measure=>have:=HQ2.out;omega
       case rel=>exact⟨p+1+1,rfl,by go_num,by omega,by omega,Lib.hid HI.out.drew⟩
     ·have k2:decide ((i:Int)<b)=false:=decide_eq_false (by omega)
      go_wp2_with fail
      refine plA (fun w'=>w'=wr.drew) (plr 0 16 []) (rfl) ?_
      iterate 4 refine plR ?_
      refine plK ?_
      try go_simp
      refine plK ?_
      try go_simp
      refine plK ?_
      try go_simp
      refine plK ?_
      try go_simp
      refine plK ?_
      try go_simp
      refine plK ?_
      try go_simp
      refine plK ?_
      try go_simp
      refine plK ?_
      try go_simp
      refine plK ?_
      try go_simp
      refine plK ?_
      try go_simp
      refine plK ?_
      try go_simp
      refine plR ?_
      refine wpPlan_nil ?_
      go_wp2_with fail
      go_meet
      exact⟨i,rfl,by omega,by omega,Lib.hid HI.out.drew⟩
   case rest=>
   obtain⟨i,rfl,h1,h2,HI⟩:=hcut
   by_cases hib:i=b
   ·subst hib
    go_wp2_with fail
    go_ret
    exact⟨true,rfl,HI.out⟩
   ·have hib':¬(i:Int)=b:=by omega
    have e1:IntKind.i64.wrap ((b:Int) - a)=(b:Int) - a:=IntWalk.i64_in _ (by omega)
    by_cases h50:(b:Int) - a<50
    ·go_wp2_with fail
     go_ret
     exact⟨false,rfl,HI.out⟩
    ·obtain⟨p,rfl⟩:∃p,i=p+1:=⟨i - 1,by omega⟩
     have k0:(0:Int)<=p:=by omega
     have k1:(p:Int)+1<n:=by omega
     have k3:p+1<n:=by omega
     have k4:p<n:=by omega
     have k5:(p:Int)<n:=by omega
     have k6:(0:Int)<=(p:Int)+1:=by omega
     have ew:=IntWalk.i64_in (p:Int) (by omega)
     have e2:IntKind.i64.wrap ((p:Int)+1 - a)=(p:Int)+1 - a:=IntWalk.i64_in _ (by omega)
     have e3:IntKind.i64.wrap ((b:Int) - ((p:Int)+1))=(b:Int) - ((p:Int)+1):=IntWalk.i64_in _ (by omega)
     have e4:IntKind.i64.wrap ((p:Int)+1+1)=(p:Int)+1+1:=IntWalk.i64_in _ (by omega)
     have E3:=Lib.hid (And.intro e3 e4)
     clear e3 e4
     go_upto_region 11 with fail
     obtain⟨zi,kzi⟩:=HI.out.1.at k3
     obtain⟨zj,kzj⟩:=HI.out.1.at k4
     have KI:=Lib.hid kzi
     have KJ:=Lib.hid kzj
     have KF:=Lib.hid (HI.out.1.fz (p+1))
     have KG:=Lib.hid HI.out.1.lt
     have O5:Hid (USt g n c base w (wc.setCell ⟨g,p+1,none⟩ (.int .u32 zj))):=Lib.hid ⟨HI.out.1.put k3 _,HI.out.2.setCell (.inl rfl) _⟩
     clear kzi kzj
     have FBq:=Lib.hid (fun(w':World) (hS':Below wc.heap.size wc w')=>(And.intro ((hS'.cell (p:=⟨g,p+1,none⟩) KG.out).trans KI.out) ((hS'.cell (p:=⟨g,p,none⟩) KG.out).trans KJ.out)))
     refine plSA (fun w'=>Below wc.heap.size wc w') 15 (pls 0 2 (plp 2 3 (pls 5 5 (plp 10 3 (pls 13 2 (plf 15 (plp 16 1 (plf 17 [])))))))) ((Below.refl _ _).drew) ?_
     iterate 2 refine plSR ?_
     iterate 3 refine plSP ?_
     iterate 5 refine plSR ?_
     iterate 3 refine plSP ?_
     iterate 2 refine plSR ?_
     refine plSE fun K hK=>?_
     have k0:=KI.out
     have k2:=KF.out
     go_simp
     clear k0 k2
     refine hK _ _ ?_
     clear hK K
     refine plSP ?_
     refine plSE fun K hK=>?_
     generalize wc.setCell ⟨g,p+1,none⟩ (.int .u32 zj)=v5 at O5 |-
     obtain⟨zz,k0⟩:=O5.out.1.at k4
     have k2:=O5.out.1.fz (p)
     go_simp
     clear k0 k2
     refine hK _ _ ?_
     clear hK K
     refine wpPlanS_nil ?_
     have O1:Hid (USt g n c base w (v5.setCell ⟨g,p,none⟩ (.int .u32 zi)).drew):=Lib.hid (USt.drew ⟨O5.out.1.put k4 _,O5.out.2.setCell (.inl rfl) _⟩)
     clear O5 KI KJ KF KG
     obtain⟨w1,hw1⟩:∃w1,(v5.setCell ⟨g,p,none⟩ (.int .u32 zi)).drew=w1:=⟨_,rfl⟩
     rw[hw1] at O1 |-
     clear hw1 HI
     go_upto_if 61 with(fail)
     go_cut [7] (fun v wx=>v=.int .i64 ((p:Int)+1)/\Hid (USt g n c base w wx))
     case first=>
      by_cases h2a:(p:Int)+1 - a>=2
      ·go_wp2_with fail
       clear ew e1 e2
       go_loopg [9] p (fun q v wx=>∃j:Nat,q=j/\v=.int .i64 j/\j<=p/\Hid (USt g n c base w wx))
       case atStart=>exact⟨p,rfl,by go_num,Nat.le_refl _,O1⟩
       case round=>
        obtain⟨j,hq,rfl,hj,HJ⟩:=hrel
        have HQ2:=Lib.hid hq
        clear hq
        by_cases hj1:1<=j
        ·obtain⟨d,rfl⟩:∃d,j=d+1:=⟨j - 1,by omega⟩
         have m0:(0:Int)<=d:=by omega
         have m1:(d:Int)+1<n:=by omega
         have m2:(d:Int)<n:=by omega
         have m3:d+1<n:=by omega
         have m4:d<n:=by omega
         have m5:(d:Int)+1>=1:=by omega
         have m6:(0:Int)<=(d:Int)+1:=by omega
         have ew:=IntWalk.i64_in (d:Int) (by omega)
         obtain⟨z1,hz1⟩:=HJ.out.1.at m3
         obtain⟨z2,hz2⟩:=HJ.out.1.at m4
         have Z1:=Lib.hid hz1
         have Z2:=Lib.hid hz2
         clear hz1 hz2
         by_cases hless:z1<z2
         ·go_upto_region 16 with fail
          refine plA (fun w'=>w'=wr.drew) (plr 0 9 (ple 9 (plr 10 1 []))) (rfl) ?_
          iterate 9 refine plR (h:=fun w' hS'=>by subst hS';have k0:wr.drew.cell? ⟨g,d+1,none⟩=_:=Z1.out;have k1:wr.drew.cell? ⟨g,d,none⟩=_:=Z2.out;go_simp;exact⟨rfl,rfl⟩) ?_
          refine plD fun K hK=>?_
          go_simp
          refine(less_u _ _ _).mono ?_
          rintro e w3 ⟨rfl,rfl⟩
          refine hK _ _ (rfl) ?_
          clear hK K
          refine plR (h:=fun w' hS'=>by subst hS';have k0:wr.drew.cell? ⟨g,d+1,none⟩=_:=Z1.out;have k1:wr.drew.cell? ⟨g,d,none⟩=_:=Z2.out;go_simp;exact⟨rfl,rfl⟩) ?_
          refine wpPlan_nil ?_
          go_upto_region 17 with fail
          have HJ':Hid (USt g n c base w wr.drew):=Lib.hid HJ.out.drew
          obtain⟨wq,hwq⟩:∃x,wr.drew=x:=⟨_,rfl⟩
          rw[hwq] at HJ' |-
          clear hwq
          obtain⟨zi,kzi⟩:=HJ'.out.1.at m3
          obtain⟨zj,kzj⟩:=HJ'.out.1.at m4
          have KI:=Lib.hid kzi
          have KJ:=Lib.hid kzj
          have KF:=Lib.hid (HJ'.out.1.fz (d+1))
          have KG:=Lib.hid HJ'.out.1.lt
          have O5:Hid (USt g n c base w (wq.setCell ⟨g,d+1,none⟩ (.int .u32 zj))):=Lib.hid ⟨HJ'.out.1.put m3 _,HJ'.out.2.setCell (.inl rfl) _⟩
          clear kzi kzj
          have FBq:=Lib.hid (fun(w':World) (hS':Below wq.heap.size wq w')=>(And.intro ((hS'.cell (p:=⟨g,d+1,none⟩) KG.out).trans KI.out) ((hS'.cell (p:=⟨g,d,none⟩) KG.out).trans KJ.out)))
          refine plSA (fun w'=>Below wq.heap.size wq w') 15 (pls 0 2 (plp 2 3 (pls 5 5 (plp 10 3 (pls 13 2 (plf 15 (plp 16 1 (plf 17 [])))))))) ((Below.refl _ _).drew) ?_
          iterate 2 refine plSR ?_
          iterate 3 refine plSP ?_
          iterate 5 refine plSR ?_
          iterate 3 refine plSP ?_
          iterate 2 refine plSR ?_
          refine plSE fun K hK=>?_
          have k0:=KI.out
          have k2:=KF.out
          go_simp
          clear k0 k2
          refine hK _ _ ?_
          clear hK K
          refine plSP ?_
          refine plSE fun K hK=>?_
          generalize wq.setCell ⟨g,d+1,none⟩ (.int .u32 zj)=v5 at O5 |-
          obtain⟨zz,k0⟩:=O5.out.1.at m4
          have k2:=O5.out.1.fz (d)
          go_simp
          clear k0 k2
          refine hK _ _ ?_
          clear hK K
          refine wpPlanS_nil ?_
          have O7:Hid (USt g n c base w (v5.setCell ⟨g,d,none⟩ (.int .u32 zi)).drew):=Lib.hid (USt.drew ⟨O5.out.1.put m4 _,O5.out.2.setCell (.inl rfl) _⟩)
          clear O5 KI KJ KF KG
          go_wp2_with fail
          go_roundg d
          case measure=>have:=HQ2.out;omega
          case rel=>exact⟨d,rfl,by go_num,by omega,O7⟩
         ·have hdf:decide (z1<z2)=false:=decide_eq_false hless
          go_upto_region 16 with fail
          refine plA (fun w'=>w'=wr.drew) (plr 0 9 (ple 9 (plr 10 1 []))) (rfl) ?_
          iterate 9 refine plR (h:=fun w' hS'=>by subst hS';have k0:wr.drew.cell? ⟨g,d+1,none⟩=_:=Z1.out;have k1:wr.drew.cell? ⟨g,d,none⟩=_:=Z2.out;go_simp;exact⟨rfl,rfl⟩) ?_
          refine plD fun K hK=>?_
          go_simp
          refine(less_u _ _ _).mono ?_
          rintro e w3 ⟨rfl,rfl⟩
          refine hK _ _ (rfl) ?_
          clear hK K
          refine plR (h:=fun w' hS'=>by subst hS';have k0:wr.drew.cell? ⟨g,d+1,none⟩=_:=Z1.out;have k1:wr.drew.cell? ⟨g,d,none⟩=_:=Z2.out;go_simp;exact⟨rfl,rfl⟩) ?_
          refine wpPlan_nil ?_
          go_wp2_with fail
          go_meet
          exact⟨rfl,Lib.hid HJ.out.drew⟩
        ·have m5:¬(j:Int)>=1:=by omega
         go_wp2_with fail
         go_meet
         exact⟨rfl,HJ⟩
      ·go_wp2_with fail
       go_meet
       exact⟨rfl,O1⟩
     case rest=>
     clear O1 ew e1 e2
     obtain⟨rfl,H3⟩:=hcut
     have e3:=E3.out.1
     have ekk:=EKK.out
     by_cases h2a:(b:Int) - ((p:Int)+1)>=2
     ·have e4:=E3.out.2
      go_wp2_with fail
      clear e3 e4
      go_loopg [10] (b - (p+2)) (fun q v wx=>∃j:Nat,q=b - (j+1)/\v=.int .i64 ((j:Int)+1)/\j+1<=b/\Hid (USt g n c base w wx))
      case atStart=>exact⟨p+1,rfl,by go_num,by omega,H3⟩
      case round=>
       obtain⟨d,hq,rfl,hj,HJ⟩:=hrel
       have HQ2:=Lib.hid hq
       clear hq
       by_cases hj1:d+1<b
       ·have m0:(0:Int)<=d:=by omega
        have m1:(d:Int)+1<n:=by omega
        have m2:(d:Int)<n:=by omega
        have m3:d+1<n:=by omega
        have m4:d<n:=by omega
        have m5:(d:Int)+1<b:=by omega
        have m6:(0:Int)<=(d:Int)+1:=by omega
        have ew:=IntWalk.i64_in (d:Int) (by omega)
        have ew2:IntKind.i64.wrap ((d:Int)+1+1)=(d:Int)+1+1:=IntWalk.i64_in _ (by omega)
        obtain⟨z1,hz1⟩:=HJ.out.1.at m3
        obtain⟨z2,hz2⟩:=HJ.out.1.at m4
        have Z1:=Lib.hid hz1
        have Z2:=Lib.hid hz2
        clear hz1 hz2
        by_cases hless:z1<z2
        ·go_upto_region 22 with fail
         refine plA (fun w'=>w'=wr.drew) (plr 0 9 (ple 9 (plr 10 1 []))) (rfl) ?_
         iterate 9 refine plR (h:=fun w' hS'=>by subst hS';have k0:wr.drew.cell? ⟨g,d+1,none⟩=_:=Z1.out;have k1:wr.drew.cell? ⟨g,d,none⟩=_:=Z2.out;go_simp;exact⟨rfl,rfl⟩) ?_
         refine plD fun K hK=>?_
         go_simp
         refine(less_u _ _ _).mono ?_
         rintro e w3 ⟨rfl,rfl⟩
         refine hK _ _ (rfl) ?_
         clear hK K
         refine plR (h:=fun w' hS'=>by subst hS';have k0:wr.drew.cell? ⟨g,d+1,none⟩=_:=Z1.out;have k1:wr.drew.cell? ⟨g,d,none⟩=_:=Z2.out;go_simp;exact⟨rfl,rfl⟩) ?_
         refine wpPlan_nil ?_
         go_upto_region 23 with fail
         have HJ':Hid (USt g n c base w wr.drew):=Lib.hid HJ.out.drew
         obtain⟨wq,hwq⟩:∃x,wr.drew=x:=⟨_,rfl⟩
         rw[hwq] at HJ' |-
         clear hwq
         obtain⟨zi,kzi⟩:=HJ'.out.1.at m3
         obtain⟨zj,kzj⟩:=HJ'.out.1.at m4
         have KI:=Lib.hid kzi
         have KJ:=Lib.hid kzj
         have KF:=Lib.hid (HJ'.out.1.fz (d+1))
         have KG:=Lib.hid HJ'.out.1.lt
         have O5:Hid (USt g n c base w (wq.setCell ⟨g,d+1,none⟩ (.int .u32 zj))):=Lib.hid ⟨HJ'.out.1.put m3 _,HJ'.out.2.setCell (.inl rfl) _⟩
         clear kzi kzj
         have FBq:=Lib.hid (fun(w':World) (hS':Below wq.heap.size wq w')=>(And.intro ((hS'.cell (p:=⟨g,d+1,none⟩) KG.out).trans KI.out) ((hS'.cell (p:=⟨g,d,none⟩) KG.out).trans KJ.out)))
         refine plSA (fun w'=>Below wq.heap.size wq w') 15 (pls 0 2 (plp 2 3 (pls 5 5 (plp 10 3 (pls 13 2 (plf 15 (plp 16 1 (plf 17 [])))))))) ((Below.refl _ _).drew) ?_
         iterate 2 refine plSR ?_
         iterate 3 refine plSP ?_
         iterate 5 refine plSR ?_
         iterate 3 refine plSP ?_
         iterate 2 refine plSR ?_
         refine plSE fun K hK=>?_
         have k0:=KI.out
         have k2:=KF.out
         go_simp
         clear k0 k2
         refine hK _ _ ?_
         clear hK K
         refine plSP ?_
         refine plSE fun K hK=>?_
         generalize wq.setCell ⟨g,d+1,none⟩ (.int .u32 zj)=v5 at O5 |-
         obtain⟨zz,k0⟩:=O5.out.1.at m4
         have k2:=O5.out.1.fz (d)
         go_simp
         clear k0 k2
         refine hK _ _ ?_
         clear hK K
         refine wpPlanS_nil ?_
         have O7:Hid (USt g n c base w (v5.setCell ⟨g,d,none⟩ (.int .u32 zi)).drew):=Lib.hid (USt.drew ⟨O5.out.1.put m4 _,O5.out.2.setCell (.inl rfl) _⟩)
         clear O5 KI KJ KF KG
         go_wp2_with fail
         go_roundg (b - (d+1+1))
         case measure=>have:=HQ2.out;omega
         case rel=>exact⟨d+1,rfl,by go_num,by omega,O7⟩
        ·have hdf:decide (z1<z2)=false:=decide_eq_false hless
         go_upto_region 22 with fail
         refine plA (fun w'=>w'=wr.drew) (plr 0 9 (ple 9 (plr 10 1 []))) (rfl) ?_
         iterate 9 refine plR (h:=fun w' hS'=>by subst hS';have k0:wr.drew.cell? ⟨g,d+1,none⟩=_:=Z1.out;have k1:wr.drew.cell? ⟨g,d,none⟩=_:=Z2.out;go_simp;exact⟨rfl,rfl⟩) ?_
         refine plD fun K hK=>?_
         go_simp
         refine(less_u _ _ _).mono ?_
         rintro e w3 ⟨rfl,rfl⟩
         refine hK _ _ (rfl) ?_
         clear hK K
         refine plR (h:=fun w' hS'=>by subst hS';have k0:wr.drew.cell? ⟨g,d+1,none⟩=_:=Z1.out;have k1:wr.drew.cell? ⟨g,d,none⟩=_:=Z2.out;go_simp;exact⟨rfl,rfl⟩) ?_
         refine wpPlan_nil ?_
         go_wp2_with fail
         clear ekk
         go_roundg (5 - (k+1))
         case measure=>have:=HQ.out;omega
         case rel=>exact⟨p+1,k+1,rfl,by go_num,by go_num,by omega,by omega,by omega,Lib.hid HJ.out.drew⟩
       ·have m5:¬(d:Int)+1<b:=by omega
        go_wp2_with fail
        clear ekk
        go_roundg (5 - (k+1))
        case measure=>have:=HQ.out;omega
        case rel=>exact⟨p+1,k+1,rfl,by go_num,by go_num,by omega,by omega,by omega,HJ⟩
     ·go_wp2_with fail
      clear ekk
      go_roundg (5 - (k+1))
      case measure=>have:=HQ.out;omega
      case rel=>exact⟨p+1,k+1,rfl,by go_num,by go_num,by omega,by omega,by omega,H3⟩
  ·have hk5':¬(k:Int)<5:=by omega
   go_wp2_with fail
   go_ret
   exact⟨false,rfl,H0.out⟩
end
end Go.Proofs.YtilcnjbpmoijmaaGreat.D
