/- Parts of a proof: what its theorem reaches, words cut short. No condition of its own. -/
import Derived.Test.YtilcnjbpmoijmaaGreatPs42
import Derived.Test.YtilcnjbpmoijmaaGreatPs06
set_option maxRecDepth 100000
set_option maxHeartbeats 16000000
set_option linter.unusedVariables false
set_option linter.unusedSimpArgs false
namespace Go.Proofs.YtilcnjbpmoijmaaGreat.D
open Go.RowKit Go.Lib
section
variable {g n c base : Nat}
def USt(g n c base:Nat)(w wr:World):Prop:=UAt g n c base wr/\Touch (fun k=>k=g) w wr
theorem USt.drew{w wr:World}(h:USt g n c base w wr):USt g n c base w wr.drew:=⟨h.1.drew,h.2.drew⟩
theorem USt.drewN{w wr:World}(h:USt g n c base w wr)(k:Nat):USt g n c base w (wr.drewN k):=⟨h.1.drewN k,h.2.drewN k⟩
theorem USt.trans{w w1 w2:World}(h:USt g n c base w w1)(k:USt g n c base w1 w2):USt g n c base w w2:=⟨k.1,h.2.trans k.2 (fun _ e=>.inl e)⟩
theorem USt.refl{w:World}(h:UAt g n c base w):USt g n c base w w:=⟨h,Touch.refl _ _⟩
theorem insertion_u{a b:Nat}(hb:b<=n)(w:World)(h:UAt g n c base w)(hn:n<=1099511627776)(ha:a<=n) :
 Calls Tryz.prog 185 #[slU g n c,.int .i64 a,.int .i64 b] w fun e w'=>e=.returned (.tuple #[])/\USt g n c base w w':=by
 have HU:Hid (USt g n c base w w):=Lib.hid (USt.refl h)
 clear h
 have ea:IntKind.i64.wrap ((a:Int)+1)=(a:Int)+1:=IntWalk.i64_in _ (by omega)
 go_enter Tryz.func185,Tryz.ntmps185
 go_wp2_with fail
 clear ea
 go_loopg [6] (b - (a+1)) (fun q i wr=>∃k:Nat,q=b - k/\i=.int .i64 k/\a+1<=k/\(k<=b\/k=a+1)/\Hid (USt g n c base w wr))
 case atStart=>exact⟨a+1,rfl,by go_num,Nat.le_refl _,.inr rfl,HU⟩
 case round=>
  obtain⟨k,hq,rfl,hk0,hk1,HK⟩:=hrel
  have HQ:=Lib.hid hq
  clear hq
  by_cases hlt:k<b
  ·have hlt':(k:Int)<b:=by omega
   go_wp2_with fail
   obtain⟨wo,rfl⟩:∃wo:World,wo=wr:=⟨_,rfl⟩
   go_loopg [7] k (fun q j w2=>∃i:Nat,q=i/\i<=k/\a<=i/\j=.int .i64 i/\Hid (USt g n c base w w2))
   case atStart=>exact⟨k,rfl,Nat.le_refl _,by omega,rfl,HK⟩
   case round=>
    obtain⟨i,hq,hi,hai,rfl,HI⟩:=hrel
    have HQ2:=Lib.hid hq
    clear hq
    by_cases hgt:a<i
    ·obtain⟨m,rfl⟩:∃m,i=m+1:=⟨i - 1,by omega⟩
     have j0:m+1<n:=by omega
     have j1:m<n:=by omega
     obtain⟨z1,hz1⟩:=HI.out.1.at j0
     obtain⟨z2,hz2⟩:=HI.out.1.at j1
     have Z1:=Lib.hid hz1
     have Z2:=Lib.hid hz2
     clear hz1 hz2
     have hgt':(m:Int)+1 > a:=by omega
     have i0:(0:Int)<=m:=by omega
     have i1:(m:Int)+1<n:=by omega
     have i2:(m:Int)<n:=by omega
     have i3:(0:Int)<=(m:Int)+1:=by omega
     have ew:=IntWalk.i64_in (m:Int) (by omega)
     by_cases hless:z1<z2
     ·go_wp2_with fail
      refine plA (fun w'=>w'=wr.drew) (plr 0 13 (ple 13 (plr 14 1 []))) (rfl) ?_
      iterate 13 refine plR (h:=fun w' hS'=>by subst hS';have k0:wr.drew.cell? ⟨g,m+1,none⟩=_:=Z1.out;have k1:wr.drew.cell? ⟨g,m,none⟩=_:=Z2.out;go_simp;exact⟨rfl,rfl⟩) ?_
      refine plD fun K hK=>?_
      go_simp
      refine(less_u _ _ _).mono ?_
      rintro e w3 ⟨rfl,rfl⟩
      refine hK _ _ (rfl) ?_
      clear hK K
      refine plR (h:=fun w' hS'=>by subst hS';have k0:wr.drew.cell? ⟨g,m+1,none⟩=_:=Z1.out;have k1:wr.drew.cell? ⟨g,m,none⟩=_:=Z2.out;go_simp;exact⟨rfl,rfl⟩) ?_
      refine wpPlan_nil ?_
      go_wp2_with fail
      have HI':Hid (USt g n c base w wr.drew):=Lib.hid HI.out.drew
      obtain⟨wq,hwq⟩:∃x,wr.drew=x:=⟨_,rfl⟩
      rw[hwq] at HI' |-
      clear hwq
      obtain⟨zi,kzi⟩:=HI'.out.1.at j0
      obtain⟨zj,kzj⟩:=HI'.out.1.at j1
      have KI:=Lib.hid kzi
      have KJ:=Lib.hid kzj
      have KF:=Lib.hid (HI'.out.1.fz (m+1))
      have KG:=Lib.hid HI'.out.1.lt
      have O5:Hid (USt g n c base w (wq.setCell ⟨g,m+1,none⟩ (.int .u32 zj))):=Lib.hid ⟨HI'.out.1.put j0 _,HI'.out.2.setCell (.inl rfl) _⟩
      clear kzi kzj
      have FBq:=Lib.hid (fun(w':World) (hS':Below wq.heap.size wq w')=>(And.intro ((hS'.cell (p:=⟨g,m+1,none⟩) KG.out).trans KI.out) ((hS'.cell (p:=⟨g,m,none⟩) KG.out).trans KJ.out)))
      refine plSA (fun w'=>Below wq.heap.size wq w') 15 (pls 0 2 (plp 2 3 (pls 5 5 (plp 10 3 (pls 13 2 (plf 15 (plp 16 1 (plf 17 [])))))))) ((Below.refl _ _).drew) ?_
      iterate 2 refine plSR ?_
      iterate 3 refine plSP ?_
      iterate 5 refine plSR ?_
      iterate 3 refine plSP ?_
      iterate 2 refine plSR ?_
      refine plSE fun K hK=>?_
      have k0:=KI.out
      have k2:=KF.out
      go_simp
      clear k0 k2
      refine hK _ _ ?_
      clear hK K
      refine plSP ?_
      refine plSE fun K hK=>?_
      generalize wq.setCell ⟨g,m+1,none⟩ (.int .u32 zj)=v5 at O5 |-
      obtain⟨zz,k0⟩:=O5.out.1.at j1
      have k2:=O5.out.1.fz (m)
      go_simp
      clear k0 k2
      refine hK _ _ ?_
      clear hK K
      refine wpPlanS_nil ?_
      have O7:Hid (USt g n c base w (v5.setCell ⟨g,m,none⟩ (.int .u32 zi)).drew):=Lib.hid (USt.drew ⟨O5.out.1.put j1 _,O5.out.2.setCell (.inl rfl) _⟩)
      clear O5 KI KJ KF KG
      go_wp2_with fail
      go_roundg m
      case measure=>have:=HQ2.out;omega
      case rel=>exact⟨m,rfl,by omega,by omega,by go_num,O7⟩
     ·have hdf:decide (z1<z2)=false:=decide_eq_false hless
      go_wp2_with fail
      refine plA (fun w'=>w'=wr.drew) (plr 0 13 (ple 13 (plr 14 1 []))) (rfl) ?_
      iterate 13 refine plR (h:=fun w' hS'=>by subst hS';have k0:wr.drew.cell? ⟨g,m+1,none⟩=_:=Z1.out;have k1:wr.drew.cell? ⟨g,m,none⟩=_:=Z2.out;go_simp;exact⟨rfl,rfl⟩) ?_
      refine plD fun K hK=>?_
      go_simp
      refine(less_u _ _ _).mono ?_
      rintro e w3 ⟨rfl,rfl⟩
      refine hK _ _ (rfl) ?_
      clear hK K
      refine plR (h:=fun w' hS'=>by subst hS';have k0:wr.drew.cell? ⟨g,m+1,none⟩=_:=Z1.out;have k1:wr.drew.cell? ⟨g,m,none⟩=_:=Z2.out;go_simp;exact⟨rfl,rfl⟩) ?_
      refine wpPlan_nil ?_
      go_wp2_with fail
      go_roundg (b - (k+1))
      case measure=>have:=HQ.out;omega
      case rel=>exact⟨k+1,rfl,by go_num,by omega,by omega,Lib.hid HI.out.drew⟩
    ·obtain rfl:i=a:=by omega
     go_wp2_with fail
     refine plA (fun w'=>w'=wr.drew) (plr 0 15 []) (rfl) ?_
     iterate 4 refine plR ?_
     refine plK ?_
     try go_simp
     refine plK ?_
     try go_simp
     refine plK ?_
     try go_simp
     refine plK ?_
     try go_simp
     refine plK ?_
     try go_simp
     refine plK ?_
     try go_simp
     refine plK ?_
     try go_simp
     refine plK ?_
     try go_simp
     refine plK ?_
     try go_simp
     refine plK ?_
     try go_simp
     refine plR ?_
     refine wpPlan_nil ?_
     go_wp2_with fail
     go_roundg (b - (k+1))
     case measure=>have:=HQ.out;omega
     case rel=>exact⟨k+1,rfl,by go_num,by omega,by omega,Lib.hid HI.out.drew⟩
  ·have hlt':¬(k:Int)<b:=by omega
   go_wp2_with fail
   go_end0
   exact⟨rfl,HK.out⟩
end
end Go.Proofs.YtilcnjbpmoijmaaGreat.D
