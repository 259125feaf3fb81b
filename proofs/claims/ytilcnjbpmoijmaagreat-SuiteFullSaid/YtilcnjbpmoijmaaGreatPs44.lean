/- Parts of a proof: what its theorem reaches, words cut short. No condition of its own. -/
import Derived.Test.YtilcnjbpmoijmaaGreatPs43
set_option maxRecDepth 100000
set_option maxHeartbeats 16000000
set_option linter.unusedVariables false
set_option linter.unusedSimpArgs false
namespace Go.Proofs.YtilcnjbpmoijmaaGreat.D
open Go.RowKit Go.Lib
section
variable {g n c base : Nat}
theorem sift_u{lo hi f:Nat}(hf:f+hi<=n)(w:World)(h:UAt g n c base w)(hn:n<=1099511627776)(hlo:lo<=n) :
 Calls Tryz.prog 252 #[slU g n c,.int .i64 lo,.int .i64 hi,.int .i64 f] w fun e w'=>e=.returned (.tuple #[])/\USt g n c base w w':=by
 have HU:Hid (USt g n c base w w):=Lib.hid (USt.refl h)
 clear h
 go_enter Tryz.func252,Tryz.ntmps252
 go_wp2_with fail
 go_loopg [8] (n - lo) (fun q i wr=>∃r:Nat,q=n - r/\i=.int .i64 r/\r<=n/\Hid (USt g n c base w wr))
 case atStart=>exact⟨lo,rfl,rfl,hlo,HU⟩
 case round=>
  obtain⟨r,hq,rfl,hr,HR⟩:=hrel
  have HQ:=Lib.hid hq
  clear hq
  have e1:IntKind.i64.wrap (2 * (r:Int))=2 * (r:Int):=IntWalk.i64_in _ (by omega)
  have e2:IntKind.i64.wrap (2 * (r:Int)+1)=2 * (r:Int)+1:=IntWalk.i64_in _ (by omega)
  obtain⟨d,hd⟩:∃d:Nat,2 * r+1=d:=⟨_,rfl⟩
  have hd':2 * (r:Int)+1=(d:Int):=by omega
  rw[hd'] at e2
  have DR:=Lib.hid hd
  clear hd
  by_cases hlt:d<hi
  ·have hlt':¬(d:Int)>=hi:=by omega
   have hdr:=DR.out
   have r0:r<n:=by omega
   obtain⟨p0,hp0⟩:∃p:Nat,f+r=p:=⟨_,rfl⟩
   have P0:=Lib.hid hp0
   have q0:p0<n:=by omega
   have ep0:IntKind.i64.wrap ((f:Int)+r)=(p0:Int):=by rw[IntWalk.i64_in _ (by omega)];omega
   have i0:(0:Int)<=p0:=by omega
   have i1:(p0:Int)<n:=by omega
   clear hp0 hdr
   go_upto_region 3 with fail
   go_cut [36] (fun v wx=>∃t:Bool,v=.bool t/\(t=true->d+1<hi)/\Hid (USt g n c base w wx))
   case first=>
    by_cases h2:d+1<hi
    ·obtain⟨p1,hp1⟩:∃p:Nat,f+d=p:=⟨_,rfl⟩
     have q1:p1<n:=by omega
     have q2:p1+1<n:=by omega
     have ep1:IntKind.i64.wrap ((f:Int)+d)=(p1:Int):=by rw[IntWalk.i64_in _ (by omega)];omega
     have ep2:IntKind.i64.wrap ((p1:Int)+1)=(p1:Int)+1:=by rw[IntWalk.i64_in _ (by omega)]
     have ed:IntKind.i64.wrap ((d:Int)+1)=(d:Int)+1:=by rw[IntWalk.i64_in _ (by omega)]
     have h2':(d:Int)+1<hi:=by omega
     obtain⟨z1,hz1⟩:=HR.out.1.at q1
     obtain⟨z2,hz2⟩:=HR.out.1.at q2
     have Z1:=Lib.hid hz1
     have Z2:=Lib.hid hz2
     have k0:(0:Int)<=p1:=by omega
     have k1:(p1:Int)<n:=by omega
     have k2:(0:Int)<=(p1:Int)+1:=by omega
     have k3:(p1:Int)+1<n:=by omega
     clear hz1 hz2 hp1
     by_cases hless:z1<z2
     ·go_wp2_with fail
      refine plA (fun w'=>w'=wr.drew) (plr 0 18 (ple 18 (plr 19 1 []))) (rfl) ?_
      iterate 18 refine plR (h:=fun w' hS'=>by subst hS';have k0:wr.drew.cell? ⟨g,p1,none⟩=_:=Z1.out;have k1:wr.drew.cell? ⟨g,p1+1,none⟩=_:=Z2.out;go_simp;exact⟨rfl,rfl⟩) ?_
      refine plD fun K hK=>?_
      go_simp
      refine(less_u _ _ _).mono ?_
      rintro e w3 ⟨rfl,rfl⟩
      refine hK _ _ (rfl) ?_
      clear hK K
      refine plR (h:=fun w' hS'=>by subst hS';have k0:wr.drew.cell? ⟨g,p1,none⟩=_:=Z1.out;have k1:wr.drew.cell? ⟨g,p1+1,none⟩=_:=Z2.out;go_simp;exact⟨rfl,rfl⟩) ?_
      refine wpPlan_nil ?_
      go_wp2_with fail
      go_meet
      exact⟨true,rfl,fun _=>h2,Lib.hid HR.out.drew⟩
     ·have hdf:decide (z1<z2)=false:=decide_eq_false hless
      go_wp2_with fail
      refine plA (fun w'=>w'=wr.drew) (plr 0 18 (ple 18 (plr 19 1 []))) (rfl) ?_
      iterate 18 refine plR (h:=fun w' hS'=>by subst hS';have k0:wr.drew.cell? ⟨g,p1,none⟩=_:=Z1.out;have k1:wr.drew.cell? ⟨g,p1+1,none⟩=_:=Z2.out;go_simp;exact⟨rfl,rfl⟩) ?_
      refine plD fun K hK=>?_
      go_simp
      refine(less_u _ _ _).mono ?_
      rintro e w3 ⟨rfl,rfl⟩
      refine hK _ _ (rfl) ?_
      clear hK K
      refine plR (h:=fun w' hS'=>by subst hS';have k0:wr.drew.cell? ⟨g,p1,none⟩=_:=Z1.out;have k1:wr.drew.cell? ⟨g,p1+1,none⟩=_:=Z2.out;go_simp;exact⟨rfl,rfl⟩) ?_
      refine wpPlan_nil ?_
      go_wp2_with fail
      go_meet
      exact⟨false,rfl,fun e=>(by cases e),Lib.hid HR.out.drew⟩
    ·have ed:IntKind.i64.wrap ((d:Int)+1)=(d:Int)+1:=by rw[IntWalk.i64_in _ (by omega)]
     have h2':decide ((d:Int)+1<hi)=false:=decide_eq_false (by omega)
     go_wp2_with fail
     refine plA (fun w'=>w'=wr.drew) (plr 0 20 []) (rfl) ?_
     iterate 5 refine plR ?_
     refine plK ?_
     try go_simp
     refine plK ?_
     try go_simp
     refine plK ?_
     try go_simp
     refine plK ?_
     try go_simp
     refine plK ?_
     try go_simp
     refine plK ?_
     try go_simp
     refine plK ?_
     try go_simp
     refine plK ?_
     try go_simp
     refine plK ?_
     try go_simp
     refine plK ?_
     try go_simp
     refine plK ?_
     try go_simp
     refine plK ?_
     try go_simp
     refine plK ?_
     try go_simp
     refine plK ?_
     try go_simp
     refine plR ?_
     refine wpPlan_nil ?_
     go_wp2_with fail
     go_meet
     exact⟨false,rfl,fun e=>(by cases e),Lib.hid HR.out.drew⟩
   case rest=>
   obtain⟨t,rfl,ht,HT⟩:=hcut
   go_upto_if 36 with(fail)
   go_cut [9] (fun v wx=>∃x:Nat,v=.int .i64 x/\d<=x/\x<hi/\Hid (USt g n c base w wx))
   case first=>
    cases t with
    | true=>
     have h2:=ht rfl
     have ed:IntKind.i64.wrap ((d:Int)+1)=(d:Int)+1:=by rw[IntWalk.i64_in _ (by omega)]
     clear ht
     go_wp2_with fail
     go_meet
     exact⟨d+1,by go_num,by omega,by omega,HT⟩
    | false=>
     clear ht
     go_wp2_with fail
     go_meet
     exact⟨d,rfl,by omega,by omega,HT⟩
   case rest=>
   clear HT ht t
   obtain⟨x,rfl,hx1,hx2,HX⟩:=hcut
   obtain⟨p1,hp1⟩:∃p:Nat,f+x=p:=⟨_,rfl⟩
   have q1:p1<n:=by omega
   have ep1:IntKind.i64.wrap ((f:Int)+x)=(p1:Int):=by rw[IntWalk.i64_in _ (by omega)];omega
   have k0:(0:Int)<=p1:=by omega
   have k1:(p1:Int)<n:=by omega
   obtain⟨z1,hz1⟩:=HX.out.1.at q0
   obtain⟨z2,hz2⟩:=HX.out.1.at q1
   have Z1:=Lib.hid hz1
   have Z2:=Lib.hid hz2
   clear hz1 hz2 hp1
   by_cases hless:z1<z2
   ·go_upto_region 5 with fail
    refine plA (fun w'=>w'=wc.drew) (plr 0 12 (ple 12 (plr 13 1 []))) (rfl) ?_
    iterate 12 refine plR (h:=fun w' hS'=>by subst hS';have k0:wc.drew.cell? ⟨g,p0,none⟩=_:=Z1.out;have k1:wc.drew.cell? ⟨g,p1,none⟩=_:=Z2.out;go_simp;exact⟨rfl,rfl⟩) ?_
    refine plD fun K hK=>?_
    go_simp
    refine(less_u _ _ _).mono ?_
    rintro e w3 ⟨rfl,rfl⟩
    refine hK _ _ (rfl) ?_
    clear hK K
    refine plR (h:=fun w' hS'=>by subst hS';have k0:wc.drew.cell? ⟨g,p0,none⟩=_:=Z1.out;have k1:wc.drew.cell? ⟨g,p1,none⟩=_:=Z2.out;go_simp;exact⟨rfl,rfl⟩) ?_
    refine wpPlan_nil ?_
    go_wp2_with fail
    have HX':Hid (USt g n c base w wc.drew):=Lib.hid HX.out.drew
    obtain⟨wq,hwq⟩:∃x,wc.drew=x:=⟨_,rfl⟩
    rw[hwq] at HX' |-
    clear hwq
    obtain⟨zi,kzi⟩:=HX'.out.1.at q0
    obtain⟨zj,kzj⟩:=HX'.out.1.at q1
    have KI:=Lib.hid kzi
    have KJ:=Lib.hid kzj
    have KF:=Lib.hid (HX'.out.1.fz (p0))
    have KG:=Lib.hid HX'.out.1.lt
    have O5:Hid (USt g n c base w (wq.setCell ⟨g,p0,none⟩ (.int .u32 zj))):=Lib.hid ⟨HX'.out.1.put q0 _,HX'.out.2.setCell (.inl rfl) _⟩
    clear kzi kzj
    have FBq:=Lib.hid (fun(w':World) (hS':Below wq.heap.size wq w')=>(And.intro ((hS'.cell (p:=⟨g,p0,none⟩) KG.out).trans KI.out) ((hS'.cell (p:=⟨g,p1,none⟩) KG.out).trans KJ.out)))
    refine plSA (fun w'=>Below wq.heap.size wq w') 21 (pls 0 4 (plp 4 4 (pls 8 6 (plp 14 5 (pls 19 2 (plf 21 (plp 22 1 (plf 23 [])))))))) ((Below.refl _ _).drew) ?_
    iterate 4 refine plSR ?_
    iterate 4 refine plSP ?_
    iterate 6 refine plSR ?_
    iterate 5 refine plSP ?_
    iterate 2 refine plSR ?_
    refine plSE fun K hK=>?_
    have k0:=KI.out
    have k2:=KF.out
    go_simp
    clear k0 k2
    refine hK _ _ ?_
    clear hK K
    refine plSP ?_
    refine plSE fun K hK=>?_
    generalize wq.setCell ⟨g,p0,none⟩ (.int .u32 zj)=v5 at O5 |-
    obtain⟨zz,k0⟩:=O5.out.1.at q1
    have k2:=O5.out.1.fz (p1)
    go_simp
    clear k0 k2
    refine hK _ _ ?_
    clear hK K
    refine wpPlanS_nil ?_
    have O7:Hid (USt g n c base w (v5.setCell ⟨g,p1,none⟩ (.int .u32 zi)).drew):=Lib.hid (USt.drew ⟨O5.out.1.put q1 _,O5.out.2.setCell (.inl rfl) _⟩)
    clear O5 KI KJ KF KG
    go_wp2_with fail
    go_roundg (n - x)
    case measure=>have:=HQ.out;have:=DR.out;omega
    case rel=>exact⟨x,rfl,rfl,by omega,O7⟩
   ·have hdf:decide (z1<z2)=false:=decide_eq_false hless
    go_upto_region 5 with fail
    refine plA (fun w'=>w'=wc.drew) (plr 0 12 (ple 12 (plr 13 1 []))) (rfl) ?_
    iterate 12 refine plR (h:=fun w' hS'=>by subst hS';have k0:wc.drew.cell? ⟨g,p0,none⟩=_:=Z1.out;have k1:wc.drew.cell? ⟨g,p1,none⟩=_:=Z2.out;go_simp;exact⟨rfl,rfl⟩) ?_
    refine plD fun K hK=>?_
    go_simp
    refine(less_u _ _ _).mono ?_
    rintro e w3 ⟨rfl,rfl⟩
    refine hK _ _ (rfl) ?_
    clear hK K
    refine plR (h:=fun w' hS'=>by subst hS';have k0:wc.drew.cell? ⟨g,p0,none⟩=_:=Z1.out;have k1:wc.drew.cell? ⟨g,p1,none⟩=_:=Z2.out;go_simp;exact⟨rfl,rfl⟩) ?_
    refine wpPlan_nil ?_
    go_wp2_with fail
    refine bodyPost_ret (results_none rfl _ _ _) rfl ?_
    exact⟨rfl,HX.out.drew⟩
  ·have hlt':(d:Int)>=hi:=by omega
   go_wp2_with fail
   go_end0
   exact⟨rfl,HR.out⟩
theorem heap_u{a b:Nat}(hab:a<b)(hb:b<=n)(w:World)(h:UAt g n c base w)(hn:n<=1099511627776) :
 Calls Tryz.prog 186 #[slU g n c,.int .i64 a,.int .i64 b] w fun e w'=>e=.returned (.tuple #[])/\USt g n c base w w':=by
 have HU:Hid (USt g n c base w w):=Lib.hid (USt.refl h)
 clear h
 obtain⟨hi,hhi⟩:∃hi,b - a=hi:=⟨_,rfl⟩
 have eh:IntKind.i64.wrap ((b:Int) - a)=(hi:Int):=by rw[IntWalk.i64_in _ (by omega)];omega
 have e1:IntKind.i64.wrap ((hi:Int) - 1)=(hi:Int) - 1:=IntWalk.i64_in _ (by omega)
 have e2:IntKind.i64.wrap (((hi:Int) - 1).tdiv 2)=(((hi - 1) / 2:Nat):Int):=by
  rw[Int.tdiv_eq_ediv_of_nonneg (by omega),IntWalk.i64_in _ (by omega)];omega
 have CS:=Lib.hid (fun(lo h2:Nat) (h1:h2<=hi) (h3:lo<=n) wr (HR:UAt g n c base wr)=>sift_u (lo:=lo) (hi:=h2) (f:=a) (by omega) wr HR hn h3)
 go_enter Tryz.func186,Tryz.ntmps186
 go_wp2_with fail
 clear eh e1 e2
 go_loopg [9] ((hi - 1) / 2+1) (fun q i wr=>∃z:Nat,q=z/\i=.int .i64 ((z:Int) - 1)/\z<=hi/\Hid (USt g n c base w wr))
 case atStart=>exact⟨(hi - 1) / 2+1,rfl,by go_num,by omega,HU⟩
 case round=>
  obtain⟨z,hz,rfl,hq,HK⟩:=hrel
  have HQ:=Lib.hid hz
  clear hz
  cases z with
  | zero=>
   have e3:IntKind.i64.wrap ((hi:Int) - 1)=(hi:Int) - 1:=IntWalk.i64_in _ (by omega)
   go_wp2_with fail
   clear e3
   go_loopg [10] hi (fun q i wx=>∃z:Nat,q=z/\i=.int .i64 ((z:Int) - 1)/\z<=hi/\Hid (USt g n c base w wx))
   case atStart=>exact⟨hi,rfl,rfl,Nat.le_refl _,HK⟩
   case round=>
    obtain⟨z,hz,rfl,hq,HL⟩:=hrel
    have HQ2:=Lib.hid hz
    clear hz
    cases z with
    | zero=>
     go_wp2_with fail
     go_end0
     exact⟨rfl,HL.out⟩
    | succ j=>
     have k0:(0:Int)<=j:=by omega
     have ew:((j+1:Nat):Int) - 1=(j:Int):=by omega
     have e4:IntKind.i64.wrap ((j:Int) - 1)=(j:Int) - 1:=IntWalk.i64_in _ (by omega)
     obtain⟨p,hp⟩:∃p,a+j=p:=⟨_,rfl⟩
     have ep:IntKind.i64.wrap ((a:Int)+j)=(p:Int):=by rw[IntWalk.i64_in _ (by omega)];omega
     have q0:a<n:=by omega
     have q1:p<n:=by omega
     have m0:(0:Int)<=a:=by omega
     have m1:(a:Int)<n:=by omega
     have m2:(0:Int)<=p:=by omega
     have m3:(p:Int)<n:=by omega
     rw[ew]
     clear ew hp
     go_upto_region 10 with fail
     obtain⟨zi,kzi⟩:=HL.out.1.at q0
     obtain⟨zj,kzj⟩:=HL.out.1.at q1
     have KI:=Lib.hid kzi
     have KJ:=Lib.hid kzj
     have KF:=Lib.hid (HL.out.1.fz (a))
     have KG:=Lib.hid HL.out.1.lt
     have O5:Hid (USt g n c base w (wr.setCell ⟨g,a,none⟩ (.int .u32 zj))):=Lib.hid ⟨HL.out.1.put q0 _,HL.out.2.setCell (.inl rfl) _⟩
     clear kzi kzj
     have FBq:=Lib.hid (fun(w':World) (hS':Below wr.heap.size wr w')=>(And.intro ((hS'.cell (p:=⟨g,a,none⟩) KG.out).trans KI.out) ((hS'.cell (p:=⟨g,p,none⟩) KG.out).trans KJ.out)))
     refine plSA (fun w'=>Below wr.heap.size wr w') 17 (pls 0 2 (plp 2 4 (pls 6 6 (plp 12 3 (pls 15 2 (plf 17 (plp 18 1 (plf 19 [])))))))) ((Below.refl _ _).drew) ?_
     iterate 2 refine plSR ?_
     iterate 4 refine plSP ?_
     iterate 6 refine plSR ?_
     iterate 3 refine plSP ?_
     iterate 2 refine plSR ?_
     refine plSE fun K hK=>?_
     have k0:=KI.out
     have k2:=KF.out
     go_simp
     clear k0 k2
     refine hK _ _ ?_
     clear hK K
     refine plSP ?_
     refine plSE fun K hK=>?_
     generalize wr.setCell ⟨g,a,none⟩ (.int .u32 zj)=v5 at O5 |-
     obtain⟨zz,k0⟩:=O5.out.1.at q1
     have k2:=O5.out.1.fz (p)
     go_simp
     clear k0 k2
     refine hK _ _ ?_
     clear hK K
     refine wpPlanS_nil ?_
     have O7:Hid (USt g n c base w (v5.setCell ⟨g,p,none⟩ (.int .u32 zi)).drew):=Lib.hid (USt.drew ⟨O5.out.1.put q1 _,O5.out.2.setCell (.inl rfl) _⟩)
     clear O5 KI KJ KF KG
     obtain⟨w1,hw1⟩:∃w1,(v5.setCell ⟨g,p,none⟩ (.int .u32 zi)).drew=w1:=⟨_,rfl⟩
     rw[hw1] at O7 |-
     clear hw1
     have C1:=Lib.hid (CS.out 0 j (by omega) (by omega) w1 O7.out.1)
     go_wp2_with fail
     refine(C1.out).mono ?_
     rintro e w2 ⟨rfl,h2⟩
     have H2:=Lib.hid (O7.out.trans h2)
     clear h2
     go_wp2_with fail
     go_roundg j
     case measure=>have:=HQ2.out;omega
     case rel=>exact⟨j,rfl,by go_num,by omega,H2⟩
  | succ j=>
   have k0:(0:Int)<=j:=by omega
   have ew:((j+1:Nat):Int) - 1=(j:Int):=by omega
   have e4:IntKind.i64.wrap ((j:Int) - 1)=(j:Int) - 1:=IntWalk.i64_in _ (by omega)
   have C1:=Lib.hid (CS.out j hi (Nat.le_refl _) (by omega) wr HK.out.1)
   rw[ew]
   clear ew
   go_wp2_with fail
   refine(C1.out).mono ?_
   rintro e w2 ⟨rfl,h2⟩
   have H2:=Lib.hid (HK.out.trans h2)
   clear h2
   go_wp2_with fail
   go_roundg j
   case measure=>have:=HQ.out;omega
   case rel=>exact⟨j,rfl,by go_num,by omega,H2⟩
end
end Go.Proofs.YtilcnjbpmoijmaaGreat.D
