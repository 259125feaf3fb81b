/- Parts of a proof: what its theorem reaches, words cut short. No condition of its own. -/
import Derived.Test.YtilcnjbpmoijmaaGreatPs44
import Derived.Test.YtilcnjbpmoijmaaGreatPs45
import Derived.Test.YtilcnjbpmoijmaaGreatPs46
import Derived.Test.YtilcnjbpmoijmaaGreatPs47
import Derived.Test.YtilcnjbpmoijmaaGreatPs48
import Derived.Test.YtilcnjbpmoijmaaGreatPs49
set_option maxRecDepth 100000
set_option maxHeartbeats 16000000
set_option linter.unusedVariables false
set_option linter.unusedSimpArgs false
namespace Go.Proofs.YtilcnjbpmoijmaaGreat.D
open Go.RowKit Go.Lib
section
variable {g n c base : Nat}
theorem bl_range(x:Nat)(h:x<18446744073709551616):Lib.bitLen x<=64:=Lib.bitLen_le x 64 (by decide) (by simpa using h)
theorem pdq_u(N:Nat):∀{a b l:Nat} (hN:b - a=N) (hab:a<=b) (hb:b<=n) (hl:l<=1000) (w:World) (h:UAt g n c base w) (hn:n<=1099511627776),
 Calls Tryz.prog 119 #[slU g n c,.int .i64 a,.int .i64 b,.int .i64 l] w fun e w'=>e=.returned (.tuple #[])/\USt g n c base w w':=by
 induction N using Nat.strongRecOn with
 | _ N ih=>
 intro a b l hN hab hb hl w h hn
 have IH:=Lib.hid ih
 have HU:Hid (USt g n c base w w):=Lib.hid (USt.refl h)
 clear h ih
 go_enter Tryz.func119,Tryz.ntmps119
 go_wp2_with fail
 go_loopg [1,2,3,8,9] (b - a) (fun q va vb vl vp vr wx=>∃(a1 b1 l1:Nat) (p1 p2:Bool),q=b1 - a1/\va=.int .i64 a1/\vb=.int .i64 b1/\vl=.int .i64 l1/\vp=.bool p1/\vr=.bool p2/\b1 - a1<=N/\a1<=b1/\b1<=n/\l1<=1000/\Hid (USt g n c base w wx))
 case atStart=>exact⟨a,b,l,true,true,rfl,rfl,rfl,rfl,rfl,rfl,by omega,hab,hb,hl,HU⟩
 case round=>
  clear hN hab hb hl HU
  obtain⟨a1,b1,l1,p1,p2,hq,rfl,rfl,rfl,rfl,rfl,hN,hab,hb,hl,HK⟩:=hrel
  have HQ:=Lib.hid hq
  clear hq
  obtain⟨m,hm⟩:∃m,b1 - a1=m:=⟨_,rfl⟩
  have em:IntKind.i64.wrap ((b1:Int) - a1)=(m:Int):=by rw[IntWalk.i64_in _ (by omega)];omega
  have HM:=Lib.hid hm
  clear hm
  by_cases h12:m<=12
  ·have h12':(m:Int)<=12:=by omega
   have C1:=Lib.hid (insertion_u (a:=a1) hb wr HK.out.1 hn (by omega))
   go_wp2_with fail
   refine(C1.out).mono ?_
   rintro e w2 ⟨rfl,h2⟩
   have H2:=Lib.hid (HK.out.trans h2)
   clear h2
   go_wp2_with fail
   refine bodyPost_ret (results_none rfl _ _ _) rfl ?_
   exact⟨rfl,H2.out⟩
  ·have h12':¬(m:Int)<=12:=by omega
   have h8:a1+8<=b1:=by have:=HM.out;omega
   by_cases hl0:l1=0
   ·subst hl0
    have C1:=Lib.hid (heap_u (a:=a1) (by omega) hb wr HK.out.1 hn)
    go_wp2_with fail
    refine(C1.out).mono ?_
    rintro e w2 ⟨rfl,h2⟩
    have H2:=Lib.hid (HK.out.trans h2)
    clear h2
    go_wp2_with fail
    refine bodyPost_ret (results_none rfl _ _ _) rfl ?_
    exact⟨rfl,H2.out⟩
   ·have hl0':¬(l1:Int)=0:=by omega
    go_upto_if 35 with(fail)
    clear em
    go_cut [3] (fun v wx=>∃l2:Nat,v=.int .i64 l2/\l2<=1000/\Hid (USt g n c base w wx))
    case first=>
     cases p1 with
     | true=>
      go_wp2_with fail
      go_meet
      exact⟨l1,rfl,hl,HK⟩
     | false=>
      have C1:=Lib.hid (break_u h8 hb wr HK.out.1 hn)
      have e1:IntKind.i64.wrap ((l1:Int) - 1)=(l1:Int) - 1:=IntWalk.i64_in _ (by omega)
      go_wp2_with fail
      refine(C1.out).mono ?_
      rintro e w2 ⟨rfl,h2⟩
      have H2:=Lib.hid (HK.out.trans h2)
      clear h2
      go_wp2_with fail
      go_meet
      exact⟨l1 - 1,by go_num,by omega,H2⟩
    case rest=>
    clear HK
    obtain⟨l2,rfl,hl2,H3⟩:=hcut
    have C4:=Lib.hid (choose_u h8 hb wc H3.out.1 hn)
    go_wp2_with fail
    refine(C4.out).mono ?_
    rintro e w4 ⟨x,d,rfl,hx0,hx1,h4⟩
    have H4:=Lib.hid (H3.out.trans h4)
    clear h4 H3 C4
    go_upto_if 50 with(fail)
    go_cut [11,12] (fun v u wx=>∃(y:Nat) (d2:Int),v=.int .i64 y/\u=.int .i64 d2/\a1<=y/\y<b1/\Hid (USt g n c base w wx))
    case first=>
     by_cases hd:d=2
     ·subst hd
      have C5:=Lib.hid (reverse_u (a:=a1) (by omega) hb w4 H4.out.1 hn)
      have e1:IntKind.i64.wrap ((b1:Int) - 1)=(b1:Int) - 1:=IntWalk.i64_in _ (by omega)
      have e2:IntKind.i64.wrap ((x:Int) - a1)=(x:Int) - a1:=IntWalk.i64_in _ (by omega)
      have e3:IntKind.i64.wrap ((b1:Int) - 1 - ((x:Int) - a1))=((b1 - 1 - (x - a1):Nat):Int):=by rw[IntWalk.i64_in _ (by omega)];omega
      go_wp2_with fail
      refine(C5.out).mono ?_
      rintro e w5 ⟨rfl,h5⟩
      have H5:=Lib.hid (H4.out.trans h5)
      clear h5
      go_wp2_with fail
      go_meet
      exact⟨b1 - 1 - (x - a1),_,rfl,rfl,by omega,by omega,H5⟩
     ·go_wp2_with fail
      go_meet
      exact⟨x,d,rfl,rfl,hx0,hx1,H4⟩
    case rest=>
    clear H4 hx0 hx1 x d
    obtain⟨y,d2,rfl,rfl,hy0,hy1,H6⟩:=hcut
    go_upto_region 15 with fail
    go_cut [68] (fun v wx=>∃t:Bool,v=.bool t/\Hid (USt g n c base w wx))
    case first=>
     by_cases hd:d2=1
     ·cases p1<;>cases p2<;>(go_wp2_with fail;go_meet;exact⟨_,rfl,H6⟩)
     ·cases p1<;>cases p2<;>(go_wp2_with fail;go_meet;exact⟨_,rfl,H6⟩)
    case rest=>
    clear H6
    obtain⟨t,rfl,H7⟩:=hcut
    go_upto_if 68 with(fail)
    go_cut [11] (fun v wx=>v=.int .i64 y/\Hid (USt g n c base w wx))
    case first=>
     cases t with
     | false=>
      go_wp2_with fail
      go_meet
      exact⟨rfl,H7⟩
     | true=>
      have C8:=Lib.hid (partial_u (a:=a1) (by omega) hb wc H7.out.1 hn)
      go_wp2_with fail
      refine(C8.out).mono ?_
      rintro e w8 ⟨r8,rfl,h8'⟩
      have H8:=Lib.hid (H7.out.trans h8')
      clear h8'
      cases r8 with
      | true=>
       go_wp2_with fail
       refine bodyPost_ret (results_none rfl _ _ _) rfl ?_
       exact⟨rfl,H8.out⟩
      | false=>
       go_wp2_with fail
       go_meet
       exact⟨rfl,H8⟩
    case rest=>
    clear H7 t
    obtain⟨rfl,H9⟩:=hcut
    have y0:(0:Int)<=y:=by omega
    have y1:(y:Int)<n:=by omega
    have yn:y<n:=by omega
    go_upto_region 17 with fail
    go_cut [87] (fun v wx=>∃t:Bool,v=.bool t/\Hid (USt g n c base w wx))
    case first=>
     by_cases ha0:0<a1
     ·obtain⟨a0,rfl⟩:∃a0,a1=a0+1:=⟨a1 - 1,by omega⟩
      have an:a0<n:=by omega
      have a2:(0:Int)<=a0:=by omega
      have a3:(a0:Int)<n:=by omega
      have a4:(a0:Int)+1 > 0:=by omega
      have ew:=IntWalk.i64_in (a0:Int) (by omega)
      obtain⟨z1,hz1⟩:=H9.out.1.at an
      obtain⟨z2,hz2⟩:=H9.out.1.at yn
      have Z1:=Lib.hid hz1
      have Z2:=Lib.hid hz2
      clear hz1 hz2
      by_cases hless:z1<z2
      ·
       refine plA (fun w'=>w'=wc.drew) (plr 0 12 (ple 12 (plr 13 2 []))) (rfl) ?_
       iterate 12 refine plR (h:=fun w' hS'=>by subst hS';have k0:wc.drew.cell? ⟨g,a0,none⟩=_:=Z1.out;have k1:wc.drew.cell? ⟨g,y,none⟩=_:=Z2.out;go_simp;exact⟨rfl,rfl⟩) ?_
       refine plD fun K hK=>?_
       go_simp
       refine(less_u _ _ _).mono ?_
       rintro e w3 ⟨rfl,rfl⟩
       refine hK _ _ (rfl) ?_
       clear hK K
       iterate 2 refine plR (h:=fun w' hS'=>by subst hS';have k0:wc.drew.cell? ⟨g,a0,none⟩=_:=Z1.out;have k1:wc.drew.cell? ⟨g,y,none⟩=_:=Z2.out;go_simp;exact⟨rfl,rfl⟩) ?_
       refine wpPlan_nil ?_
       go_wp2_with fail
       go_meet
       exact⟨_,rfl,Lib.hid H9.out.drew⟩
      ·have hdf:decide (z1<z2)=false:=decide_eq_false hless
       refine plA (fun w'=>w'=wc.drew) (plr 0 12 (ple 12 (plr 13 2 []))) (rfl) ?_
       iterate 12 refine plR (h:=fun w' hS'=>by subst hS';have k0:wc.drew.cell? ⟨g,a0,none⟩=_:=Z1.out;have k1:wc.drew.cell? ⟨g,y,none⟩=_:=Z2.out;go_simp;exact⟨rfl,rfl⟩) ?_
       refine plD fun K hK=>?_
       go_simp
       refine(less_u _ _ _).mono ?_
       rintro e w3 ⟨rfl,rfl⟩
       refine hK _ _ (rfl) ?_
       clear hK K
       iterate 2 refine plR (h:=fun w' hS'=>by subst hS';have k0:wc.drew.cell? ⟨g,a0,none⟩=_:=Z1.out;have k1:wc.drew.cell? ⟨g,y,none⟩=_:=Z2.out;go_simp;exact⟨rfl,rfl⟩) ?_
       refine wpPlan_nil ?_
       go_wp2_with fail
       go_meet
       exact⟨_,rfl,Lib.hid H9.out.drew⟩
     ·obtain rfl:a1=0:=by omega
      refine plA (fun w'=>w'=wc.drew) (plr 0 15 []) (rfl) ?_
      iterate 3 refine plR ?_
      refine plK ?_
      try go_simp
      refine plK ?_
      try go_simp
      refine plK ?_
      try go_simp
      refine plK ?_
      try go_simp
      refine plK ?_
      try go_simp
      refine plK ?_
      try go_simp
      refine plK ?_
      try go_simp
      refine plK ?_
      try go_simp
      refine plK ?_
      try go_simp
      refine plK ?_
      try go_simp
      refine plK ?_
      try go_simp
      refine plR ?_
      refine wpPlan_nil ?_
      go_wp2_with fail
      go_meet
      exact⟨_,rfl,Lib.hid H9.out.drew⟩
    case rest=>
    clear H9
    obtain⟨t,rfl,HA⟩:=hcut
    cases t with
    | true=>
     have CA:=Lib.hid (parteq_u (a:=a1) (by omega) hb yn wc HA.out.1 hn)
     go_wp2_with fail
     refine(CA.out).mono ?_
     rintro e wa ⟨x,rfl,hx0,hx1,ha⟩
     have HB:=Lib.hid (HA.out.trans ha)
     clear ha HA CA
     go_wp2_with fail
     go_roundg (b1 - x)
     case measure=>have:=HQ.out;omega
     case rel=>exact⟨x,b1,l2,p1,p2,rfl,rfl,rfl,rfl,rfl,rfl,by omega,by omega,hb,hl2,HB⟩
    | false=>
     have CA:=Lib.hid (part_u (a:=a1) (by omega) hb yn wc HA.out.1 hn)
     go_wp2_with fail
     refine(CA.out).mono ?_
     rintro e wa ⟨x,pp,rfl,hx0,hx1,ha⟩
     have HB:=Lib.hid (HA.out.trans ha)
     clear ha HA CA
     obtain⟨u1,hu1⟩:∃u1:Nat,x - a1=u1:=⟨_,rfl⟩
     obtain⟨u2,hu2⟩:∃u2:Nat,b1 - x=u2:=⟨_,rfl⟩
     have f1:IntKind.i64.wrap ((x:Int) - a1)=(u1:Int):=by rw[IntWalk.i64_in _ (by omega)];omega
     have f2:IntKind.i64.wrap ((b1:Int) - x)=(u2:Int):=by rw[IntWalk.i64_in _ (by omega)];omega
     have f3:IntKind.i64.wrap ((x:Int)+1)=(x:Int)+1:=IntWalk.i64_in _ (by omega)
     have HU12:=Lib.hid (And.intro hu1 hu2)
     clear hu1 hu2
     by_cases hlr:u1<u2
     ·have hlr':(u1:Int)<u2:=by omega
      have CB:=Lib.hid (IH.out (x - a1) (by omega) (a:=a1) (b:=x) rfl hx0 (by omega) hl2 wa HB.out.1 hn)
      go_wp2_with fail
      refine(CB.out).mono ?_
      rintro e wb ⟨rfl,hb2⟩
      have HC:=Lib.hid (HB.out.trans hb2)
      clear hb2 CB HB
      go_wp2_with fail
      go_roundg (b1 - (x+1))
      case measure=>have:=HQ.out;omega
      case rel=>exact⟨x+1,b1,l2,_,pp,rfl,by go_num,rfl,rfl,rfl,rfl,by omega,by omega,hb,hl2,HC⟩
     ·have hlr':¬(u1:Int)<u2:=by omega
      have CB:=IH.out (b1 - (x+1)) (by omega) (a:=x+1) (b:=b1) rfl (by omega) (by omega) hl2 wa HB.out.1 hn
      rw[show((x+1:Nat):Int)=(x:Int)+1 by omega] at CB
      have CB:=Lib.hid CB
      go_wp2_with fail
      refine(CB.out).mono ?_
      rintro e wb ⟨rfl,hb2⟩
      have HC:=Lib.hid (HB.out.trans hb2)
      clear hb2 CB HB
      go_wp2_with fail
      go_roundg (x - a1)
      case measure=>have:=HQ.out;omega
      case rel=>exact⟨a1,x,l2,_,pp,rfl,rfl,rfl,rfl,rfl,rfl,by omega,hx0,by omega,hl2,HC⟩
end
end Go.Proofs.YtilcnjbpmoijmaaGreat.D
