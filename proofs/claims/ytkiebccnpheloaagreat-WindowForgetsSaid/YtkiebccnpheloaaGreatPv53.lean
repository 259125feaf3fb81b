/- Parts of a proof: what its theorem reaches, words cut short. No condition of its own. -/
import Derived.Test.YtkiebccnpheloaaGreatPv51
import Derived.Test.YtkiebccnpheloaaGreatPv52
import Derived.Lib.SliceRun
set_option maxRecDepth 100000
set_option maxHeartbeats 16000000
set_option linter.unusedVariables false
set_option linter.unusedSimpArgs false
namespace Go.Proofs.YtkiebccnpheloaaGreat.D
open Go.RowKit Go.Lib Go.Shelf
theorem forgetsA_any(kind a b slots:Nat)(v4 v5:Value)(l l2:List Op5)(W:World)(hk:kind<=255)(ha:a<=65535)(hb:b<=65535)(hs:slots<=255)(hl:RdO5 W.heap.size W v4 l)(hf:∀o∈l,o.fits)(hm:RdO5 W.heap.size W v5 l2)(hf2:∀o∈l2,o.fits) :
 Calls Tryz.prog 11 #[.int .u8 kind,.int .u16 a,.int .u16 b,.int .u8 slots,v4,v5] W fun e W'=>e=.returned (.bool true)/\Below W.heap.size W W':=by
 obtain⟨hz,A,c,rfl,hc1,hc2,hof⟩:=hl
 obtain⟨_,A2,c2,rfl,hd1,hd2,hof2⟩:=hm
 have HL:Hid (RdO5 W.heap.size W (.slice A l.length c) l):=Lib.hid ⟨hz,A,c,rfl,hc1,hc2,hof⟩
 have HM:Hid (RdO5 W.heap.size W (.slice A2 l2.length c2) l2):=Lib.hid ⟨hz,A2,c2,rfl,hd1,hd2,hof2⟩
 have HF:=Lib.hid hf
 have HF2:=Lib.hid hf2
 have hsp:=spkN_ok (kind:=kind) (a:=a) (b:=b) hb
 have CS:=Lib.hid (fun w=>spec_any kind a b w hk ha hb)
 obtain⟨sp,hspe⟩:∃q,spkN kind a b=q:=⟨_,rfl⟩
 rw[hspe] at hsp CS
 obtain⟨oks,hsm⟩:=hsp
 obtain⟨N,hN⟩:∃N,1+slots % 5=N:=⟨_,rfl⟩
 have hN1:1<=N:=by omega
 have hN5:N<=5:=by omega
 have hn:(1:Int)+(slots:Int) % 5=(N:Int):=by omega
 have CA:=Lib.hid (alive30_any W)
 have CG:=Lib.hid (fun w (h:Below W.heap.size W w)=>great30_any w (HL.out.keep h))
 have CG2:=Lib.hid (fun w (h:Below W.heap.size W w)=>great30_any w (HM.out.keep h))
 have CP:=Lib.hid (fun w=>pair30_any oks N w hN1 (by omega))
 have OKS:=Lib.hid oks
 have HSM:=Lib.hid hsm
 have hnil:=fun(w:World) (g:Nat)=>Go.Lib.run_eql_slice_nil (P:=Tryz.prog) w 92 82 (some ⟨g,0,none⟩) 2 2 0 0 Tryz.underlying92
 clear hof hof2 hf hf2 hspe oks hsm hN
 go_enter Tryz.func11,Tryz.ntmps11
 go_wp2_with fail
 refine(CA.out).mono ?_
 rintro e w1 ⟨rfl,hb1⟩
 have B1:=Lib.hid hb1
 clear hb1 CA
 go_wp2_with fail
 refine(CG.out w1 B1.out).mono ?_
 rintro e w2 ⟨⟨g,rfl,hg⟩,hb2⟩
 have B2:Hid (Below W.heap.size W w2):=Lib.hid (B1.out.trans (hb2.mono B1.out.size))
 have HG:=Lib.hid hg
 clear hb2 hg CG
 cases g with
 | true=>
  go_wp2_with fail
  refine bodyPost_ret (by simp[results,Tryz.results11,go_sem, *];try rfl) rfl ?_
  exact⟨rfl,B2.out⟩
 | false=>
 go_wp2_with fail
 refine(CG2.out w2 B2.out).mono ?_
 rintro e w3 ⟨⟨g,rfl,hg⟩,hb3⟩
 have B3:Hid (Below W.heap.size W w3):=Lib.hid (B2.out.trans (hb3.mono B2.out.size))
 have HG2:=Lib.hid hg
 clear hb3 hg CG2
 cases g with
 | true=>
  go_wp2_with fail
  refine bodyPost_ret (by simp[results,Tryz.results11,go_sem, *];try rfl) rfl ?_
  exact⟨rfl,B3.out⟩
 | false=>
 go_wp2_with fail
 try rw[hn]
 refine(CS.out w3).mono ?_
 rintro e w4 ⟨rfl,hb4⟩
 have B4:Hid (Below W.heap.size W w4):=Lib.hid (B3.out.trans (hb4.mono B3.out.size))
 clear hb4
 go_wp2_with fail
 try rw[hn]
 refine(CP.out w4).mono ?_
 rintro e w5 ⟨X,Y,Ow,wb,vb,rfl,hd,hb5⟩
 have B5:Hid (Below W.heap.size W w5):=Lib.hid (B4.out.trans (hb5.mono B4.out.size))
 have D5:=Lib.hid hd
 clear hb5 hd
 go_wp2_with fail
 refine(CS.out w5).mono ?_
 rintro e w6 ⟨rfl,hb6⟩
 have B6:Hid (Below W.heap.size W w6):=Lib.hid (B5.out.trans (hb6.mono B5.out.size))
 have D6:=Lib.hid (D5.out.keep hb6)
 have Z6:Hid (∀a k,Ow a k->k<w6.heap.size):=Lib.hid (fun a k e=>(D6.out.low a k e).2)
 clear hb6 CS D5
 go_wp2_with fail
 try rw[hn]
 refine(CP.out w6).mono ?_
 rintro e w7 ⟨X2,Y2,O2,fb,ub,rfl,hd,hb7⟩
 have L7:Hid (Lv2 W sp N (fun _=>wnew sp N) (fun _=>wnew sp N) (fun _=>wnew sp N) (fun _=>wnew sp N) X Y X2 Y2 wb vb fb ub w7):=Lib.hid ⟨⟨Ow,O2,(D6.out.keep hb7).down B4.out.size,hd.down B6.out.size,fun a b k e1 e2=>by have:=Z6.out a k e1;have:=(hd.low b k e2).1;omega⟩,B6.out.trans (hb7.mono B6.out.size)⟩
 clear hd hb7 CP B1 B2 B3 B4 B5 B6 D6 Z6
 go_upto_block 0 with fail
 go_cut [18] (fun _ wx=>∃S:Nat->Wn,Hid (Lv2 W sp N S S (fun _=>wnew sp N) (fun _=>wnew sp N) X Y X2 Y2 wb vb fb ub wx))
 case first=>
  go_wp2_with fail
  go_loopg [18] (l.length) (fun q t13 wr=>∃(i:Nat) (S:Nat->Wn),q=l.length - i/\i<=l.length/\i<=20/\t13=.int .i64 (i:Int)/\Hid (Lv2 W sp N S S (fun _=>wnew sp N) (fun _=>wnew sp N) X Y X2 Y2 wb vb fb ub wr))
  case atStart=>exact⟨0,_,by omega,by omega,by omega,rfl,L7⟩
  case round=>
   obtain⟨i,S,hq,hi,hi2,rfl,HP⟩:=hrel
   have HQ:=Lib.hid hq
   clear hq L7
   by_cases hgo:i<l.length/\i<20
   ·obtain⟨hlt,h25⟩:=hgo
    have hli:(i:Int)<(l.length:Int):=by omega
    have h2i:(i:Int)<20:=by omega
    obtain⟨g,off,cv,rfl,hg,hin,c0,c1,c2,c3,c4⟩:=HL.out.act hlt
    have hfit:=HF.out _ (List.getElem_mem hlt)
    obtain⟨kn,hkn⟩:∃q:Nat,l[i].kd=(q:Int):=⟨l[i].kd.toNat,by have:=hfit.1;omega⟩
    have hk2:kn<=255:=by have:=hfit.2.1;omega
    obtain⟨m,hmm⟩:∃m,kn % 9=m:=⟨_,rfl⟩
    have hmod:(kn:Int) % 9=(m:Int):=by omega
    have CD:=Lib.hid (fun(h6:l[i].kd % 9<=6) w' (hp:Lv2 W sp N S S (fun _=>wnew sp N) (fun _=>wnew sp N) X Y X2 Y2 wb vb fb ub w')=>hp.act l[i] h6 OKS.out HSM.out hN1 hfit (hin.keep (Nat.le_refl _) hp.below) (HG.out (by first|rfl|trivial) i (by omega) hlt))
    obtain⟨S2,hS2⟩:∃q,doA sp l[i] S=q:=⟨_,rfl⟩
    rw[hS2,hkn] at CD
    rw[hkn] at c0
    have e0:=(HP.out.below.cell (p:=⟨g,off+i * 5,none⟩) hg).trans c0
    have e1:=(HP.out.below.cell (p:=⟨g,off+i * 5+1,none⟩) hg).trans c1
    have e2:=(HP.out.below.cell (p:=⟨g,off+i * 5+2,none⟩) hg).trans c2
    have e3:=(HP.out.below.cell (p:=⟨g,off+i * 5+3,none⟩) hg).trans c3
    have e4:=(HP.out.below.cell (p:=⟨g,off+i * 5+4,none⟩) hg).trans c4
    clear c0 c1 c2 c3 c4 hin hS2 hfit hmm hkn
    generalize l[i].who=owho at *
    generalize l[i].v=ov at *
    generalize l[i].n=onn at *
    by_cases h6:m<6
    ·have h6i:(m:Int)<6:=by omega
     go_wp2_with fail
     refine(CD.out (by omega) _ HP.out).mono ?_
     rintro e w9 ⟨rfl,hp6⟩
     have P6:=Lib.hid hp6
     clear hp6 CD e0 e1 e2 e3 e4 HP
     go_wp2_with fail
     go_roundg (l.length - (i+1))
     case measure=>have:=HQ.out;omega
     case rel=>exact⟨i+1,_,rfl,by omega,by omega,by go_num,P6⟩
    ·have h6i:¬((m:Int)<6):=by omega
     clear CD
     go_wp2_with fail
     go_roundg (l.length - (i+1))
     case measure=>have:=HQ.out;omega
     case rel=>exact⟨i+1,_,rfl,by omega,by omega,by go_num,HP⟩
   ·by_cases hlt:i<l.length
    ·have hli:(i:Int)<(l.length:Int):=by omega
     have h2i:¬((i:Int)<20):=by omega
     go_wp2_with fail
     go_meet
     exact⟨S,HP⟩
    ·have hli:¬((i:Int)<(l.length:Int)):=by omega
     go_wp2_with fail
     go_meet
     exact⟨S,HP⟩
 case rest=>
 obtain⟨S,HP⟩:=hcut
 clear L7 HG
 obtain⟨_,_,hok,_,p0,q0,_,_⟩:=HP.out.see
 have HNW:=Lib.hid (HP.out.now)
 have HFG:=Lib.hid (fun h=>forgets hok hN1 (by omega) h)
 have htk:(S 0).now<=1000000->(wtick sp N (S 0)).now=(S 0).now+N:=fun h=>by
  show(S 0).now+tkA N (S 0)=_
  unfold tkA;omega
 have HTK:=Lib.hid htk
 obtain⟨nw,hnw⟩:∃q,(S 0).now=q:=⟨_,rfl⟩
 rw[hnw] at HNW HFG HTK
 clear hok hnw htk
 go_wp2_with fail
 refine(HNW.out).mono ?_
 rintro e w8 ⟨rfl,rfl⟩
 clear HNW
 by_cases hbig:1000000<nw
 ·have hbi:(nw:Int) > 1000000:=by omega
  go_wp2_with fail
  refine bodyPost_ret (by simp[results,Tryz.results11,go_sem, *];try rfl) rfl ?_
  exact⟨rfl,HP.out.below⟩
 ·have hbi:¬((nw:Int) > 1000000):=by omega
  have HFE:=Lib.hid (HFG.out (by omega))
  have HTN:=Lib.hid (HTK.out (by omega))
  have CT:=Lib.hid (HP.out.tickS N OKS.out hN1 (by omega))
  clear HFG HTK
  go_wp2_with fail
  refine(CT.out).mono ?_
  rintro e w9 ⟨rfl,hp⟩
  have P9:=Lib.hid hp
  obtain⟨_,_,_,_,_,q9,_,_⟩:=P9.out.see
  clear hp CT p0 q0 HP
  have CT:=Lib.hid (P9.out.tickR N OKS.out hN1 (by omega))
  go_wp2_with fail
  refine(CT.out).mono ?_
  rintro e wA ⟨rfl,hp⟩
  clear q9 CT P9
  obtain⟨V,hV⟩:∃V,updN S 0 (wtick sp N (S 0))=V:=⟨_,rfl⟩
  have HV0:Hid (V 0=wtick sp N (S 0)):=Lib.hid (by rw[<-hV,updN_at])
  rw[hV] at hp
  have PA:=Lib.hid hp
  obtain⟨_,_,_,_,pA,qA,lA,mA⟩:=PA.out.see
  obtain⟨_,_,_,_,rA,sA,nA,oA⟩:=PA.out.swap.see
  have HPA:=Lib.hid (And.intro pA (And.intro qA (And.intro rA sA)))
  have CN:=Lib.hid (fun w' (hb:Below wA.heap.size wA w')=>(PA.out.keep hb).now)
  obtain⟨nn,hnn⟩:∃q,nw+N=q:=⟨_,rfl⟩
  have hnb:nn<18446744073709551616:=by omega
  have hv0:(V 0).now=nn:=by rw[HV0.out,<-hnn];exact HTN.out
  have HVN:=Lib.hid hv0
  rw[hv0] at CN
  have HEQ:Hid (wtick sp nn (wnew sp N)=V 0):=Lib.hid (by rw[HV0.out,<-hnn];exact HFE.out.symm)
  clear hp hV hv0 pA qA rA sA hnn
  have CF:=Lib.hid (fun w' (hb:Below wA.heap.size wA w')=>(PA.out.keep hb).swap.tickS nn OKS.out hN1 hnb)
  go_upto_region 19 with fail
  refine wp_region_planT (fun w'=>w'=wA.drew) 7 [(0,true),(1,true),(2,true),(3,true),(4,true),(5,true),(6,false)] (by kernel_rfl) (by kernel_rfl) (rfl) ?_
  iterate 6
   refine wpPlanT_read (by rfl) (by rfl) (fun R hR=>?_)
   apply Exists.intro
   refine⟨fun w' hS'=>?_,?_⟩
   ·subst hS'
    have z0:wA.drew.cell? ⟨wb,0,none⟩=_:=HPA.out.1
    have z1:wA.drew.cell? ⟨fb,0,none⟩=_:=HPA.out.2.2.1
    go_simp
    exact⟨rfl,rfl⟩
   go_simp
   refine hR _ ?_
   clear hR R
  refine wpPlanT_do (by rfl) (by rfl) (fun K hK=>?_)
  go_simp
  refine(CN.out _ (Below.refl _ _).drew).mono ?_
  rintro e wB ⟨rfl,rfl⟩
  refine hK _ _ (rfl) ?_
  clear hK K
  refine wpPlanT_nil ?_
  simp only[List.drop_succ_cons,List.drop_zero]
  go_wp2_with fail
  refine(CF.out _ (Below.refl _ _).drew).mono ?_
  rintro e wC ⟨rfl,hp⟩
  have PC:=Lib.hid hp
  clear hp CF CN HPA PA
  go_wp2_with fail
  try refine calm_normal ?_
  obtain⟨_,_,_,_,pA,qA,nA,oA⟩:=PC.out.see
  obtain⟨_,_,_,_,_,sA,_,_⟩:=PC.out.swap.see
  obtain⟨y8,ly⟩:=PC.out.swap.rnow
  rw[HVN.out] at y8
  have HPA:=Lib.hid (And.intro qA (And.intro sA y8))
  have CF:=Lib.hid (fun w' (hb:Below wC.heap.size wC w')=>(PC.out.keep hb).tickR nn OKS.out hN1 hnb)
  clear pA qA sA y8
  go_upto_region 20 with fail
  refine wp_region_planT (fun w'=>w'=wC.drew) 9 [(0,true),(1,true),(2,true),(3,true),(4,true),(5,true),(6,true),(7,true),(8,true)] (by kernel_rfl) (by kernel_rfl) (rfl) ?_
  iterate 9
   refine wpPlanT_read (by rfl) (by rfl) (fun R hR=>?_)
   apply Exists.intro
   refine⟨fun w' hS'=>?_,?_⟩
   ·subst hS'
    have z0:wC.drew.cell? ⟨ub,0,none⟩=_:=HPA.out.1
    have z1:wC.drew.cell? ⟨vb,0,none⟩=_:=HPA.out.2.1
    have z2:wC.drew.cell? ⟨Y 0,8,none⟩=_:=HPA.out.2.2
    go_simp
    exact⟨rfl,rfl⟩
   go_simp
   refine hR _ ?_
   clear hR R
  refine wpPlanT_nil ?_
  simp only[List.drop_succ_cons,List.drop_zero]
  go_wp2_with fail
  refine(CF.out _ (Below.refl _ _).drew).mono ?_
  rintro e wD ⟨rfl,hp⟩
  have PD:Hid (∃S T:Nat->Wn,S 0=T 0/\Lv2 W sp N S S T T X Y X2 Y2 wb vb fb ub wD):=Lib.hid ⟨V,updN (fun _=>wnew sp N) 0 (wtick sp nn (wnew sp N)),by rw[updN_at];exact HEQ.out.symm,hp.swap⟩
  clear hp CF HPA PC HEQ HVN HV0 HTN HFE
  go_wp2_with fail
  try refine calm_normal ?_
  go_upto_block 2 with fail
  go_cut [19] (fun _ wx=>Hid (∃S T:Nat->Wn,S 0=T 0/\Lv2 W sp N S S T T X Y X2 Y2 wb vb fb ub wx))
  case first=>
   go_wp2_with fail
   go_loopg [19] (l2.length) (fun q t13 wr=>∃(i:Nat),q=l2.length - i/\i<=l2.length/\i<=20/\t13=.int .i64 (i:Int)/\Hid (∃S T:Nat->Wn,S 0=T 0/\Lv2 W sp N S S T T X Y X2 Y2 wb vb fb ub wr))
   case atStart=>exact⟨0,by omega,by omega,by omega,rfl,PD⟩
   case round=>
    obtain⟨i,hq,hi,hi2,rfl,HPP⟩:=hrel
    have HQ:=Lib.hid hq
    clear hq PD
    by_cases hgo:i<l2.length/\i<20
    ·obtain⟨hlt,h25⟩:=hgo
     have hli:(i:Int)<(l2.length:Int):=by omega
     have h2i:(i:Int)<20:=by omega
     obtain⟨S,T,hst,hp⟩:=HPP.out
     have HP:=Lib.hid hp
     have HST:=Lib.hid hst
     obtain⟨g,off,cv,rfl,hg,hin,c0,c1,c2,c3,c4⟩:=HM.out.act hlt
     obtain⟨A4,c5,rfl,_,_,_⟩:=hin.rd.form
     have hfit:=HF2.out _ (List.getElem_mem hlt)
     obtain⟨kn,hkn⟩:∃q:Nat,l2[i].kd=(q:Int):=⟨l2[i].kd.toNat,by have:=hfit.1;omega⟩
     have hk2:kn<=255:=by have:=hfit.2.1;omega
     obtain⟨m,hmm⟩:∃m,kn % 9=m:=⟨_,rfl⟩
     have hmod:(kn:Int) % 9=(m:Int):=by omega
     have hft2:(⟨(kn:Int),false,l2[i].v,l2[i].n,l2[i].B⟩:Op5).fits:=⟨by show(0:Int)<=(kn:Int);omega,by show(kn:Int)<=255;omega,hfit.2.2⟩
     have CD:=Lib.hid (fun(h6:(kn:Int) % 9<=6) w' (hb:Below wr.heap.size wr w')=>HP.out.act2 hb (cv:=.slice A4 l2[i].B.length c5) ⟨(kn:Int),false,l2[i].v,l2[i].n,l2[i].B⟩ h6 OKS.out HSM.out hN1 hft2 (hin.keep (Nat.le_refl _) (HP.out.below.trans (hb.mono HP.out.below.size))) (HG2.out (by first|rfl|trivial) i (by omega) hlt))
     have CE:=Lib.hid (fun(h6:(kn:Int) % 9<=6) w' (hp2:Lv2 W sp N T T (doA sp ⟨(kn:Int),false,l2[i].v,l2[i].n,l2[i].B⟩ S) (doA sp ⟨(kn:Int),false,l2[i].v,l2[i].n,l2[i].B⟩ S) X2 Y2 X Y fb ub wb vb w')=>hp2.act2 (Below.refl _ _) (cv:=.slice A4 l2[i].B.length c5) ⟨(kn:Int),false,l2[i].v,l2[i].n,l2[i].B⟩ h6 OKS.out HSM.out hN1 hft2 (hin.keep (Nat.le_refl _) hp2.below) (HG2.out (by first|rfl|trivial) i (by omega) hlt))
     have HZ:Hid ((kn:Int) % 9<=6->doA sp ⟨(kn:Int),false,l2[i].v,l2[i].n,l2[i].B⟩ S 0=doA sp ⟨(kn:Int),false,l2[i].v,l2[i].n,l2[i].B⟩ T 0):=Lib.hid (fun h=>doA_zero rfl HST.out)
     rw[hkn] at c0
     have e0:=(HP.out.below.cell (p:=⟨g,off+i * 5,none⟩) hg).trans c0
     have e1:=(HP.out.below.cell (p:=⟨g,off+i * 5+1,none⟩) hg).trans c1
     have e2:=(HP.out.below.cell (p:=⟨g,off+i * 5+2,none⟩) hg).trans c2
     have e3:=(HP.out.below.cell (p:=⟨g,off+i * 5+3,none⟩) hg).trans c3
     have e4:=(HP.out.below.cell (p:=⟨g,off+i * 5+4,none⟩) hg).trans c4
     clear c0 c1 c2 c3 c4 hin hfit hmm hkn hp hst hft2
     generalize l2[i].who=owho at *
     generalize l2[i].v=ov at *
     generalize l2[i].n=onn at *
     generalize l2[i].B=oB at *
     go_upto_region 26 with fail
     obtain⟨wE,hwE⟩:∃q,wr.alloc (.cells #[.int .u8 kn,.bool false,.int .i64 ov,.int .u64 onn,.slice A4 oB.length c5] 97)=q:=⟨_,rfl⟩
     have hbl:=Blk.new wr 97 #[.int .u8 kn,.bool false,.int .i64 ov,.int .u64 onn,.slice A4 oB.length c5]
     have hbE:Below wr.heap.size wr (wr.alloc (.cells #[.int .u8 kn,.bool false,.int .i64 ov,.int .u64 onn,.slice A4 oB.length c5] 97)):=(Below.refl _ _).alloc (Nat.le_refl _) _
     rw[hwE] at hbl hbE |-
     obtain⟨be,hbe⟩:∃q,wr.heap.size=q:=⟨_,rfl⟩
     have HBE:=Lib.hid hbe
     have HE:=Lib.hid hbE
     rw[hbe] at hbl |-
     have lbe:=hbl.lt
     have b0:=hbl.cell 0
     have b1:=hbl.cell 1
     have b2:=hbl.cell 2
     have b3:=hbl.cell 3
     have b4:=hbl.cell 4
     simp only[List.getElem?_toArray,List.getElem?_cons_zero,List.getElem?_cons_succ] at b0 b1 b2 b3 b4
     have BB:=Lib.hid (And.intro b0 (And.intro b1 (And.intro b2 (And.intro b3 b4))))
     clear hwE hbe hbE hbl e0 e1 e2 e3 e4
     by_cases h6:6<m
     ·have h6i:(m:Int) > 6:=by omega
      clear CD CE
      go_wp2_with fail
      go_roundg (l2.length - (i+1))
      case measure=>have:=HQ.out;omega
      case rel=>exact⟨i+1,rfl,by omega,by omega,by go_num,Lib.hid ⟨S,T,HST.out,HP.out.keep HE.out⟩⟩
     ·have h6i:¬((m:Int) > 6):=by omega
      have HZ2:=Lib.hid (HZ.out (by omega))
      go_wp2_with fail
      refine(CD.out (by omega) wE HE.out).mono ?_
      rintro e wF ⟨rfl,hpF,hkp⟩
      have PF:=Lib.hid hpF
      have hk9:wF.heap[be]?=wE.heap[be]?:=hkp be (by rw[HBE.out];exact Nat.le_refl _) lbe
      have d0:wF.cell? ⟨be,0,none⟩=_:=(World.cell?_of_block (a:=⟨be,0,none⟩) hk9).trans BB.out.1
      have d1:wF.cell? ⟨be,1,none⟩=_:=(World.cell?_of_block (a:=⟨be,1,none⟩) hk9).trans BB.out.2.1
      have d2:wF.cell? ⟨be,2,none⟩=_:=(World.cell?_of_block (a:=⟨be,2,none⟩) hk9).trans BB.out.2.2.1
      have d3:wF.cell? ⟨be,3,none⟩=_:=(World.cell?_of_block (a:=⟨be,3,none⟩) hk9).trans BB.out.2.2.2.1
      have d4:wF.cell? ⟨be,4,none⟩=_:=(World.cell?_of_block (a:=⟨be,4,none⟩) hk9).trans BB.out.2.2.2.2
      clear hpF hkp hk9 CD b0 b1 b2 b3 b4 HE
      go_wp2_with fail
      refine(CE.out (by omega) wF PF.out.swap).mono ?_
      rintro e wG ⟨rfl,hpG,_⟩
      have PG:=Lib.hid hpG
      clear hpG CE d0 d1 d2 d3 d4
      go_wp2_with fail
      go_roundg (l2.length - (i+1))
      case measure=>have:=HQ.out;omega
      case rel=>exact⟨i+1,rfl,by omega,by omega,by go_num,Lib.hid ⟨_,_,HZ2.out,PG.out.swap⟩⟩
    ·by_cases hlt:i<l2.length
     ·have hli:(i:Int)<(l2.length:Int):=by omega
      have h2i:¬((i:Int)<20):=by omega
      go_wp2_with fail
      go_meet
      exact HPP
     ·have hli:¬((i:Int)<(l2.length:Int)):=by omega
      go_wp2_with fail
      go_meet
      exact HPP
  case rest=>
  obtain⟨S,T,hst,hp⟩:=hcut.out
  have HP:=Lib.hid hp
  obtain⟨h1,h2,hok,_,p0,q0,lw,lv⟩:=hp.see
  obtain⟨h3,h4,hok2,_,p2,q2,lf,lu⟩:=hp.swap.see
  rw[<-hst] at h3 h4 hok2
  have S1:=Lib.hid (fun w' (hb:Below wc.heap.size wc w')=>(show Calls Tryz.prog 44 #[.pointer (some ⟨X 0,0,none⟩),.pointer (some ⟨Y2 0,0,none⟩)] w' (fun e w''=>e=.returned (.bool true)/\Below w'.heap.size w' w'') by
   obtain⟨F,h1⟩:=h1
   obtain⟨G,h4⟩:=h4
   exact same30_any w' ((win_stay sp _ _).keep h1 hb) ((rwin_stay sp _ _).keep h4 hb) hok))
  have S2:=Lib.hid (fun w' (hb:Below wc.heap.size wc w')=>(show Calls Tryz.prog 44 #[.pointer (some ⟨X2 0,0,none⟩),.pointer (some ⟨Y 0,0,none⟩)] w' (fun e w''=>e=.returned (.bool true)/\Below w'.heap.size w' w'') by
   obtain⟨F,h3⟩:=h3
   obtain⟨G,h2⟩:=h2
   exact same30_any w' ((win_stay sp _ _).keep h3 hb) ((rwin_stay sp _ _).keep h2 hb) hok))
  have HPQ:=Lib.hid (And.intro p0 (And.intro q0 (And.intro p2 q2)))
  clear hcut hst hp h1 h2 h3 h4 hok hok2 p0 q0 p2 q2 PD
  go_upto_region 29 with fail
  have FBq:=Lib.hid (fun w' (hS':(fun w'=>Below wc.heap.size wc w') w')=>(And.intro ((hS'.cell (p:=⟨wb,0,none⟩) lw).trans HPQ.out.1) (And.intro ((hS'.cell (p:=⟨vb,0,none⟩) lv).trans HPQ.out.2.1) (And.intro ((hS'.cell (p:=⟨fb,0,none⟩) lf).trans HPQ.out.2.2.1) ((hS'.cell (p:=⟨ub,0,none⟩) lu).trans HPQ.out.2.2.2)))))
  refine wp_region_plan (fun w'=>Below wc.heap.size wc w') [(0,true),(1,true),(2,true),(3,true),(4,true),(5,true),(6,false),(7,true),(8,true),(9,true),(10,true),(11,true),(12,true),(13,true),(14,false),(15,true),(16,true)] (by kernel_rfl) (by kernel_rfl) ((Below.refl _ _).drew) ?_
  iterate 6
   refine wpPlan_read (by rfl) (by rfl) (fun R hR=>?_)
   apply Exists.intro
   refine⟨fun w' hS'=>?_,?_⟩
   ·obtain⟨z0,z1,z2,z3⟩:=FBq.out w' hS'
    go_simp
    exact⟨rfl,rfl⟩
   go_simp
   refine hR _ ?_
   clear hR R
  refine wpPlan_do (by rfl) (by rfl) (fun K hK=>?_)
  go_simp
  refine(S1.out _ (Below.refl _ _).drew).mono ?_
  rintro e wE ⟨rfl,hbE⟩
  have BE:Below wc.heap.size wc wE:=(Below.refl _ _).drew.trans hbE
  refine hK _ _ (BE) ?_
  clear hK K
  iterate 7
   refine wpPlan_read (by rfl) (by rfl) (fun R hR=>?_)
   apply Exists.intro
   refine⟨fun w' hS'=>?_,?_⟩
   ·obtain⟨z0,z1,z2,z3⟩:=FBq.out w' hS'
    go_simp
    exact⟨rfl,rfl⟩
   go_simp
   refine hR _ ?_
   clear hR R
  refine wpPlan_do (by rfl) (by rfl) (fun K hK=>?_)
  go_simp
  refine(S2.out wE BE).mono ?_
  rintro e wF ⟨rfl,hbF⟩
  have BF:Below wc.heap.size wc wF:=BE.trans (hbF.mono BE.size)
  refine hK _ _ (BF) ?_
  clear hK K
  iterate 2
   refine wpPlan_read (by rfl) (by rfl) (fun R hR=>?_)
   apply Exists.intro
   refine⟨fun w' hS'=>?_,?_⟩
   ·obtain⟨z0,z1,z2,z3⟩:=FBq.out w' hS'
    go_simp
    exact⟨rfl,rfl⟩
   go_simp
   refine hR _ ?_
   clear hR R
  refine wpPlan_nil ?_
  try refine calm_normal ?_
  go_wp2_with fail
  refine bodyPost_ret (by simp[results,Tryz.results11,go_sem, *];try rfl) rfl ?_
  exact⟨by simp,HP.out.below.trans (BF.mono HP.out.below.size)⟩
end Go.Proofs.YtkiebccnpheloaaGreat.D
