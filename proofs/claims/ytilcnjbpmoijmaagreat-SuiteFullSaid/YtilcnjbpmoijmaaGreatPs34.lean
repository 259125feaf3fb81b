/- Parts of a proof: what its theorem reaches, words cut short. No condition of its own. -/
import Derived.Test.YtilcnjbpmoijmaaGreatPs33
set_option maxRecDepth 100000
set_option maxHeartbeats 16000000
set_option linter.unusedVariables false
set_option linter.unusedSimpArgs false
namespace Go.Proofs.YtilcnjbpmoijmaaGreat.D
open Go.RowKit Go.Lib Go.Maps
section
variable {sb sz : Nat} {m : Int -> Option Nat} {xs : List (Option Nat)} {G : Ft}
theorem gone_store{w:World}{mb o g n c:Nat}{k:Int}{i:Nat}(h:SuB w sb mb o (.slice (some ⟨g,0,none⟩) n c) (sz+1) m xs)(hm:m k=some i){w2:World}{D':DataW Unit}
 (ho:w2.ownsMap Tryz.prog 79 (plainElem (H:=Unit) Tryz.prog 3) mb (sz+1) D') (hD:LkM D' (upM m k none) sz) (ht:(w.setCell ⟨g,i,none⟩ (.pointer none)).mapTurned w2 mb) :
 SuB w2 sb mb o (.slice (some ⟨g,0,none⟩) n c) sz (upM m k none) (xs.set i none)/\Touch (fun j=>j=g\/j=mb) w w2:=by
 have hg:=h.row.lt g rfl
 have hgm:mb≠g:=by have:=h.mo;omega
 have hgs:sb≠g:=by have:=h.so;omega
 have hi:=h.pl k i hm
 have hxl:=h.xl
 have e:=h.row.set_ i hi none
 rw[show i * poE.k=i by show i * 1=i;omega] at e
 have hz:(w.setCell ⟨g,i,none⟩ (.pointer none)).heap.size=w.heap.size:=World.size_setCell ..
 have r4:=ht.grown
 have hsl:sb<w.heap.size:=h.blk.lt
 have hsz:=h.sl
 have hown:w2.ownsMap Tryz.prog 79 (plainElem (H:=Unit) Tryz.prog 3) mb sz D':=by
  obtain⟨es,clock,hb,F,_,e⟩:=ho
  refine⟨es,clock,hb,F,?_,e⟩
  have h1:=hD.sz
  rw[e] at h1
  rw[<-h1]
  show es.size<=List.length _
  rw[length_read];exact Nat.le_refl _
 refine⟨⟨(r4.block sb (by rw[hz];exact hsl) (fun e=>by cases e;exact h.ne rfl)).trans (h.blk.far hgs _),⟨_,hown,hD⟩,e.stay (fun j ej=>?_),h.so,h.mo,fun a b hb=>?_,by omega,by rw[List.length_set];exact hxl,Nat.le_trans h.oz (by have:=r4.size;omega)⟩,((Touch.refl (fun j=>j=g\/j=mb) w).setCell (p:=⟨g,i,none⟩) (.inl (.inl rfl)) _).grown r4 (fun j ej=>by cases ej;exact .inl (.inr rfl))⟩
 ·cases ej
  exact r4.block g (by rw[hz];exact hg.2) (fun e=>by cases e;exact hgm rfl)
 ·rw[List.length_set]
  unfold upM at hb
  by_cases hab:a=k
  ·rw[if_pos hab] at hb;cases hb
  ·rw[if_neg hab] at hb;exact h.pl a b hb
theorem remove_any{k:Int}{i:Nat}(k0:0<=k)(k1:k<=4294967295)(w:World)(h:SuAt sb (sz+1) m xs G w)(hm:m k=some i)(px:Value) :
 Calls Tryz.prog 118 #[.pointer (some ⟨sb,0,none⟩),px,.agg (actC 11 k 0 0 0 0 0 0)] w fun e w'=>e=.returned (.agg (resC 0 0 false 0))/\SuAt sb sz (upM m k none) (xs.set i none) G w'/\Touch G w w':=by
 obtain⟨cs,hcs⟩:∃q',actC 11 k 0 0 0 0 0 0=q':=⟨_,rfl⟩
 rw[hcs]
 obtain⟨wa,b0,b1,hwa,A⟩:∃wa b0 b1,(w.alloc (.cells cs 81)).alloc (.cells (resC 0 0 false 0) 77)=wa/\ActAt w wa b0 b1 cs:=⟨_,_,_,rfl,act_at w cs⟩
 have GL:=Lib.hid ((su_stay _ _ _ _).low h)
 obtain⟨mb,o,xv,h,g1,g2,g3,_⟩:=h
 have hi:=h.pl k i hm
 obtain⟨g,c,rfl,hgo,_,hc1,hc2⟩:=h.row.pos (by omega)
 have HG:=Lib.hid (And.intro g1 (And.intro g2 (g3 g rfl)))
 have hB:=h.keep A.bel
 have HS:=Lib.hid hB
 have s0:=hB.blk.cell 0
 have s1:=hB.blk.cell 1
 simp only[List.getElem?_toArray,List.getElem?_cons_zero,List.getElem?_cons_succ] at s0 s1
 obtain⟨D,hown,hD⟩:=hB.mp
 have hat:=hD.at_ k i (iD 0) hm
 obtain⟨c9,hr9,hat9,_⟩:=(show wa.drew.ownsMap Tryz.prog 79 (plainElem (H:=Unit) Tryz.prog 3) mb (sz+1) D from hown).lookup_int keySu mapSu intU' (zeroI wa.drew) (keyOfU k0 k1)
 rw[hat] at hat9
 obtain rfl:c9=(i:Int):=by cases hat9;rfl
 have HRD:=Lib.hid hr9
 have e5:=hB.row.cellAt hi 0 (by decide)
 rw[show i * poE.k+0=i by show i * 1+0=i;omega] at e5
 have K5:Hid (wa.cell? ⟨g,i,none⟩=some (.pointer (xs[i].map fun p=>⟨p,0,none⟩))):=Lib.hid (by rw[e5];rfl)
 have F5:=Lib.hid (hB.row.frozenAt i)
 have c1:=A.ba.cell 1
 rw[<-hcs] at c1
 unfold actC at c1
 simp only[List.getElem?_toArray,List.getElem?_cons_zero,List.getElem?_cons_succ] at c1
 have S0:=Lib.hid s0
 have S1:=Lib.hid s1
 have C1:=Lib.hid c1
 have HA:=Lib.hid A
 have HOWN:=Lib.hid hown
 have HDD:=Lib.hid hD
 have HM:=Lib.hid hm
 have i0:(0:Int)<=i:=by omega
 have i1:(i:Int)<xs.length:=by omega
 have e0:=A.e0
 have e1:=A.e1
 unfold resC at hwa
 clear A h hcs hm hB hown hD hat hat9 hr9 e5 s0 s1 c1 g1 g2 g3
 go_enter Tryz.func118,Tryz.ntmps118
 go_upto_region 1 with fail
 rw[<-e1,<-e0]
 have E0:=Lib.hid (And.intro e0 e1)
 clear hwa e0 e1
 refine plTA (fun w'=>w'=wa.drew) 12 (plr 0 12 []) (rfl) ?_
 iterate 12 refine plTR (h:=fun w' hS'=>by subst hS';have z0:wa.drew.cell? ⟨sb,0,none⟩=_:=S0.out;have z1:wa.drew.cell? ⟨sb,1,none⟩=_:=S1.out;have zc:wa.drew.cell? ⟨b0,1,none⟩=_:=C1.out;have hr:(Instr.lookup 140 (.map (some mb)) (.int .u32 k) false).run Tryz.prog wa.drew=.ok (.int .i64 i) wa.drew:=HRD.out;go_simp;exact⟨rfl,rfl⟩) ?_
 refine wpPlanT_nil ?_
 simp only[List.drop_succ_cons,List.drop_zero]
 have k5:wa.drew.cell? ⟨g,i,none⟩=_:=K5.out
 have f5:wa.drew.frozen? ⟨g,i,none⟩=_:=F5.out
 go_wp2_with fail
 refine calm_normal ?_
 clear k5 f5
 go_upto_region 2 with fail
 have hog:=HS.out.so
 have hmg:=HS.out.mo
 have hgs:sb≠g:=by omega
 have hgm:mb≠g:=by omega
 have hgb:b0≠g:=by have:=GL.out g HG.out.2.2;have:=E0.out;omega
 have BS:=HS.out.blk.far (p:=⟨g,i,none⟩) hgs (.pointer none)
 have BA:=HA.out.ba.far (p:=⟨g,i,none⟩) hgb (.pointer none)
 have OW:=HOWN.out.setCell (a:=⟨g,i,none⟩) hgm (.pointer none)
 obtain⟨W,hW⟩:∃W,(wa.setCell ⟨g,i,none⟩ (.pointer none)).drew=W:=⟨_,rfl⟩
 have z0:W.cell? ⟨sb,0,none⟩=some (.map (some mb)):=by rw[<-hW];exact(BS.cell 0)
 have zc:W.cell? ⟨b0,1,none⟩=some (.int .u32 k):=by
  rw[<-hW]
  exact(BA.cell 1).trans ((HA.out.ba.cell 1).symm.trans C1.out)
 have OWW:Hid (W.ownsMap Tryz.prog 79 (plainElem (H:=Unit) Tryz.prog 3) mb (sz+1) D):=by rw[<-hW];exact Lib.hid OW
 rw[hW]
 have Z0:=Lib.hid z0
 have ZC:=Lib.hid zc
 have HW:=Lib.hid hW
 clear BS BA OW hW z0 zc
 have OWD:W.drew.ownsMap Tryz.prog 79 (plainElem (H:=Unit) Tryz.prog 3) mb (sz+1) D:=OWW.out
 refine plTA (fun w'=>w'=W.drew) 6 (plr 0 6 []) (rfl) ?_
 iterate 6 refine plTR (h:=fun w' hS'=>by subst hS';have z0:W.drew.cell? ⟨sb,0,none⟩=_:=Z0.out;have zc:W.drew.cell? ⟨b0,1,none⟩=_:=ZC.out;go_simp;exact⟨rfl,rfl⟩) ?_
 refine wpPlanT_nil ?_
 simp only[List.drop_succ_cons,List.drop_zero]
 go_wp2_with (refine wpList_delete_own _ rfl _ _ 140 79 rfl 3 keySu mapSu _ mb (sz+1) D rfl OWD _ _ rfl (keyOfU k0 k1) ?_;intro w1 hown1 hturn1)
 have ht:(wa.drew.drew.setCell ⟨g,i,none⟩ (.pointer none)).mapTurned w1 mb:=by rw[<-HW.out] at hturn1;exact hturn1
 obtain⟨hS1,hT1⟩:=gone_store HS.out.drew.drew HM.out hown1 (HDD.out.del k (by rw[HM.out];simp)) ht
 have HS1:=Lib.hid hS1
 have HT1:Hid (Touch (fun j=>j=g\/j=mb) wa w1):=Lib.hid (((Touch.refl _ wa).drew.drew).trans hT1 (fun _ e=>.inl e))
 have hnb:¬G b1:=fun e=>by have:=GL.out b1 e;have:=E0.out;omega
 have hB1:w1.heap[b1]?=some (.cells (resC 0 0 false 0) 77 (0,0)):=(HT1.out.block b1 HA.out.bb.lt (fun e=>by
  rcases e with e|e
  ·exact hnb (e▸HG.out.2.2)
  ·exact hnb (e▸HG.out.2.1))).trans HA.out.bb
 clear hown1 hturn1 ht hS1 hT1 OWD
 refine calm_normal ?_
 go_wp2_with (refine wpList_store_row rfl 77 (.tmp 6) (.tmp 25) rfl b1 (resC 0 0 false 0) rfl rfl 77 _ hB1 (by kernel_rfl) rfl (by simp[resC,Value.oneCell']) ?_)
 refine bodyPost_ret (v:=.agg (resC 0 0 false 0)) (results_cell_row (p:=6) (ty:=77) (by kernel_rfl) _ _ b1 77 (resC 0 0 false 0) (0,0) _ rfl (setRow_heap _ _ _ _ _ _ hB1) Tryz.underlying77 rfl (by kernel_rfl)) rfl ?_
 have hzb:=E0.out
 have hz1:=HT1.out.size
 have hzw:=HA.out.bel.size
 have hG:∀j,G j->j<w1.heap.size:=fun j e=>by have:=GL.out j e;omega
 refine⟨rfl,su_row ⟨mb,o,_,HS1.out,HG.out.1,HG.out.2.1,fun j e=>by cases e;exact HG.out.2.2,hG⟩ hnb,touch_row ?_ (.inr (by omega))⟩
 exact(Touch.of_below (F:=G) HA.out.bel (Nat.le_refl _)).trans HT1.out (fun j e=>by
  rcases e with rfl|rfl
  ·exact .inl HG.out.2.2
  ·exact .inl HG.out.2.1)
end
end Go.Proofs.YtilcnjbpmoijmaaGreat.D
