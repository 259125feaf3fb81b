/- Parts of a proof: what its theorem reaches, words cut short. No condition of its own. -/
import Derived.Test.YtilcnjbpmoijmaaGreatPs08
set_option maxRecDepth 100000
set_option maxHeartbeats 16000000
set_option linter.unusedVariables false
set_option linter.unusedSimpArgs false
namespace Go.Proofs.YtilcnjbpmoijmaaGreat.D
open Go.RowKit Go.Lib Go.Maps
section
variable {sb sz : Nat} {m : Int -> Option Nat} {xs : List (Option Nat)} {G : Ft}
theorem SuB.ne{w:World}{mb o:Nat}{xv:Value}(h:SuB w sb mb o xv sz m xs):mb≠sb:=by
 rintro rfl
 obtain⟨D,⟨es,clock,hb,_⟩,_⟩:=h.mp
 have:=h.blk
 unfold Blk at this
 rw[hb] at this;cases this
theorem SuB.keep{w w':World}{mb o:Nat}{xv:Value}(h:SuB w sb mb o xv sz m xs)(hb:Below w.heap.size w w'):SuB w' sb mb o xv sz m xs:=by
 obtain⟨D,q,r⟩:=h.mp
 exact⟨h.blk.keep hb,⟨D,om_stay q (hb.block mb q.lt),r⟩,h.row.keep hb,h.so,h.mo,h.pl,h.sl,h.xl,Nat.le_trans h.oz hb.size⟩
theorem SuB.drew{w:World}{mb o:Nat}{xv:Value}(h:SuB w sb mb o xv sz m xs):SuB w.drew sb mb o xv sz m xs:=h.keep (Below.refl _ _).drew
theorem name_store{w:World}{mb o g n c:Nat}{k:Int}{i x:Nat}(h:SuB w sb mb o (.slice (some ⟨g,0,none⟩) n c) sz m xs)(k0:0<=k)(k1:k<=4294967295)(hm:m k=none)(hi:i<xs.length)(hs:sz<1000) :
 ∃st w2 w3,(Instr.mapEntry 140 (.map (some mb)) (.int .u32 k)).run Tryz.prog (w.setCell ⟨g,i,none⟩ (.pointer (some ⟨x,0,none⟩)))=.ok (.tuple #[.int .i64 0,.int .i64 st]) w2 /\
  (Instr.entryStore 140 (.map (some mb)) (.int .i64 st) (.int .i64 i)).run Tryz.prog w2=.ok () w3/\SuB w3 sb mb o (.slice (some ⟨g,0,none⟩) n c) (sz+1) (upM m k (some i)) (xs.set i (some x))/\Touch (fun j=>j=g\/j=mb) w w3/\Touch (fun j=>j=g\/j=mb) w w2:=by
 obtain⟨D,hown,hD⟩:=h.mp
 have hg:=h.row.lt g rfl
 have hgm:mb≠g:=by have:=h.mo;omega
 have hgs:sb≠g:=by have:=h.so;omega
 have hown2:=hown.setCell (a:=⟨g,i,none⟩) hgm (.pointer (some ⟨x,0,none⟩))
 have hxl:=h.xl
 obtain⟨st,w2,w3,r1,r2,r3,r4,r5⟩:=entry_new hown2 (by have:=h.sl;unfold maxLen;omega) k0 k1 (by rw[hD.has_ k,hm];rfl) i (by omega)
 have e:=h.row.set_ i hi (some x)
 rw[show i * poE.k=i by show i * 1=i;omega] at e
 have hz:(w.setCell ⟨g,i,none⟩ (.pointer (some ⟨x,0,none⟩))).heap.size=w.heap.size:=World.size_setCell ..
 have hsl:sb<w.heap.size:=h.blk.lt
 have hml:mb<w.heap.size:=hown.lt
 refine⟨st,w2,w3,r1,r2,⟨(r4.block sb (by rw[hz];exact hsl) (fun e=>by cases e;exact h.ne rfl)).trans (h.blk.far hgs _),⟨_,r3,hD.put k i hm⟩,e.stay (fun j ej=>?_),h.so,h.mo,fun a b hb=>?_,by omega,by rw[List.length_set];exact hxl,Nat.le_trans h.oz (by have:=r4.size;omega)⟩,?_,?_⟩
 ·cases ej
  exact r4.block g (by rw[hz];exact hg.2) (fun e=>by cases e;exact hgm rfl)
 ·rw[List.length_set]
  unfold upM at hb
  by_cases hab:a=k
  ·rw[if_pos hab] at hb;cases hb;exact hi
  ·rw[if_neg hab] at hb;exact h.pl a b hb
 ·exact((Touch.refl (fun j=>j=g\/j=mb) w).setCell (p:=⟨g,i,none⟩) (.inl (.inl rfl)) _).grown r4 (fun j ej=>by cases ej;exact .inl (.inr rfl))
 ·exact((Touch.refl (fun j=>j=g\/j=mb) w).setCell (p:=⟨g,i,none⟩) (.inl (.inl rfl)) _).grown r5 (fun j ej=>by cases ej;exact .inl (.inr rfl))
theorem SuB.more{w w1:World}{mb o:Nat}{xv v':Value}(h:SuB w sb mb o xv sz m xs)(ho:OwnE poE o w1 v' (xs++[none]))(hg:w.grownBy w1 xv.ownBlock)(hx:xs.length<1000):SuB (w1.setCell ⟨sb,1,none⟩ v') sb mb o v' sz m (xs++[none]):=by
 have hb:=put_back (i:=1) h.blk h.row (by decide) hg ho
 obtain⟨D,hown,hD⟩:=h.mp
 have hne:xv.ownBlock≠some mb:=fun e=>by have:=(h.row.lt mb e).1;have:=h.mo;omega
 have hk:=hown.kept hg (fun e=>hne e.symm)
 refine⟨hb.1,⟨D,hk.setCell (a:=⟨sb,1,none⟩) h.ne _,hD⟩,hb.2,h.so,h.mo,fun a b e=>?_,h.sl,?_,Nat.le_trans h.oz (by rw[World.size_setCell];exact hg.size)⟩
 ·have:=h.pl a b e
  rw[List.length_append];omega
 ·rw[List.length_append,List.length_singleton];omega
def NamedP(sb sz:Nat)(m:Int->Option Nat)(xs:List (Option Nat))(G:Ft)(k:Int)(x:Nat)(w:World)(e:Ending)(w':World):Prop:=
 e=.returned (.tuple #[])/\∃i xs' G',SuAt sb (sz+1) (upM m k (some i)) xs' G' w'/\xs'[i]?=some (some x)/\xs'.length<=xs.length+1/\(∀j,G' j->G j\/w.heap.size<=j)/\Touch G w w'
theorem named_end{w w1 w3:World}{mb o g n c:Nat}{k:Int}{i x:Nat}{xs1:List (Option Nat)}(h3:SuB w3 sb mb o (.slice (some ⟨g,0,none⟩) n c) (sz+1) (upM m k (some i)) (xs1.set i (some x)))(hi:i<xs1.length)(hl:xs1.length<=xs.length+1)(t1:Touch G w w1)(hg:G g\/w.heap.size<=g)(gs:G sb)(gm:G mb)(t3:Touch (fun j=>j=g\/j=mb) w1 w3) :
 NamedP sb sz m xs G k x w (.returned (.tuple #[])) w3:=by
 obtain⟨D,hown,_⟩:=h3.mp
 refine⟨rfl,i,_,fun j=>j=sb\/j=mb\/j=g,⟨mb,o,_,h3,.inl rfl,.inr (.inl rfl),fun j e=>by cases e;exact .inr (.inr rfl),fun j e=>?_⟩,by rw[List.getElem?_set_self hi],by rw[List.length_set];exact hl,fun j e=>?_,t1.trans t3 (fun j e=>?_)⟩
 ·rcases e with rfl|rfl|rfl
  ·exact h3.blk.lt
  ·exact hown.lt
  ·exact(h3.row.lt _ rfl).2
 ·rcases e with rfl|rfl|rfl
  ·exact .inl gs
  ·exact .inl gm
  ·exact hg
 ·rcases e with rfl|rfl
  ·exact hg
  ·exact .inl gm
theorem su_name{k:Int}{x:Nat}(k0:0<=k)(k1:k<=4294967295)(w:World)(h:SuAt sb sz m xs G w)(hm:m k=none)(hs:sz<=900)(hx:xs.length<=900) :
 Calls Tryz.prog 179 #[.pointer (some ⟨sb,0,none⟩),.int .u32 k,.pointer (some ⟨x,0,none⟩)] w (NamedP sb sz m xs G k x w):=by
 obtain⟨mb,o,xv,h,g1,g2,g3,g4⟩:=h
 have HB:=Lib.hid h
 have HG:=Lib.hid (And.intro g1 (And.intro g2 (And.intro g3 g4)))
 have s0:=h.blk.cell 0
 have s1:=h.blk.cell 1
 have f1:=h.blk.frozen 1
 simp only[List.getElem?_toArray,List.getElem?_cons_zero,List.getElem?_cons_succ] at s0 s1
 obtain⟨A,c,hxv,_,_,_⟩:=h.row.form
 subst hxv
 have HI:=Lib.hid (index_any w h.row (by omega))
 have HM:=Lib.hid hm
 have hsl:=h.blk.lt
 clear h g1 g2 g3 g4 hm
 go_enter Tryz.func179,Tryz.ntmps179
 go_wp2_with fail
 refine(HI.out).mono ?_
 rintro e w1 ⟨hr,hw⟩
 subst hw
 rcases hr with rfl|⟨i,hi,rfl⟩
 ·have HROW:=HB.out.row
  have hbz:=HB.out.oz
  have HW:Hid (Blk w sb 142 #[.map (some mb),.slice A xs.length c]):=Lib.hid HB.out.blk
  have hne:(Value.slice A xs.length c).ownBlock≠some sb:=own_ne HB.out.blk HROW (by decide)
  go_wp2_with (at_builtin;refine apL tyPo rfl (.tmp 23) (.tmp 24) rfl (HROW.alloc _) rfl _ [none] rfl (RdE.one_at (E:=poE) _ none _ rfl _ rfl _ rfl) (by simp;omega) (by go_size) ?_;intro v6 w6 o6 g6 e6;obtain⟨A6,c6,hv6,_,_,_⟩:=o6.form;subst hv6;have O6:=Lib.hid o6;have G6:=Lib.hid g6;have E6:=Lib.hid e6;have k1:=((g6.block sb (by rw[World.size_alloc];omega) (fun e=>hne e.symm)).trans (Below.heap_alloc w _ sb hsl));have s1':w6.cell? ⟨sb,1,none⟩=_:=(World.cell?_of_block (a:=⟨sb,1,none⟩) k1).trans s1;have f1':w6.frozen? ⟨sb,1,none⟩=_:=(World.frozen?_of_block (a:=⟨sb,1,none⟩) k1).trans f1;clear k1 o6 g6 e6)
  obtain⟨W,hW⟩:∃W,w6.setCell ⟨sb,1,none⟩ (.slice A6 (xs.length+1) c6)=W:=⟨_,rfl⟩
  have el:(xs++[none]).length=xs.length+1:=by rw[List.length_append,List.length_singleton]
  have SB:=(HB.out.keep ((Below.refl _ _).alloc (Nat.le_refl _) (.cells #[.pointer none] 51))).more O6.out G6.out (by omega)
  obtain⟨g,c1,hv,_⟩:=SB.row.pos (by rw[el];omega)
  injection hv with hv1 _ hv3
  subst hv1
  subst hv3
  rw[el,hW] at SB
  have hg:G g\/w.heap.size<=g:=by
   rcases own_in E6.out g rfl with e|e
   ·exact .inl (HG.out.2.2.1 g e)
   ·rw[World.size_alloc] at e;exact .inr (by omega)
  have T1:Touch G w W:=by
   rw[<-hW]
   exact(((Touch.refl G w).alloc _).grown G6.out (fun j e=>.inl (HG.out.2.2.1 j e))).setCell (p:=⟨sb,1,none⟩) (.inl HG.out.1) _
  have HF:Hid (∀w3,SuB w3 sb mb o (.slice (some ⟨g,0,none⟩) (xs.length+1) c6) (sz+1) (upM m k (some xs.length)) ((xs++[none]).set xs.length (some x))->Touch (fun j=>j=g\/j=mb) W w3->NamedP sb sz m xs G k x w (.returned (.tuple #[])) w3):=Lib.hid (fun w3 h3 t3=>named_end h3 (by rw[el];omega) (by rw[el];omega) T1 hg HG.out.1 HG.out.2.1 t3)
  have hj:xs.length<(xs++[none]).length:=by rw[el];omega
  have hn1:(xs.length:Int)<((xs.length+1:Nat):Int):=by omega
  rw[hW]
  clear hW T1 hg el f1' s1' O6 G6 E6 HW hne
  obtain⟨n1,hn⟩:∃n1,xs.length+1=n1:=⟨_,rfl⟩
  rw[hn] at SB HF hn1
  obtain⟨j,hjj⟩:∃j,xs.length=j:=⟨_,rfl⟩
  rw[hjj] at hj HF hn1 |-
  generalize xs++[none]=xs1 at SB HF hj
  have HS:=Lib.hid SB
  clear SB hn hjj s0 s1 f1 HB HI HG HROW
  have z0:=HS.out.blk.cell 0
  have z1:=HS.out.blk.cell 1
  simp only[List.getElem?_toArray,List.getElem?_cons_zero,List.getElem?_cons_succ] at z0 z1
  have Z0:=Lib.hid z0
  have Z1:=Lib.hid z1
  have Zs:=Lib.hid HS.out.blk.lt
  have Zn:Hid (¬(sb=g\/sb=mb)):=Lib.hid (fun e=>by
   rcases e with e|e
   ·have:=HS.out.so;have:=(HS.out.row.lt g rfl).1;omega
   ·exact HS.out.ne e.symm)
  have e5:=HS.out.row.cellAt hj 0 (by decide)
  rw[show j * poE.k+0=j by show j * 1+0=j;omega] at e5
  have K5:Hid (W.cell? ⟨g,j,none⟩=some (.pointer (xs1[j].map fun p=>⟨p,0,none⟩))):=Lib.hid (by rw[e5];rfl)
  have F5:=Lib.hid (HS.out.row.frozenAt j)
  have TA:Touch (fun i=>i=g\/i=mb) W W.drew:=(Touch.refl _ W).drew
  obtain⟨st,w2,w3,r1,r2,hS3,t3,t2⟩:=name_store (i:=j) (x:=x) HS.out.drew k0 k1 HM.out hj (by omega)
  have R1:Hid ((Instr.mapEntry 140 (.map (some mb)) (.int .u32 k)).run Tryz.prog (W.setCell ⟨g,j,none⟩ (.pointer (some ⟨x,0,none⟩))).drew=.ok (.tuple #[.int .i64 0,.int .i64 st]) w2):=Lib.hid r1
  have R2:=Lib.hid r2
  have S3:=Lib.hid hS3
  have T3:Hid (Touch (fun j=>j=g\/j=mb) W w3):=Lib.hid (TA.trans t3 (fun _ e=>.inl e))
  have T2:Touch (fun j=>j=g\/j=mb) W w2:=TA.trans t2 (fun _ e=>.inl e)
  have j0:(0:Int)<=j:=by omega
  have TB:Touch (fun i=>i=g\/i=mb) W (W.setCell ⟨g,j,none⟩ (.pointer (some ⟨x,0,none⟩))).drew:=((Touch.refl (fun i=>i=g\/i=mb) W).setCell (p:=⟨g,j,none⟩) (.inl (.inl rfl)) _).drew
  clear z0 z1 e5 r1 r2 hS3 t3 t2
  have FBq:=Lib.hid (fun(w':World) (hS':(Touch (fun i=>i=g\/i=mb) W) w')=>(And.intro ((tcell hS' 0 Zs.out Zn.out).trans Z0.out) ((tcell hS' 1 Zs.out Zn.out).trans Z1.out)))
  refine plA (Touch (fun i=>i=g\/i=mb) W) (plr 0 13 (ple 13 (ple 14 (plr 15 1 (ple 16 []))))) (TA) ?_
  iterate 13 refine plR ?_
  refine plD fun K hK=>?_
  have k5:=K5.out
  have f5:=F5.out
  go_simp
  clear k5 f5
  refine hK _ _ (TB) ?_
  clear hK K
  refine plD fun K hK=>?_
  have r1:=R1.out
  go_simp
  clear r1
  refine hK _ _ (T2) ?_
  clear hK K
  refine plR ?_
  refine plD fun K hK=>?_
  have r2:=R2.out
  go_simp
  clear r2
  refine hK _ _ (T3.out) ?_
  clear hK K
  refine wpPlan_nil ?_
  go_wp2_with fail
  go_end0
  exact HF.out w3 S3.out T3.out
 ·have i0:¬(i:Int)<0:=by omega
  obtain⟨g,c1,hv,hgo,hgl,hc1,hc2⟩:=HB.out.row.pos (by omega)
  injection hv with hv1 _ hv3
  subst hv1
  subst hv3
  have HF:Hid (∀w3,SuB w3 sb mb o (.slice (some ⟨g,0,none⟩) xs.length c) (sz+1) (upM m k (some i)) (xs.set i (some x))->Touch (fun j=>j=g\/j=mb) w w3->NamedP sb sz m xs G k x w (.returned (.tuple #[])) w3):=Lib.hid (fun w3 h3 t3=>named_end h3 hi (by omega) (Touch.refl G w) (.inl (HG.out.2.2.1 g rfl)) HG.out.1 HG.out.2.1 t3)
  have hn1:(i:Int)<(xs.length:Int):=by omega
  go_upto_region 4 with fail
  have HS:=Lib.hid HB.out
  have hi2:i<xs.length:=hi
  clear s0 s1 f1 HB HI HG
  have z0:=HS.out.blk.cell 0
  have z1:=HS.out.blk.cell 1
  simp only[List.getElem?_toArray,List.getElem?_cons_zero,List.getElem?_cons_succ] at z0 z1
  have Z0:=Lib.hid z0
  have Z1:=Lib.hid z1
  have Zs:=Lib.hid HS.out.blk.lt
  have Zn:Hid (¬(sb=g\/sb=mb)):=Lib.hid (fun e=>by
   rcases e with e|e
   ·have:=HS.out.so;have:=(HS.out.row.lt g rfl).1;omega
   ·exact HS.out.ne e.symm)
  have e5:=HS.out.row.cellAt hi 0 (by decide)
  rw[show i * poE.k+0=i by show i * 1+0=i;omega] at e5
  have K5:Hid (w.cell? ⟨g,i,none⟩=some (.pointer (xs[i].map fun p=>⟨p,0,none⟩))):=Lib.hid (by rw[e5];rfl)
  have F5:=Lib.hid (HS.out.row.frozenAt i)
  have TA:Touch (fun i=>i=g\/i=mb) w w.drew:=(Touch.refl _ w).drew
  obtain⟨st,w2,w3,r1,r2,hS3,t3,t2⟩:=name_store (i:=i) (x:=x) HS.out.drew k0 k1 HM.out hi (by omega)
  have R1:Hid ((Instr.mapEntry 140 (.map (some mb)) (.int .u32 k)).run Tryz.prog (w.setCell ⟨g,i,none⟩ (.pointer (some ⟨x,0,none⟩))).drew=.ok (.tuple #[.int .i64 0,.int .i64 st]) w2):=Lib.hid r1
  have R2:=Lib.hid r2
  have S3:=Lib.hid hS3
  have T3:Hid (Touch (fun i=>i=g\/i=mb) w w3):=Lib.hid (TA.trans t3 (fun _ e=>.inl e))
  have T2:Touch (fun i=>i=g\/i=mb) w w2:=TA.trans t2 (fun _ e=>.inl e)
  have j0:(0:Int)<=i:=by omega
  have TB:Touch (fun i=>i=g\/i=mb) w (w.setCell ⟨g,i,none⟩ (.pointer (some ⟨x,0,none⟩))).drew:=((Touch.refl (fun i=>i=g\/i=mb) w).setCell (p:=⟨g,i,none⟩) (.inl (.inl rfl)) _).drew
  clear z0 z1 e5 r1 r2 hS3 t3 t2
  have FBq:=Lib.hid (fun(w':World) (hS':(Touch (fun i=>i=g\/i=mb) w) w')=>(And.intro ((tcell hS' 0 Zs.out Zn.out).trans Z0.out) ((tcell hS' 1 Zs.out Zn.out).trans Z1.out)))
  refine plA (Touch (fun i=>i=g\/i=mb) w) (plr 0 13 (ple 13 (ple 14 (plr 15 1 (ple 16 []))))) (TA) ?_
  iterate 13 refine plR ?_
  refine plD fun K hK=>?_
  have k5:=K5.out
  have f5:=F5.out
  go_simp
  clear k5 f5
  refine hK _ _ (TB) ?_
  clear hK K
  refine plD fun K hK=>?_
  have r1:=R1.out
  go_simp
  clear r1
  refine hK _ _ (T2) ?_
  clear hK K
  refine plR ?_
  refine plD fun K hK=>?_
  have r2:=R2.out
  go_simp
  clear r2
  refine hK _ _ (T3.out) ?_
  clear hK K
  refine wpPlan_nil ?_
  go_wp2_with fail
  go_end0
  exact HF.out w3 S3.out T3.out
end
end Go.Proofs.YtilcnjbpmoijmaaGreat.D
