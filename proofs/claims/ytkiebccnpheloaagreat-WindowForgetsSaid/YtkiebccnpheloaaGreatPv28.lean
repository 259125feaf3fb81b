/- Parts of a proof: what its theorem reaches, words cut short. No condition of its own. -/
import Derived.Test.YtkiebccnpheloaaGreatPv27
set_option maxRecDepth 100000
set_option maxHeartbeats 16000000
set_option linter.unusedVariables false
set_option linter.unusedSimpArgs false
namespace Go.Proofs.YtkiebccnpheloaaGreat.D
open Go.RowKit Go.Lib Go.Shelf
section
variable {x lo hi dg u m bk : Nat} {gr : Bool} {l : List Pr} {F : Ft}
theorem hs_count(v:Nat)(n:Int)(w:World)(h:HsAt x lo hi dg u m gr bk l F w)(ok:HsOk lo hi dg u m gr bk l)(hv:v<9223372036854775808)(n0:0<n)(hn:tot l+n<=4611686018427387904) :
 Calls Tryz.prog 221 #[.pointer (some ⟨x,0,none⟩),.int .i64 v,.int .u64 n] w fun e w'=>e=.returned (.tuple #[])/\HsAt x lo hi dg u m gr (max bk (1+bkN u m v)) (putP (ixN u m v) n l) (Gr F w w') w'/\Touch F w w':=by
 obtain⟨g,b,hB,hM,hC,hFx,hFg,hFb,hF⟩:=h
 have CI:=Lib.hid (mindex_any v hM ok.sh.um ok.sh.mb.1 ok.sh.mb.2 hv)
 have CB:Hid (∀w1,MpAt w1 g lo hi dg u m->_):=Lib.hid (fun w1 h=>mbuckets_any (w:=w1) v h ok.sh.um hv)
 have HIX:=ix_lt ok.sh hv
 have HT:=Lib.hid (tot_put (ixN u m v) n l)
 have ht0:=tot_nonneg ok.pos
 have hlen:=ok.len
 have hbk:=ok.b1
 have HBK:=bk_max (u:=u) (m:=m) hv
 have hum:=ok.sh.um
 have hbv:bkN u m v<=63:=by omega
 have hc0:=cn_nonneg (k:=(ixN u m v:Int)) ok.pos
 have hc1:cnP l (ixN u m v)<=4611686018427387904:=by
  have:=cn_nonneg (k:=(ixN u m v:Int)) ok.pos
  by_cases hz:cnP l (ixN u m v)=0
  ·omega
  ·obtain⟨p,hp,e⟩:=(cn_key ok.pos _).2 hz
   rw[<-e,cn_of ok.srt hp]
   have:=pos_le ok.pos p hp
   have:=ok.sum
   omega
 have SP:=Lib.hid (And.intro ok.srt ok.pos)
 have X:=Lib.hid (And.intro hB (And.intro hM (And.intro hC (And.intro hFx (And.intro hFg (And.intro hFb hF))))))
 have hxg:x≠g:=by
  rintro rfl
  have:=hB.symm.trans hM
  simp at this
 have hxb:=(hC.ne hB).symm
 have hgb:=(hC.ne hM).symm
 have k0:=hB.cell 0
 simp only[List.getElem?_toArray,List.getElem?_cons_zero] at k0
 have hxl:=hB.lt
 clear hB hM hC hFx hFg hFb hF ok HBK hum
 generalize hix:ixN u m v=I at *
 generalize bkN u m v=B at *
 have EW:Hid (IntKind.u64.wrap (cnP l (I:Int)+n)=cnP l (I:Int)+n):=Lib.hid (by rw[u64w];omega)
 have ET:Hid (IntKind.u64.wrap (tot l+n)=tot l+n):=Lib.hid (by rw[u64w];omega)
 have HMX:Hid (max (bk:Int) (1+(B:Int))=((max bk (1+B):Nat):Int)):=Lib.hid (by omega)
 go_enter Tryz.func221,Tryz.ntmps221
 go_wp2_with fail
 refine(CI.out).mono ?_
 rintro e w1 ⟨rfl,hb1⟩
 have B1:=X.out.1.keep hb1
 have C1:=X.out.2.2.1.keep hb1
 have k3:=B1.cell 3
 simp only[List.getElem?_toArray,List.getElem?_cons_zero,List.getElem?_cons_succ] at k3
 have hlk:=C1.look (k:=(I:Int)) (by omega) (by omega)
 have ew:=EW.out
 go_wp2_with (at_mapUpdate;refine upL rfl _ _ _ rfl C1 SP.out.1 SP.out.2 (by omega) (by omega) (by omega) n0 (by omega) rfl rfl rfl ?_;intro w2 C2 hg2;have B2:Blk w2 x _ _:=(hg2.block x (by have:=hb1.size;omega) (fun e=>hxb (by cases e;rfl))).trans B1;have k4:=B2.cell 4;have f4:=B2.frozen 4;simp only[List.getElem?_toArray,List.getElem?_cons_zero,List.getElem?_cons_succ] at k4;have et:=ET.out)
 have M2:MpAt w2 g lo hi dg u m:=(hg2.block g (by have:=Blk.lt X.out.2.1;have:=hb1.size;omega) (fun e=>hgb (by cases e;rfl))).trans (X.out.2.1.keep hb1)
 obtain⟨w3,hw3⟩:∃w3,w2.setCell ⟨x,4,none⟩ (.int .u64 (tot l+n))=w3:=⟨_,rfl⟩
 have B3:Blk w3 x 241 #[.pointer (some ⟨g,0,none⟩),.bool gr,.int .i64 bk,.map (some b),.int .u64 (tot l+n)]:=by rw[<-hw3];exact B2.set_ 4 _
 have M3:MpAt w3 g lo hi dg u m:=by rw[<-hw3];exact(Below.heap_setCell w2 ⟨x,4,none⟩ _ g (fun e=>hxg e.symm)).trans M2
 have C3:CtAt w3 b (putP (I:Int) n l):=by rw[<-hw3];exact C2.stay (Below.heap_setCell w2 ⟨x,4,none⟩ _ b (fun e=>hxb e.symm))
 have T3:Touch F w w3:=by
  rw[<-hw3]
  exact((Touch.of_below hb1 (Nat.le_refl _)).trans (touch_map X.out.2.2.2.2.2.1 hg2) (fun _ h=>.inl h)).setCell (p:=⟨x,4,none⟩) (.inl X.out.2.2.2.1) _
 rw[hw3]
 have Y:=Lib.hid (And.intro B3 (And.intro M3 (And.intro C3 T3)))
 clear hw3 B3 M3 C3 T3 B1 C1 C2 B2 hg2 k4 f4 k3 hlk M2 ew et
 refine wp_region_planT (Below w3.heap.size w3) 12 [(0,true),(1,true),(2,true),(3,true),(4,true),(5,true),(6,true),(7,true),(8,true),(9,true),(10,false),(11,true)] (by kernel_rfl) (by kernel_rfl) ((Below.refl _ _).drew) ?_
 iterate 10
  refine wpPlanT_read (by rfl) (by rfl) (fun R hR=>?_)
  apply Exists.intro
  refine⟨fun w' hS'=>?_,?_⟩
  ·have k0:=(Y.out.1.keep hS').cell 0
   have k2:=(Y.out.1.keep hS').cell 2
   simp only[List.getElem?_toArray,List.getElem?_cons_zero,List.getElem?_cons_succ] at k0 k2
   go_simp
   exact⟨rfl,rfl⟩
  go_simp
  refine hR _ ?_
  clear hR R
 refine wpPlanT_do (by rfl) (by rfl) (fun K hK=>?_)
 go_simp
 refine(CB.out w3.drew (Blk.keep Y.out.2.1 (Below.refl _ _).drew)).mono ?_
 rintro e w4 ⟨rfl,hb4⟩
 have B4:Below w3.heap.size w3 w4:=(Below.refl _ _).drew.trans hb4
 refine hK _ _ (B4) ?_
 clear hK K
 iterate 1
  refine wpPlanT_read (by rfl) (by rfl) (fun R hR=>?_)
  apply Exists.intro
  refine⟨fun w' hS'=>?_,?_⟩
  ·have k0:=(Y.out.1.keep hS').cell 0
   have k2:=(Y.out.1.keep hS').cell 2
   simp only[List.getElem?_toArray,List.getElem?_cons_zero,List.getElem?_cons_succ] at k0 k2
   go_simp
   exact⟨rfl,rfl⟩
  go_simp
  refine hR _ ?_
  clear hR R
 refine wpPlanT_nil ?_
 simp only[List.drop_succ_cons,List.drop_zero]
 have k2:=(Y.out.1.keep B4).cell 2
 have f2:=(Y.out.1.keep B4).frozen 2
 simp only[List.getElem?_toArray,List.getElem?_cons_zero,List.getElem?_cons_succ] at k2
 go_wp2_with fail
 refine calm_normal ?_
 go_wp2_with fail
 refine bodyPost_end (v:=.tuple #[]) (by simp[results,Tryz.results221,go_sem, *];try rfl) rfl ?_
 rw[HMX.out]
 obtain⟨B3,M3,C3,T3⟩:=Y.out
 have T5:=(T3.trans (Touch.of_below (F:=F) B4 (Nat.le_refl _)) (fun _ h=>.inl h)).setCell (p:=⟨x,2,none⟩) (.inl X.out.2.2.2.1) (.int .i64 ((max bk (1+B):Nat):Int))
 have B5:=(B3.keep B4).set_ 2 (.int .i64 ((max bk (1+B):Nat):Int))
 refine⟨rfl,⟨g,b,?_,?_,?_,.inl X.out.2.2.2.1,.inl X.out.2.2.2.2.1,.inl X.out.2.2.2.2.2.1,gr_lt X.out.2.2.2.2.2.2 T5.size⟩,T5⟩
 ·rw[HT.out];exact B5
 ·exact(Below.heap_setCell w4 ⟨x,2,none⟩ _ g (fun e=>hxg e.symm)).trans (Blk.keep M3 B4)
 ·exact(C3.keep B4).stay (Below.heap_setCell w4 ⟨x,2,none⟩ _ b (fun e=>hxb e.symm))
theorem hs_check(v n:Int)(w:World)(h:HsAt x lo hi dg u m gr bk l F w)(ok:HsOk lo hi dg u m gr bk l)(v0:-9223372036854775808<=v)(v1:v<=9223372036854775807)(n0:0<=n)(n1:n<18446744073709551616) :
 Calls Tryz.prog 220 #[.pointer (some ⟨x,0,none⟩),.int .i64 v,.int .u64 n] w fun e w'=>e=.returned (.int .i64 (hsE u m gr bk l v n))/\Below w.heap.size w w':=by
 have HE:Hid (hsE u m gr bk l v n=if n=0 then 4 else if v<0 then 5 else if gr=false/\(topN u m bk:Int)<v then 5 else if 4611686018427387904<tot l+n then 6 else 0):=Lib.hid rfl
 obtain⟨g,b,hB,hM,_⟩:=h
 have CT:Hid (∀w1,Below w.heap.size w w1->_):=Lib.hid (fun w1 hb=>mtop_any (w:=w1) bk (Blk.keep hM hb) ok.sh.um ok.b0 ok.b1)
 have HB:=Lib.hid hB
 have ht0:=tot_nonneg ok.pos
 have ht1:=ok.sum
 clear hB hM ok
 generalize topN u m bk=T at *
 generalize tot l=t at *
 have EW:Hid (IntKind.u64.wrap (4611686018427387904 - t)=4611686018427387904 - t):=Lib.hid (by rw[u64w];omega)
 rw[HE.out]
 by_cases hn:n=0
 ·subst hn
  rw[if_pos rfl]
  go_enter Tryz.func220,Tryz.ntmps220
  go_wp2_with fail
  go_ret
  exact⟨rfl,Below.refl _ _⟩
 rw[if_neg hn]
 have hn':(n == 0)=false:=by simp;omega
 by_cases hv:v<0
 ·rw[if_pos hv]
  go_enter Tryz.func220,Tryz.ntmps220
  go_upto_region 3 with fail
  refine wp_region_plan (Below w.heap.size w) [(0,true),(1,true),(2,true),(3,true),(4,true),(5,true),(6,true),(7,true),(8,true),(9,true),(10,true),(11,true),(12,true),(13,true),(14,true),(15,true),(16,true),(17,true),(18,true),(19,true),(20,true),(21,true),(22,true)] (by kernel_rfl) (by kernel_rfl) ((Below.refl _ _).drew) ?_
  iterate 3
   refine wpPlan_read (by rfl) (by rfl) (fun R hR=>?_)
   apply Exists.intro
   refine⟨fun w' hS'=>?_,?_⟩
   ·have hv':=hv
    go_simp
    exact⟨rfl,rfl⟩
   go_simp
   refine hR _ ?_
   clear hR R
  refine wpPlan_skip (by rfl) (by rfl) ?_
  try go_simp
  refine wpPlan_skip (by rfl) (by rfl) ?_
  try go_simp
  refine wpPlan_skip (by rfl) (by rfl) ?_
  try go_simp
  refine wpPlan_skip (by rfl) (by rfl) ?_
  try go_simp
  refine wpPlan_skip (by rfl) (by rfl) ?_
  try go_simp
  refine wpPlan_skip (by rfl) (by rfl) ?_
  try go_simp
  refine wpPlan_skip (by rfl) (by rfl) ?_
  try go_simp
  refine wpPlan_skip (by rfl) (by rfl) ?_
  try go_simp
  refine wpPlan_skip (by rfl) (by rfl) ?_
  try go_simp
  refine wpPlan_skip (by rfl) (by rfl) ?_
  try go_simp
  refine wpPlan_skip (by rfl) (by rfl) ?_
  try go_simp
  refine wpPlan_skip (by rfl) (by rfl) ?_
  try go_simp
  refine wpPlan_skip (by rfl) (by rfl) ?_
  try go_simp
  refine wpPlan_skip (by rfl) (by rfl) ?_
  try go_simp
  refine wpPlan_skip (by rfl) (by rfl) ?_
  try go_simp
  refine wpPlan_skip (by rfl) (by rfl) ?_
  try go_simp
  refine wpPlan_skip (by rfl) (by rfl) ?_
  try go_simp
  refine wpPlan_skip (by rfl) (by rfl) ?_
  try go_simp
  iterate 2
   refine wpPlan_read (by rfl) (by rfl) (fun R hR=>?_)
   apply Exists.intro
   refine⟨fun w' hS'=>?_,?_⟩
   ·have hv':=hv
    go_simp
    exact⟨rfl,rfl⟩
   go_simp
   refine hR _ ?_
   clear hR R
  refine wpPlan_nil ?_
  go_wp2_with fail
  go_ret
  exact⟨rfl,(Below.refl _ _).drew⟩
 rw[if_neg hv]
 obtain⟨er,her⟩:∃er:Int,(if 4611686018427387904<t+n then(6:Int) else 0)=er:=⟨_,rfl⟩
 rw[her]
 have HR:=Lib.hid her
 clear her
 have HC:Hid (4611686018427387904<t+n<->4611686018427387904 - t<n):=Lib.hid (by omega)
 have Bd:Below w.heap.size w w.drew:=(Below.refl _ _).drew
 by_cases ht:(T:Int)<v
 ·cases gr
  ·rw[if_pos ⟨rfl,ht⟩]
   clear HC HR
   go_enter Tryz.func220,Tryz.ntmps220
   go_upto_region 3 with fail
   refine wp_region_plan (Below w.heap.size w) [(0,true),(1,true),(2,true),(3,true),(4,true),(5,true),(6,true),(7,true),(8,true),(9,true),(10,true),(11,true),(12,false),(13,true),(14,true),(15,true),(16,true),(17,true),(18,true),(19,true),(20,true),(21,true),(22,true)] (by kernel_rfl) (by kernel_rfl) (Bd) ?_
   iterate 12
    refine wpPlan_read (by rfl) (by rfl) (fun R hR=>?_)
    apply Exists.intro
    refine⟨fun w' hS'=>?_,?_⟩
    ·have hv':=hv
     have ht':=ht
     have k0:=(HB.out.keep hS').cell 0
     have k1:=(HB.out.keep hS').cell 1
     have k2:=(HB.out.keep hS').cell 2
     simp only[List.getElem?_toArray,List.getElem?_cons_zero,List.getElem?_cons_succ] at k0 k1 k2
     go_simp
     exact⟨rfl,rfl⟩
    go_simp
    refine hR _ ?_
    clear hR R
   refine wpPlan_do (by rfl) (by rfl) (fun K hK=>?_)
   go_simp
   refine(CT.out w.drew Bd).mono ?_
   rintro e w3 ⟨rfl,hb3⟩
   have B3:Below w.heap.size w w3:=Bd.trans hb3
   refine hK _ _ (B3) ?_
   clear hK K
   iterate 10
    refine wpPlan_read (by rfl) (by rfl) (fun R hR=>?_)
    apply Exists.intro
    refine⟨fun w' hS'=>?_,?_⟩
    ·have hv':=hv
     have ht':=ht
     have k0:=(HB.out.keep hS').cell 0
     have k1:=(HB.out.keep hS').cell 1
     have k2:=(HB.out.keep hS').cell 2
     simp only[List.getElem?_toArray,List.getElem?_cons_zero,List.getElem?_cons_succ] at k0 k1 k2
     go_simp
     exact⟨rfl,rfl⟩
    go_simp
    refine hR _ ?_
    clear hR R
   refine wpPlan_nil ?_
   go_wp2_with fail
   go_ret
   exact⟨rfl,B3⟩
  ·rw[if_neg (fun h=>by cases h.1)]
   go_enter Tryz.func220,Tryz.ntmps220
   go_upto_region 3 with fail
   refine wp_region_plan (Below w.heap.size w) [(0,true),(1,true),(2,true),(3,true),(4,true),(5,true),(6,true),(7,true),(8,true),(9,true),(10,true),(11,true),(12,false),(13,true),(14,true),(15,true),(16,true),(17,true),(18,true),(19,true),(20,true),(21,true),(22,true)] (by kernel_rfl) (by kernel_rfl) (Bd) ?_
   iterate 12
    refine wpPlan_read (by rfl) (by rfl) (fun R hR=>?_)
    apply Exists.intro
    refine⟨fun w' hS'=>?_,?_⟩
    ·have hv':=hv
     have ht':=ht
     have k0:=(HB.out.keep hS').cell 0
     have k1:=(HB.out.keep hS').cell 1
     have k2:=(HB.out.keep hS').cell 2
     simp only[List.getElem?_toArray,List.getElem?_cons_zero,List.getElem?_cons_succ] at k0 k1 k2
     go_simp
     exact⟨rfl,rfl⟩
    go_simp
    refine hR _ ?_
    clear hR R
   refine wpPlan_do (by rfl) (by rfl) (fun K hK=>?_)
   go_simp
   refine(CT.out w.drew Bd).mono ?_
   rintro e w3 ⟨rfl,hb3⟩
   have B3:Below w.heap.size w w3:=Bd.trans hb3
   refine hK _ _ (B3) ?_
   clear hK K
   iterate 10
    refine wpPlan_read (by rfl) (by rfl) (fun R hR=>?_)
    apply Exists.intro
    refine⟨fun w' hS'=>?_,?_⟩
    ·have hv':=hv
     have ht':=ht
     have k0:=(HB.out.keep hS').cell 0
     have k1:=(HB.out.keep hS').cell 1
     have k2:=(HB.out.keep hS').cell 2
     simp only[List.getElem?_toArray,List.getElem?_cons_zero,List.getElem?_cons_succ] at k0 k1 k2
     go_simp
     exact⟨rfl,rfl⟩
    go_simp
    refine hR _ ?_
    clear hR R
   refine wpPlan_nil ?_
   have k4:=(HB.out.keep B3).cell 4
   simp only[List.getElem?_toArray,List.getElem?_cons_zero,List.getElem?_cons_succ] at k4
   have ew:=EW.out
   by_cases hc:4611686018427387904<t+n
   ·have hc':4611686018427387904 - t<n:=HC.out.1 hc
    obtain rfl:er=6:=by rw[<-HR.out,if_pos hc]
    clear HC HR hc
    go_wp2_with fail
    go_ret
    exact⟨rfl,B3⟩
   ·have hc':¬4611686018427387904 - t<n:=fun h=>hc (HC.out.2 h)
    obtain rfl:er=0:=by rw[<-HR.out,if_neg hc]
    clear HC HR hc
    go_wp2_with fail
    go_ret
    exact⟨rfl,B3⟩
 ·rw[if_neg (fun h=>ht h.2)]
  go_enter Tryz.func220,Tryz.ntmps220
  go_upto_region 3 with fail
  refine wp_region_plan (Below w.heap.size w) [(0,true),(1,true),(2,true),(3,true),(4,true),(5,true),(6,true),(7,true),(8,true),(9,true),(10,true),(11,true),(12,false),(13,true),(14,true),(15,true),(16,true),(17,true),(18,true),(19,true),(20,true),(21,true),(22,true)] (by kernel_rfl) (by kernel_rfl) (Bd) ?_
  iterate 12
   refine wpPlan_read (by rfl) (by rfl) (fun R hR=>?_)
   apply Exists.intro
   refine⟨fun w' hS'=>?_,?_⟩
   ·have hv':=hv
    have ht':=ht
    have k0:=(HB.out.keep hS').cell 0
    have k1:=(HB.out.keep hS').cell 1
    have k2:=(HB.out.keep hS').cell 2
    simp only[List.getElem?_toArray,List.getElem?_cons_zero,List.getElem?_cons_succ] at k0 k1 k2
    go_simp
    exact⟨rfl,rfl⟩
   go_simp
   refine hR _ ?_
   clear hR R
  refine wpPlan_do (by rfl) (by rfl) (fun K hK=>?_)
  go_simp
  refine(CT.out w.drew Bd).mono ?_
  rintro e w3 ⟨rfl,hb3⟩
  have B3:Below w.heap.size w w3:=Bd.trans hb3
  refine hK _ _ (B3) ?_
  clear hK K
  iterate 2
   refine wpPlan_read (by rfl) (by rfl) (fun R hR=>?_)
   apply Exists.intro
   refine⟨fun w' hS'=>?_,?_⟩
   ·have hv':=hv
    have ht':=ht
    have k0:=(HB.out.keep hS').cell 0
    have k1:=(HB.out.keep hS').cell 1
    have k2:=(HB.out.keep hS').cell 2
    simp only[List.getElem?_toArray,List.getElem?_cons_zero,List.getElem?_cons_succ] at k0 k1 k2
    go_simp
    exact⟨rfl,rfl⟩
   go_simp
   refine hR _ ?_
   clear hR R
  refine wpPlan_skip (by rfl) (by rfl) ?_
  try go_simp
  refine wpPlan_skip (by rfl) (by rfl) ?_
  try go_simp
  refine wpPlan_skip (by rfl) (by rfl) ?_
  try go_simp
  refine wpPlan_skip (by rfl) (by rfl) ?_
  try go_simp
  refine wpPlan_skip (by rfl) (by rfl) ?_
  try go_simp
  iterate 3
   refine wpPlan_read (by rfl) (by rfl) (fun R hR=>?_)
   apply Exists.intro
   refine⟨fun w' hS'=>?_,?_⟩
   ·have hv':=hv
    have ht':=ht
    have k0:=(HB.out.keep hS').cell 0
    have k1:=(HB.out.keep hS').cell 1
    have k2:=(HB.out.keep hS').cell 2
    simp only[List.getElem?_toArray,List.getElem?_cons_zero,List.getElem?_cons_succ] at k0 k1 k2
    go_simp
    exact⟨rfl,rfl⟩
   go_simp
   refine hR _ ?_
   clear hR R
  refine wpPlan_nil ?_
  have k4:=(HB.out.keep B3).cell 4
  simp only[List.getElem?_toArray,List.getElem?_cons_zero,List.getElem?_cons_succ] at k4
  have ew:=EW.out
  by_cases hc:4611686018427387904<t+n
  ·have hc':4611686018427387904 - t<n:=HC.out.1 hc
   obtain rfl:er=6:=by rw[<-HR.out,if_pos hc]
   clear HC HR hc
   go_wp2_with fail
   go_ret
   exact⟨rfl,B3⟩
  ·have hc':¬4611686018427387904 - t<n:=fun h=>hc (HC.out.2 h)
   obtain rfl:er=0:=by rw[<-HR.out,if_neg hc]
   clear HC HR hc
   go_wp2_with fail
   go_ret
   exact⟨rfl,B3⟩
theorem hs_record(v n:Int)(w:World)(h:HsAt x lo hi dg u m gr bk l F w)(ok:HsOk lo hi dg u m gr bk l)(v0:-9223372036854775808<=v)(v1:v<=9223372036854775807)(n0:0<=n)(n1:n<18446744073709551616) :
 Calls Tryz.prog 131 #[.pointer (some ⟨x,0,none⟩),.int .i64 v,.int .u64 n] w (MutP (HsAt x lo hi dg u m gr (hsB u m gr bk l v n) (hsL u m gr bk l v n)) F (hsE u m gr bk l v n) w):=by
 have HH:=Lib.hid h
 have C1:=Lib.hid (hs_check v n w h ok v0 v1 n0 n1)
 have HEL:Hid (hsL u m gr bk l v n=if hsE u m gr bk l v n=0 then putP (ixN u m v.toNat) n l else l):=Lib.hid rfl
 have HEB:Hid (hsB u m gr bk l v n=if hsE u m gr bk l v n=0 then max bk (1+bkN u m v.toNat) else bk):=Lib.hid rfl
 rw[HEL.out,HEB.out]
 by_cases he:hsE u m gr bk l v n=0
 ·have hz:0<n/\0<=v/\tot l+n<=4611686018427387904:=by
   unfold hsE at he
   (repeat' split at he)<;>omega
  obtain⟨z,rfl⟩:=Int.eq_ofNat_of_zero_le hz.2.1
  have C2:Hid (∀w1,Below w.heap.size w w1->_):=Lib.hid (fun w1 hb=>hs_count (x:=x) z n w1 ((hs_stay x lo hi dg u m gr bk l).keep h hb) ok (by omega) hz.1 hz.2.2)
  rw[if_pos he,if_pos he]
  rw[he] at C1 |-
  simp only[Int.toNat_natCast]
  have hF:=(hs_stay x lo hi dg u m gr bk l).low h
  clear HEL HEB he hz h ok
  go_enter Tryz.func131,Tryz.ntmps131
  go_wp2_with fail
  refine(C1.out).mono ?_
  rintro e w1 ⟨rfl,hb1⟩
  go_wp2_with fail
  refine(C2.out w1 hb1).mono ?_
  rintro e w2 ⟨rfl,h2,t2⟩
  go_wp2_with fail
  go_ret
  refine⟨rfl,?_,btl hb1 t2⟩
  refine(hs_stay x lo hi dg u m gr _ _).more h2 (fun k hk=>?_) (gr_lt hF (btl hb1 t2).size)
  rcases hk with hk|⟨a,b⟩
  ·exact .inl hk
  ·exact .inr ⟨Nat.le_trans hb1.size a,b⟩
 ·rw[if_neg he,if_neg he]
  have hd:(hsE u m gr bk l v n == 0)=false:=by simpa using he
  clear HEL HEB h ok
  generalize hsE u m gr bk l v n=er at *
  go_enter Tryz.func131,Tryz.ntmps131
  go_wp2_with fail
  refine(C1.out).mono ?_
  rintro e w1 ⟨rfl,hb1⟩
  go_wp2_with fail
  go_ret
  exact mut_same (hs_stay x lo hi dg u m gr bk l) HH.out rfl hb1
end
end Go.Proofs.YtkiebccnpheloaaGreat.D
namespace Go.Proofs.YtkiebccnpheloaaGreat.K
def ins(v:Int):List Int->List Int
 | []=>[v]
 | y::l=>if v<y then v::y::l else y::ins v l
def insL(l vs:List Int):List Int:=vs.foldl (fun l v=>ins v l) l
abbrev Srt(l:List Int):Prop:=l.Pairwise (fun a b=>a<=b)
theorem ins_perm(v:Int):∀l,(ins v l).Perm (v::l)
 | []=>.refl _
 | y::l=>by
  unfold ins
  split
  ·exact .refl _
  ·exact((ins_perm v l).cons y).trans (List.Perm.swap v y l)
theorem ins_mem{v x:Int}{l:List Int}:x∈ins v l<->x=v\/x∈l:=by rw[(ins_perm v l).mem_iff,List.mem_cons]
theorem ins_length(v:Int)(l:List Int):(ins v l).length=l.length+1:=(ins_perm v l).length_eq
theorem ins_srt(v:Int):∀{l:List Int},Srt l->Srt (ins v l)
 | [],_=>by simp[ins]
 | y::l,h=>by
  have h1:=List.pairwise_cons.1 h
  unfold ins
  split
  ·rename_i hv
   exact List.pairwise_cons.2 ⟨fun z hz=>by
    rcases List.mem_cons.1 hz with rfl|hz
    ·omega
    ·have:=h1.1 z hz;omega,h⟩
  ·rename_i hv
   refine List.pairwise_cons.2 ⟨fun z hz=>?_,ins_srt v h1.2⟩
   rcases ins_mem.1 hz with rfl|hz
   ·omega
   ·exact h1.1 z hz
theorem insL_cons(l:List Int)(v:Int)(vs:List Int):insL l (v::vs)=insL (ins v l) vs:=rfl
theorem insL_append(l a b:List Int):insL l (a++b)=insL (insL l a) b:=List.foldl_append
theorem insL_perm:∀(vs l:List Int),(insL l vs).Perm (l++vs)
 | [],l=>by rw[List.append_nil];exact .refl _
 | v::vs,l=>by
  rw[insL_cons]
  refine(insL_perm vs (ins v l)).trans (((ins_perm v l).append_right vs).trans ?_)
  exact List.perm_middle.symm
theorem insL_length(l vs:List Int):(insL l vs).length=l.length+vs.length:=by rw[(insL_perm vs l).length_eq,List.length_append]
theorem insL_mem{l vs:List Int}{x:Int}:x∈insL l vs<->x∈l\/x∈vs:=by rw[(insL_perm vs l).mem_iff,List.mem_append]
theorem insL_srt{l:List Int}(h:Srt l):∀(vs:List Int),Srt (insL l vs):=by
 intro vs
 induction vs generalizing l with
 | nil=>exact h
 | cons v vs ih=>exact ih (ins_srt v h)
theorem srt_unique:∀{a b:List Int},a.Perm b->Srt a->Srt b->a=b
 | [],b,p,_,_=>(List.nil_perm.1 p).symm
 | x::a,b,p,ha,hb=>by
  cases b with
  | nil=>exact absurd p.length_eq (by simp)
  | cons y b=>
   have h1:=List.pairwise_cons.1 ha
   have h2:=List.pairwise_cons.1 hb
   have e:x=y:=by
    have hx:x∈y::b:=p.subset (List.mem_cons_self ..)
    have hy:y∈x::a:=p.symm.subset (List.mem_cons_self ..)
    rcases List.mem_cons.1 hx with h|h
    ·exact h
    ·rcases List.mem_cons.1 hy with h'|h'
     ·exact h'.symm
     ·have:=h1.1 y h'
      have:=h2.1 x h
      omega
   subst e
   rw[srt_unique ((List.perm_cons x).1 p) h1.2 h2.2]
theorem sort_srt(l:List Int):Srt (l.mergeSort fun x y=>decide (x<=y)):=by
 have h:=List.pairwise_mergeSort (le:=fun x y:Int=>decide (x<=y)) (fun a b c h1 h2=>by simp only[decide_eq_true_eq] at *;omega) (fun a b=>by simp only[Bool.or_eq_true,decide_eq_true_eq];omega) l
 exact h.imp (fun h=>by simpa using h)
theorem sort_ins{l:List Int}(h:Srt l)(vs:List Int):((l++vs).mergeSort fun x y=>decide (x<=y))=insL l vs:=
 srt_unique ((List.mergeSort_perm _ _).trans (insL_perm vs l).symm) (sort_srt _) (insL_srt h vs)
abbrev LL:=List (List Int)
def ext(L:LL)(h:Nat):LL:=L++List.replicate (h+1 - L.length) []
def lvl(L:LL)(h:Nat):List Int:=L.getD h []
def putL(L:LL)(h:Nat)(vs:List Int):LL:=(ext L h).set h (insL (lvl L h) vs)
theorem ext_length(L:LL)(h:Nat):(ext L h).length=max L.length (h+1):=by
 unfold ext
 rw[List.length_append,List.length_replicate];omega
theorem lvl_ext(L:LL)(h j:Nat):lvl (ext L h) j=lvl L j:=by
 unfold lvl ext
 simp only[List.getD]
 rcases Nat.lt_or_ge j L.length with h1|h1
 ·rw[List.getElem?_append_left h1]
 ·rw[List.getElem?_append_right h1,List.getElem?_replicate,List.getElem?_eq_none h1]
  split<;>rfl
theorem lvl_of_ge{L:LL}{j:Nat}(h:L.length<=j):lvl L j=[]:=by
 unfold lvl
 rw[List.getD,List.getElem?_eq_none h];rfl
theorem lvl_at{L:LL}{j:Nat}(h:j<L.length):lvl L j=L[j]:=by
 unfold lvl
 rw[List.getD,List.getElem?_eq_getElem h];rfl
theorem lvl_set(L:LL)(h j:Nat)(l:List Int)(hh:h<L.length):lvl (L.set h l) j=if j=h then l else lvl L j:=by
 unfold lvl
 simp only[List.getD]
 rw[List.getElem?_set]
 by_cases e:h=j
 ·subst e;rw[if_pos rfl,if_pos rfl,if_pos hh];rfl
 ·rw[if_neg e,if_neg (fun e'=>e e'.symm)]
theorem putL_length(L:LL)(h:Nat)(vs:List Int):(putL L h vs).length=max L.length (h+1):=by
 unfold putL
 rw[List.length_set,ext_length]
theorem lvl_put(L:LL)(h j:Nat)(vs:List Int):lvl (putL L h vs) j=if j=h then insL (lvl L h) vs else lvl L j:=by
 unfold putL
 rw[lvl_set _ _ _ _ (by rw[ext_length];omega),lvl_ext]
theorem ll_ext{A B:LL}(hl:A.length=B.length)(h:∀j,j<A.length->lvl A j=lvl B j):A=B:=
 List.ext_getElem hl fun i h1 h2=>by rw[<-lvl_at h1,<-lvl_at h2];exact h i h1
theorem putL_putL(L:LL)(h:Nat)(a b:List Int):putL (putL L h a) h b=putL L h (a++b):=by
 refine ll_ext (by rw[putL_length,putL_length,putL_length];omega) fun j _=>?_
 rw[lvl_put,lvl_put,lvl_put,lvl_put]
 by_cases e:j=h
 ·rw[if_pos e,if_pos e,if_pos rfl,insL_append]
 ·rw[if_neg e,if_neg e,if_neg e]
def cnt(L:LL):Nat:=(L.map List.length).sum
def wtF:Nat->LL->Nat
 | _,[]=>0
 | w,l::L=>l.length * w+wtF (2 * w) L
def wt(L:LL):Nat:=wtF 1 L
theorem cnt_append(A B:LL):cnt (A++B)=cnt A+cnt B:=by simp[cnt]
theorem cnt_cons(l:List Int)(L:LL):cnt (l::L)=l.length+cnt L:=by simp[cnt]
theorem cnt_rep(n:Nat):cnt (List.replicate n [])=0:=by simp[cnt]
theorem cnt_ext(L:LL)(h:Nat):cnt (ext L h)=cnt L:=by rw[ext,cnt_append,cnt_rep];rfl
theorem cnt_set:∀(L:LL) (h:Nat) (_:h<L.length) (l:List Int),cnt (L.set h l)+(lvl L h).length=cnt L+l.length
 | x::L,0,_,l=>by rw[List.set_cons_zero,cnt_cons,cnt_cons];simp only[lvl,List.getD_cons_zero];omega
 | x::L,h+1,hh,l=>by
  have:=cnt_set L h (by simpa using hh) l
  rw[List.set_cons_succ,cnt_cons,cnt_cons]
  simp only[lvl,List.getD_cons_succ] at this |-
  omega
theorem cnt_put(L:LL)(h:Nat)(vs:List Int):cnt (putL L h vs)=cnt L+vs.length:=by
 have h1:=cnt_set (ext L h) h (by rw[ext_length];omega) (insL (lvl L h) vs)
 rw[lvl_ext,insL_length,cnt_ext] at h1
 unfold putL
 omega
theorem lvl_le_cnt:∀(L:LL) (h:Nat),(lvl L h).length<=cnt L
 | [],h=>by simp[lvl]
 | x::L,0=>by rw[cnt_cons];simp only[lvl,List.getD_cons_zero];omega
 | x::L,h+1=>by
  have:=lvl_le_cnt L h
  rw[cnt_cons];simp only[lvl,List.getD_cons_succ] at this |-;omega
theorem wtF_append:∀(w:Nat) (A B:LL),wtF w (A++B)=wtF w A+wtF (2 ^ A.length * w) B
 | w,[],B=>by simp[wtF]
 | w,a::A,B=>by
  rw[List.cons_append,wtF,wtF_append (2 * w) A B,wtF,List.length_cons,Nat.pow_succ,Nat.mul_assoc,Nat.add_assoc]
theorem wtF_rep:∀(n w:Nat),wtF w (List.replicate n [])=0
 | 0,_=>rfl
 | n+1,w=>by rw[List.replicate_succ,wtF,wtF_rep n];simp
theorem wt_ext(L:LL)(h:Nat):wt (ext L h)=wt L:=by unfold wt;rw[ext,wtF_append,wtF_rep];rfl
theorem wtF_set:∀(L:LL) (w h:Nat) (_:h<L.length) (l:List Int),wtF w (L.set h l)+(lvl L h).length * (2 ^ h * w)=wtF w L+l.length * (2 ^ h * w)
 | x::L,w,0,_,l=>by
  rw[List.set_cons_zero,wtF,wtF]
  simp only[lvl,List.getD_cons_zero,Nat.pow_zero,Nat.one_mul];omega
 | x::L,w,h+1,hh,l=>by
  have:=wtF_set L (2 * w) h (by simpa using hh) l
  rw[List.set_cons_succ,wtF,wtF,Nat.pow_succ,Nat.mul_assoc (2 ^ h) 2 w]
  simp only[lvl,List.getD_cons_succ] at this |-
  omega
theorem wt_put(L:LL)(h:Nat)(vs:List Int):wt (putL L h vs)=wt L+vs.length * 2 ^ h:=by
 have h1:=wtF_set (ext L h) 1 h (by rw[ext_length];omega) (insL (lvl L h) vs)
 rw[lvl_ext,insL_length,Nat.mul_one,Nat.add_mul] at h1
 have h2:=wt_ext L h
 unfold wt at h2 |-
 unfold putL
 omega
theorem wt_set(L:LL)(h:Nat)(hh:h<L.length)(l:List Int):wt (L.set h l)+(lvl L h).length * 2 ^ h=wt L+l.length * 2 ^ h:=by
 have:=wtF_set L 1 h hh l
 rw[Nat.mul_one] at this
 exact this
theorem lvl_wt:∀(L:LL) (w h:Nat),(lvl L h).length * (2 ^ h * w)<=wtF w L
 | [],w,h=>by simp[lvl,wtF]
 | x::L,w,0=>by rw[wtF];simp only[lvl,List.getD_cons_zero,Nat.pow_zero,Nat.one_mul];omega
 | x::L,w,h+1=>by
  have:=lvl_wt L (2 * w) h
  rw[wtF,Nat.pow_succ,Nat.mul_assoc (2 ^ h) 2 w];simp only[lvl,List.getD_cons_succ] at this |-;omega
def thin(c:Nat):Nat:=(2 * c+2) / 3
def roomN:Nat->Nat->Nat
 | 0,c=>c
 | j+1,c=>roomN j (thin c)
def room(k len h:Nat):Nat:=if h<len then max (roomN (len - 1 - h) k) 2 else 0
theorem roomN_le:∀(j c:Nat),2<=c->roomN j c<=c/\2<=roomN j c
 | 0,c,h=>⟨Nat.le_refl _,h⟩
 | j+1,c,h=>by
  have h1:thin c<=c:=by unfold thin;omega
  have h2:2<=thin c:=by unfold thin;omega
  have:=roomN_le j (thin c) h2
  rw[roomN];omega
theorem room_le{k len h:Nat}(hk:2<=k):room k len h<=k:=by
 unfold room
 have:=roomN_le (len - 1 - h) k hk
 split<;>omega
theorem room_ge{k len h:Nat}(hh:h<len):2<=room k len h:=by
 unfold room
 rw[if_pos hh];omega
def fullAt(k:Nat)(L:LL)(h:Nat):Bool:=decide (room k L.length h<(lvl L h).length)
def fullN(k:Nat)(L:LL):Option Nat:=(List.range L.length).find? (fullAt k L)
def upV(l:List Int)(coin:Nat):List Int:=(List.range (l.length / 2)).map fun i=>l.getD (2 * i+coin) 0
def oddV(l:List Int):List Int:=l.drop (2 * (l.length / 2))
def packS(L:LL)(h coin:Nat):LL:=putL (L.set h (oddV (lvl L h))) (h+1) (upV (lvl L h) coin)
theorem upV_length(l:List Int)(c:Nat):(upV l c).length=l.length / 2:=by simp[upV]
theorem oddV_length(l:List Int):(oddV l).length=l.length % 2:=by unfold oddV;rw[List.length_drop];omega
theorem fullN_some{k:Nat}{L:LL}{h:Nat}(e:fullN k L=some h):h<L.length/\room k L.length h<(lvl L h).length/\∀j,j<h->(lvl L j).length<=room k L.length j:=by
 unfold fullN at e
 obtain⟨h1,xa,xb,h2,h3⟩:=List.find?_eq_some_iff_append.1 e
 have hm:h∈List.range L.length:=by rw[h2];simp
 have hlen:xa.length=h:=by
  have hlt:xa.length<(List.range L.length).length:=by rw[h2];simp
  have:(List.range L.length)[xa.length]'hlt=h:=by simp[h2]
  rw[List.getElem_range] at this;exact this
 refine⟨List.mem_range.1 hm,by simpa[fullAt] using h1,fun j hj=>?_⟩
 have hja:j∈xa:=by
  have hlt:j<xa.length:=by omega
  have:xa[j]=j:=by
   have e1:(xa++h::xb)[j]'(by simp;omega)=xa[j]:=List.getElem_append_left hlt
   rw[<-e1]
   have hl2:j<(List.range L.length).length:=by rw[h2];simp;omega
   have:(List.range L.length)[j]'hl2=j:=by simp
   simpa[h2] using this
  rw[<-this];exact List.getElem_mem hlt
 have:=h3 j hja
 simpa[fullAt] using this
theorem fullN_none{k:Nat}{L:LL}(e:fullN k L=none):∀j,j<L.length->(lvl L j).length<=room k L.length j:=by
 intro j hj
 have:=List.find?_eq_none.1 e j (List.mem_range.2 hj)
 simpa[fullAt] using this
theorem fullN_is{k:Nat}{L:LL}{h:Nat}(h1:h<L.length)(h2:room k L.length h<(lvl L h).length)(h3:∀j,j<h->(lvl L j).length<=room k L.length j):fullN k L=some h:=by
 cases e:fullN k L with
 | none=>have:=fullN_none e h h1;omega
 | some h'=>
  obtain⟨g1,g2,g3⟩:=fullN_some e
  rcases Nat.lt_trichotomy h h' with c|c|c
  ·have:=g3 h c;omega
  ·rw[c]
  ·have:=h3 h' c;omega
theorem fullN_is_none{k:Nat}{L:LL}(h:∀j,j<L.length->(lvl L j).length<=room k L.length j):fullN k L=none:=by
 cases e:fullN k L with
 | none=>rfl
 | some h'=>
  obtain⟨g1,g2,_⟩:=fullN_some e
  have:=h h' g1
  omega
theorem packS_cnt{L:LL}{h:Nat}(hh:h<L.length)(c:Nat):cnt (packS L h c)+(lvl L h).length / 2=cnt L:=by
 have h1:=cnt_set L h hh (oddV (lvl L h))
 rw[oddV_length] at h1
 unfold packS
 rw[cnt_put,upV_length]
 omega
theorem packS_wt{L:LL}{h:Nat}(hh:h<L.length)(c:Nat):wt (packS L h c)=wt L:=by
 have h1:=wt_set L h hh (oddV (lvl L h))
 rw[oddV_length] at h1
 unfold packS
 rw[wt_put,upV_length,Nat.pow_succ]
 have h2:(lvl L h).length * 2 ^ h=(lvl L h).length % 2 * 2 ^ h+(lvl L h).length / 2 * (2 ^ h * 2):=by
  conv=>lhs;rw[<-Nat.mod_add_div (lvl L h).length 2]
  rw[Nat.add_mul,Nat.mul_comm 2,Nat.mul_assoc,Nat.mul_comm 2]
 omega
theorem packS_length(L:LL)(h c:Nat):(packS L h c).length=max L.length (h+2):=by unfold packS;rw[putL_length,List.length_set]
end Go.Proofs.YtkiebccnpheloaaGreat.K
