/- Parts of a proof: what its theorem reaches, words cut short. No condition of its own. -/
import Derived.Test.YtingnldfpokckaaGreatPm33
set_option maxRecDepth 100000
set_option maxHeartbeats 16000000
set_option linter.unusedVariables false
set_option linter.unusedSimpArgs false
namespace Go.Proofs.YtingnldfpokckaaGreat.D
open Go.RowKit Go.Lib Go.Shelf Go.Maps
theorem cn_le_tot{l:List Pr}(s:SrtP l)(hp:PosP l)(k:Int):0<=cnP l k/\cnP l k<=tot l:=by
 have h0:=cn_nonneg (k:=k) hp
 refine⟨h0,?_⟩
 by_cases hz:cnP l k=0
 ·have:=tot_nonneg hp;omega
 ·obtain⟨p,hm,e⟩:=(cn_key hp _).2 hz
  rw[<-e,cn_of s hm]
  exact pos_le hp p hm
section
variable {x y lo hi dg u m bk bt : Nat} {gr : Bool} {l t : List Pr} {F Fy : Ft}
theorem hs_taken(w:World)(h:HsAt x lo hi dg u m gr bk l F w)(hy:HsAt y lo hi dg u m gr bt t Fy w)(ok:HsOk lo hi dg u m gr bk l)(oky:HsOk lo hi dg u m gr bt t) :
 Calls Tryz.prog 30 #[.pointer (some ⟨x,0,none⟩),.pointer (some ⟨y,0,none⟩)] w (MutP (HsAt x lo hi dg u m gr (htB l t bk bt) (htL l t)) F (htE l t) w):=by
 have HH:=Lib.hid h
 have CX:Hid (∀w1,Below w.heap.size w w1->_):=Lib.hid (fun w1 hb=>hs_shape (x:=x) w1 ((hs_stay x lo hi dg u m gr bk l).keep h hb))
 have CY:Hid (∀w1,Below w.heap.size w w1->_):=Lib.hid (fun w1 hb=>hs_shape (x:=y) w1 ((hs_stay y lo hi dg u m gr bt t).keep hy hb))
 have HE:Hid (htE l t=if 4611686018427387904<tot l+tot t then 6 else 0):=Lib.hid rfl
 have HL:Hid (htL l t=if htE l t=0 then mrgP l t else l):=Lib.hid rfl
 have HB:Hid (htB l t bk bt=if htE l t=0 then max bk bt else bk):=Lib.hid rfl
 obtain⟨g,b,hB,hM,hC,hFx,hFg,hFb,hF⟩:=h
 obtain⟨gy,c,yB,yM,yC,_⟩:=hy
 have t0:=tot_nonneg ok.pos
 have t1:=tot_nonneg oky.pos
 have l0:=ok.len
 have l1:=oky.len
 have s0:=ok.sum
 have s1:=oky.sum
 have OK:=Lib.hid (And.intro ok oky)
 have X:=Lib.hid (And.intro hB (And.intro hM (And.intro hC (And.intro hFx (And.intro hFg (And.intro hFb hF))))))
 have Y:=Lib.hid (And.intro yB (And.intro yM yC))
 have hxg:x≠g:=by
  rintro rfl
  have:=hB.symm.trans hM
  simp at this
 have hxb:=(hC.ne hB).symm
 have hgb:=(hC.ne hM).symm
 have hxc:=(yC.ne hB).symm
 have hxl:=hB.lt
 have hyl:=yB.lt
 obtain⟨er,her⟩:∃er,htE l t=er:=⟨_,rfl⟩
 rw[her] at HE HL HB |-
 obtain⟨L9,hL9⟩:∃x,htL l t=x:=⟨_,rfl⟩
 obtain⟨B9,hB9⟩:∃x,htB l t bk bt=x:=⟨_,rfl⟩
 rw[hL9] at HL |-
 rw[hB9] at HB |-
 clear her hL9 hB9
 have EW:Hid (IntKind.u64.wrap (4611686018427387904 - tot l)=4611686018427387904 - tot l):=Lib.hid (by rw[u64w];omega)
 have HC:Hid (4611686018427387904<tot l+tot t<->4611686018427387904 - tot l<tot t):=Lib.hid (by omega)
 have HS:=Lib.hid (mrg_key (A:=l) (B:=t) ok.pos oky.pos)
 clear hB hM hC hFx hFg hFb hF ok oky yB yM yC
 have Bd:Below w.heap.size w w.drew:=(Below.refl _ _).drew
 go_enter Tryz.func30,Tryz.ntmps30
 go_upto_region 3 with fail
 refine wp_region_plan (Below w.heap.size w) [(0,true),(2,true),(1,false),(3,false),(4,true),(5,true),(6,true),(7,true),(8,true),(9,true),(10,true),(11,true),(12,true),(13,true),(14,true),(15,true),(16,true)] (by kernel_rfl) (by kernel_rfl) (Bd) ?_
 iterate 2
  refine wpPlan_read (by rfl) (by rfl) (fun R hR=>?_)
  apply Exists.intro
  refine⟨fun w' hS'=>?_,?_⟩
  ·have k1:=(X.out.1.keep hS').cell 1
   have j1:=(Y.out.1.keep hS').cell 1
   simp only[List.getElem?_toArray,List.getElem?_cons_zero,List.getElem?_cons_succ] at k1 j1
   go_simp
   exact⟨rfl,rfl⟩
  go_simp
  refine hR _ ?_
  clear hR R
 refine wpPlan_do (by rfl) (by rfl) (fun K hK=>?_)
 go_simp
 refine(CY.out w.drew Bd).mono ?_
 rintro e w3 ⟨rfl,hb3⟩
 have B3:Below w.heap.size w w3:=Bd.trans hb3
 refine hK _ _ (B3) ?_
 clear hK K
 refine wpPlan_do (by rfl) (by rfl) (fun K hK=>?_)
 go_simp
 refine(CX.out w3 B3).mono ?_
 rintro e w4 ⟨rfl,hb4⟩
 have B4:Below w.heap.size w w4:=B3.trans (hb4.mono B3.size)
 refine hK _ _ (B4) ?_
 clear hK K
 iterate 13
  refine wpPlan_read (by rfl) (by rfl) (fun R hR=>?_)
  apply Exists.intro
  refine⟨fun w' hS'=>?_,?_⟩
  ·have k1:=(X.out.1.keep hS').cell 1
   have j1:=(Y.out.1.keep hS').cell 1
   simp only[List.getElem?_toArray,List.getElem?_cons_zero,List.getElem?_cons_succ] at k1 j1
   go_simp
   exact⟨rfl,rfl⟩
  go_simp
  refine hR _ ?_
  clear hR R
 refine wpPlan_nil ?_
 go_upto_region 5 with fail
 have B4d:Below w.heap.size w w4.drew:=B4.drew
 by_cases hc:4611686018427387904 - tot l<tot t
 ·obtain rfl:er=6:=by rw[HE.out,if_pos (HC.out.2 hc)]
  obtain rfl:L9=l:=by rw[HL.out];rfl
  obtain rfl:B9=bk:=by rw[HB.out];rfl
  clear HC HE HL HB
  refine wp_region_plan (Below w.heap.size w) [(0,true),(1,true),(2,true),(3,true),(4,true),(5,true),(6,true),(7,true),(8,true),(9,true),(10,true)] (by kernel_rfl) (by kernel_rfl) (B4d) ?_
  iterate 11
   refine wpPlan_read (by rfl) (by rfl) (fun R hR=>?_)
   apply Exists.intro
   refine⟨fun w' hS'=>?_,?_⟩
   ·have ew:=EW.out
    have hc':=hc
    have k4:=(X.out.1.keep hS').cell 4
    have j4:=(Y.out.1.keep hS').cell 4
    simp only[List.getElem?_toArray,List.getElem?_cons_zero,List.getElem?_cons_succ] at k4 j4
    go_simp
    exact⟨rfl,rfl⟩
   go_simp
   refine hR _ ?_
   clear hR R
  refine wpPlan_nil ?_
  go_wp2_with fail
  go_ret
  exact mut_same (hs_stay x lo hi dg u m gr B9 L9) HH.out rfl B4d
 obtain rfl:er=0:=by rw[HE.out,if_neg (fun h=>hc (HC.out.1 h))]
 have HSM:Hid (tot l+tot t<=4611686018427387904):=Lib.hid (by have:=HC.out;omega)
 obtain rfl:L9=mrgP l t:=by rw[HL.out];rfl
 obtain rfl:B9=max bk bt:=by rw[HB.out];rfl
 clear HC HE HL HB
 refine wp_region_plan (Below w.heap.size w) [(0,true),(1,true),(2,true),(3,true),(4,true),(5,true),(6,true),(7,true),(8,true),(9,true),(10,true)] (by kernel_rfl) (by kernel_rfl) (B4d) ?_
 iterate 11
  refine wpPlan_read (by rfl) (by rfl) (fun R hR=>?_)
  apply Exists.intro
  refine⟨fun w' hS'=>?_,?_⟩
  ·have ew:=EW.out
   have hc':=hc
   have k4:=(X.out.1.keep hS').cell 4
   have j4:=(Y.out.1.keep hS').cell 4
   simp only[List.getElem?_toArray,List.getElem?_cons_zero,List.getElem?_cons_succ] at k4 j4
   go_simp
   exact⟨rfl,rfl⟩
  go_simp
  refine hR _ ?_
  clear hR R
 refine wpPlan_nil ?_
 clear hc EW
 have ET:Hid (IntKind.u64.wrap (tot l+tot t)=tot l+tot t):=Lib.hid (by have:=HSM.out;rw[u64w];omega)
 go_upto_region 7 with fail
 have B4e:Below w.heap.size w w4.drew.drew:=B4d.drew
 refine wp_region_planT (Below w.heap.size w) 11 [(0,true),(1,true),(2,true),(3,true),(4,true),(5,true),(6,true),(7,true),(8,true),(9,true),(10,true)] (by kernel_rfl) (by kernel_rfl) (B4e) ?_
 iterate 11
  refine wpPlanT_read (by rfl) (by rfl) (fun R hR=>?_)
  apply Exists.intro
  refine⟨fun w' hS'=>?_,?_⟩
  ·have et:=ET.out
   have k4:=(X.out.1.keep hS').cell 4
   have j4:=(Y.out.1.keep hS').cell 4
   simp only[List.getElem?_toArray,List.getElem?_cons_zero,List.getElem?_cons_succ] at k4 j4
   go_simp
   exact⟨rfl,rfl⟩
  go_simp
  refine hR _ ?_
  clear hR R
 refine wpPlanT_nil ?_
 simp only[List.drop_succ_cons,List.drop_zero]
 have k4:=(X.out.1.keep B4e).cell 4
 have f4:=(X.out.1.keep B4e).frozen 4
 simp only[List.getElem?_toArray,List.getElem?_cons_zero,List.getElem?_cons_succ] at k4
 go_wp2_with fail
 refine calm_normal ?_
 obtain⟨w5,hw5⟩:∃z,(w4.setCell ⟨x,4,none⟩ (.int .u64 (tot l+tot t))).drew.drew=z:=⟨_,rfl⟩
 have X4:=X.out.1.keep B4
 have Z5:Hid (Blk w5 x 124 #[.pointer (some ⟨g,0,none⟩),.bool gr,.int .i64 bk,.map (some b),.int .u64 (tot l+tot t)]/\MpAt w5 g lo hi dg u m/\CtAt w5 b l/\CtAt w5 c t/\Touch F w w5/\w5.cell? ⟨y,2,none⟩=some (.int .i64 bt)/\w5.cell? ⟨y,3,none⟩=some (.map (some c))):=Lib.hid (by
  have y2:=(Y.out.1.keep B4).cell 2
  have y3:=(Y.out.1.keep B4).cell 3
  simp only[List.getElem?_toArray,List.getElem?_cons_zero,List.getElem?_cons_succ] at y2 y3
  rw[<-hw5]
  refine⟨X4.set_ 4 _,(Below.heap_setCell w4 ⟨x,4,none⟩ _ g (fun e=>hxg e.symm)).trans (Blk.keep X.out.2.1 B4),(X.out.2.2.1.keep B4).stay (Below.heap_setCell w4 ⟨x,4,none⟩ _ b (fun e=>hxb e.symm)),(Y.out.2.2.keep B4).stay (Below.heap_setCell w4 ⟨x,4,none⟩ _ c (fun e=>hxc e.symm)),(((Touch.of_below B4 (Nat.le_refl _)).setCell (p:=⟨x,4,none⟩) (.inl X.out.2.2.2.1) _).drew).drew,?_,?_⟩
  ·exact(World.cell?_setCell_other _ _ _ _ (by intro h;injection h with _ h;omega)).trans y2
  ·exact(World.cell?_setCell_other _ _ _ _ (by intro h;injection h with _ h;omega)).trans y3)
 rw[hw5]
 clear hw5 k4 f4 X4 B4e B4d
 go_upto_region 8 with fail
 have B5d:Below w5.heap.size w5 w5.drew:=(Below.refl _ _).drew
 have yl5:y<w5.heap.size:=by have:=Z5.out.2.2.2.2.1.size;omega
 refine wp_region_planT (Below w5.heap.size w5) 12 [(0,true),(1,true),(2,true),(3,true),(4,true),(5,true),(6,true),(7,true),(8,true),(9,true),(10,true),(11,true)] (by kernel_rfl) (by kernel_rfl) (B5d) ?_
 iterate 12
  refine wpPlanT_read (by rfl) (by rfl) (fun R hR=>?_)
  apply Exists.intro
  refine⟨fun w' hS'=>?_,?_⟩
  ·have k2:=(Z5.out.1.keep hS').cell 2
   have j2:=(hS'.cell (p:=⟨y,2,none⟩) yl5).trans Z5.out.2.2.2.2.2.1
   simp only[List.getElem?_toArray,List.getElem?_cons_zero,List.getElem?_cons_succ] at k2
   go_simp
   exact⟨rfl,rfl⟩
  go_simp
  refine hR _ ?_
  clear hR R
 refine wpPlanT_nil ?_
 simp only[List.drop_succ_cons,List.drop_zero]
 have k2:=(Z5.out.1.keep B5d).cell 2
 have f2:=(Z5.out.1.keep B5d).frozen 2
 simp only[List.getElem?_toArray,List.getElem?_cons_zero,List.getElem?_cons_succ] at k2
 go_wp2_with fail
 refine calm_normal ?_
 obtain⟨w6,hw6⟩:∃z,(w5.setCell ⟨x,2,none⟩ (.int .i64 (max (bk:Int) (bt:Int)))).drew=z:=⟨_,rfl⟩
 have Z6:Hid (Blk w6 x 124 #[.pointer (some ⟨g,0,none⟩),.bool gr,.int .i64 ((max bk bt:Nat):Int),.map (some b),.int .u64 (tot l+tot t)]/\MpAt w6 g lo hi dg u m/\CtAt w6 b l/\CtAt w6 c t/\Touch F w w6/\w6.cell? ⟨y,3,none⟩=some (.map (some c))):=Lib.hid (by
  obtain⟨z1,z2,z3,z4,z5,_,z7⟩:=Z5.out
  have e:max (bk:Int) (bt:Int)=((max bk bt:Nat):Int):=by omega
  rw[<-hw6,e]
  exact⟨z1.set_ 2 _,(Below.heap_setCell w5 ⟨x,2,none⟩ _ g (fun e=>hxg e.symm)).trans z2,z3.stay (Below.heap_setCell w5 ⟨x,2,none⟩ _ b (fun e=>hxb e.symm)),z4.stay (Below.heap_setCell w5 ⟨x,2,none⟩ _ c (fun e=>hxc e.symm)),(z5.setCell (p:=⟨x,2,none⟩) (.inl X.out.2.2.2.1) _).drew,(World.cell?_setCell_other _ _ _ _ (by intro h;injection h with _ h;omega)).trans z7⟩)
 rw[hw6]
 clear hw6 k2 f2 B5d yl5 Z5
 go_wp2_with fail
 refine(pairs_cell w6 Z6.out.2.2.2.2.2 Z6.out.2.2.2.1 OK.out.2).mono ?_
 rintro e w7 ⟨v7,rfl,o7,hb7⟩
 obtain⟨A7,c7,rfl,_,_,hf7⟩:=o7.form
 have HF7:=Lib.hid hf7
 have hbl:b<w6.heap.size:=Z6.out.2.2.1.lt
 have Z7:Hid (CtAt w7 b l/\Touch F w w7/\Blk w7 x 124 #[.pointer (some ⟨g,0,none⟩),.bool gr,.int .i64 ((max bk bt:Nat):Int),.map (some b),.int .u64 (tot l+tot t)]/\MpAt w7 g lo hi dg u m):=Lib.hid ⟨Z6.out.2.2.1.keep hb7,tbl Z6.out.2.2.2.2.1 hb7,Z6.out.1.keep hb7,Blk.keep Z6.out.2.1 hb7⟩
 have O7:=Lib.hid o7
 clear o7 hf7
 go_wp2_with fail
 go_loopg [64] t.length (fun q s wr=>∃j:Nat,q=t.length - j/\j<=t.length/\s=.int .i64 j/\Hid (CtAt wr b (mrgP l (t.take j)))/\Hid (Touch (fun k=>k=b) w7 wr))
 case atStart=>exact⟨0,rfl,by omega,rfl,Lib.hid (by rw[List.take_zero,mrg_nil];exact Z7.out.1),Lib.hid (Touch.refl _ _)⟩
 case round=>
  obtain⟨j,hq,hj,rfl,HCj,HTj⟩:=hrel
  have HQ:=Lib.hid hq
  clear hq
  by_cases hlt:j<t.length
  ·obtain⟨gp,off,rfl,hgp,c0,c1⟩:=pr_at HF7.out hlt
   have hgb':gp≠b:=fun e=>by have:=(O7.out.lt gp rfl).1;omega
   have c0:=(tcell HTj.out (off+j * 2) hgp hgb').trans c0
   have c1:=(tcell HTj.out (off+j * 2+1) hgp hgb').trans c1
   have hji:(j:Int)<(t.length:Int):=by omega
   obtain⟨z,hz⟩:∃z,t[j].1=z:=⟨_,rfl⟩
   obtain⟨n,hn⟩:∃n,t[j].2=n:=⟨_,rfl⟩
   rw[hz] at c0
   rw[hn] at c1
   go_upto_region 12 with fail
   have hmem:t[j]∈t:=List.getElem_mem hlt
   have hn0:0<n:=by rw[<-hn];exact OK.out.2.pos _ hmem
   have hzb:0<=z/\z<=16777216:=by rw[<-hz];exact OK.out.2.kb _ hmem
   have hsrt:SrtP (mrgP l (t.take j)):=mrg_srt OK.out.1.srt
   have hpos:PosP (mrgP l (t.take j)):=mrg_pos OK.out.1.pos (fun p hp=>OK.out.2.pos p (List.mem_of_mem_take hp))
   have hlen:(mrgP l (t.take j)).length<=1000000000:=by
    have h1:=mrg_len (t.take j) l
    have h2:=List.length_take_le j t
    omega
   have hcn:=cn_le_tot hsrt hpos z
   rw[tot_mrg] at hcn
   have hts:=tot_take_succ hlt
   rw[hn] at hts
   have htl:=tot_take_le OK.out.2.pos (j+1)
   have hsm:=HSM.out
   have hstep:mrgP l (t.take (j+1))=putP z n (mrgP l (t.take j)):=by rw[List.take_succ_eq_append_getElem hlt,mrg_snoc,hz,hn]
   have HSTEP:=Lib.hid hstep
   have hcb:cnP (mrgP l (t.take j)) z+n<=4611686018427387904:=by omega
   have CJ:=HCj
   have hxr:x<wr.heap.size:=by have:=HTj.out.size;have:=hb7.size;have:=Z6.out.1.lt;omega
   have K3:Hid (wr.cell? ⟨x,3,none⟩=some (.map (some b))):=Lib.hid (by
    have k:=Z7.out.2.2.1.cell 3
    simp only[List.getElem?_toArray,List.getElem?_cons_zero,List.getElem?_cons_succ] at k
    exact(tcell HTj.out 3 (by have:=hb7.size;have:=Z6.out.1.lt;omega) hxb).trans k)
   have PB:Hid (Blk (wr.alloc (.cells #[.int .i64 z,.int .u64 n] 136)) wr.heap.size 136 #[.int .i64 z,.int .u64 n]):=Lib.hid (Blk.new _ _ _)
   have hba:Below wr.heap.size wr (wr.alloc (.cells #[.int .i64 z,.int .u64 n] 136)):=by(repeat' (first|(with_reducible exact Below.refl _ _)|(with_reducible refine Below.alloc ?_ ?_ _)|(with_reducible refine Below.drew ?_)|(with_reducible refine below_drewN ?_ _)|(with_reducible refine Below.setCell ?_ ?_ _)|(with_reducible refine below_of (by assumption) ?_ ?_)|go_size))
   obtain⟨wp,hwp⟩:∃wp,wr.alloc (.cells #[.int .i64 z,.int .u64 n] 136)=wp:=⟨_,rfl⟩
   obtain⟨q0,hq0⟩:∃q0,wr.heap.size=q0:=⟨_,rfl⟩
   rw[hwp] at PB hba |-
   rw[hq0] at PB |-
   have EN:Hid (IntKind.u64.wrap (cnP (mrgP l (t.take j)) z+n)=cnP (mrgP l (t.take j)) z+n):=Lib.hid (by rw[u64w];omega)
   have PZ:=Lib.hid (And.intro hsrt (And.intro hpos (And.intro hlen hcb)))
   clear hwp c0 c1 hstep hts htl hsm hsrt hpos hlen hcb hcn
   obtain⟨M,hM⟩:∃M,mrgP l (t.take j)=M:=⟨_,rfl⟩
   rw[hM] at EN PZ CJ HSTEP
   clear hM HCj
   have Bpd:Below wp.heap.size wp wp.drew:=(Below.refl _ _).drew
   have hqz:wr.heap.size<=q0:=by omega
   clear hq0
   have hxp:x<wp.heap.size:=by have:=hba.size;omega
   have hql:=PB.out.lt
   refine wp_region_planT (Below wp.heap.size wp) 10 [(0,true),(1,true),(2,true),(3,true),(4,true),(5,true),(7,true),(8,true),(6,true),(9,true)] (by kernel_rfl) (by kernel_rfl) (Bpd) ?_
   iterate 10
    refine wpPlanT_read (by rfl) (by rfl) (fun R hR=>?_)
    apply Exists.intro
    refine⟨fun w' hS'=>?_,?_⟩
    ·have en:=EN.out
     have k3:=(hS'.cell (p:=⟨x,3,none⟩) hxp).trans ((hba.cell (p:=⟨x,3,none⟩) hxr).trans K3.out)
     have p0:=(PB.out.keep hS').cell 0
     have p1:=(PB.out.keep hS').cell 1
     have hlk:=((CJ.out.keep hba).keep hS').look (k:=z) (by omega) (by omega)
     simp only[List.getElem?_toArray,List.getElem?_cons_zero,List.getElem?_cons_succ] at p0 p1
     go_simp
     exact⟨rfl,rfl⟩
    go_simp
    refine hR _ ?_
    clear hR R
   refine wpPlanT_nil ?_
   simp only[List.drop_succ_cons,List.drop_zero]
   go_wp2_with (at_mapUpdate;refine upL rfl _ _ _ rfl ((CJ.out.keep hba).keep Bpd) PZ.out.1 PZ.out.2.1 PZ.out.2.2.1 (by omega) (by omega) hn0 (by have:=PZ.out.2.2.2;omega) rfl rfl rfl ?_;intro w8 C8 hg8)
   refine calm_normal ?_
   go_wp2_with fail
   go_roundg (t.length - (j+1))
   case measure=>have:=HQ.out;omega
   case rel=>exact⟨j+1,rfl,by omega,by go_num,Lib.hid (by rw[HSTEP.out];exact C8),Lib.hid ((HTj.out.trans ((Touch.of_below hba (Nat.le_refl _)).trans ((Touch.of_below Bpd (Nat.le_refl _)).trans (touch_map (F:=fun k=>k=b) rfl hg8) (fun _ h=>.inl h)) (fun _ h=>.inl h)) (fun _ h=>.inl h)))⟩
  ·obtain rfl:j=t.length:=by omega
   have HC9:=HCj
   rw[List.take_of_length_le (Nat.le_refl _)] at HC9
   go_wp2_with fail
   go_ret
   obtain⟨_,T7,B7,M7⟩:=Z7.out
   have T9:Touch F w wr:=T7.trans HTj.out (fun k h=>by cases h;exact .inl X.out.2.2.2.2.2.1)
   have B9:Blk wr x 124 #[.pointer (some ⟨g,0,none⟩),.bool gr,.int .i64 ((max bk bt:Nat):Int),.map (some b),.int .u64 (tot l+tot t)]:=(HTj.out.block x B7.lt hxb).trans B7
   rw[<-tot_mrg] at B9
   exact⟨rfl,⟨g,b,B9,(HTj.out.block g (Blk.lt M7) hgb).trans M7,HC9.out,.inl X.out.2.2.2.1,.inl X.out.2.2.2.2.1,.inl X.out.2.2.2.2.2.1,gr_lt X.out.2.2.2.2.2.2 T9.size⟩,T9⟩
end
open Go.RowKit Go.Lib Go.Shelf
open Go.RowKit Go.Lib Go.Shelf
def KeptB(g:Nat)(w w':World):Prop:=∀k T cs,Blk w k T cs->T≠5->k≠g->Blk w' k T cs
theorem ct1_any(x:Int)(g base:Nat)(bs:List Int)(w:World)(h:Wr 44 base w g bs)(h0:-9223372036854775808<=x)(h1:x<=9223372036854775807)(hl:bs.length<=1000000000000) :
 Calls Tryz.prog 278 #[.int .i64 x,.pointer (some ⟨g,0,none⟩)] w fun e w'=>e=.returned (.tuple #[])/\Wr 44 base w' g (bs++nn x)/\Below base w w'/\KeptB g w w':=by
 have hlt:=h.lt
 have H:=Lib.hid h
 have CP:Hid (∀(v:Value) (w1:World),RdI .u64 w1 v [ub x]->_):=Lib.hid (fun v w1 hr=>putn_any x v w1 hr h0 h1)
 have HU:Hid (IntKind.u64.wrap x=ub x):=Lib.hid rfl
 have hnl:=nn_len x
 clear h
 generalize nn x=N at *
 generalize ub x=u at *
 have hu:=HU.out
 go_enter Tryz.func278,Tryz.ntmps278
 go_wp2_with fail
 refine(CP.out _ _ (RdI.one_at _ _ _ _ _ rfl)).mono ?_
 rintro e w1 ⟨v1,rfl,o1,hb1⟩
 have hbA:Below base w (w.alloc (.cells #[.int .u64 u] 41)):=(Below.refl _ _).alloc (by omega) _
 have hbB:Below base w w1:=hbA.trans (hb1.mono (by simp;omega))
 obtain⟨hbg,v2,B2,O2⟩:=(H.out.keep ((Below.refl w.heap.size w).alloc (Nat.le_refl _) (.cells #[.int .u64 u] 41))).keep hb1
 have O1:=Lib.hid o1
 have HB2:=Lib.hid (And.intro B2 (And.intro hbg O2))
 have k0:=B2.cell 0
 simp only[List.getElem?_toArray,List.getElem?_cons_zero] at k0
 clear hu B2 O2 o1
 have hz1:=hbB.size
 go_wp2_with (at_builtin;refine apL tyB rfl (.tmp 12) (.tmp 13) rfl (ownB_E.1 HB2.out.2.2) rfl _ N rfl (ownB_E.1 O1.out).rd (by omega) (by omega) ?_;intro v6 w6 o6 g6 _;have P6:=Lib.hid (put_back (i:=0) HB2.out.1 (ownB_E.1 HB2.out.2.2) (by decide) g6 o6);have B6:=blk_grown HB2.out.1 (ownB_E.1 HB2.out.2.2) (by decide) g6;have KB6:Hid (∀k T cs,Blk w k T cs->T≠5->Blk w6 k T cs):=Lib.hid (fun k T cs hk hT=>blk_grown ((Blk.alloc hk (.cells #[.int .u64 u] 41)).keep hb1) (ownB_E.1 HB2.out.2.2) hT g6);have hb6:Below base w w6:=hbB.grown g6 (by omega) (fun k hk=>(OwnE.lt (ownB_E.1 HB2.out.2.2) k hk).1);have k0:=B6.cell 0;have f0:=B6.frozen 0;simp only[List.getElem?_toArray,List.getElem?_cons_zero] at k0;obtain⟨A6,c6,ev6,_,_,_⟩:=o6.form;obtain⟨n6,hn6⟩:∃z,(bs++N).length=z:=⟨_,rfl⟩;rw[hn6] at ev6;subst ev6;clear hn6 o6 g6)
 refine bodyPost_end (v:=.tuple #[]) (by simp[results,Tryz.results278,go_sem, *];try rfl) rfl ?_
 exact⟨rfl,⟨hbg,_,P6.out.1,ownB_E.2 P6.out.2⟩,hb6.setCell (by omega) _,fun k T cs hk hT hne=>(Below.heap_setCell w6 ⟨g,0,none⟩ _ k hne).trans (KB6.out k T cs hk hT)⟩
theorem ct2_any(n:Int)(g gp base:Nat)(bs:List Int)(w:World)(h:Wr 44 base w g bs)(hp:w.cell? ⟨gp,0,none⟩=some (.func (.func 278) #[] #[.pointer (some ⟨g,0,none⟩)]))(h0:-9223372036854775808<n)(h1:n<=9223372036854775807)(hl:bs.length<=1000000000000) :
 Calls Tryz.prog 279 #[.int .i64 n,.pointer (some ⟨gp,0,none⟩)] w fun e w'=>e=.returned (.tuple #[])/\Wr 44 base w' g (bs++nnB (gapN n))/\Below base w w'/\KeptB g w w':=by
 have H:=Lib.hid h
 have C0:=Lib.hid (ct1_any 0 g base bs w h (by omega) (by omega) hl)
 have CN:=Lib.hid (ct1_any (-n) g base bs w h (by omega) (by omega) hl)
 clear h
 by_cases n1:n=1
 ·subst n1
  have e:nnB (gapN 1)=nn 0:=by decide +kernel
  rw[e]
  go_enter Tryz.func279,Tryz.ntmps279
  go_wp2_with fail
  refine(C0.out).mono ?_
  rintro e w1 ⟨rfl,k1,k2,k3⟩
  go_wp2_with fail
  refine bodyPost_end (v:=.tuple #[]) (by simp[results,Tryz.results279,go_sem, *];try rfl) rfl ?_
  exact⟨rfl,k1,k2,k3⟩
 ·have n1':(n == 1)=false:=by simpa using n1
  by_cases n2:1<n
  ·have e:nnB (gapN n)=nn (-n):=by
    unfold gapN;rw[if_neg n1,if_pos n2];simp[nnB]
   have EW:Hid (IntKind.i64.wrap (-n)=-n):=Lib.hid (by rw[IntKind.wrap_i64];omega)
   have ew:=EW.out
   rw[e]
   go_enter Tryz.func279,Tryz.ntmps279
   go_wp2_with fail
   refine(CN.out).mono ?_
   rintro e w1 ⟨rfl,k1,k2,k3⟩
   go_wp2_with fail
   refine bodyPost_end (v:=.tuple #[]) (by simp[results,Tryz.results279,go_sem, *];try rfl) rfl ?_
   exact⟨rfl,k1,k2,k3⟩
  ·have e:nnB (gapN n)=[]:=by
    unfold gapN;rw[if_neg n1,if_neg n2];rfl
   rw[e,List.append_nil]
   go_enter Tryz.func279,Tryz.ntmps279
   go_wp2_with fail
   refine bodyPost_end (v:=.tuple #[]) (by simp[results,Tryz.results279,go_sem, *];try rfl) rfl ?_
   exact⟨rfl,H.out,Below.refl _ _,fun _ _ _ h _ _=>h⟩
theorem nmB_snoc:∀(l:List Pr) (a:Int) (p:Pr),nmB a (l++[p])=nmB a l++(gapN (p.1 - endH a l)++[p.2])
 | [],_,_=>by simp[nmB,endH]
 | q::l,a,p=>by rw[List.cons_append,nmB,nmB_snoc l,nmB,endH,List.append_assoc];rfl
theorem endH_snoc:∀(l:List Pr) (a:Int) (p:Pr),endH a (l++[p])=p.1+1
 | [],_,_=>rfl
 | q::l,a,p=>by rw[List.cons_append,endH,endH_snoc l]
theorem endH_bd{l:List Pr}(h:∀p∈l,0<=p.1/\p.1<=16777216):∀(a:Int),0<=a->a<=16777217->0<=endH a l/\endH a l<=16777217:=by
 induction l with
 | nil=>intro a h0 h1;exact⟨h0,h1⟩
 | cons p l ih=>
  intro a h0 h1
  have:=h p (List.mem_cons_self ..)
  exact ih (fun q hq=>h q (List.mem_cons_of_mem _ hq)) _ (by omega) (by omega)
theorem counts_any{lo hi dg u m bk:Nat}{gr:Bool}{l:List Pr}(v:Value)(w:World)(h:RdE prE w v l)(ok:HsOk lo hi dg u m gr bk l):Calls Tryz.prog 201 #[v] w fun e w'=>∃v',e=.returned v'/\OwnB w.heap.size w' v' (cntA l)/\Below w.heap.size w w':=by
 obtain⟨A,c,rfl,_,_,hf⟩:=h.form
 have HF:=Lib.hid hf
 have PB:=Lib.hid ok.pb
 have hlen:=ok.len
 have KB:=Lib.hid ok.kb
 clear h hf ok
 go_enter Tryz.func201,Tryz.ntmps201
 go_wp2_with fail
 obtain⟨g,hg⟩:∃g,w.heap.size=g:=⟨_,rfl⟩
 obtain⟨w2,hw2⟩:∃w2,(w.alloc (.cells #[.slice none 0 0] 44)).alloc (.cells #[.func (.func 278) #[] #[.pointer (some ⟨w.heap.size,0,none⟩)]] 379)=w2:=⟨_,rfl⟩
 have W0:Hid (Wr 44 w.heap.size w2 g []):=by rw[<-hw2,<-hg];exact Lib.hid ((Wr.new _ w w.heap.size (Nat.le_refl _)).keep ((Below.refl _ _).alloc (Nat.le_refl _) _))
 have P0:Hid (Blk w2 (g+1) 379 #[.func (.func 278) #[] #[.pointer (some ⟨g,0,none⟩)]]):=by
  rw[<-hw2,<-hg]
  have:=Blk.new (w.alloc (.cells #[.slice none 0 0] 44)) 379 #[.func (.func 278) #[] #[.pointer (some ⟨w.heap.size,0,none⟩)]]
  rw[World.size_alloc] at this
  exact Lib.hid this
 have hb2:Below w.heap.size w w2:=by rw[<-hw2];(repeat' (first|(with_reducible exact Below.refl _ _)|(with_reducible refine Below.alloc ?_ ?_ _)|(with_reducible refine Below.drew ?_)|(with_reducible refine below_drewN ?_ _)|(with_reducible refine Below.setCell ?_ ?_ _)|(with_reducible refine below_of (by assumption) ?_ ?_)|go_size))
 rw[hw2,hg]
 clear hw2
 have HG:=Lib.hid hg
 go_loopg [6,13] l.length (fun q s i wr=>∃j:Nat,q=l.length - j/\j<=l.length/\i=.int .i64 j/\s=.int .i64 (endH 0 (l.take j))/\Hid (Wr 44 g wr g (nnB (nmB 0 (l.take j))))/\Hid (Blk wr (g+1) 379 #[.func (.func 278) #[] #[.pointer (some ⟨g,0,none⟩)]])/\Below g w wr)
 case atStart=>exact⟨0,rfl,by omega,rfl,rfl,by rw[List.take_zero];rw[hg] at W0;exact W0,P0,by rw[hg] at hb2;exact hb2⟩
 case round=>
  obtain⟨j,hq,hj,rfl,rfl,HW,HP,hb⟩:=hrel
  have HQ:=Lib.hid hq
  have hz:=hb.size
  clear hq
  by_cases hlt:j<l.length
  ·obtain⟨gp,off,rfl,hgp,c0,c1⟩:=pr_at HF.out hlt
   have hb':Below w.heap.size w wr:=by rw[hg];exact hb
   have c0:=(hb'.cell (p:=⟨gp,off+j * 2,none⟩) hgp).trans c0
   have c1:=(hb'.cell (p:=⟨gp,off+j * 2+1,none⟩) hgp).trans c1
   have hji:(j:Int)<(l.length:Int):=by omega
   have hbd:=PB.out _ (List.getElem_mem hlt)
   have hed:=endH_bd (l:=l.take j) (fun p hp=>KB.out p (List.mem_of_mem_take hp)) 0 (by omega) (by omega)
   have hnl:=nnB_len (nmB 0 (l.take j))
   have hnm:=nmB_len (l.take j) 0
   have htl:(l.take j).length<=16777217:=by rw[List.length_take];omega
   have HTK:Hid (nnB (nmB 0 (l.take (j+1)))=nnB (nmB 0 (l.take j))++nnB (gapN (l[j].1 - endH 0 (l.take j)))++nn l[j].2/\endH 0 (l.take (j+1))=l[j].1+1):=Lib.hid (by
    rw[List.take_succ_eq_append_getElem hlt,nmB_snoc,endH_snoc,nnB_append,nnB_append,List.append_assoc]
    refine⟨?_,rfl⟩
    congr 2
    simp[nnB])
   generalize l[j].1=x at *
   generalize l[j].2=n at *
   generalize endH 0 (l.take j)=at_ at *
   generalize nnB (nmB 0 (l.take j))=BS at *
   have EX:Hid (IntKind.i64.wrap (x - at_)=x - at_/\wrap64 n=n/\IntKind.i64.wrap (x+1)=x+1):=Lib.hid ⟨by rw[IntKind.wrap_i64];omega,by unfold wrap64;omega,by rw[IntKind.wrap_i64];omega⟩
   have hgl:=gapN_len (x - at_)
   have hgl2:=nnB_len (gapN (x - at_))
   have C2:Hid (∀w3,Wr 44 g w3 g BS->w3.cell? ⟨g+1,0,none⟩=some (.func (.func 278) #[] #[.pointer (some ⟨g,0,none⟩)])->_):=Lib.hid (fun w3 h3 k3=>ct2_any (x - at_) g (g+1) g BS w3 h3 k3 (by omega) (by omega) (by omega))
   have C1:Hid (∀w3,Wr 44 g w3 g (BS++nnB (gapN (x - at_)))->_):=Lib.hid (fun w3 h3=>ct1_any n g g (BS++nnB (gapN (x - at_))) w3 h3 (by omega) (by omega) (by rw[List.length_append];omega))
   go_upto_region 8 with fail
   obtain⟨q0,hq0⟩:∃q0,wr.heap.size=q0:=⟨_,rfl⟩
   obtain⟨wp,hwp⟩:∃wp,wr.alloc (.cells #[.int .i64 x,.int .u64 n] 136)=wp:=⟨_,rfl⟩
   have PQ:Hid (Blk wp q0 136 #[.int .i64 x,.int .u64 n]):=by rw[<-hwp,<-hq0];exact Lib.hid (Blk.new _ _ _)
   have hba:Below wr.heap.size wr wp:=by rw[<-hwp];(repeat' (first|(with_reducible exact Below.refl _ _)|(with_reducible refine Below.alloc ?_ ?_ _)|(with_reducible refine Below.drew ?_)|(with_reducible refine below_drewN ?_ _)|(with_reducible refine Below.setCell ?_ ?_ _)|(with_reducible refine below_of (by assumption) ?_ ?_)|go_size))
   rw[hwp,hq0]
   have hgq:g<q0:=by have:=HW.out.lt;omega
   clear hwp hq0 c0 c1
   have WP:=Lib.hid (HW.out.keep hba)
   have PP:=Lib.hid (HP.out.keep hba)
   have k0:=PP.out.cell 0
   have p0:=PQ.out.cell 0
   simp only[List.getElem?_toArray,List.getElem?_cons_zero] at k0 p0
   obtain⟨e1,e2,e3⟩:=EX.out
   go_wp2_with fail
   refine(C2.out wp WP.out k0).mono ?_
   rintro e w3 ⟨rfl,W3,hb3,K3⟩
   have P3:=Lib.hid (K3 _ _ _ PP.out (by decide) (by omega))
   have Q3:=Lib.hid (K3 _ _ _ PQ.out (by decide) (by omega))
   have HW3:=Lib.hid W3
   clear W3 K3 k0 p0
   have k0:=P3.out.cell 0
   have p1:=Q3.out.cell 1
   simp only[List.getElem?_toArray,List.getElem?_cons_zero,List.getElem?_cons_succ] at k0 p1
   go_wp2_with fail
   refine(C1.out w3 HW3.out).mono ?_
   rintro e w4 ⟨rfl,W4,hb4,K4⟩
   have P4:=Lib.hid (K4 _ _ _ P3.out (by decide) (by omega))
   have Q4:=Lib.hid (K4 _ _ _ Q3.out (by decide) (by omega))
   have HW4:=Lib.hid W4
   clear W4 K4 k0 p1
   have p0:=Q4.out.cell 0
   simp only[List.getElem?_toArray,List.getElem?_cons_zero] at p0
   go_wp2_with fail
   go_roundg (l.length - (j+1))
   case measure=>have:=HQ.out;omega
   case rel=>exact⟨j+1,rfl,by omega,by go_num,by rw[HTK.out.2],by rw[HTK.out.1];exact HW4,P4,((hb.trans (hba.mono (by omega))).trans hb3).trans hb4⟩
  ·obtain rfl:j=l.length:=by omega
   have HW9:=HW
   rw[List.take_of_length_le (Nat.le_refl _)] at HW9
   clear HW
   by_cases hl0:l.length=0
   ·have e:l=[]:=List.eq_nil_of_length_eq_zero hl0
    subst e
    have C0:=Lib.hid (ct1_any 0 g g [] wr HW9.out (by omega) (by omega) (by simp))
    have k0:=HP.out.cell 0
    simp only[List.getElem?_toArray,List.getElem?_cons_zero] at k0
    go_wp2_with fail
    refine(C0.out).mono ?_
    rintro e w4 ⟨rfl,W4,hb4,K4⟩
    obtain⟨_,v4,B4,O4⟩:=W4
    have k1:=B4.cell 0
    simp only[List.getElem?_toArray,List.getElem?_cons_zero] at k1
    go_wp2_with fail
    go_ret
    exact⟨_,rfl,by rw[hg];simpa[cntA,nmA,nnB] using O4,by rw[hg];exact hb.trans hb4⟩
   ·have hl1:((l.length:Int) == 0)=false:=by simpa using hl0
    obtain⟨_,v4,B4,O4⟩:=HW9.out
    have k1:=B4.cell 0
    simp only[List.getElem?_toArray,List.getElem?_cons_zero] at k1
    have HO4:=Lib.hid O4
    clear B4 O4
    go_wp2_with fail
    go_ret
    have hne:l≠[]:=fun e=>hl0 (by rw[e];rfl)
    exact⟨_,rfl,by rw[hg];unfold cntA nmA;rw[if_neg hne];exact HO4.out,by rw[hg];exact hb⟩
end Go.Proofs.YtingnldfpokckaaGreat.D
