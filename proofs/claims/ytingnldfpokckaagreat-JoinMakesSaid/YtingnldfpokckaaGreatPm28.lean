/- Parts of a proof: what its theorem reaches, words cut short. No condition of its own. -/
import Derived.Test.YtingnldfpokckaaGreatPm27
set_option maxRecDepth 100000
set_option maxHeartbeats 16000000
set_option linter.unusedVariables false
set_option linter.unusedSimpArgs false
namespace Go.Proofs.YtingnldfpokckaaGreat.D
open Go.RowKit Go.Lib Go.Shelf
def HsAt(x lo hi dg u m:Nat)(gr:Bool)(bk:Nat)(l:List Pr)(F:Ft)(w:World):Prop:=∃g b,Blk w x 124 #[.pointer (some ⟨g,0,none⟩),.bool gr,.int .i64 bk,.map (some b),.int .u64 (tot l)]/\MpAt w g lo hi dg u m/\CtAt w b l/\F x/\F g/\F b/\∀k,F k->k<w.heap.size
theorem hs_stay(x lo hi dg u m:Nat)(gr:Bool)(bk:Nat)(l:List Pr):Stay (HsAt x lo hi dg u m gr bk l) where
 stay:=fun⟨g,b,h1,h2,h3,h4,h5,h6,h7⟩ hk hz=>⟨g,b,(hk x h4).trans h1,(hk g h5).trans h2,h3.stay (hk b h6),h4,h5,h6,fun k h=>Nat.lt_of_lt_of_le (h7 k h) hz⟩
 more:=fun⟨g,b,h1,h2,h3,h4,h5,h6,_⟩ h hl=>⟨g,b,h1,h2,h3,h x h4,h g h5,h b h6,hl⟩
 low:=fun⟨_,_,_,_,_,_,_,_,h7⟩=>h7
theorem hdr_hi(a b c:Int)(w:World):(Instr.field 23 (.agg #[.int .i64 a,.int .i64 b,.int .i64 c]) 1).run Tryz.prog w=.ok (.int .i64 b) w:=by kernel_rfl
section
variable {x lo hi dg u m bk : Nat} {gr : Bool} {l : List Pr} {F : Ft}
theorem hs_shape(w:World)(h:HsAt x lo hi dg u m gr bk l F w):Calls Tryz.prog 24 #[.pointer (some ⟨x,0,none⟩)] w fun e w'=>e=.returned (.agg #[.int .i64 lo,.int .i64 hi,.int .i64 dg])/\Below w.heap.size w w':=by
 obtain⟨g,bb,hB,hM,_⟩:=h
 have C:Hid (∀w1,Below w.heap.size w w1->_):=Lib.hid (fun w1 hb=>mshape_any (w:=w1) (Blk.keep hM hb))
 obtain⟨b,hbb⟩:∃b,w.heap.size=b:=⟨_,rfl⟩
 obtain⟨w1,hw1⟩:∃w1,w.alloc (.cells #[.int .i64 0,.int .i64 0,.int .i64 0] 23)=w1:=⟨_,rfl⟩
 have hb1:Below w.heap.size w w1:=by rw[<-hw1];(repeat' (first|(with_reducible exact Below.refl _ _)|(with_reducible refine Below.alloc ?_ ?_ _)|(with_reducible refine Below.drew ?_)|(with_reducible refine below_drewN ?_ _)|(with_reducible refine Below.setCell ?_ ?_ _)|(with_reducible refine below_of (by assumption) ?_ ?_)|go_size))
 have B1:Blk w1 b 23 #[.int .i64 0,.int .i64 0,.int .i64 0]:=by rw[<-hw1,<-hbb];exact Blk.new _ _ _
 have k0:=(hB.keep hb1).cell 0
 simp only[List.getElem?_toArray,List.getElem?_cons_zero] at k0
 have X:=Lib.hid (And.intro hb1 (And.intro B1 hbb))
 clear hM hB B1 hb1
 go_enter Tryz.func24,Tryz.ntmps24
 go_upto_region 1 with fail
 clear hw1 hbb
 go_wp2_with fail
 refine(C.out w1 X.out.1).mono ?_
 rintro e w2 ⟨rfl,hb2⟩
 have B2:=X.out.2.1.keep hb2
 have f0:=B2.frozen 0
 have f1:=B2.frozen 1
 have f2:=B2.frozen 2
 have j0:=B2.cell 0
 have j1:=B2.cell 1
 have j2:=B2.cell 2
 simp only[List.getElem?_toArray,List.getElem?_cons_zero,List.getElem?_cons_succ] at j0 j1 j2
 have HB2:=Lib.hid (And.intro B2 hb2)
 clear B2 hb2
 go_wp2_with fail
 have hlt:=HB2.out.1.lt
 have c0:=(((HB2.out.1.set_ 0 (.int .i64 lo)).set_ 1 (.int .i64 hi)).set_ 2 (.int .i64 dg)).cell 0
 have c1:=(((HB2.out.1.set_ 0 (.int .i64 lo)).set_ 1 (.int .i64 hi)).set_ 2 (.int .i64 dg)).cell 1
 have c2:=(((HB2.out.1.set_ 0 (.int .i64 lo)).set_ 1 (.int .i64 hi)).set_ 2 (.int .i64 dg)).cell 2
 simp only[List.setIfInBounds_toArray,List.set_cons_zero,List.set_cons_succ,List.getElem?_toArray,List.getElem?_cons_zero,List.getElem?_cons_succ] at c0 c1 c2
 refine bodyPost_ret (by simp[results,Tryz.results24,go_sem, *];try rfl) rfl ?_
 have hbb:=X.out.2.2
 have hb12:=X.out.1.trans (HB2.out.2.mono X.out.1.size)
 exact⟨rfl,((hb12.setCell (p:=⟨b,0,none⟩) (by show _<=b;omega) _).setCell (p:=⟨b,1,none⟩) (by show _<=b;omega) _).setCell (p:=⟨b,2,none⟩) (by show _<=b;omega) _⟩
theorem hs_grows(w:World)(h:HsAt x lo hi dg u m gr bk l F w):Calls Tryz.prog 25 #[.pointer (some ⟨x,0,none⟩)] w fun e w'=>e=.returned (.bool gr)/\w=w':=by
 obtain⟨g,b,hB,_⟩:=h
 have k1:=hB.cell 1
 simp only[List.getElem?_toArray,List.getElem?_cons_zero,List.getElem?_cons_succ] at k1
 clear hB
 go_enter Tryz.func25,Tryz.ntmps25
 go_wp2_with fail
 go_ret
 exact⟨rfl,rfl⟩
theorem hs_total(w:World)(h:HsAt x lo hi dg u m gr bk l F w):Calls Tryz.prog 54 #[.pointer (some ⟨x,0,none⟩)] w fun e w'=>e=.returned (.int .u64 (tot l))/\w=w':=by
 obtain⟨g,b,hB,_⟩:=h
 have k1:=hB.cell 4
 simp only[List.getElem?_toArray,List.getElem?_cons_zero,List.getElem?_cons_succ] at k1
 clear hB
 go_enter Tryz.func54,Tryz.ntmps54
 go_wp2_with fail
 go_ret
 exact⟨rfl,rfl⟩
theorem hs_first(w:World)(h:HsAt x lo hi dg u m gr bk l F w)(ok:HdOk lo hi dg u m):Calls Tryz.prog 216 #[.pointer (some ⟨x,0,none⟩)] w fun e w'=>e=.returned (.int .i64 ((1+bkN u m hi:Nat):Int))/\Below w.heap.size w w':=by
 obtain⟨g,b,hB,hM,_⟩:=h
 have C1:Hid (∀w1,Below w.heap.size w w1->_):=Lib.hid (fun w1 hb=>mshape_any (w:=w1) (Blk.keep hM hb))
 have C2:Hid (∀w1,Below w.heap.size w w1->_):=Lib.hid (fun w1 hb=>mbuckets_any (w:=w1) hi (Blk.keep hM hb) ok.um (by have:=ok.h1;omega))
 have HB:=Lib.hid hB
 clear hM hB ok
 generalize 1+bkN u m hi=R at *
 go_enter Tryz.func216,Tryz.ntmps216
 go_wp2_with fail
 refine wp_region_plan (Below w.heap.size w) [(0,true),(1,true),(2,true),(3,true),(4,true),(5,true),(6,true),(7,true),(8,false),(9,true),(10,false),(11,true)] (by kernel_rfl) (by kernel_rfl) ((Below.refl _ _).drew) ?_
 iterate 8
  refine wpPlan_read (by rfl) (by rfl) (fun R hR=>?_)
  apply Exists.intro
  refine⟨fun w' hS'=>?_,?_⟩
  ·have k0:=(HB.out.keep hS').cell 0
   simp only[List.getElem?_toArray,List.getElem?_cons_zero] at k0
   go_simp
   exact⟨rfl,rfl⟩
  go_simp
  refine hR _ ?_
  clear hR R
 refine wpPlan_do (by rfl) (by rfl) (fun K hK=>?_)
 go_simp
 refine(C1.out w.drew (Below.refl _ _).drew).mono ?_
 rintro e w3 ⟨rfl,hb3⟩
 have B3:Below w.heap.size w w3:=(Below.refl _ _).drew.trans hb3
 refine hK _ _ (B3) ?_
 clear hK K
 iterate 1
  refine wpPlan_read (by rfl) (by rfl) (fun R hR=>?_)
  apply Exists.intro
  refine⟨fun w' hS'=>?_,?_⟩
  ·have k0:=(HB.out.keep hS').cell 0
   simp only[List.getElem?_toArray,List.getElem?_cons_zero] at k0
   go_simp
   exact⟨rfl,rfl⟩
  go_simp
  refine hR _ ?_
  clear hR R
 refine wpPlan_do (by rfl) (by rfl) (fun K hK=>?_)
 go_simp
 refine(C2.out w3 B3).mono ?_
 rintro e w4 ⟨rfl,hb4⟩
 have B4:Below w.heap.size w w4:=B3.trans (hb4.mono B3.size)
 refine hK _ _ (B4) ?_
 clear hK K
 iterate 1
  refine wpPlan_read (by rfl) (by rfl) (fun R hR=>?_)
  apply Exists.intro
  refine⟨fun w' hS'=>?_,?_⟩
  ·have k0:=(HB.out.keep hS').cell 0
   simp only[List.getElem?_toArray,List.getElem?_cons_zero] at k0
   go_simp
   exact⟨rfl,rfl⟩
  go_simp
  refine hR _ ?_
  clear hR R
 refine wpPlan_nil ?_
 go_wp2_with fail
 go_ret
 exact⟨rfl,B4⟩
theorem hs_reach(w:World)(h:HsAt x lo hi dg u m gr bk l F w)(ok:HdOk lo hi dg u m)(b0:1<=bk)(b1:bk<=64):Calls Tryz.prog 202 #[.pointer (some ⟨x,0,none⟩)] w fun e w'=>e=.returned (.int .i64 (reachN u m hi bk))/\Below w.heap.size w w':=by
 have CF:Hid (∀w1,Below w.heap.size w w1->_):=Lib.hid (fun w1 hb=>hs_first (x:=x) w1 ((hs_stay x lo hi dg u m gr bk l).keep h hb) ok)
 obtain⟨g,b,hB,hM,_⟩:=h
 have HE:Hid (reachN u m hi bk=if bk=1+bkN u m hi then hi else topN u m bk):=Lib.hid rfl
 rw[HE.out]
 have C1:Hid (∀w1,Below w.heap.size w w1->_):=Lib.hid (fun w1 hb=>mshape_any (w:=w1) (Blk.keep hM hb))
 have C2:Hid (∀w1,Below w.heap.size w w1->_):=Lib.hid (fun w1 hb=>mtop_any (w:=w1) bk (Blk.keep hM hb) ok.um b0 b1)
 have HB:=Lib.hid hB
 clear hM hB ok HE
 generalize 1+bkN u m hi=R at *
 generalize topN u m bk=T at *
 by_cases he:bk=R
 ·subst he
  rw[if_pos rfl]
  have hd:((bk:Int) == (bk:Int))=true:=by simp
  have hfd:=hdr_hi
  go_enter Tryz.func202,Tryz.ntmps202
  go_wp2_with fail
  refine wp_region_plan (Below w.heap.size w) [(0,true),(1,true),(2,true),(3,true),(4,true),(5,false),(6,true)] (by kernel_rfl) (by kernel_rfl) ((Below.refl _ _).drew) ?_
  iterate 5
   refine wpPlan_read (by rfl) (by rfl) (fun R hR=>?_)
   apply Exists.intro
   refine⟨fun w' hS'=>?_,?_⟩
   ·have k2:=(HB.out.keep hS').cell 2
    simp only[List.getElem?_toArray,List.getElem?_cons_zero,List.getElem?_cons_succ] at k2
    go_simp
    exact⟨rfl,rfl⟩
   go_simp
   refine hR _ ?_
   clear hR R
  refine wpPlan_do (by rfl) (by rfl) (fun K hK=>?_)
  go_simp
  refine(CF.out w.drew (Below.refl _ _).drew).mono ?_
  rintro e w3 ⟨rfl,hb3⟩
  have B3:Below w.heap.size w w3:=(Below.refl _ _).drew.trans hb3
  refine hK _ _ (B3) ?_
  clear hK K
  iterate 1
   refine wpPlan_read (by rfl) (by rfl) (fun R hR=>?_)
   apply Exists.intro
   refine⟨fun w' hS'=>?_,?_⟩
   ·have k2:=(HB.out.keep hS').cell 2
    simp only[List.getElem?_toArray,List.getElem?_cons_zero,List.getElem?_cons_succ] at k2
    go_simp
    exact⟨rfl,rfl⟩
   go_simp
   refine hR _ ?_
   clear hR R
  refine wpPlan_nil ?_
  have k0:=(HB.out.keep B3).cell 0
  simp only[List.getElem?_toArray,List.getElem?_cons_zero] at k0
  go_wp2_with fail
  refine(C1.out w3 B3).mono ?_
  rintro e w4 ⟨rfl,hb4⟩
  go_wp2_with fail
  go_ret
  exact⟨rfl,B3.trans (hb4.mono B3.size)⟩
 ·rw[if_neg he]
  have hd:((bk:Int) == (R:Int))=false:=by simp;omega
  go_enter Tryz.func202,Tryz.ntmps202
  go_wp2_with fail
  refine wp_region_plan (Below w.heap.size w) [(0,true),(1,true),(2,true),(3,true),(4,true),(5,false),(6,true)] (by kernel_rfl) (by kernel_rfl) ((Below.refl _ _).drew) ?_
  iterate 5
   refine wpPlan_read (by rfl) (by rfl) (fun R hR=>?_)
   apply Exists.intro
   refine⟨fun w' hS'=>?_,?_⟩
   ·have k2:=(HB.out.keep hS').cell 2
    simp only[List.getElem?_toArray,List.getElem?_cons_zero,List.getElem?_cons_succ] at k2
    go_simp
    exact⟨rfl,rfl⟩
   go_simp
   refine hR _ ?_
   clear hR R
  refine wpPlan_do (by rfl) (by rfl) (fun K hK=>?_)
  go_simp
  refine(CF.out w.drew (Below.refl _ _).drew).mono ?_
  rintro e w3 ⟨rfl,hb3⟩
  have B3:Below w.heap.size w w3:=(Below.refl _ _).drew.trans hb3
  refine hK _ _ (B3) ?_
  clear hK K
  iterate 1
   refine wpPlan_read (by rfl) (by rfl) (fun R hR=>?_)
   apply Exists.intro
   refine⟨fun w' hS'=>?_,?_⟩
   ·have k2:=(HB.out.keep hS').cell 2
    simp only[List.getElem?_toArray,List.getElem?_cons_zero,List.getElem?_cons_succ] at k2
    go_simp
    exact⟨rfl,rfl⟩
   go_simp
   refine hR _ ?_
   clear hR R
  refine wpPlan_nil ?_
  go_wp2_with fail
  have B3d:Below w.heap.size w w3.drew:=B3.drew
  refine wp_region_plan (Below w.heap.size w) [(0,true),(1,true),(2,true),(3,true),(4,true),(5,true),(6,true),(7,true),(8,false),(9,true)] (by kernel_rfl) (by kernel_rfl) (B3d) ?_
  iterate 8
   refine wpPlan_read (by rfl) (by rfl) (fun R hR=>?_)
   apply Exists.intro
   refine⟨fun w' hS'=>?_,?_⟩
   ·have k0:=(HB.out.keep hS').cell 0
    have k2:=(HB.out.keep hS').cell 2
    simp only[List.getElem?_toArray,List.getElem?_cons_zero,List.getElem?_cons_succ] at k0 k2
    go_simp
    exact⟨rfl,rfl⟩
   go_simp
   refine hR _ ?_
   clear hR R
  refine wpPlan_do (by rfl) (by rfl) (fun K hK=>?_)
  go_simp
  refine(C2.out w3.drew B3d).mono ?_
  rintro e w4 ⟨rfl,hb4⟩
  have B4:Below w.heap.size w w4:=B3d.trans (hb4.mono B3d.size)
  refine hK _ _ (B4) ?_
  clear hK K
  iterate 1
   refine wpPlan_read (by rfl) (by rfl) (fun R hR=>?_)
   apply Exists.intro
   refine⟨fun w' hS'=>?_,?_⟩
   ·have k0:=(HB.out.keep hS').cell 0
    have k2:=(HB.out.keep hS').cell 2
    simp only[List.getElem?_toArray,List.getElem?_cons_zero,List.getElem?_cons_succ] at k0 k2
    go_simp
    exact⟨rfl,rfl⟩
   go_simp
   refine hR _ ?_
   clear hR R
  refine wpPlan_nil ?_
  go_wp2_with fail
  go_ret
  exact⟨rfl,B4⟩
theorem hs_make{lo hi dg u m:Nat}(gr:Bool)(w:World)(ok:HdOk lo hi dg u m):Calls Tryz.prog 127 #[.agg #[.int .i64 lo,.int .i64 hi,.int .i64 dg],.bool gr] w fun e w'=>∃x,e=.returned (.tuple #[.pointer (some ⟨x,0,none⟩),.int .i64 0])/\HsAt x lo hi dg u m gr (1+bkN u m hi) [] (Gr (fun _=>False) w w') w'/\Below w.heap.size w w':=by
 have hmm:=@run_makeMap Tryz.prog
 have C1:Hid (∀w,_):=Lib.hid (fun w=>mnew_any w ok)
 have C2:Hid (∀(w1:World) (g:Nat),MpAt w1 g lo hi dg u m->_):=Lib.hid (fun w1 g h=>mbuckets_any (w:=w1) (g:=g) hi h ok.um (by have:=ok.h1;omega))
 clear ok
 generalize 1+bkN u m hi=R at *
 obtain⟨b,hbb⟩:∃b,w.heap.size=b:=⟨_,rfl⟩
 obtain⟨w0,hw0⟩:∃w0,w.alloc (.cells #[.int .i64 lo,.int .i64 hi,.int .i64 dg] 23)=w0:=⟨_,rfl⟩
 have hb0:Below w.heap.size w w0:=by rw[<-hw0];(repeat' (first|(with_reducible exact Below.refl _ _)|(with_reducible refine Below.alloc ?_ ?_ _)|(with_reducible refine Below.drew ?_)|(with_reducible refine below_drewN ?_ _)|(with_reducible refine Below.setCell ?_ ?_ _)|(with_reducible refine below_of (by assumption) ?_ ?_)|go_size))
 have B0:Blk w0 b 23 #[.int .i64 lo,.int .i64 hi,.int .i64 dg]:=by rw[<-hw0,<-hbb];exact Blk.new _ _ _
 have k0:=B0.cell 0
 have k1:=B0.cell 1
 have k2:=B0.cell 2
 simp only[List.getElem?_toArray,List.getElem?_cons_zero,List.getElem?_cons_succ] at k0 k1 k2
 have X:=Lib.hid (And.intro hb0 (And.intro B0 hbb))
 clear B0 hb0
 go_enter Tryz.func127,Tryz.ntmps127
 go_upto_region 1 with fail
 clear hw0 hbb
 go_wp2_with fail
 refine(C1.out w0).mono ?_
 rintro e w1 ⟨g,rfl,hg,hM,hb1⟩
 have j1:=(X.out.2.1.keep hb1).cell 1
 simp only[List.getElem?_toArray,List.getElem?_cons_zero,List.getElem?_cons_succ] at j1
 have HM:=Lib.hid (And.intro hM (And.intro hb1 hg))
 clear hM hb1 hg
 go_wp2_with fail
 refine(C2.out w1 g HM.out.1).mono ?_
 rintro e w2 ⟨rfl,hb2⟩
 have HM2:=Lib.hid (And.intro (Blk.keep HM.out.1 hb2) hb2)
 clear hb2
 go_wp2_with fail
 go_ret2
 obtain⟨hM2,hb2⟩:=HM2.out
 obtain⟨_,hb1,hg⟩:=HM.out
 have hb02:Below w.heap.size w w2:=X.out.1.trans ((hb1.trans (hb2.mono hb1.size)).mono X.out.1.size)
 have hz2:=hb02.size
 have hgz:w.heap.size<=g:=Nat.le_trans X.out.1.size hg
 have hgl:=Blk.lt hM2
 have hb3:Below w2.heap.size w2 (w2.alloc (.map #[] 0)):=(Below.refl _ _).alloc (Nat.le_refl _) _
 have hb4:Below w2.heap.size w2 ((w2.alloc (.map #[] 0)).alloc (.cells #[.pointer (some ⟨g,0,none⟩),.bool gr,.int .i64 R,.map (some w2.heap.size),.int .u64 0] 124)):=hb3.alloc (by simp) _
 have hC:=(ct_new w2).keep ((Below.refl _ _).alloc (Nat.le_refl _) (.cells #[.pointer (some ⟨g,0,none⟩),.bool gr,.int .i64 R,.map (some w2.heap.size),.int .u64 0] 124))
 have hsz:(w2.alloc (.map #[] 0)).heap.size=w2.heap.size+1:=by simp
 have hBN:=Blk.new (w2.alloc (.map #[] 0)) 124 #[.pointer (some ⟨g,0,none⟩),.bool gr,.int .i64 R,.map (some w2.heap.size),.int .u64 0]
 rw[hsz] at hBN
 have hl5:=hBN.lt
 exact⟨_,rfl,⟨g,w2.heap.size,hBN,Blk.keep hM2 hb4,hC,.inr ⟨by omega,hl5⟩,.inr ⟨hgz,by omega⟩,.inr ⟨hz2,by omega⟩,fun k h=>h.elim False.elim And.right⟩,hb02.trans (hb4.mono hz2)⟩
end
open Go.RowKit Go.Lib Go.Shelf
structure HdPre(lo hi dg u m:Nat):Prop where
 d0:1<=dg
 d1:dg<=5
 l0:1<=lo
 h0:2 * lo<=hi
 h1:hi<=9223372036854775807
 ue:u=Lib.bitLen lo - 1
 me:m=Lib.bitLen (2 * 10 ^ dg - 1)
theorem mnew_big{lo hi dg u m:Nat}(w:World)(ok:HdPre lo hi dg u m)(hbig:62<u+m):Calls Tryz.prog 207 #[.agg #[.int .i64 lo,.int .i64 hi,.int .i64 dg]] w fun e w'=>e=.returned (.tuple #[.pointer none,.int .i64 1])/\Below w.heap.size w w':=by
 obtain⟨d0,d1,l0,h0,h1,ue,me⟩:=ok
 have hmb:=mag_bd d1
 have hlb:1<=Lib.bitLen lo:=(bit_gt (x:=lo) (k:=0) (by omega)).2 (by simpa using l0)
 have hlb2:Lib.bitLen lo<=63:=(bit_le (by omega)).2 (by omega)
 have hten:10 ^ dg<=100000:=(Nat.pow_le_pow_right (by omega) d1:10 ^ dg<=10 ^ 5)
 have hten0:0<10 ^ dg:=Nat.pow_pos (by omega)
 have CP:=fun w=>Lib.hid (pow10_any dg w d1)
 have C1:=fun w=>Lib.hid (len64_any lo w (by omega))
 have C2:=fun w=>Lib.hid (len64_any (2 * 10 ^ dg - 1) w (by omega))
 rw[<-me] at C2 hmb
 generalize 10 ^ dg=T at *
 generalize Lib.bitLen lo=B at *
 obtain⟨N,hN⟩:∃N,2 * T - 1=N:=⟨_,rfl⟩
 rw[hN] at C2
 obtain rfl:B=u+1:=by omega
 have hq:(hi:Int).tdiv 2=(hi:Int) / 2:=Int.tdiv_eq_ediv_of_nonneg (by omega)
 have c1:¬(hi:Int) / 2<(lo:Int):=by omega
 have c2:¬(dg:Int)<1:=by omega
 have c3:¬(5:Int)<(dg:Int):=by omega
 have c4:¬(lo:Int)<1:=by omega
 have EV:Hid (IntKind.u64.wrap (lo:Int)=(lo:Int)):=Lib.hid (by rw[u64w];omega)
 have EU:Hid (IntKind.i64.wrap (u:Int)=(u:Int)):=Lib.hid (by rw[IntKind.wrap_i64];omega)
 have ET:Hid (IntKind.u64.wrap (2 * (T:Int))=2 * (T:Int)):=Lib.hid (by rw[u64w];omega)
 have EN:Hid (IntKind.u64.wrap (2 * (T:Int) - 1)=(N:Int)):=Lib.hid (by rw[u64w];omega)
 have EN2:Hid (2 * (T:Int) - 1=(N:Int)):=Lib.hid (by omega)
 have c5:(62:Int)<(u:Int)+(m:Int):=by omega
 have EUM:Hid (IntKind.i64.wrap ((u:Int)+(m:Int))=(u:Int)+(m:Int)):=Lib.hid (by rw[IntKind.wrap_i64];omega)
 have EN3:Hid (IntKind.u64.wrap (N:Int)=(N:Int)):=Lib.hid (by rw[u64w];omega)
 clear hN ue me hmb hlb hlb2 h0
 go_enter Tryz.func207,Tryz.ntmps207
 go_wp2_with fail
 refine((CP _).out).mono ?_
 rintro e w' ⟨rfl,rfl⟩
 obtain⟨b,hb⟩:∃b,w.heap.size=b:=⟨_,rfl⟩
 obtain⟨w1,hw1⟩:∃w1,w.alloc (.cells #[.int .i64 lo,.int .i64 hi,.int .i64 dg] 23)=w1:=⟨_,rfl⟩
 have hb1:Below w.heap.size w w1:=by rw[<-hw1];(repeat' (first|(with_reducible exact Below.refl _ _)|(with_reducible refine Below.alloc ?_ ?_ _)|(with_reducible refine Below.drew ?_)|(with_reducible refine below_drewN ?_ _)|(with_reducible refine Below.setCell ?_ ?_ _)|(with_reducible refine below_of (by assumption) ?_ ?_)|go_size))
 have B1:Hid (Blk w1 b 23 #[.int .i64 lo,.int .i64 hi,.int .i64 dg]):=by rw[<-hw1,<-hb];exact Lib.hid (Blk.new _ _ _)
 have hbl:=B1.out.lt
 have HBW:=Lib.hid hb
 clear hb
 rw[HBW.out,hw1]
 clear hw1
 go_upto_region 4 with fail
 have c5h:=Lib.hid c5
 clear c1 c2 c3 c4 c5 hq d0 d1 l0 h1 hbig hten hten0 CP
 refine wp_region_plan (Below w1.heap.size w1) [(0,true),(1,true),(2,true),(3,true),(6,true),(7,true),(8,true),(4,false),(5,true),(9,false),(10,true),(11,false),(12,true)] (by kernel_rfl) (by kernel_rfl) ((Below.refl _ _).drew) ?_
 iterate 7
  refine wpPlan_read (by rfl) (by rfl) (fun R hR=>?_)
  apply Exists.intro
  refine⟨fun w' hS'=>?_,?_⟩
  ·have k0:=(B1.out.keep hS').cell 0
   have k1:=(B1.out.keep hS').cell 1
   have k2:=(B1.out.keep hS').cell 2
   have ev:=EV.out
   have eu:=EU.out
   have et:=ET.out
   have en2:=EN2.out
   have en3:=EN3.out
   simp only[List.getElem?_toArray,List.getElem?_cons_zero,List.getElem?_cons_succ] at k0 k1 k2
   go_simp
   exact⟨rfl,rfl⟩
  go_simp
  refine hR _ ?_
  clear hR R
 refine wpPlan_do (by rfl) (by rfl) (fun K hK=>?_)
 go_simp
 refine((C1 w1.drew).out).mono ?_
 rintro e w3 ⟨rfl,rfl⟩
 refine hK _ _ ((Below.refl _ _).drew) ?_
 clear hK K
 iterate 1
  refine wpPlan_read (by rfl) (by rfl) (fun R hR=>?_)
  apply Exists.intro
  refine⟨fun w' hS'=>?_,?_⟩
  ·have k0:=(B1.out.keep hS').cell 0
   have k1:=(B1.out.keep hS').cell 1
   have k2:=(B1.out.keep hS').cell 2
   have ev:=EV.out
   have eu:=EU.out
   have et:=ET.out
   have en2:=EN2.out
   have en3:=EN3.out
   simp only[List.getElem?_toArray,List.getElem?_cons_zero,List.getElem?_cons_succ] at k0 k1 k2
   go_simp
   exact⟨rfl,rfl⟩
  go_simp
  refine hR _ ?_
  clear hR R
 refine wpPlan_do (by rfl) (by rfl) (fun K hK=>?_)
 go_simp
 refine((C2 w1.drew).out).mono ?_
 rintro e w3 ⟨rfl,rfl⟩
 refine hK _ _ ((Below.refl _ _).drew) ?_
 clear hK K
 iterate 1
  refine wpPlan_read (by rfl) (by rfl) (fun R hR=>?_)
  apply Exists.intro
  refine⟨fun w' hS'=>?_,?_⟩
  ·have k0:=(B1.out.keep hS').cell 0
   have k1:=(B1.out.keep hS').cell 1
   have k2:=(B1.out.keep hS').cell 2
   have ev:=EV.out
   have eu:=EU.out
   have et:=ET.out
   have en2:=EN2.out
   have en3:=EN3.out
   simp only[List.getElem?_toArray,List.getElem?_cons_zero,List.getElem?_cons_succ] at k0 k1 k2
   go_simp
   exact⟨rfl,rfl⟩
  go_simp
  refine hR _ ?_
  clear hR R
 refine wpPlan_do (by rfl) (by rfl) (fun K hK=>?_)
 go_simp
 refine hK _ _ (((Below.refl _ _).drew).alloc (Nat.le_refl _) _) ?_
 clear hK K
 iterate 1
  refine wpPlan_read (by rfl) (by rfl) (fun R hR=>?_)
  apply Exists.intro
  refine⟨fun w' hS'=>?_,?_⟩
  ·have k0:=(B1.out.keep hS').cell 0
   have k1:=(B1.out.keep hS').cell 1
   have k2:=(B1.out.keep hS').cell 2
   have ev:=EV.out
   have eu:=EU.out
   have et:=ET.out
   have en2:=EN2.out
   have en3:=EN3.out
   simp only[List.getElem?_toArray,List.getElem?_cons_zero,List.getElem?_cons_succ] at k0 k1 k2
   go_simp
   exact⟨rfl,rfl⟩
  go_simp
  refine hR _ ?_
  clear hR R
 refine wpPlan_nil ?_
 have hz1:=hb1.size
 obtain⟨w4,hw4⟩:∃w4,(w1.alloc (.cells #[.int .i64 lo,.int .i64 hi,.int .i64 dg,.int .i64 u,.int .i64 m] 211)).drew=w4:=⟨_,rfl⟩
 have hb4:Below w1.heap.size w1 w4:=by rw[<-hw4];exact((Below.refl _ _).alloc (Nat.le_refl _) _).drew
 have B4:MpAt w4 w1.heap.size lo hi dg u m:=by unfold MpAt;rw[<-hw4];exact(Blk.new _ _ _:Blk (w1.alloc _) _ _ _).drew
 go_upto_region 5 with fail
 have k3:=Blk.cell B4 3
 have k4:=Blk.cell B4 4
 simp only[List.getElem?_toArray,List.getElem?_cons_zero,List.getElem?_cons_succ] at k3 k4
 have c5:=c5h.out
 have eum:=EUM.out
 go_quiet (fail)
 go_wp2_with fail
 go_ret2
 subst hw4
 exact⟨rfl,below_drewN (hb1.trans (hb4.mono hz1)) _⟩
theorem rshape_big{lo hi dg u m:Nat}(w:World)(ok:HdPre lo hi dg u m)(hbig:62<u+m):Calls Tryz.prog 23 #[.agg #[.int .i64 lo,.int .i64 hi,.int .i64 dg]] w fun e w'=>e=.returned (.tuple #[.int .i64 u,.int .i64 m,.bool false])/\Below w.heap.size w w':=by
 obtain⟨d0,d1,l0,h0,h1,ue,me⟩:=ok
 have hmb:=mag_bd d1
 rw[<-me] at hmb
 have hu62:u<=62:=by
  have:=(bit_le (x:=lo) (k:=63) (by omega)).2 (by omega)
  omega
 have hT:∀j,j<=5->0<10 ^ j/\10 ^ j<=100000:=fun j h=>⟨Nat.pow_pos (by omega),(Nat.pow_le_pow_right (by omega) h:10 ^ j<=10 ^ 5)⟩
 have HT:=Lib.hid hT
 have hten:=hT dg d1
 have HU:Hid (∀j,j<=u->(1<lo / 2 ^ j<->j<u)):=Lib.hid (fun j h=>unit_step l0 (by omega) ue h)
 have HM:Hid (∀j,j<=m->(2 ^ j<2 * 10 ^ dg<->j<m)):=Lib.hid (fun j h=>by
  have:=mag_step (N:=2 * 10 ^ dg - 1) (j:=j) (by omega) me h
  rw[show 2 * 10 ^ dg - 1+1=2 * 10 ^ dg by omega] at this
  exact this)
 have c1:¬(hi:Int)<(lo:Int):=by omega
 have c6:IntKind.i64.wrap ((hi:Int) - (lo:Int))=(hi:Int) - (lo:Int):=by rw[IntKind.wrap_i64];omega
 have c7:¬(hi:Int) - (lo:Int)<(lo:Int):=by omega
 have c2:¬(dg:Int)<1:=by omega
 have c3:¬(5:Int)<(dg:Int):=by omega
 have c4:¬(lo:Int)<1:=by omega
 clear hT ue me
 go_enter Tryz.func23,Tryz.ntmps23
 go_wp2_with fail
 obtain⟨b,hb⟩:∃b,w.heap.size=b:=⟨_,rfl⟩
 obtain⟨w1,hw1⟩:∃w1,w.alloc (.cells #[.int .i64 lo,.int .i64 hi,.int .i64 dg] 23)=w1:=⟨_,rfl⟩
 have hb1:Below w.heap.size w w1:=by rw[<-hw1];(repeat' (first|(with_reducible exact Below.refl _ _)|(with_reducible refine Below.alloc ?_ ?_ _)|(with_reducible refine Below.drew ?_)|(with_reducible refine below_drewN ?_ _)|(with_reducible refine Below.setCell ?_ ?_ _)|(with_reducible refine below_of (by assumption) ?_ ?_)|go_size))
 have B1:Hid (Blk w1 b 23 #[.int .i64 lo,.int .i64 hi,.int .i64 dg]):=by rw[<-hw1,<-hb];exact Lib.hid (Blk.new _ _ _)
 rw[hb,hw1]
 have k2:=B1.out.cell 2
 simp only[List.getElem?_toArray,List.getElem?_cons_zero,List.getElem?_cons_succ] at k2
 clear hw1 hb c1 c2 c3 c4 c6 c7
 go_loopg [5,6] u (fun q x y wr=>(∃j:Nat,q=u - j/\j<=u/\x=.int .i64 j/\y=.int .i64 ((lo / 2 ^ j:Nat):Int))/\w1=wr)
 case atStart=>exact⟨⟨0,by omega,by omega,rfl,by simp⟩,rfl⟩
 case round=>
  obtain⟨⟨j,hq,hj,rfl,rfl⟩,rfl⟩:=hrel
  have HQ:=Lib.hid hq
  clear hq
  have hs:=HU.out j hj
  have HN:Hid (lo / 2 ^ j / 2=lo / 2 ^ (j+1)):=Lib.hid (by rw[Nat.div_div_eq_div_mul,Nat.pow_succ])
  have hnl:lo / 2 ^ j<=lo:=Nat.div_le_self ..
  generalize lo / 2 ^ j=n at *
  by_cases hlt:j<u
  ·have hn:(1:Int)<(n:Int):=by have:=hs.2 hlt;omega
   have hdv:(n:Int).tdiv 2=(n:Int) / 2:=Int.tdiv_eq_ediv_of_nonneg (by omega)
   have hn9:n<9223372036854775808:=by omega
   go_wp2_with fail
   go_roundg (u - (j+1))
   case measure=>have:=HQ.out;omega
   case rel=>exact⟨⟨j+1,rfl,by omega,by go_num,by rw[<-HN.out];simp⟩,rfl⟩
  ·obtain rfl:j=u:=by omega
   have hn:¬(1:Int)<(n:Int):=fun h=>by have:=hs.1 (by omega);omega
   clear hs HN HU hnl
   go_wp2_with fail
   go_loopg [7,8] dg (fun q x y wr=>(∃i:Nat,q=dg - i/\i<=dg/\y=.int .i64 i/\x=.int .u64 ((2 * 10 ^ i:Nat):Int))/\w1=wr)
   case atStart=>exact⟨⟨0,by omega,by omega,rfl,rfl⟩,rfl⟩
   case round=>
    obtain⟨⟨i,hq,hi2,rfl,rfl⟩,rfl⟩:=hrel
    have HQ2:=Lib.hid hq
    clear hq
    by_cases hlt2:i<dg
    ·have hii:(i:Int)<(dg:Int):=by omega
     have hp:=HT.out i (by omega)
     have HS:Hid (2 * 10 ^ (i+1)=10 * (2 * 10 ^ i)):=Lib.hid (by rw[Nat.pow_succ];omega)
     obtain⟨P,hP⟩:∃P,2 * 10 ^ i=P:=⟨_,rfl⟩
     have hPb:0<P/\P<=200000:=by omega
     rw[hP] at HS |-
     clear hp hP hten
     go_wp2_with fail
     go_roundg (dg - (i+1))
     case measure=>have:=HQ2.out;omega
     case rel=>exact⟨⟨i+1,rfl,by omega,by go_num,by rw[HS.out];go_num⟩,rfl⟩
    ·obtain rfl:i=dg:=by omega
     obtain⟨N,hN⟩:∃N,2 * 10 ^ i=N:=⟨_,rfl⟩
     rw[hN] at HM |-
     have hNb:N<=200000:=by omega
     clear hN hten
     go_wp2_with fail
     go_loopg [9,10] m (fun q x y wr=>(∃t:Nat,q=m - t/\t<=m/\x=.int .i64 t/\y=.int .u64 ((2 ^ t:Nat):Int))/\w1=wr)
     case atStart=>exact⟨⟨0,by omega,by omega,rfl,rfl⟩,rfl⟩
     case round=>
      obtain⟨⟨t,hq,ht,rfl,rfl⟩,rfl⟩:=hrel
      have HQ3:=Lib.hid hq
      clear hq
      have hs:=HM.out t ht
      have h18:2 ^ t<=262144:=(two_le (by omega):2 ^ t<=2 ^ 18)
      have HS:Hid (2 ^ (t+1)=2 * 2 ^ t):=Lib.hid (by rw[Nat.pow_succ];omega)
      generalize 2 ^ t=P at *
      by_cases hlt3:t<m
      ·have hPN:(P:Int)<(N:Int):=by have:=hs.2 hlt3;omega
       go_wp2_with fail
       go_roundg (m - (t+1))
       case measure=>have:=HQ3.out;omega
       case rel=>exact⟨⟨t+1,rfl,by omega,by go_num,by rw[HS.out];go_num⟩,rfl⟩
      ·obtain rfl:t=m:=by omega
       have hPN:¬(P:Int)<(N:Int):=fun h=>by have:=hs.1 (by omega);omega
       have hum:¬(j:Int)+(t:Int)<=62:=by omega
       have ew:IntKind.i64.wrap ((j:Int)+(t:Int))=(j:Int)+(t:Int):=by rw[IntKind.wrap_i64];omega
       go_wp2_with fail
       refine bodyPost_ret (by simp[results,Tryz.results23,go_sem, *];try rfl) rfl ?_
       exact⟨rfl,hb1⟩
def HdNo(lo hi dg:Int):Prop:=dg<1\/5<dg\/lo<1\/hi<2 * lo
theorem mnew_not(lo hi dg:Int)(w:World)(h:HdNo lo hi dg)(h0:-9223372036854775808<=hi)(h1:hi<=9223372036854775807) :
 Calls Tryz.prog 207 #[.agg #[.int .i64 lo,.int .i64 hi,.int .i64 dg]] w fun e w'=>e=.returned (.tuple #[.pointer none,.int .i64 1])/\Below w.heap.size w w':=by
 have hq:dg<1\/5<dg\/lo<1\/hi.tdiv 2<lo:=by
  unfold HdNo at h
  rcases h with h|h|h|h
  ·exact .inl h
  ·exact .inr (.inl h)
  ·exact .inr (.inr (.inl h))
  ·by_cases hl:lo<1
   ·exact .inr (.inr (.inl hl))
   ·refine .inr (.inr (.inr ?_))
    rcases Int.lt_or_le hi 0 with hn|hn
    ·have h1:=Int.neg_tdiv (a:=hi) (b:=2)
     rw[Int.tdiv_eq_ediv_of_nonneg (by omega)] at h1
     omega
    ·rw[Int.tdiv_eq_ediv_of_nonneg hn];omega
 have hqb:-9223372036854775808<=hi.tdiv 2/\hi.tdiv 2<=9223372036854775807:=by
  rcases Int.lt_or_le hi 0 with hn|hn
  ·have h1:=Int.neg_tdiv (a:=hi) (b:=2)
   rw[Int.tdiv_eq_ediv_of_nonneg (by omega)] at h1
   omega
  ·rw[Int.tdiv_eq_ediv_of_nonneg hn];omega
 clear h
 obtain⟨q,hqq⟩:∃q,hi.tdiv 2=q:=⟨_,rfl⟩
 rw[hqq] at hq hqb
 by_cases c2:dg<1
 ·go_enter Tryz.func207,Tryz.ntmps207
  go_wp2_with fail
  go_ret2
  exact⟨rfl,by(repeat' (first|(with_reducible exact Below.refl _ _)|(with_reducible refine Below.alloc ?_ ?_ _)|(with_reducible refine Below.drew ?_)|(with_reducible refine below_drewN ?_ _)|(with_reducible refine Below.setCell ?_ ?_ _)|(with_reducible refine below_of (by assumption) ?_ ?_)|go_size))⟩
 ·by_cases c3:5<dg
  ·go_enter Tryz.func207,Tryz.ntmps207
   go_wp2_with fail
   go_ret2
   exact⟨rfl,by(repeat' (first|(with_reducible exact Below.refl _ _)|(with_reducible refine Below.alloc ?_ ?_ _)|(with_reducible refine Below.drew ?_)|(with_reducible refine below_drewN ?_ _)|(with_reducible refine Below.setCell ?_ ?_ _)|(with_reducible refine below_of (by assumption) ?_ ?_)|go_size))⟩
  ·by_cases c4:lo<1
   ·go_enter Tryz.func207,Tryz.ntmps207
    go_wp2_with fail
    go_ret2
    exact⟨rfl,by(repeat' (first|(with_reducible exact Below.refl _ _)|(with_reducible refine Below.alloc ?_ ?_ _)|(with_reducible refine Below.drew ?_)|(with_reducible refine below_drewN ?_ _)|(with_reducible refine Below.setCell ?_ ?_ _)|(with_reducible refine below_of (by assumption) ?_ ?_)|go_size))⟩
   ·have c1:q<lo:=by omega
    have hw:wrap64 q=q:=by unfold wrap64;omega
    clear hq hqb
    go_enter Tryz.func207,Tryz.ntmps207
    go_wp2_with fail
    go_ret2
    exact⟨rfl,by(repeat' (first|(with_reducible exact Below.refl _ _)|(with_reducible refine Below.alloc ?_ ?_ _)|(with_reducible refine Below.drew ?_)|(with_reducible refine below_drewN ?_ _)|(with_reducible refine Below.setCell ?_ ?_ _)|(with_reducible refine below_of (by assumption) ?_ ?_)|go_size))⟩
end Go.Proofs.YtingnldfpokckaaGreat.D
