/- Parts of a proof: what its theorem reaches, words cut short. No condition of its own. -/
import Derived.Test.YtkiebccnpheloaaGreatPv26
set_option maxRecDepth 100000
set_option maxHeartbeats 16000000
set_option linter.unusedVariables false
set_option linter.unusedSimpArgs false
namespace Go.Proofs.YtkiebccnpheloaaGreat.D
open Go.RowKit Go.Lib Go.Shelf
def HsAt(x lo hi dg u m:Nat)(gr:Bool)(bk:Nat)(l:List Pr)(F:Ft)(w:World):Prop:=∃g b,Blk w x 241 #[.pointer (some ⟨g,0,none⟩),.bool gr,.int .i64 bk,.map (some b),.int .u64 (tot l)]/\MpAt w g lo hi dg u m/\CtAt w b l/\F x/\F g/\F b/\∀k,F k->k<w.heap.size
theorem hs_stay(x lo hi dg u m:Nat)(gr:Bool)(bk:Nat)(l:List Pr):Stay (HsAt x lo hi dg u m gr bk l) where
 stay:=fun⟨g,b,h1,h2,h3,h4,h5,h6,h7⟩ hk hz=>⟨g,b,(hk x h4).trans h1,(hk g h5).trans h2,h3.stay (hk b h6),h4,h5,h6,fun k h=>Nat.lt_of_lt_of_le (h7 k h) hz⟩
 more:=fun⟨g,b,h1,h2,h3,h4,h5,h6,_⟩ h hl=>⟨g,b,h1,h2,h3,h x h4,h g h5,h b h6,hl⟩
 low:=fun⟨_,_,_,_,_,_,_,_,h7⟩=>h7
theorem hdr_hi(a b c:Int)(w:World):(Instr.field 32 (.agg #[.int .i64 a,.int .i64 b,.int .i64 c]) 1).run Tryz.prog w=.ok (.int .i64 b) w:=by kernel_rfl
section
variable {x lo hi dg u m bk : Nat} {gr : Bool} {l : List Pr} {F : Ft}
theorem hs_shape(w:World)(h:HsAt x lo hi dg u m gr bk l F w):Calls Tryz.prog 68 #[.pointer (some ⟨x,0,none⟩)] w fun e w'=>e=.returned (.agg #[.int .i64 lo,.int .i64 hi,.int .i64 dg])/\Below w.heap.size w w':=by
 obtain⟨g,bb,hB,hM,_⟩:=h
 have C:Hid (∀w1,Below w.heap.size w w1->_):=Lib.hid (fun w1 hb=>mshape_any (w:=w1) (Blk.keep hM hb))
 obtain⟨b,hbb⟩:∃b,w.heap.size=b:=⟨_,rfl⟩
 obtain⟨w1,hw1⟩:∃w1,w.alloc (.cells #[.int .i64 0,.int .i64 0,.int .i64 0] 32)=w1:=⟨_,rfl⟩
 have hb1:Below w.heap.size w w1:=by rw[<-hw1];(repeat' (first|(with_reducible exact Below.refl _ _)|(with_reducible refine Below.alloc ?_ ?_ _)|(with_reducible refine Below.drew ?_)|(with_reducible refine below_drewN ?_ _)|(with_reducible refine Below.setCell ?_ ?_ _)|(with_reducible refine below_of (by assumption) ?_ ?_)|go_size))
 have B1:Blk w1 b 32 #[.int .i64 0,.int .i64 0,.int .i64 0]:=by rw[<-hw1,<-hbb];exact Blk.new _ _ _
 have k0:=(hB.keep hb1).cell 0
 simp only[List.getElem?_toArray,List.getElem?_cons_zero] at k0
 have X:=Lib.hid (And.intro hb1 (And.intro B1 hbb))
 clear hM hB B1 hb1
 go_enter Tryz.func68,Tryz.ntmps68
 go_upto_region 1 with fail
 clear hw1 hbb
 go_wp2_with fail
 refine(C.out w1 X.out.1).mono ?_
 rintro e w2 ⟨rfl,hb2⟩
 have B2:=X.out.2.1.keep hb2
 have f0:=B2.frozen 0
 have f1:=B2.frozen 1
 have f2:=B2.frozen 2
 have j0:=B2.cell 0
 have j1:=B2.cell 1
 have j2:=B2.cell 2
 simp only[List.getElem?_toArray,List.getElem?_cons_zero,List.getElem?_cons_succ] at j0 j1 j2
 have HB2:=Lib.hid (And.intro B2 hb2)
 clear B2 hb2
 go_wp2_with fail
 have hlt:=HB2.out.1.lt
 have c0:=(((HB2.out.1.set_ 0 (.int .i64 lo)).set_ 1 (.int .i64 hi)).set_ 2 (.int .i64 dg)).cell 0
 have c1:=(((HB2.out.1.set_ 0 (.int .i64 lo)).set_ 1 (.int .i64 hi)).set_ 2 (.int .i64 dg)).cell 1
 have c2:=(((HB2.out.1.set_ 0 (.int .i64 lo)).set_ 1 (.int .i64 hi)).set_ 2 (.int .i64 dg)).cell 2
 simp only[List.setIfInBounds_toArray,List.set_cons_zero,List.set_cons_succ,List.getElem?_toArray,List.getElem?_cons_zero,List.getElem?_cons_succ] at c0 c1 c2
 refine bodyPost_ret (by simp[results,Tryz.results68,go_sem, *];try rfl) rfl ?_
 have hbb:=X.out.2.2
 have hb12:=X.out.1.trans (HB2.out.2.mono X.out.1.size)
 exact⟨rfl,((hb12.setCell (p:=⟨b,0,none⟩) (by show _<=b;omega) _).setCell (p:=⟨b,1,none⟩) (by show _<=b;omega) _).setCell (p:=⟨b,2,none⟩) (by show _<=b;omega) _⟩
theorem hs_grows(w:World)(h:HsAt x lo hi dg u m gr bk l F w):Calls Tryz.prog 69 #[.pointer (some ⟨x,0,none⟩)] w fun e w'=>e=.returned (.bool gr)/\w=w':=by
 obtain⟨g,b,hB,_⟩:=h
 have k1:=hB.cell 1
 simp only[List.getElem?_toArray,List.getElem?_cons_zero,List.getElem?_cons_succ] at k1
 clear hB
 go_enter Tryz.func69,Tryz.ntmps69
 go_wp2_with fail
 go_ret
 exact⟨rfl,rfl⟩
theorem hs_total(w:World)(h:HsAt x lo hi dg u m gr bk l F w):Calls Tryz.prog 123 #[.pointer (some ⟨x,0,none⟩)] w fun e w'=>e=.returned (.int .u64 (tot l))/\w=w':=by
 obtain⟨g,b,hB,_⟩:=h
 have k1:=hB.cell 4
 simp only[List.getElem?_toArray,List.getElem?_cons_zero,List.getElem?_cons_succ] at k1
 clear hB
 go_enter Tryz.func123,Tryz.ntmps123
 go_wp2_with fail
 go_ret
 exact⟨rfl,rfl⟩
theorem hs_first(w:World)(h:HsAt x lo hi dg u m gr bk l F w)(ok:HdOk lo hi dg u m):Calls Tryz.prog 324 #[.pointer (some ⟨x,0,none⟩)] w fun e w'=>e=.returned (.int .i64 ((1+bkN u m hi:Nat):Int))/\Below w.heap.size w w':=by
 obtain⟨g,b,hB,hM,_⟩:=h
 have C1:Hid (∀w1,Below w.heap.size w w1->_):=Lib.hid (fun w1 hb=>mshape_any (w:=w1) (Blk.keep hM hb))
 have C2:Hid (∀w1,Below w.heap.size w w1->_):=Lib.hid (fun w1 hb=>mbuckets_any (w:=w1) hi (Blk.keep hM hb) ok.um (by have:=ok.h1;omega))
 have HB:=Lib.hid hB
 clear hM hB ok
 generalize 1+bkN u m hi=R at *
 go_enter Tryz.func324,Tryz.ntmps324
 go_wp2_with fail
 refine wp_region_plan (Below w.heap.size w) [(0,true),(1,true),(2,true),(3,true),(4,true),(5,true),(6,true),(7,true),(8,false),(9,true),(10,false),(11,true)] (by kernel_rfl) (by kernel_rfl) ((Below.refl _ _).drew) ?_
 iterate 8
  refine wpPlan_read (by rfl) (by rfl) (fun R hR=>?_)
  apply Exists.intro
  refine⟨fun w' hS'=>?_,?_⟩
  ·have k0:=(HB.out.keep hS').cell 0
   simp only[List.getElem?_toArray,List.getElem?_cons_zero] at k0
   go_simp
   exact⟨rfl,rfl⟩
  go_simp
  refine hR _ ?_
  clear hR R
 refine wpPlan_do (by rfl) (by rfl) (fun K hK=>?_)
 go_simp
 refine(C1.out w.drew (Below.refl _ _).drew).mono ?_
 rintro e w3 ⟨rfl,hb3⟩
 have B3:Below w.heap.size w w3:=(Below.refl _ _).drew.trans hb3
 refine hK _ _ (B3) ?_
 clear hK K
 iterate 1
  refine wpPlan_read (by rfl) (by rfl) (fun R hR=>?_)
  apply Exists.intro
  refine⟨fun w' hS'=>?_,?_⟩
  ·have k0:=(HB.out.keep hS').cell 0
   simp only[List.getElem?_toArray,List.getElem?_cons_zero] at k0
   go_simp
   exact⟨rfl,rfl⟩
  go_simp
  refine hR _ ?_
  clear hR R
 refine wpPlan_do (by rfl) (by rfl) (fun K hK=>?_)
 go_simp
 refine(C2.out w3 B3).mono ?_
 rintro e w4 ⟨rfl,hb4⟩
 have B4:Below w.heap.size w w4:=B3.trans (hb4.mono B3.size)
 refine hK _ _ (B4) ?_
 clear hK K
 iterate 1
  refine wpPlan_read (by rfl) (by rfl) (fun R hR=>?_)
  apply Exists.intro
  refine⟨fun w' hS'=>?_,?_⟩
  ·have k0:=(HB.out.keep hS').cell 0
   simp only[List.getElem?_toArray,List.getElem?_cons_zero] at k0
   go_simp
   exact⟨rfl,rfl⟩
  go_simp
  refine hR _ ?_
  clear hR R
 refine wpPlan_nil ?_
 go_wp2_with fail
 go_ret
 exact⟨rfl,B4⟩
theorem hs_reach(w:World)(h:HsAt x lo hi dg u m gr bk l F w)(ok:HdOk lo hi dg u m)(b0:1<=bk)(b1:bk<=64):Calls Tryz.prog 250 #[.pointer (some ⟨x,0,none⟩)] w fun e w'=>e=.returned (.int .i64 (reachN u m hi bk))/\Below w.heap.size w w':=by
 have CF:Hid (∀w1,Below w.heap.size w w1->_):=Lib.hid (fun w1 hb=>hs_first (x:=x) w1 ((hs_stay x lo hi dg u m gr bk l).keep h hb) ok)
 obtain⟨g,b,hB,hM,_⟩:=h
 have HE:Hid (reachN u m hi bk=if bk=1+bkN u m hi then hi else topN u m bk):=Lib.hid rfl
 rw[HE.out]
 have C1:Hid (∀w1,Below w.heap.size w w1->_):=Lib.hid (fun w1 hb=>mshape_any (w:=w1) (Blk.keep hM hb))
 have C2:Hid (∀w1,Below w.heap.size w w1->_):=Lib.hid (fun w1 hb=>mtop_any (w:=w1) bk (Blk.keep hM hb) ok.um b0 b1)
 have HB:=Lib.hid hB
 clear hM hB ok HE
 generalize 1+bkN u m hi=R at *
 generalize topN u m bk=T at *
 by_cases he:bk=R
 ·subst he
  rw[if_pos rfl]
  have hd:((bk:Int) == (bk:Int))=true:=by simp
  have hfd:=hdr_hi
  go_enter Tryz.func250,Tryz.ntmps250
  go_wp2_with fail
  refine wp_region_plan (Below w.heap.size w) [(0,true),(1,true),(2,true),(3,true),(4,true),(5,false),(6,true)] (by kernel_rfl) (by kernel_rfl) ((Below.refl _ _).drew) ?_
  iterate 5
   refine wpPlan_read (by rfl) (by rfl) (fun R hR=>?_)
   apply Exists.intro
   refine⟨fun w' hS'=>?_,?_⟩
   ·have k2:=(HB.out.keep hS').cell 2
    simp only[List.getElem?_toArray,List.getElem?_cons_zero,List.getElem?_cons_succ] at k2
    go_simp
    exact⟨rfl,rfl⟩
   go_simp
   refine hR _ ?_
   clear hR R
  refine wpPlan_do (by rfl) (by rfl) (fun K hK=>?_)
  go_simp
  refine(CF.out w.drew (Below.refl _ _).drew).mono ?_
  rintro e w3 ⟨rfl,hb3⟩
  have B3:Below w.heap.size w w3:=(Below.refl _ _).drew.trans hb3
  refine hK _ _ (B3) ?_
  clear hK K
  iterate 1
   refine wpPlan_read (by rfl) (by rfl) (fun R hR=>?_)
   apply Exists.intro
   refine⟨fun w' hS'=>?_,?_⟩
   ·have k2:=(HB.out.keep hS').cell 2
    simp only[List.getElem?_toArray,List.getElem?_cons_zero,List.getElem?_cons_succ] at k2
    go_simp
    exact⟨rfl,rfl⟩
   go_simp
   refine hR _ ?_
   clear hR R
  refine wpPlan_nil ?_
  have k0:=(HB.out.keep B3).cell 0
  simp only[List.getElem?_toArray,List.getElem?_cons_zero] at k0
  go_wp2_with fail
  refine(C1.out w3 B3).mono ?_
  rintro e w4 ⟨rfl,hb4⟩
  go_wp2_with fail
  go_ret
  exact⟨rfl,B3.trans (hb4.mono B3.size)⟩
 ·rw[if_neg he]
  have hd:((bk:Int) == (R:Int))=false:=by simp;omega
  go_enter Tryz.func250,Tryz.ntmps250
  go_wp2_with fail
  refine wp_region_plan (Below w.heap.size w) [(0,true),(1,true),(2,true),(3,true),(4,true),(5,false),(6,true)] (by kernel_rfl) (by kernel_rfl) ((Below.refl _ _).drew) ?_
  iterate 5
   refine wpPlan_read (by rfl) (by rfl) (fun R hR=>?_)
   apply Exists.intro
   refine⟨fun w' hS'=>?_,?_⟩
   ·have k2:=(HB.out.keep hS').cell 2
    simp only[List.getElem?_toArray,List.getElem?_cons_zero,List.getElem?_cons_succ] at k2
    go_simp
    exact⟨rfl,rfl⟩
   go_simp
   refine hR _ ?_
   clear hR R
  refine wpPlan_do (by rfl) (by rfl) (fun K hK=>?_)
  go_simp
  refine(CF.out w.drew (Below.refl _ _).drew).mono ?_
  rintro e w3 ⟨rfl,hb3⟩
  have B3:Below w.heap.size w w3:=(Below.refl _ _).drew.trans hb3
  refine hK _ _ (B3) ?_
  clear hK K
  iterate 1
   refine wpPlan_read (by rfl) (by rfl) (fun R hR=>?_)
   apply Exists.intro
   refine⟨fun w' hS'=>?_,?_⟩
   ·have k2:=(HB.out.keep hS').cell 2
    simp only[List.getElem?_toArray,List.getElem?_cons_zero,List.getElem?_cons_succ] at k2
    go_simp
    exact⟨rfl,rfl⟩
   go_simp
   refine hR _ ?_
   clear hR R
  refine wpPlan_nil ?_
  go_wp2_with fail
  have B3d:Below w.heap.size w w3.drew:=B3.drew
  refine wp_region_plan (Below w.heap.size w) [(0,true),(1,true),(2,true),(3,true),(4,true),(5,true),(6,true),(7,true),(8,false),(9,true)] (by kernel_rfl) (by kernel_rfl) (B3d) ?_
  iterate 8
   refine wpPlan_read (by rfl) (by rfl) (fun R hR=>?_)
   apply Exists.intro
   refine⟨fun w' hS'=>?_,?_⟩
   ·have k0:=(HB.out.keep hS').cell 0
    have k2:=(HB.out.keep hS').cell 2
    simp only[List.getElem?_toArray,List.getElem?_cons_zero,List.getElem?_cons_succ] at k0 k2
    go_simp
    exact⟨rfl,rfl⟩
   go_simp
   refine hR _ ?_
   clear hR R
  refine wpPlan_do (by rfl) (by rfl) (fun K hK=>?_)
  go_simp
  refine(C2.out w3.drew B3d).mono ?_
  rintro e w4 ⟨rfl,hb4⟩
  have B4:Below w.heap.size w w4:=B3d.trans (hb4.mono B3d.size)
  refine hK _ _ (B4) ?_
  clear hK K
  iterate 1
   refine wpPlan_read (by rfl) (by rfl) (fun R hR=>?_)
   apply Exists.intro
   refine⟨fun w' hS'=>?_,?_⟩
   ·have k0:=(HB.out.keep hS').cell 0
    have k2:=(HB.out.keep hS').cell 2
    simp only[List.getElem?_toArray,List.getElem?_cons_zero,List.getElem?_cons_succ] at k0 k2
    go_simp
    exact⟨rfl,rfl⟩
   go_simp
   refine hR _ ?_
   clear hR R
  refine wpPlan_nil ?_
  go_wp2_with fail
  go_ret
  exact⟨rfl,B4⟩
theorem hs_make{lo hi dg u m:Nat}(gr:Bool)(w:World)(ok:HdOk lo hi dg u m):Calls Tryz.prog 223 #[.agg #[.int .i64 lo,.int .i64 hi,.int .i64 dg],.bool gr] w fun e w'=>∃x,e=.returned (.tuple #[.pointer (some ⟨x,0,none⟩),.int .i64 0])/\HsAt x lo hi dg u m gr (1+bkN u m hi) [] (Gr (fun _=>False) w w') w'/\Below w.heap.size w w':=by
 have hmm:=@run_makeMap Tryz.prog
 have C1:Hid (∀w,_):=Lib.hid (fun w=>mnew_any w ok)
 have C2:Hid (∀(w1:World) (g:Nat),MpAt w1 g lo hi dg u m->_):=Lib.hid (fun w1 g h=>mbuckets_any (w:=w1) (g:=g) hi h ok.um (by have:=ok.h1;omega))
 clear ok
 generalize 1+bkN u m hi=R at *
 obtain⟨b,hbb⟩:∃b,w.heap.size=b:=⟨_,rfl⟩
 obtain⟨w0,hw0⟩:∃w0,w.alloc (.cells #[.int .i64 lo,.int .i64 hi,.int .i64 dg] 32)=w0:=⟨_,rfl⟩
 have hb0:Below w.heap.size w w0:=by rw[<-hw0];(repeat' (first|(with_reducible exact Below.refl _ _)|(with_reducible refine Below.alloc ?_ ?_ _)|(with_reducible refine Below.drew ?_)|(with_reducible refine below_drewN ?_ _)|(with_reducible refine Below.setCell ?_ ?_ _)|(with_reducible refine below_of (by assumption) ?_ ?_)|go_size))
 have B0:Blk w0 b 32 #[.int .i64 lo,.int .i64 hi,.int .i64 dg]:=by rw[<-hw0,<-hbb];exact Blk.new _ _ _
 have k0:=B0.cell 0
 have k1:=B0.cell 1
 have k2:=B0.cell 2
 simp only[List.getElem?_toArray,List.getElem?_cons_zero,List.getElem?_cons_succ] at k0 k1 k2
 have X:=Lib.hid (And.intro hb0 (And.intro B0 hbb))
 clear B0 hb0
 go_enter Tryz.func223,Tryz.ntmps223
 go_upto_region 1 with fail
 clear hw0 hbb
 go_wp2_with fail
 refine(C1.out w0).mono ?_
 rintro e w1 ⟨g,rfl,hg,hM,hb1⟩
 have j1:=(X.out.2.1.keep hb1).cell 1
 simp only[List.getElem?_toArray,List.getElem?_cons_zero,List.getElem?_cons_succ] at j1
 have HM:=Lib.hid (And.intro hM (And.intro hb1 hg))
 clear hM hb1 hg
 go_wp2_with fail
 refine(C2.out w1 g HM.out.1).mono ?_
 rintro e w2 ⟨rfl,hb2⟩
 have HM2:=Lib.hid (And.intro (Blk.keep HM.out.1 hb2) hb2)
 clear hb2
 go_wp2_with fail
 go_ret2
 obtain⟨hM2,hb2⟩:=HM2.out
 obtain⟨_,hb1,hg⟩:=HM.out
 have hb02:Below w.heap.size w w2:=X.out.1.trans ((hb1.trans (hb2.mono hb1.size)).mono X.out.1.size)
 have hz2:=hb02.size
 have hgz:w.heap.size<=g:=Nat.le_trans X.out.1.size hg
 have hgl:=Blk.lt hM2
 have hb3:Below w2.heap.size w2 (w2.alloc (.map #[] 0)):=(Below.refl _ _).alloc (Nat.le_refl _) _
 have hb4:Below w2.heap.size w2 ((w2.alloc (.map #[] 0)).alloc (.cells #[.pointer (some ⟨g,0,none⟩),.bool gr,.int .i64 R,.map (some w2.heap.size),.int .u64 0] 241)):=hb3.alloc (by simp) _
 have hC:=(ct_new w2).keep ((Below.refl _ _).alloc (Nat.le_refl _) (.cells #[.pointer (some ⟨g,0,none⟩),.bool gr,.int .i64 R,.map (some w2.heap.size),.int .u64 0] 241))
 have hsz:(w2.alloc (.map #[] 0)).heap.size=w2.heap.size+1:=by simp
 have hBN:=Blk.new (w2.alloc (.map #[] 0)) 241 #[.pointer (some ⟨g,0,none⟩),.bool gr,.int .i64 R,.map (some w2.heap.size),.int .u64 0]
 rw[hsz] at hBN
 have hl5:=hBN.lt
 exact⟨_,rfl,⟨g,w2.heap.size,hBN,Blk.keep hM2 hb4,hC,.inr ⟨by omega,hl5⟩,.inr ⟨hgz,by omega⟩,.inr ⟨hz2,by omega⟩,fun k h=>h.elim False.elim And.right⟩,hb02.trans (hb4.mono hz2)⟩
end
end Go.Proofs.YtkiebccnpheloaaGreat.D
