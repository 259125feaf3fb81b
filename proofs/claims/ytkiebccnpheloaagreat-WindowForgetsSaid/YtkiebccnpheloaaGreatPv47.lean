/- Parts of a proof: what its theorem reaches, words cut short. No condition of its own. -/
import Derived.Test.YtkiebccnpheloaaGreatPv46
set_option maxRecDepth 100000
set_option maxHeartbeats 16000000
set_option linter.unusedVariables false
set_option linter.unusedSimpArgs false
namespace Go.Proofs.YtkiebccnpheloaaGreat.D
open Go.RowKit Go.Lib Go.Shelf
theorem rjs_made{sp:Spk}{p y i:Nat}{G:Ft}{cs:Array Value}{w w1:World}(hy:Blk w1 y 146 cs)(hI:RInAt sp sp.new p G w1)(hGy:¬G y)(hy0:w.heap.size<=y)(hG:∀k,G k->w.heap.size<=k)(hb:Below w.heap.size w w1)(hi:cs.setIfInBounds i (ptrV p)=(sp.cs++sp.four p).toArray) :
 RJsAt sp sp.new y (Gr (fun _=>False) w (w1.setCell ⟨y,i,none⟩ (ptrV p))) (w1.setCell ⟨y,i,none⟩ (ptrV p))/\Below w.heap.size w (w1.setCell ⟨y,i,none⟩ (ptrV p)):=by
 have B:=hy.set_ i (ptrV p)
 rw[hi] at B
 have I:=(rin_stay sp sp.new p).far (G:=fun k=>k=y) hI (Touch.setCell (F:=fun k=>k=y) (Touch.refl _ w1) (p:=⟨y,i,none⟩) (.inl rfl) (ptrV p)) (fun k hk e=>hGy (by rw[<-show k=y from e];exact hk))
 refine⟨⟨p,G,B,I,.inr ⟨hy0,B.lt⟩,hGy,fun k hk=>.inr ⟨hG k hk,(rin_stay sp sp.new p).low I k hk⟩,fun k hk=>hk.elim False.elim (fun h=>h.2)⟩,hb.setCell (p:=⟨y,i,none⟩) hy0 _⟩
theorem rjmake1_any{lo hi dg u m:Nat}{gr:Bool}(w:World)(ok:HdOk lo hi dg u m) :
 Calls Tryz.prog 24 #[(.h lo hi dg u m gr:Spk).v] w fun e w'=>∃x,e=.returned (.pointer (some ⟨x,0,none⟩))/\RJsAt (.h lo hi dg u m gr) (.h lo hi dg u m gr:Spk).new x (Gr (fun _=>False) w w') w'/\Below w.heap.size w w':=by
 have HOK:=Lib.hid ok
 clear ok
 show Calls Tryz.prog 24 #[.agg #[.int .u8 1,.int .i64 lo,.int .i64 hi,.int .i64 dg,.bool gr,.int .i64 0,.int .i64 0]] w _
 obtain⟨b,hbb⟩:∃b,w.heap.size=b:=⟨_,rfl⟩
 obtain⟨wa,hwa⟩:∃z,w.alloc (.cells #[.int .u8 1,.int .i64 lo,.int .i64 hi,.int .i64 dg,.bool gr,.int .i64 0,.int .i64 0] 34)=z:=⟨_,rfl⟩
 have ha:Below w.heap.size w wa:=by rw[<-hwa];(repeat' (first|(with_reducible exact Below.refl _ _)|(with_reducible refine Below.alloc ?_ ?_ _)|(with_reducible refine Below.drew ?_)|(with_reducible refine below_drewN ?_ _)|(with_reducible refine Below.setCell ?_ ?_ _)|(with_reducible refine below_of (by assumption) ?_ ?_)|go_size))
 have B0:Hid (Blk wa b 34 #[.int .u8 1,.int .i64 lo,.int .i64 hi,.int .i64 dg,.bool gr,.int .i64 0,.int .i64 0]):=by rw[<-hwa,<-hbb];exact Lib.hid (Blk.new _ _ _)
 have hz:wa.heap.size=b+1:=by rw[<-hwa,<-hbb,World.size_alloc]
 have s0:=B0.out.cell 0
 have s1:=B0.out.cell 1
 have s2:=B0.out.cell 2
 have s3:=B0.out.cell 3
 have s4:=B0.out.cell 4
 have s5:=B0.out.cell 5
 have s6:=B0.out.cell 6
 simp only[List.getElem?_toArray,List.getElem?_cons_zero,List.getElem?_cons_succ] at s0 s1 s2 s3 s4 s5 s6
 have HBB:=Lib.hid hbb
 go_enter Tryz.func24,Tryz.ntmps24
 go_upto_region 1 with fail
 have HZ:=Lib.hid hz
 clear hwa hbb hz
 obtain⟨wb,hwb⟩:∃z,wa.alloc (.cells #[.int .u8 1,.int .i64 lo,.int .i64 hi,.int .i64 dg,.bool gr,.int .i64 0,.int .i64 0,.pointer none,.pointer none,.pointer none,.pointer none] 146)=z:=⟨_,rfl⟩
 have hab:Below wa.heap.size wa wb:=by rw[<-hwb];(repeat' (first|(with_reducible exact Below.refl _ _)|(with_reducible refine Below.alloc ?_ ?_ _)|(with_reducible refine Below.drew ?_)|(with_reducible refine below_drewN ?_ _)|(with_reducible refine Below.setCell ?_ ?_ _)|(with_reducible refine below_of (by assumption) ?_ ?_)|go_size))
 have hb:Below w.heap.size w wb:=ha.trans (hab.mono ha.size)
 have Y0:Hid (Blk wb (b+1) 146 #[.int .u8 1,.int .i64 lo,.int .i64 hi,.int .i64 dg,.bool gr,.int .i64 0,.int .i64 0,.pointer none,.pointer none,.pointer none,.pointer none]):=by rw[<-hwb,<-HZ.out];exact Lib.hid (Blk.new _ _ _)
 have B1:Hid (Blk wb b 34 #[.int .u8 1,.int .i64 lo,.int .i64 hi,.int .i64 dg,.bool gr,.int .i64 0,.int .i64 0]):=Lib.hid (B0.out.keep hab)
 have hzb:wb.heap.size=b+2:=by rw[<-hwb,World.size_alloc,HZ.out]
 go_upto_region 2 with fail
 try rw[hwb]
 try rw[HZ.out]
 clear hwb hab s0 s1 s2 s3 s4 s5 s6
 have HZB:=Lib.hid hzb
 clear hzb
 have s0:=B1.out.cell 0
 have s1:=B1.out.cell 1
 have s2:=B1.out.cell 2
 have s3:=B1.out.cell 3
 have s4:=B1.out.cell 4
 have s5:=B1.out.cell 5
 have s6:=B1.out.cell 6
 simp only[List.getElem?_toArray,List.getElem?_cons_zero,List.getElem?_cons_succ] at s0 s1 s2 s3 s4 s5 s6
 have hby:w.heap.size<=b+1:=by have:=HBB.out;omega
 go_wp2_with fail
 refine(rhd_new gr wb HOK.out).mono ?_
 rintro e w1 ⟨p,rfl,hI,hb1⟩
 have Y1:=Lib.hid (Y0.out.keep hb1)
 have f0:=Y1.out.cell 7
 have f1:=Y1.out.frozen 7
 simp only[List.getElem?_toArray,List.getElem?_cons_zero,List.getElem?_cons_succ] at f0
 have HBT:=Lib.hid (hb.trans (hb1.mono hb.size))
 have HI:=Lib.hid hI
 have hzz:=hb.size
 clear hI hb1
 go_wp2_with fail
 go_ret
 have hzb:=HZB.out
 obtain⟨r1,r2⟩:=rjs_made (sp:=.h lo hi dg u m gr) (i:=7) Y1.out HI.out (fun h=>h.elim False.elim (fun h=>by have:=h.1;omega)) hby (fun j h=>h.elim False.elim (fun h=>by have:=h.1;omega)) HBT.out rfl
 exact⟨_,rfl,r1,r2⟩
theorem rjmake2_any{a m:Nat}(w:World)(ok:SpOk (.d a m)) :
 Calls Tryz.prog 24 #[(.d a m:Spk).v] w fun e w'=>∃x,e=.returned (.pointer (some ⟨x,0,none⟩))/\RJsAt (.d a m) (.d a m:Spk).new x (Gr (fun _=>False) w w') w'/\Below w.heap.size w w':=by
 have HOK:=Lib.hid ok
 clear ok
 show Calls Tryz.prog 24 #[.agg #[.int .u8 2,.int .i64 0,.int .i64 0,.int .i64 0,.bool false,.int .i64 a,.int .i64 m]] w _
 obtain⟨b,hbb⟩:∃b,w.heap.size=b:=⟨_,rfl⟩
 obtain⟨wa,hwa⟩:∃z,w.alloc (.cells #[.int .u8 2,.int .i64 0,.int .i64 0,.int .i64 0,.bool false,.int .i64 a,.int .i64 m] 34)=z:=⟨_,rfl⟩
 have ha:Below w.heap.size w wa:=by rw[<-hwa];(repeat' (first|(with_reducible exact Below.refl _ _)|(with_reducible refine Below.alloc ?_ ?_ _)|(with_reducible refine Below.drew ?_)|(with_reducible refine below_drewN ?_ _)|(with_reducible refine Below.setCell ?_ ?_ _)|(with_reducible refine below_of (by assumption) ?_ ?_)|go_size))
 have B0:Hid (Blk wa b 34 #[.int .u8 2,.int .i64 0,.int .i64 0,.int .i64 0,.bool false,.int .i64 a,.int .i64 m]):=by rw[<-hwa,<-hbb];exact Lib.hid (Blk.new _ _ _)
 have hz:wa.heap.size=b+1:=by rw[<-hwa,<-hbb,World.size_alloc]
 have s0:=B0.out.cell 0
 have s1:=B0.out.cell 1
 have s2:=B0.out.cell 2
 have s3:=B0.out.cell 3
 have s4:=B0.out.cell 4
 have s5:=B0.out.cell 5
 have s6:=B0.out.cell 6
 simp only[List.getElem?_toArray,List.getElem?_cons_zero,List.getElem?_cons_succ] at s0 s1 s2 s3 s4 s5 s6
 have HBB:=Lib.hid hbb
 go_enter Tryz.func24,Tryz.ntmps24
 go_upto_region 1 with fail
 have HZ:=Lib.hid hz
 clear hwa hbb hz
 obtain⟨wb,hwb⟩:∃z,wa.alloc (.cells #[.int .u8 2,.int .i64 0,.int .i64 0,.int .i64 0,.bool false,.int .i64 a,.int .i64 m,.pointer none,.pointer none,.pointer none,.pointer none] 146)=z:=⟨_,rfl⟩
 have hab:Below wa.heap.size wa wb:=by rw[<-hwb];(repeat' (first|(with_reducible exact Below.refl _ _)|(with_reducible refine Below.alloc ?_ ?_ _)|(with_reducible refine Below.drew ?_)|(with_reducible refine below_drewN ?_ _)|(with_reducible refine Below.setCell ?_ ?_ _)|(with_reducible refine below_of (by assumption) ?_ ?_)|go_size))
 have hb:Below w.heap.size w wb:=ha.trans (hab.mono ha.size)
 have Y0:Hid (Blk wb (b+1) 146 #[.int .u8 2,.int .i64 0,.int .i64 0,.int .i64 0,.bool false,.int .i64 a,.int .i64 m,.pointer none,.pointer none,.pointer none,.pointer none]):=by rw[<-hwb,<-HZ.out];exact Lib.hid (Blk.new _ _ _)
 have B1:Hid (Blk wb b 34 #[.int .u8 2,.int .i64 0,.int .i64 0,.int .i64 0,.bool false,.int .i64 a,.int .i64 m]):=Lib.hid (B0.out.keep hab)
 have hzb:wb.heap.size=b+2:=by rw[<-hwb,World.size_alloc,HZ.out]
 go_upto_region 2 with fail
 try rw[hwb]
 try rw[HZ.out]
 clear hwb hab s0 s1 s2 s3 s4 s5 s6
 have HZB:=Lib.hid hzb
 clear hzb
 have s0:=B1.out.cell 0
 have s1:=B1.out.cell 1
 have s2:=B1.out.cell 2
 have s3:=B1.out.cell 3
 have s4:=B1.out.cell 4
 have s5:=B1.out.cell 5
 have s6:=B1.out.cell 6
 simp only[List.getElem?_toArray,List.getElem?_cons_zero,List.getElem?_cons_succ] at s0 s1 s2 s3 s4 s5 s6
 have hby:w.heap.size<=b+1:=by have:=HBB.out;omega
 go_wp2_with fail
 refine(rdd_new a m wb HOK.out.1 HOK.out.2.1 HOK.out.2.2.1 HOK.out.2.2.2).mono ?_
 rintro e w1 ⟨p,rfl,hI,hb1⟩
 have Y1:=Lib.hid (Y0.out.keep hb1)
 have f0:=Y1.out.cell 8
 have f1:=Y1.out.frozen 8
 simp only[List.getElem?_toArray,List.getElem?_cons_zero,List.getElem?_cons_succ] at f0
 have HBT:=Lib.hid (hb.trans (hb1.mono hb.size))
 have HI:=Lib.hid hI
 have hzz:=hb.size
 clear hI hb1
 go_wp2_with fail
 go_ret
 have hzb:=HZB.out
 obtain⟨r1,r2⟩:=rjs_made (sp:=.d a m) (i:=8) Y1.out HI.out (fun h=>h.elim False.elim (fun h=>by have:=h.1;omega)) hby (fun j h=>h.elim False.elim (fun h=>by have:=h.1;omega)) HBT.out rfl
 exact⟨_,rfl,r1,r2⟩
theorem rjmake3_any{d:Nat}(w:World)(ok:SpOk (.t d)) :
 Calls Tryz.prog 24 #[(.t d:Spk).v] w fun e w'=>∃x,e=.returned (.pointer (some ⟨x,0,none⟩))/\RJsAt (.t d) (.t d:Spk).new x (Gr (fun _=>False) w w') w'/\Below w.heap.size w w':=by
 have HOK:=Lib.hid ok
 clear ok
 show Calls Tryz.prog 24 #[.agg #[.int .u8 3,.int .i64 0,.int .i64 0,.int .i64 0,.bool false,.int .i64 0,.int .i64 d]] w _
 obtain⟨b,hbb⟩:∃b,w.heap.size=b:=⟨_,rfl⟩
 obtain⟨wa,hwa⟩:∃z,w.alloc (.cells #[.int .u8 3,.int .i64 0,.int .i64 0,.int .i64 0,.bool false,.int .i64 0,.int .i64 d] 34)=z:=⟨_,rfl⟩
 have ha:Below w.heap.size w wa:=by rw[<-hwa];(repeat' (first|(with_reducible exact Below.refl _ _)|(with_reducible refine Below.alloc ?_ ?_ _)|(with_reducible refine Below.drew ?_)|(with_reducible refine below_drewN ?_ _)|(with_reducible refine Below.setCell ?_ ?_ _)|(with_reducible refine below_of (by assumption) ?_ ?_)|go_size))
 have B0:Hid (Blk wa b 34 #[.int .u8 3,.int .i64 0,.int .i64 0,.int .i64 0,.bool false,.int .i64 0,.int .i64 d]):=by rw[<-hwa,<-hbb];exact Lib.hid (Blk.new _ _ _)
 have hz:wa.heap.size=b+1:=by rw[<-hwa,<-hbb,World.size_alloc]
 have s0:=B0.out.cell 0
 have s1:=B0.out.cell 1
 have s2:=B0.out.cell 2
 have s3:=B0.out.cell 3
 have s4:=B0.out.cell 4
 have s5:=B0.out.cell 5
 have s6:=B0.out.cell 6
 simp only[List.getElem?_toArray,List.getElem?_cons_zero,List.getElem?_cons_succ] at s0 s1 s2 s3 s4 s5 s6
 have HBB:=Lib.hid hbb
 go_enter Tryz.func24,Tryz.ntmps24
 go_upto_region 1 with fail
 have HZ:=Lib.hid hz
 clear hwa hbb hz
 obtain⟨wb,hwb⟩:∃z,wa.alloc (.cells #[.int .u8 3,.int .i64 0,.int .i64 0,.int .i64 0,.bool false,.int .i64 0,.int .i64 d,.pointer none,.pointer none,.pointer none,.pointer none] 146)=z:=⟨_,rfl⟩
 have hab:Below wa.heap.size wa wb:=by rw[<-hwb];(repeat' (first|(with_reducible exact Below.refl _ _)|(with_reducible refine Below.alloc ?_ ?_ _)|(with_reducible refine Below.drew ?_)|(with_reducible refine below_drewN ?_ _)|(with_reducible refine Below.setCell ?_ ?_ _)|(with_reducible refine below_of (by assumption) ?_ ?_)|go_size))
 have hb:Below w.heap.size w wb:=ha.trans (hab.mono ha.size)
 have Y0:Hid (Blk wb (b+1) 146 #[.int .u8 3,.int .i64 0,.int .i64 0,.int .i64 0,.bool false,.int .i64 0,.int .i64 d,.pointer none,.pointer none,.pointer none,.pointer none]):=by rw[<-hwb,<-HZ.out];exact Lib.hid (Blk.new _ _ _)
 have B1:Hid (Blk wb b 34 #[.int .u8 3,.int .i64 0,.int .i64 0,.int .i64 0,.bool false,.int .i64 0,.int .i64 d]):=Lib.hid (B0.out.keep hab)
 have hzb:wb.heap.size=b+2:=by rw[<-hwb,World.size_alloc,HZ.out]
 go_upto_region 2 with fail
 try rw[hwb]
 try rw[HZ.out]
 clear hwb hab s0 s1 s2 s3 s4 s5 s6
 have HZB:=Lib.hid hzb
 clear hzb
 have s0:=B1.out.cell 0
 have s1:=B1.out.cell 1
 have s2:=B1.out.cell 2
 have s3:=B1.out.cell 3
 have s4:=B1.out.cell 4
 have s5:=B1.out.cell 5
 have s6:=B1.out.cell 6
 simp only[List.getElem?_toArray,List.getElem?_cons_zero,List.getElem?_cons_succ] at s0 s1 s2 s3 s4 s5 s6
 have hby:w.heap.size<=b+1:=by have:=HBB.out;omega
 obtain⟨w1,hw1⟩:∃z,wb.alloc (.cells #[.int .i64 d,.slice none 0 0,.slice none 0 0,.int .i64 0,.int .i64 0] 151)=z:=⟨_,rfl⟩
 have hb1:Below wb.heap.size wb w1:=by rw[<-hw1];(repeat' (first|(with_reducible exact Below.refl _ _)|(with_reducible refine Below.alloc ?_ ?_ _)|(with_reducible refine Below.drew ?_)|(with_reducible refine below_drewN ?_ _)|(with_reducible refine Below.setCell ?_ ?_ _)|(with_reducible refine below_of (by assumption) ?_ ?_)|go_size))
 have P0:Hid (Blk w1 (b+2) 151 #[.int .i64 d,.slice none 0 0,.slice none 0 0,.int .i64 0,.int .i64 0]):=by rw[<-hw1,<-HZB.out];exact Lib.hid (Blk.new _ _ _)
 have Y1:=Lib.hid (Y0.out.keep hb1)
 have f0:=Y1.out.cell 9
 have f1:=Y1.out.frozen 9
 simp only[List.getElem?_toArray,List.getElem?_cons_zero,List.getElem?_cons_succ] at f0
 have HBT:=Lib.hid (hb.trans (hb1.mono hb.size))
 have hzz:=hb.size
 clear hb1
 go_wp2_with fail
 try rw[hw1]
 try rw[HZB.out]
 go_ret
 have hzb:=HZB.out
 obtain⟨r1,r2⟩:=rjs_made (sp:=.t d) (i:=9) (p:=b+2) (G:=fun j=>j=b+2) Y1.out (⟨_,_,P0.out,OwnM.nil_ _ _,OwnM.nil_ _ _,rfl,fun j e=>by simp[Value.ownBlock] at e,fun j e=>by simp[Value.ownBlock] at e,fun j e=>by simp[Value.ownBlock] at e,fun j e=>by rw[show j=b+2 from e];exact P0.out.lt⟩) (by omega) hby (fun j h=>by rw[show j=b+2 from h];omega) HBT.out rfl
 exact⟨_,rfl,r1,r2⟩
theorem rjmake4_any{q:Nat}(w:World)(ok:SpOk (.k q)) :
 Calls Tryz.prog 24 #[(.k q:Spk).v] w fun e w'=>∃x,e=.returned (.pointer (some ⟨x,0,none⟩))/\RJsAt (.k q) (.k q:Spk).new x (Gr (fun _=>False) w w') w'/\Below w.heap.size w w':=by
 have HOK:=Lib.hid ok
 clear ok
 show Calls Tryz.prog 24 #[.agg #[.int .u8 4,.int .i64 0,.int .i64 0,.int .i64 0,.bool false,.int .i64 0,.int .i64 q]] w _
 obtain⟨b,hbb⟩:∃b,w.heap.size=b:=⟨_,rfl⟩
 obtain⟨wa,hwa⟩:∃z,w.alloc (.cells #[.int .u8 4,.int .i64 0,.int .i64 0,.int .i64 0,.bool false,.int .i64 0,.int .i64 q] 34)=z:=⟨_,rfl⟩
 have ha:Below w.heap.size w wa:=by rw[<-hwa];(repeat' (first|(with_reducible exact Below.refl _ _)|(with_reducible refine Below.alloc ?_ ?_ _)|(with_reducible refine Below.drew ?_)|(with_reducible refine below_drewN ?_ _)|(with_reducible refine Below.setCell ?_ ?_ _)|(with_reducible refine below_of (by assumption) ?_ ?_)|go_size))
 have B0:Hid (Blk wa b 34 #[.int .u8 4,.int .i64 0,.int .i64 0,.int .i64 0,.bool false,.int .i64 0,.int .i64 q]):=by rw[<-hwa,<-hbb];exact Lib.hid (Blk.new _ _ _)
 have hz:wa.heap.size=b+1:=by rw[<-hwa,<-hbb,World.size_alloc]
 have s0:=B0.out.cell 0
 have s1:=B0.out.cell 1
 have s2:=B0.out.cell 2
 have s3:=B0.out.cell 3
 have s4:=B0.out.cell 4
 have s5:=B0.out.cell 5
 have s6:=B0.out.cell 6
 simp only[List.getElem?_toArray,List.getElem?_cons_zero,List.getElem?_cons_succ] at s0 s1 s2 s3 s4 s5 s6
 have HBB:=Lib.hid hbb
 go_enter Tryz.func24,Tryz.ntmps24
 go_upto_region 1 with fail
 have HZ:=Lib.hid hz
 clear hwa hbb hz
 obtain⟨wb,hwb⟩:∃z,wa.alloc (.cells #[.int .u8 4,.int .i64 0,.int .i64 0,.int .i64 0,.bool false,.int .i64 0,.int .i64 q,.pointer none,.pointer none,.pointer none,.pointer none] 146)=z:=⟨_,rfl⟩
 have hab:Below wa.heap.size wa wb:=by rw[<-hwb];(repeat' (first|(with_reducible exact Below.refl _ _)|(with_reducible refine Below.alloc ?_ ?_ _)|(with_reducible refine Below.drew ?_)|(with_reducible refine below_drewN ?_ _)|(with_reducible refine Below.setCell ?_ ?_ _)|(with_reducible refine below_of (by assumption) ?_ ?_)|go_size))
 have hb:Below w.heap.size w wb:=ha.trans (hab.mono ha.size)
 have Y0:Hid (Blk wb (b+1) 146 #[.int .u8 4,.int .i64 0,.int .i64 0,.int .i64 0,.bool false,.int .i64 0,.int .i64 q,.pointer none,.pointer none,.pointer none,.pointer none]):=by rw[<-hwb,<-HZ.out];exact Lib.hid (Blk.new _ _ _)
 have B1:Hid (Blk wb b 34 #[.int .u8 4,.int .i64 0,.int .i64 0,.int .i64 0,.bool false,.int .i64 0,.int .i64 q]):=Lib.hid (B0.out.keep hab)
 have hzb:wb.heap.size=b+2:=by rw[<-hwb,World.size_alloc,HZ.out]
 go_upto_region 2 with fail
 try rw[hwb]
 try rw[HZ.out]
 clear hwb hab s0 s1 s2 s3 s4 s5 s6
 have HZB:=Lib.hid hzb
 clear hzb
 have s0:=B1.out.cell 0
 have s1:=B1.out.cell 1
 have s2:=B1.out.cell 2
 have s3:=B1.out.cell 3
 have s4:=B1.out.cell 4
 have s5:=B1.out.cell 5
 have s6:=B1.out.cell 6
 simp only[List.getElem?_toArray,List.getElem?_cons_zero,List.getElem?_cons_succ] at s0 s1 s2 s3 s4 s5 s6
 have hby:w.heap.size<=b+1:=by have:=HBB.out;omega
 obtain⟨w1,hw1⟩:∃z,wb.alloc (.cells #[.int .i64 q,.slice none 0 0,.int .u64 0] 154)=z:=⟨_,rfl⟩
 have hb1:Below wb.heap.size wb w1:=by rw[<-hw1];(repeat' (first|(with_reducible exact Below.refl _ _)|(with_reducible refine Below.alloc ?_ ?_ _)|(with_reducible refine Below.drew ?_)|(with_reducible refine below_drewN ?_ _)|(with_reducible refine Below.setCell ?_ ?_ _)|(with_reducible refine below_of (by assumption) ?_ ?_)|go_size))
 have P0:Hid (Blk w1 (b+2) 154 #[.int .i64 q,.slice none 0 0,.int .u64 0]):=by rw[<-hw1,<-HZB.out];exact Lib.hid (Blk.new _ _ _)
 have Y1:=Lib.hid (Y0.out.keep hb1)
 have f0:=Y1.out.cell 10
 have f1:=Y1.out.frozen 10
 simp only[List.getElem?_toArray,List.getElem?_cons_zero,List.getElem?_cons_succ] at f0
 have HBT:=Lib.hid (hb.trans (hb1.mono hb.size))
 have hzz:=hb.size
 clear hb1
 go_wp2_with fail
 try rw[hw1]
 try rw[HZB.out]
 go_ret
 have hzb:=HZB.out
 obtain⟨r1,r2⟩:=rjs_made (sp:=.k q) (i:=10) (p:=b+2) (G:=fun j=>j=b+2) Y1.out (⟨_,_,K.stG_new P0.out⟩) (by omega) hby (fun j h=>by rw[show j=b+2 from h];omega) HBT.out rfl
 exact⟨_,rfl,r1,r2⟩
theorem rjs_make{sp:Spk}(w:World)(ok:SpOk sp):Calls Tryz.prog 24 #[sp.v] w fun e w'=>∃x,e=.returned (.pointer (some ⟨x,0,none⟩))/\RJsAt sp sp.new x (Gr (fun _=>False) w w') w'/\Below w.heap.size w w':=by
 cases sp with
 | h lo hi dg u m gr=>exact rjmake1_any w ok
 | d a m=>exact rjmake2_any w ok
 | t d=>exact rjmake3_any w ok
 | k q=>exact rjmake4_any w ok
open Go.RowKit Go.Lib Go.Shelf
open Go.RowKit Go.Lib Go.Shelf
end Go.Proofs.YtkiebccnpheloaaGreat.D
namespace Go.Proofs.YtkiebccnpheloaaGreat.K
open Go.RowKit
end Go.Proofs.YtkiebccnpheloaaGreat.K
namespace Go.Proofs.YtkiebccnpheloaaGreat.D
open Go.RowKit Go.Lib Go.Shelf
open Go.RowKit Go.Lib Go.Shelf
abbrev RjP(sp:Spk):Js->Nat->Ft->World->Prop:=fun c p=>RJsAt sp c p
theorem rjP_stay(sp:Spk):∀c p,Stay (RjP sp c p):=fun c p=>rjs_stay sp c p
structure RWinB(sp:Spk)(now:Nat)(L:List Js)(v:Value)(ps:List Nat)(Ow:Nat->Ft)(G:Ft)(x:Nat)(w:World):Prop where
 blk:Blk w x 102 (sp.cs++[v,Value.int .u64 now]).toArray
 ring:RingAt 41 (RjP sp) L v ps Ow G w
 pos:0<L.length
 n60:L.length<=60
 out:¬G x
def RWinAt(sp:Spk)(s:Wn)(x:Nat)(F:Ft)(w:World):Prop:=∃v ps Ow G,RWinB sp s.now s.L v ps Ow G x w/\F x/\(∀k,G k->F k)/\∀k,F k->k<w.heap.size
section
variable {sp : Spk} {now x n a o : Nat} {L : List Js} {v : Value} {ps : List Nat} {Ow : Nat -> Ft} {G F H : Ft} {w w' : World} {s : Wn} {cq : Value} {B : List Int}
theorem RWinB.stay(h:RWinB sp now L v ps Ow G x w)(hx:w'.heap[x]?=w.heap[x]?)(hk:∀k,G k->w'.heap[k]?=w.heap[k]?)(hz:w.heap.size<=w'.heap.size):RWinB sp now L v ps Ow G x w':=
 ⟨hx.trans h.blk,h.ring.stay (rjP_stay sp) hk hz,h.pos,h.n60,h.out⟩
theorem RWinB.keep(h:RWinB sp now L v ps Ow G x w)(hb:Below w.heap.size w w'):RWinB sp now L v ps Ow G x w':=h.stay (hb.block x h.blk.lt) (fun k hk=>hb.block k (h.ring.low k hk)) hb.size
theorem rwin_stay(sp:Spk)(s:Wn)(x:Nat):Stay (RWinAt sp s x) where
 stay:=fun⟨v,ps,Ow,G,h1,h3,h4,h5⟩ hk hz=>⟨v,ps,Ow,G,h1.stay (hk x h3) (fun k e=>hk k (h4 k e)) hz,h3,h4,fun k h=>Nat.lt_of_lt_of_le (h5 k h) hz⟩
 more:=fun⟨v,ps,Ow,G,h1,h3,h4,_⟩ h hl=>⟨v,ps,Ow,G,h1,h x h3,fun k e=>h k (h4 k e),hl⟩
 low:=fun⟨_,_,_,_,_,_,_,h5⟩=>h5
theorem RWinB.c7(h:RWinB sp now L v ps Ow G x w):w.cell? ⟨x,7,none⟩=some v:=by have:=h.blk.cell 7;revert this;cases sp<;>exact id
theorem RWinB.c8(h:RWinB sp now L v ps Ow G x w):w.cell? ⟨x,8,none⟩=some (.int .u64 now):=by have:=h.blk.cell 8;revert this;cases sp<;>exact id
theorem RWinB.js(h:RWinB sp now L v ps Ow G x w){i:Nat}(hi:i<L.length):RJsAt sp (L.getD i sp.new) (ps.getD i 0) (Ow i) w:=by
 rw[List.getD_eq_getElem?_getD,List.getElem?_eq_getElem hi,Option.getD_some]
 exact h.ring.each _ hi
theorem rwin_turn{c':Js}{i:Nat}(h:RWinB sp s.now s.L v ps Ow G x w)(hFx:F x)(hGF:∀k,G k->F k)(hF:∀k,F k->k<w.heap.size)(hi:i<s.L.length)
 (hn:RJsAt sp c' (ps.getD i 0) (Gr (Ow i) w w') w') (ht:Touch (fun k=>Ow i k\/H k) w w') (hd:∀k,H k->¬F k) :
 RWinAt sp {s with L:=s.L.set i c'} x (Gr F w w') w'/\Touch (fun k=>F k\/H k) w w':=by
 have hx:¬(Ow i x\/H x):=fun e=>e.elim (fun e=>h.out (h.ring.inn _ _ e)) (fun e=>hd x e hFx)
 exact⟨⟨v,ps,updF Ow i (Gr (Ow i) w w'),Gr G w w',⟨(ht.block x h.blk.lt hx).trans h.blk,h.ring.turn (rjP_stay sp) hi hn ht (fun k h1 h2=>hd k h1 (hGF k h2)),by show 0<(s.L.set i c').length;rw[List.length_set];exact h.pos,by show(s.L.set i c').length<=60;rw[List.length_set];exact h.n60,fun e=>e.elim h.out (fun e=>by have:=h.blk.lt;omega)⟩,.inl hFx,fun k e=>e.imp (hGF k) id,gr_lt hF ht.size⟩,ht.mono fun k e=>e.imp (fun e=>hGF k (h.ring.inn _ _ e)) id⟩
theorem rwin_total_many(m:Nat)(w:World)(h:RWinB sp s.now s.L v ps Ow G x w)(ok:∀c∈s.L,JsOk sp c)(hm:m<=s.L.length):Calls Tryz.prog 121 #[.pointer (some ⟨x,0,none⟩),.int .i64 m] w fun e w'=>e=.returned (.int .u64 (sumU sp s.L m))/\Below w.heap.size w w':=by
 have C7:=Lib.hid h.c7
 have HW:=Lib.hid h
 have HOK:=Lib.hid ok
 have lx:=h.blk.lt
 obtain⟨g,c,rfl,hgl,_,_,_,_,hcell⟩:=h.ring.pos h.pos
 have HCE:=Lib.hid hcell
 have c7:=C7.out
 have h1:¬((m:Int) > (s.L.length:Int)):=by omega
 have h60:=h.n60
 obtain⟨N,hN⟩:∃N,s.L.length=N:=⟨_,rfl⟩
 rw[hN] at c7 h1 hm h60
 have HN:=Lib.hid hN
 clear h ok hcell hN
 go_enter Tryz.func121,Tryz.ntmps121
 go_wp2_with fail
 clear c7
 go_loopg [5,6] m (fun q t5 t6 wr=>∃j:Nat,q=m - j/\j<=m/\t5=.int .u64 (sumU sp s.L j)/\t6=.int .i64 j/\Hid (Below w.heap.size w wr))
 case atStart=>exact⟨0,rfl,by omega,rfl,rfl,Lib.hid (Below.refl _ _)⟩
 case round=>
  obtain⟨j,hq,hj,rfl,rfl,HB⟩:=hrel
  have HQ:=Lib.hid hq
  clear hq
  by_cases hlt:j<m
  ·have hji:(j:Int)<(m:Int):=by omega
   have hjN:(j:Int)<(N:Int):=by omega
   have hjL:j<s.L.length:=by rw[HN.out];omega
   have hw:=HW.out.keep HB.out
   have hok:JsOk sp (s.L.getD j sp.new):=by rw[List.getD_eq_getElem?_getD,List.getElem?_eq_getElem hjL,Option.getD_some];exact HOK.out _ (List.getElem_mem _)
   have C2:=Lib.hid (rjs_total wr (hw.js hjL) hok)
   have HS:Hid (sumU sp s.L (j+1)=IntKind.u64.wrap (sumU sp s.L j+jtot sp (s.L.getD j sp.new))):=Lib.hid rfl
   have hb1:=sumU_bd sp s.L j
   have hb2:=jtot_bd hok
   have c7:=(HB.out.cell (p:=⟨x,7,none⟩) lx).trans C7.out
   rw[HN.out] at c7
   have cj:wr.cell? ⟨g,j,none⟩=some (.pointer (some ⟨ps.getD j 0,0,none⟩)):=(HB.out.cell (p:=⟨g,j,none⟩) hgl).trans (HCE.out j hjL)
   clear hw hok
   generalize ps.getD j 0=y at *
   generalize jtot sp (s.L.getD j sp.new)=T at *
   obtain⟨S,hS⟩:∃z,sumU sp s.L j=z:=⟨_,rfl⟩
   rw[hS] at HS hb1 |-
   clear hS
   go_wp2_with fail
   refine(C2.out).mono ?_
   rintro e w2 ⟨rfl,hb⟩
   have HB2:=Lib.hid (HB.out.trans (hb.mono HB.out.size))
   clear hb c7 cj
   go_wp2_with fail
   go_roundg (m - (j+1))
   case measure=>have:=HQ.out;omega
   case rel=>exact⟨j+1,rfl,by omega,by rw[HS.out],by go_num,HB2⟩
  ·have hji:¬((j:Int)<(m:Int)):=by omega
   obtain rfl:j=m:=by omega
   go_wp2_with fail
   go_ret
   exact⟨rfl,HB.out⟩
theorem rwin_total(last:Int)(w:World)(h:RWinB sp s.now s.L v ps Ow G x w)(ok:∀c∈s.L,JsOk sp c):Calls Tryz.prog 121 #[.pointer (some ⟨x,0,none⟩),.int .i64 last] w fun e w'=>e=.returned (.int .u64 (wtot sp s last))/\Below w.heap.size w w':=by
 by_cases h1:(s.L.length:Int)<last
 ·have c7:=h.c7
  obtain⟨g,c,rfl,_⟩:=h.ring.pos h.pos
  have h2:last > (s.L.length:Int):=h1
  have e:wtot sp s last=0:=by unfold wtot;rw[if_pos (by omega)]
  rw[e]
  clear h ok e h1
  go_enter Tryz.func121,Tryz.ntmps121
  go_wp2_with fail
  go_ret
  exact⟨rfl,by(repeat' (first|(with_reducible exact Below.refl _ _)|(with_reducible refine Below.alloc ?_ ?_ _)|(with_reducible refine Below.drew ?_)|(with_reducible refine below_drewN ?_ _)|(with_reducible refine Below.setCell ?_ ?_ _)|(with_reducible refine below_of (by assumption) ?_ ?_)|go_size))⟩
 ·by_cases h0:0<=last
  ·have e:wtot sp s last=sumU sp s.L last.toNat:=by unfold wtot;rw[if_neg (by omega)]
   have hl:((last.toNat:Nat):Int)=last:=by omega
   rw[e,<-hl]
   exact rwin_total_many last.toNat w h ok (by omega)
  ·have e:wtot sp s last=0:=by unfold wtot;rw[if_neg (by omega),show last.toNat=0 by omega];rfl
   rw[e]
   have c7:=h.c7
   obtain⟨g,c,rfl,_⟩:=h.ring.pos h.pos
   have h2:¬last > (s.L.length:Int):=h1
   have h3:¬((0:Int)<last):=by omega
   clear h ok e h1
   go_enter Tryz.func121,Tryz.ntmps121
   go_wp2_with fail
   go_loopg [5,6] 0 (fun q t5 t6 wr=>t5=.int .u64 0/\t6=.int .i64 0/\w=wr)
   case atStart=>exact⟨rfl,rfl,rfl⟩
   case round=>
    obtain⟨rfl,rfl,rfl⟩:=hrel
    go_wp2_with fail
    go_ret
    exact⟨rfl,Below.refl _ _⟩
end
open Go.RowKit Go.Lib Go.Shelf
end Go.Proofs.YtkiebccnpheloaaGreat.D
