/- Parts of a proof: what its theorem reaches, words cut short. No condition of its own. -/
import Derived.Test.YtkiebccnpheloaaGreatPk46
set_option maxRecDepth 100000
set_option maxHeartbeats 16000000
set_option linter.unusedVariables false
set_option linter.unusedSimpArgs false
namespace Go.Proofs.YtkiebccnpheloaaGreat.D
open Go.RowKit Go.Lib Go.Shelf
theorem yl{sp:iM}{p y i:Nat}{G:Ft}{cs:Array Value}{w w1:World}(hy:dH w1 y 146 cs)(hI:vG sp sp.new p G w1)(hGy:¬G y)(hy0:w.heap.size<=y)(hG:∀k,G k->w.heap.size<=k)(hb:Below w.heap.size w w1)(hi:cs.setIfInBounds i (jF p)=(sp.cs++sp.four p).toArray) :
 gG sp sp.new y (Gr (fun _=>False) w (w1.setCell ⟨y,i,none⟩ (jF p))) (w1.setCell ⟨y,i,none⟩ (jF p))/\Below w.heap.size w (w1.setCell ⟨y,i,none⟩ (jF p)):=by
 have B:=hy.dP i (jF p);rw[hi] at B;have I:=(jr sp sp.new p).far (G:=fun k=>k=y) hI (Touch.setCell (F:=fun k=>k=y) (Touch.refl _ w1) (p:=⟨y,i,none⟩) (.inl rfl) (jF p)) (fun k hk e=>hGy (by rw[<-show k=y from e];exact hk))
 refine⟨⟨p,G,B,I,.inr ⟨hy0,B.lt⟩,hGy,fun k hk=>.inr ⟨hG k hk,(jr sp sp.new p).low I k hk⟩,fun k hk=>hk.elim False.elim (fun h=>h.2)⟩,hb.setCell (p:=⟨y,i,none⟩) hy0 _⟩
theorem Nj{lo hi dg u m:Nat}{gr:Bool}(w:World)(ok:wB lo hi dg u m) :
 Calls Tryz.prog 24 #[(.h lo hi dg u m gr:iM).v] w fun e w'=>∃x,e=.returned (.pointer (some ⟨x,0,none⟩))/\gG (.h lo hi dg u m gr) (.h lo hi dg u m gr:iM).new x (Gr (fun _=>False) w w') w'/\Below w.heap.size w w':=by
 have oN:=aB ok;clear ok;show Calls Tryz.prog 24 #[.agg #[.int .u8 1,.int .i64 lo,.int .i64 hi,.int .i64 dg,.bool gr,.int .i64 0,.int .i64 0]] w _
 obtain⟨b,hbb⟩:∃b,w.heap.size=b:=⟨_,rfl⟩;obtain⟨wa,jM⟩:∃z,w.alloc (.cells #[.int .u8 1,.int .i64 lo,.int .i64 hi,.int .i64 dg,.bool gr,.int .i64 0,.int .i64 0] 34)=z:=⟨_,rfl⟩;have ha:Below w.heap.size w wa:=by rw[<-jM];exact bw
 have B0:Hid (dH wa b 34 #[.int .u8 1,.int .i64 lo,.int .i64 hi,.int .i64 dg,.bool gr,.int .i64 0,.int .i64 0]):=by rw[<-jM,<-hbb];exact aB (dH.new _ _ _)
 have hz:wa.heap.size=b+1:=by rw[<-jM,<-hbb,aO]
 have s0:=B0.out.cell 0;have s1:=B0.out.cell 1;have s2:=B0.out.cell 2;have s3:=B0.out.cell 3;have s4:=B0.out.cell 4;have s5:=B0.out.cell 5;have s6:=B0.out.cell 6;simp only[aF,aC,aG] at s0 s1 s2 s3 s4 s5 s6;have o_:=aB hbb
 go_enter Tryz.func24,Tryz.ntmps24
 go_upto_region 1 with fail;have HZ:=aB hz;clear jM hbb hz;obtain⟨wb,hwb⟩:∃z,wa.alloc (.cells #[.int .u8 1,.int .i64 lo,.int .i64 hi,.int .i64 dg,.bool gr,.int .i64 0,.int .i64 0,.pointer none,.pointer none,.pointer none,.pointer none] 146)=z:=⟨_,rfl⟩;have hab:Below wa.heap.size wa wb:=by rw[<-hwb];exact bw
 have hb:Below w.heap.size w wb:=ha.trans (hab.mono ha.size);have Y0:Hid (dH wb (b+1) 146 #[.int .u8 1,.int .i64 lo,.int .i64 hi,.int .i64 dg,.bool gr,.int .i64 0,.int .i64 0,.pointer none,.pointer none,.pointer none,.pointer none]):=by rw[<-hwb,<-HZ.out];exact aB (dH.new _ _ _)
 have B1:Hid (dH wb b 34 #[.int .u8 1,.int .i64 lo,.int .i64 hi,.int .i64 dg,.bool gr,.int .i64 0,.int .i64 0]):=aB (B0.out.keep hab);have hzb:wb.heap.size=b+2:=by rw[<-hwb,aO,HZ.out]
 go_upto_region 2 with fail;try rw[hwb]
 try rw[HZ.out]
 clear hwb hab s0 s1 s2 s3 s4 s5 s6;have Zx:=aB hzb;clear hzb;have s0:=B1.out.cell 0;have s1:=B1.out.cell 1;have s2:=B1.out.cell 2;have s3:=B1.out.cell 3;have s4:=B1.out.cell 4;have s5:=B1.out.cell 5;have s6:=B1.out.cell 6;simp only[aF,aC,aG] at s0 s1 s2 s3 s4 s5 s6;have hby:w.heap.size<=b+1:=by have:=o_.out;omega
 go_wp2_with fail;refine(ac6 gr wb oN.out).mono ?_
 rintro e w1 ⟨p,rfl,hI,hb1⟩;have Y1:=aB (Y0.out.keep hb1);have f0:=Y1.out.cell 7;have f1:=Y1.out.frozen 7;simp only[aF,aC,aG] at f0;have Nv:=aB (hb.trans (hb1.mono hb.size));have HI:=aB hI;have hzz:=hb.size;clear hI hb1
 go_wp2_with fail
 go_ret;have hzb:=Zx.out;obtain⟨r1,r2⟩:=yl (sp:=.h lo hi dg u m gr) (i:=7) Y1.out HI.out (fun h=>h.elim False.elim (fun h=>by have:=h.1;omega)) hby (fun j h=>h.elim False.elim (fun h=>by have:=h.1;omega)) Nv.out rfl
 exact⟨_,rfl,r1,r2⟩
theorem Nk{a m:Nat}(w:World)(ok:uX (.d a m)) :
 Calls Tryz.prog 24 #[(.d a m:iM).v] w fun e w'=>∃x,e=.returned (.pointer (some ⟨x,0,none⟩))/\gG (.d a m) (.d a m:iM).new x (Gr (fun _=>False) w w') w'/\Below w.heap.size w w':=by
 have oN:=aB ok;clear ok;show Calls Tryz.prog 24 #[.agg #[.int .u8 2,.int .i64 0,.int .i64 0,.int .i64 0,.bool false,.int .i64 a,.int .i64 m]] w _
 obtain⟨b,hbb⟩:∃b,w.heap.size=b:=⟨_,rfl⟩;obtain⟨wa,jM⟩:∃z,w.alloc (.cells #[.int .u8 2,.int .i64 0,.int .i64 0,.int .i64 0,.bool false,.int .i64 a,.int .i64 m] 34)=z:=⟨_,rfl⟩;have ha:Below w.heap.size w wa:=by rw[<-jM];exact bw
 have B0:Hid (dH wa b 34 #[.int .u8 2,.int .i64 0,.int .i64 0,.int .i64 0,.bool false,.int .i64 a,.int .i64 m]):=by rw[<-jM,<-hbb];exact aB (dH.new _ _ _)
 have hz:wa.heap.size=b+1:=by rw[<-jM,<-hbb,aO]
 have s0:=B0.out.cell 0;have s1:=B0.out.cell 1;have s2:=B0.out.cell 2;have s3:=B0.out.cell 3;have s4:=B0.out.cell 4;have s5:=B0.out.cell 5;have s6:=B0.out.cell 6;simp only[aF,aC,aG] at s0 s1 s2 s3 s4 s5 s6;have o_:=aB hbb
 go_enter Tryz.func24,Tryz.ntmps24
 go_upto_region 1 with fail;have HZ:=aB hz;clear jM hbb hz;obtain⟨wb,hwb⟩:∃z,wa.alloc (.cells #[.int .u8 2,.int .i64 0,.int .i64 0,.int .i64 0,.bool false,.int .i64 a,.int .i64 m,.pointer none,.pointer none,.pointer none,.pointer none] 146)=z:=⟨_,rfl⟩;have hab:Below wa.heap.size wa wb:=by rw[<-hwb];exact bw
 have hb:Below w.heap.size w wb:=ha.trans (hab.mono ha.size);have Y0:Hid (dH wb (b+1) 146 #[.int .u8 2,.int .i64 0,.int .i64 0,.int .i64 0,.bool false,.int .i64 a,.int .i64 m,.pointer none,.pointer none,.pointer none,.pointer none]):=by rw[<-hwb,<-HZ.out];exact aB (dH.new _ _ _)
 have B1:Hid (dH wb b 34 #[.int .u8 2,.int .i64 0,.int .i64 0,.int .i64 0,.bool false,.int .i64 a,.int .i64 m]):=aB (B0.out.keep hab);have hzb:wb.heap.size=b+2:=by rw[<-hwb,aO,HZ.out]
 go_upto_region 2 with fail;try rw[hwb]
 try rw[HZ.out]
 clear hwb hab s0 s1 s2 s3 s4 s5 s6;have Zx:=aB hzb;clear hzb;have s0:=B1.out.cell 0;have s1:=B1.out.cell 1;have s2:=B1.out.cell 2;have s3:=B1.out.cell 3;have s4:=B1.out.cell 4;have s5:=B1.out.cell 5;have s6:=B1.out.cell 6;simp only[aF,aC,aG] at s0 s1 s2 s3 s4 s5 s6;have hby:w.heap.size<=b+1:=by have:=o_.out;omega
 go_wp2_with fail;refine(ab8 a m wb oN.out.1 oN.out.2.1 oN.out.2.2.1 oN.out.2.2.2).mono ?_
 rintro e w1 ⟨p,rfl,hI,hb1⟩;have Y1:=aB (Y0.out.keep hb1);have f0:=Y1.out.cell 8;have f1:=Y1.out.frozen 8;simp only[aF,aC,aG] at f0;have Nv:=aB (hb.trans (hb1.mono hb.size));have HI:=aB hI;have hzz:=hb.size;clear hI hb1
 go_wp2_with fail
 go_ret;have hzb:=Zx.out;obtain⟨r1,r2⟩:=yl (sp:=.d a m) (i:=8) Y1.out HI.out (fun h=>h.elim False.elim (fun h=>by have:=h.1;omega)) hby (fun j h=>h.elim False.elim (fun h=>by have:=h.1;omega)) Nv.out rfl
 exact⟨_,rfl,r1,r2⟩
theorem Nl{d:Nat}(w:World)(ok:uX (.t d)) :
 Calls Tryz.prog 24 #[(.t d:iM).v] w fun e w'=>∃x,e=.returned (.pointer (some ⟨x,0,none⟩))/\gG (.t d) (.t d:iM).new x (Gr (fun _=>False) w w') w'/\Below w.heap.size w w':=by
 have oN:=aB ok;clear ok;show Calls Tryz.prog 24 #[.agg #[.int .u8 3,.int .i64 0,.int .i64 0,.int .i64 0,.bool false,.int .i64 0,.int .i64 d]] w _
 obtain⟨b,hbb⟩:∃b,w.heap.size=b:=⟨_,rfl⟩;obtain⟨wa,jM⟩:∃z,w.alloc (.cells #[.int .u8 3,.int .i64 0,.int .i64 0,.int .i64 0,.bool false,.int .i64 0,.int .i64 d] 34)=z:=⟨_,rfl⟩;have ha:Below w.heap.size w wa:=by rw[<-jM];exact bw
 have B0:Hid (dH wa b 34 #[.int .u8 3,.int .i64 0,.int .i64 0,.int .i64 0,.bool false,.int .i64 0,.int .i64 d]):=by rw[<-jM,<-hbb];exact aB (dH.new _ _ _)
 have hz:wa.heap.size=b+1:=by rw[<-jM,<-hbb,aO]
 have s0:=B0.out.cell 0;have s1:=B0.out.cell 1;have s2:=B0.out.cell 2;have s3:=B0.out.cell 3;have s4:=B0.out.cell 4;have s5:=B0.out.cell 5;have s6:=B0.out.cell 6;simp only[aF,aC,aG] at s0 s1 s2 s3 s4 s5 s6;have o_:=aB hbb
 go_enter Tryz.func24,Tryz.ntmps24
 go_upto_region 1 with fail;have HZ:=aB hz;clear jM hbb hz;obtain⟨wb,hwb⟩:∃z,wa.alloc (.cells #[.int .u8 3,.int .i64 0,.int .i64 0,.int .i64 0,.bool false,.int .i64 0,.int .i64 d,.pointer none,.pointer none,.pointer none,.pointer none] 146)=z:=⟨_,rfl⟩;have hab:Below wa.heap.size wa wb:=by rw[<-hwb];exact bw
 have hb:Below w.heap.size w wb:=ha.trans (hab.mono ha.size);have Y0:Hid (dH wb (b+1) 146 #[.int .u8 3,.int .i64 0,.int .i64 0,.int .i64 0,.bool false,.int .i64 0,.int .i64 d,.pointer none,.pointer none,.pointer none,.pointer none]):=by rw[<-hwb,<-HZ.out];exact aB (dH.new _ _ _)
 have B1:Hid (dH wb b 34 #[.int .u8 3,.int .i64 0,.int .i64 0,.int .i64 0,.bool false,.int .i64 0,.int .i64 d]):=aB (B0.out.keep hab);have hzb:wb.heap.size=b+2:=by rw[<-hwb,aO,HZ.out]
 go_upto_region 2 with fail;try rw[hwb]
 try rw[HZ.out]
 clear hwb hab s0 s1 s2 s3 s4 s5 s6;have Zx:=aB hzb;clear hzb;have s0:=B1.out.cell 0;have s1:=B1.out.cell 1;have s2:=B1.out.cell 2;have s3:=B1.out.cell 3;have s4:=B1.out.cell 4;have s5:=B1.out.cell 5;have s6:=B1.out.cell 6;simp only[aF,aC,aG] at s0 s1 s2 s3 s4 s5 s6;have hby:w.heap.size<=b+1:=by have:=o_.out;omega
 obtain⟨w1,hw1⟩:∃z,wb.alloc (.cells #[.int .i64 d,.slice none 0 0,.slice none 0 0,.int .i64 0,.int .i64 0] 151)=z:=⟨_,rfl⟩;have hb1:Below wb.heap.size wb w1:=by rw[<-hw1];exact bw
 have P0:Hid (dH w1 (b+2) 151 #[.int .i64 d,.slice none 0 0,.slice none 0 0,.int .i64 0,.int .i64 0]):=by rw[<-hw1,<-Zx.out];exact aB (dH.new _ _ _)
 have Y1:=aB (Y0.out.keep hb1);have f0:=Y1.out.cell 9;have f1:=Y1.out.frozen 9;simp only[aF,aC,aG] at f0;have Nv:=aB (hb.trans (hb1.mono hb.size));have hzz:=hb.size;clear hb1
 go_wp2_with fail;try rw[hw1]
 try rw[Zx.out]
 go_ret;have hzb:=Zx.out;obtain⟨r1,r2⟩:=yl (sp:=.t d) (i:=9) (p:=b+2) (G:=fun j=>j=b+2) Y1.out (⟨_,_,P0.out,dU.nil_ _ _,dU.nil_ _ _,rfl,fun j e=>by simp[Value.ownBlock] at e,fun j e=>by simp[Value.ownBlock] at e,fun j e=>by simp[Value.ownBlock] at e,fun j e=>by rw[show j=b+2 from e];exact P0.out.lt⟩) ae hby (fun j h=>by rw[show j=b+2 from h];omega) Nv.out rfl
 exact⟨_,rfl,r1,r2⟩
theorem Np{q:Nat}(w:World)(ok:uX (.k q)) :
 Calls Tryz.prog 24 #[(.k q:iM).v] w fun e w'=>∃x,e=.returned (.pointer (some ⟨x,0,none⟩))/\gG (.k q) (.k q:iM).new x (Gr (fun _=>False) w w') w'/\Below w.heap.size w w':=by
 have oN:=aB ok;clear ok;show Calls Tryz.prog 24 #[.agg #[.int .u8 4,.int .i64 0,.int .i64 0,.int .i64 0,.bool false,.int .i64 0,.int .i64 q]] w _
 obtain⟨b,hbb⟩:∃b,w.heap.size=b:=⟨_,rfl⟩;obtain⟨wa,jM⟩:∃z,w.alloc (.cells #[.int .u8 4,.int .i64 0,.int .i64 0,.int .i64 0,.bool false,.int .i64 0,.int .i64 q] 34)=z:=⟨_,rfl⟩;have ha:Below w.heap.size w wa:=by rw[<-jM];exact bw
 have B0:Hid (dH wa b 34 #[.int .u8 4,.int .i64 0,.int .i64 0,.int .i64 0,.bool false,.int .i64 0,.int .i64 q]):=by rw[<-jM,<-hbb];exact aB (dH.new _ _ _)
 have hz:wa.heap.size=b+1:=by rw[<-jM,<-hbb,aO]
 have s0:=B0.out.cell 0;have s1:=B0.out.cell 1;have s2:=B0.out.cell 2;have s3:=B0.out.cell 3;have s4:=B0.out.cell 4;have s5:=B0.out.cell 5;have s6:=B0.out.cell 6;simp only[aF,aC,aG] at s0 s1 s2 s3 s4 s5 s6;have o_:=aB hbb
 go_enter Tryz.func24,Tryz.ntmps24
 go_upto_region 1 with fail;have HZ:=aB hz;clear jM hbb hz;obtain⟨wb,hwb⟩:∃z,wa.alloc (.cells #[.int .u8 4,.int .i64 0,.int .i64 0,.int .i64 0,.bool false,.int .i64 0,.int .i64 q,.pointer none,.pointer none,.pointer none,.pointer none] 146)=z:=⟨_,rfl⟩;have hab:Below wa.heap.size wa wb:=by rw[<-hwb];exact bw
 have hb:Below w.heap.size w wb:=ha.trans (hab.mono ha.size);have Y0:Hid (dH wb (b+1) 146 #[.int .u8 4,.int .i64 0,.int .i64 0,.int .i64 0,.bool false,.int .i64 0,.int .i64 q,.pointer none,.pointer none,.pointer none,.pointer none]):=by rw[<-hwb,<-HZ.out];exact aB (dH.new _ _ _)
 have B1:Hid (dH wb b 34 #[.int .u8 4,.int .i64 0,.int .i64 0,.int .i64 0,.bool false,.int .i64 0,.int .i64 q]):=aB (B0.out.keep hab);have hzb:wb.heap.size=b+2:=by rw[<-hwb,aO,HZ.out]
 go_upto_region 2 with fail;try rw[hwb]
 try rw[HZ.out]
 clear hwb hab s0 s1 s2 s3 s4 s5 s6;have Zx:=aB hzb;clear hzb;have s0:=B1.out.cell 0;have s1:=B1.out.cell 1;have s2:=B1.out.cell 2;have s3:=B1.out.cell 3;have s4:=B1.out.cell 4;have s5:=B1.out.cell 5;have s6:=B1.out.cell 6;simp only[aF,aC,aG] at s0 s1 s2 s3 s4 s5 s6;have hby:w.heap.size<=b+1:=by have:=o_.out;omega
 obtain⟨w1,hw1⟩:∃z,wb.alloc (.cells #[.int .i64 q,.slice none 0 0,.int .u64 0] 154)=z:=⟨_,rfl⟩;have hb1:Below wb.heap.size wb w1:=by rw[<-hw1];exact bw
 have P0:Hid (dH w1 (b+2) 154 #[.int .i64 q,.slice none 0 0,.int .u64 0]):=by rw[<-hw1,<-Zx.out];exact aB (dH.new _ _ _)
 have Y1:=aB (Y0.out.keep hb1);have f0:=Y1.out.cell 10;have f1:=Y1.out.frozen 10;simp only[aF,aC,aG] at f0;have Nv:=aB (hb.trans (hb1.mono hb.size));have hzz:=hb.size;clear hb1
 go_wp2_with fail;try rw[hw1]
 try rw[Zx.out]
 go_ret;have hzb:=Zx.out;obtain⟨r1,r2⟩:=yl (sp:=.k q) (i:=10) (p:=b+2) (G:=fun j=>j=b+2) Y1.out (⟨_,_,K.RF P0.out⟩) ae hby (fun j h=>by rw[show j=b+2 from h];omega) Nv.out rfl
 exact⟨_,rfl,r1,r2⟩
theorem Zy{sp:iM}(w:World)(ok:uX sp):Calls Tryz.prog 24 #[sp.v] w fun e w'=>∃x,e=.returned (.pointer (some ⟨x,0,none⟩))/\gG sp sp.new x (Gr (fun _=>False) w w') w'/\Below w.heap.size w w':=by
 cases sp with
 | h lo hi dg u m gr=>exact Nj w ok
 | d a m=>exact Nk w ok
 | t d=>exact Nl w ok
 | k q=>exact Np w ok
end Go.Proofs.YtkiebccnpheloaaGreat.D
