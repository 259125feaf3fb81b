/- Parts of a proof. No condition. -/
import Derived.Test.YtilcnjbpmoijmaaGreatPw46
set_option maxRecDepth 100000
set_option maxHeartbeats 16000000
set_option linter.unusedVariables false
set_option linter.unusedSimpArgs false
namespace Go.Proofs.YtilcnjbpmoijmaaGreat.D
open Tryz
open Go.RowKit Go.Lib Go.Shelf
variable{sp:fG}{m:Nat}
theorem zU{p y i:Nat}{G:Ft}{cs:Array Value}{w w1:World}(hy:dK w1 y 108 cs)(hI:af6 sp sp.new p G w1)(hGy:¬G y)(hy0:w.heap.size<=y)(hG:∀k,G k->w.heap.size<=k)(hb:Below w.heap.size w w1)(hi:cs.setIfInBounds i (ji p)=(sp.cs++sp.four p).toArray) :
 uw sp sp.new y (Gr (fun _=>False) w (w1.setCell ⟨y,i,none⟩ (ji p))) (w1.setCell ⟨y,i,none⟩ (ji p))/\Below w.heap.size w (w1.setCell ⟨y,i,none⟩ (ji p)):=by
 have B:=hy.dQ i (ji p);rw[hi] at B;have I:=(He sp sp.new p).far (G:=fun k=>k=y) hI (Touch.setCell (F:=fun k=>k=y) (Touch.refl _ w1) (p:=⟨y,i,none⟩) (.inl rfl) (ji p)) (fun k hk e=>hGy (by rw[<-show k=y from e];exact hk))
 refine⟨⟨p,G,B,I,.inr ⟨hy0,B.lt⟩,hGy,fun k hk=>.inr ⟨hG k hk,(He sp sp.new p).low I k hk⟩,fun k hk=>hk.elim False.elim (fun h=>h.2)⟩,hb.setCell (p:=⟨y,i,none⟩) hy0 _⟩
theorem Ql{lo hi dg u:Nat}{gr:Bool}(w:World)(ok:nY lo hi dg u m) :
 aH 19 #[(.h lo hi dg u m gr:fG).v] w fun e w'=>∃x,e=.returned (.pointer (some ⟨x,0,none⟩))/\uw (.h lo hi dg u m gr) (.h lo hi dg u m gr:fG).new x (Gr (fun _=>False) w w') w'/\Below w.heap.size w w':=by
 have xq:=aI ok;clear ok;show aH 19 #[.agg #[.int .u8 1,.int .i64 lo,.int .i64 hi,.int .i64 dg,.bool gr,.int .i64 0,.int .i64 0]] w _
 obtain⟨b,hbb⟩:=aF (w.heap.size);obtain⟨wa,g_⟩:∃z,w.alloc (.cells #[.int .u8 1,.int .i64 lo,.int .i64 hi,.int .i64 dg,.bool gr,.int .i64 0,.int .i64 0] 25)=z:=⟨_,rfl⟩;have ha:Below w.heap.size w wa:=by rw[<-g_];exact bw
 have B0:Hid (dK wa b 25 #[.int .u8 1,.int .i64 lo,.int .i64 hi,.int .i64 dg,.bool gr,.int .i64 0,.int .i64 0]):=by rw[<-g_,<-hbb];exact aI (dK.new _ _ _)
 have hz:wa.heap.size=b+1:=by rw[<-g_,<-hbb,aV]
 obtain⟨s0,s1,s2,s3,s4,s5,s6⟩:=B0.o.c7;have lJ:=aI hbb
 go_enter func19,ntmps19
 go_upto_region 1 with fail;have HZ:=aI hz;clear g_ hbb hz;obtain⟨wb,hwb⟩:∃z,wa.alloc (.cells #[.int .u8 1,.int .i64 lo,.int .i64 hi,.int .i64 dg,.bool gr,.int .i64 0,.int .i64 0,.pointer none,.pointer none,.pointer none,.pointer none] 108)=z:=⟨_,rfl⟩;have hab:Below wa.heap.size wa wb:=by rw[<-hwb];exact bw
 have hb:Below w.heap.size w wb:=ha.trans (hab.mono ha.size);have Y0:Hid (dK wb (b+1) 108 #[.int .u8 1,.int .i64 lo,.int .i64 hi,.int .i64 dg,.bool gr,.int .i64 0,.int .i64 0,.pointer none,.pointer none,.pointer none,.pointer none]):=by rw[<-hwb,<-HZ.o];exact aI (dK.new _ _ _)
 have B1:Hid (dK wb b 25 #[.int .u8 1,.int .i64 lo,.int .i64 hi,.int .i64 dg,.bool gr,.int .i64 0,.int .i64 0]):=aI (B0.o.keep hab);have hzb:wb.heap.size=b+2:=by rw[<-hwb,aV,HZ.o]
 go_upto_region 2 with fail;try rw[hwb]
 try rw[HZ.o]
 clear hwb hab s0 s1 s2 s3 s4 s5 s6;have HZB:=aI hzb;clear hzb;obtain⟨s0,s1,s2,s3,s4,s5,s6⟩:=B1.o.c7;have hby:w.heap.size<=b+1:=by have:=lJ.o;omega
 go_wp2_with fail;refine(ap2 gr wb xq.o).mono ?_
 rintro e w1 ⟨p,rfl,hI,hb1⟩;have Y1:=aI (Y0.o.keep hb1);have f0:=Y1.o.cell 7;have f1:=Y1.o.frozen 7;simp only[aK,aJ,aN] at f0;have HBT:=aI (hb.trans (hb1.mono hb.size));have HI:=aI hI;have hzz:=hb.size;clear hI hb1
 go_wp2_with fail
 go_ret;have hzb:=HZB.o;obtain⟨r1,r2⟩:=zU (sp:=.h lo hi dg u m gr) (i:=7) Y1.o HI.o (fun h=>h.elim False.elim (fun h=>by have:=h.1;omega)) hby (fun j h=>h.elim False.elim (fun h=>by have:=h.1;omega)) HBT.o rfl
 exact⟨_,rfl,r1,r2⟩
theorem Qm{a:Nat}(w:World)(ok:jG (.d a m)) :
 aH 19 #[(.d a m:fG).v] w fun e w'=>∃x,e=.returned (.pointer (some ⟨x,0,none⟩))/\uw (.d a m) (.d a m:fG).new x (Gr (fun _=>False) w w') w'/\Below w.heap.size w w':=by
 have xq:=aI ok;clear ok;show aH 19 #[.agg #[.int .u8 2,.int .i64 0,.int .i64 0,.int .i64 0,.bool false,.int .i64 a,.int .i64 m]] w _
 obtain⟨b,hbb⟩:=aF (w.heap.size);obtain⟨wa,g_⟩:∃z,w.alloc (.cells #[.int .u8 2,.int .i64 0,.int .i64 0,.int .i64 0,.bool false,.int .i64 a,.int .i64 m] 25)=z:=⟨_,rfl⟩;have ha:Below w.heap.size w wa:=by rw[<-g_];exact bw
 have B0:Hid (dK wa b 25 #[.int .u8 2,.int .i64 0,.int .i64 0,.int .i64 0,.bool false,.int .i64 a,.int .i64 m]):=by rw[<-g_,<-hbb];exact aI (dK.new _ _ _)
 have hz:wa.heap.size=b+1:=by rw[<-g_,<-hbb,aV]
 obtain⟨s0,s1,s2,s3,s4,s5,s6⟩:=B0.o.c7;have lJ:=aI hbb
 go_enter func19,ntmps19
 go_upto_region 1 with fail;have HZ:=aI hz;clear g_ hbb hz;obtain⟨wb,hwb⟩:∃z,wa.alloc (.cells #[.int .u8 2,.int .i64 0,.int .i64 0,.int .i64 0,.bool false,.int .i64 a,.int .i64 m,.pointer none,.pointer none,.pointer none,.pointer none] 108)=z:=⟨_,rfl⟩;have hab:Below wa.heap.size wa wb:=by rw[<-hwb];exact bw
 have hb:Below w.heap.size w wb:=ha.trans (hab.mono ha.size);have Y0:Hid (dK wb (b+1) 108 #[.int .u8 2,.int .i64 0,.int .i64 0,.int .i64 0,.bool false,.int .i64 a,.int .i64 m,.pointer none,.pointer none,.pointer none,.pointer none]):=by rw[<-hwb,<-HZ.o];exact aI (dK.new _ _ _)
 have B1:Hid (dK wb b 25 #[.int .u8 2,.int .i64 0,.int .i64 0,.int .i64 0,.bool false,.int .i64 a,.int .i64 m]):=aI (B0.o.keep hab);have hzb:wb.heap.size=b+2:=by rw[<-hwb,aV,HZ.o]
 go_upto_region 2 with fail;try rw[hwb]
 try rw[HZ.o]
 clear hwb hab s0 s1 s2 s3 s4 s5 s6;have HZB:=aI hzb;clear hzb;obtain⟨s0,s1,s2,s3,s4,s5,s6⟩:=B1.o.c7;have hby:w.heap.size<=b+1:=by have:=lJ.o;omega
 go_wp2_with fail;refine(ao4 a m wb xq.o.1 xq.o.2.1 xq.o.2.2.1 xq.o.2.2.2).mono ?_
 rintro e w1 ⟨p,rfl,hI,hb1⟩;have Y1:=aI (Y0.o.keep hb1);have f0:=Y1.o.cell 8;have f1:=Y1.o.frozen 8;simp only[aK,aJ,aN] at f0;have HBT:=aI (hb.trans (hb1.mono hb.size));have HI:=aI hI;have hzz:=hb.size;clear hI hb1
 go_wp2_with fail
 go_ret;have hzb:=HZB.o;obtain⟨r1,r2⟩:=zU (sp:=.d a m) (i:=8) Y1.o HI.o (fun h=>h.elim False.elim (fun h=>by have:=h.1;omega)) hby (fun j h=>h.elim False.elim (fun h=>by have:=h.1;omega)) HBT.o rfl
 exact⟨_,rfl,r1,r2⟩
theorem Qn{d:Nat}(w:World)(ok:jG (.t d)) :
 aH 19 #[(.t d:fG).v] w fun e w'=>∃x,e=.returned (.pointer (some ⟨x,0,none⟩))/\uw (.t d) (.t d:fG).new x (Gr (fun _=>False) w w') w'/\Below w.heap.size w w':=by
 have xq:=aI ok;clear ok;show aH 19 #[.agg #[.int .u8 3,.int .i64 0,.int .i64 0,.int .i64 0,.bool false,.int .i64 0,.int .i64 d]] w _
 obtain⟨b,hbb⟩:=aF (w.heap.size);obtain⟨wa,g_⟩:∃z,w.alloc (.cells #[.int .u8 3,.int .i64 0,.int .i64 0,.int .i64 0,.bool false,.int .i64 0,.int .i64 d] 25)=z:=⟨_,rfl⟩;have ha:Below w.heap.size w wa:=by rw[<-g_];exact bw
 have B0:Hid (dK wa b 25 #[.int .u8 3,.int .i64 0,.int .i64 0,.int .i64 0,.bool false,.int .i64 0,.int .i64 d]):=by rw[<-g_,<-hbb];exact aI (dK.new _ _ _)
 have hz:wa.heap.size=b+1:=by rw[<-g_,<-hbb,aV]
 obtain⟨s0,s1,s2,s3,s4,s5,s6⟩:=B0.o.c7;have lJ:=aI hbb
 go_enter func19,ntmps19
 go_upto_region 1 with fail;have HZ:=aI hz;clear g_ hbb hz;obtain⟨wb,hwb⟩:∃z,wa.alloc (.cells #[.int .u8 3,.int .i64 0,.int .i64 0,.int .i64 0,.bool false,.int .i64 0,.int .i64 d,.pointer none,.pointer none,.pointer none,.pointer none] 108)=z:=⟨_,rfl⟩;have hab:Below wa.heap.size wa wb:=by rw[<-hwb];exact bw
 have hb:Below w.heap.size w wb:=ha.trans (hab.mono ha.size);have Y0:Hid (dK wb (b+1) 108 #[.int .u8 3,.int .i64 0,.int .i64 0,.int .i64 0,.bool false,.int .i64 0,.int .i64 d,.pointer none,.pointer none,.pointer none,.pointer none]):=by rw[<-hwb,<-HZ.o];exact aI (dK.new _ _ _)
 have B1:Hid (dK wb b 25 #[.int .u8 3,.int .i64 0,.int .i64 0,.int .i64 0,.bool false,.int .i64 0,.int .i64 d]):=aI (B0.o.keep hab);have hzb:wb.heap.size=b+2:=by rw[<-hwb,aV,HZ.o]
 go_upto_region 2 with fail;try rw[hwb]
 try rw[HZ.o]
 clear hwb hab s0 s1 s2 s3 s4 s5 s6;have HZB:=aI hzb;clear hzb;obtain⟨s0,s1,s2,s3,s4,s5,s6⟩:=B1.o.c7;have hby:w.heap.size<=b+1:=by have:=lJ.o;omega
 obtain⟨w1,hw1⟩:∃z,wb.alloc (.cells #[.int .i64 d,.slice none 0 0,.slice none 0 0,.int .i64 0,.int .i64 0] 113)=z:=⟨_,rfl⟩;have hb1:Below wb.heap.size wb w1:=by rw[<-hw1];exact bw
 have P0:Hid (dK w1 (b+2) 113 #[.int .i64 d,.slice none 0 0,.slice none 0 0,.int .i64 0,.int .i64 0]):=by rw[<-hw1,<-HZB.o];exact aI (dK.new _ _ _)
 have Y1:=aI (Y0.o.keep hb1);have f0:=Y1.o.cell 9;have f1:=Y1.o.frozen 9;simp only[aK,aJ,aN] at f0;have HBT:=aI (hb.trans (hb1.mono hb.size));have hzz:=hb.size;clear hb1
 go_wp2_with fail;try rw[hw1]
 try rw[HZB.o]
 go_ret;have hzb:=HZB.o;obtain⟨r1,r2⟩:=zU (sp:=.t d) (i:=9) (p:=b+2) (G:=fun j=>j=b+2) Y1.o (⟨_,_,P0.o,fA.nil_ _ _,fA.nil_ _ _,rfl,fun j e=>by simp[Value.ownBlock] at e,fun j e=>by simp[Value.ownBlock] at e,fun j e=>by simp[Value.ownBlock] at e,fun j e=>by rw[show j=b+2 from e];exact P0.o.lt⟩) ae hby (fun j h=>by rw[show j=b+2 from h];omega) HBT.o rfl
 exact⟨_,rfl,r1,r2⟩
theorem Qo{q:Nat}(w:World)(ok:jG (.k q)) :
 aH 19 #[(.k q:fG).v] w fun e w'=>∃x,e=.returned (.pointer (some ⟨x,0,none⟩))/\uw (.k q) (.k q:fG).new x (Gr (fun _=>False) w w') w'/\Below w.heap.size w w':=by
 have xq:=aI ok;clear ok;show aH 19 #[.agg #[.int .u8 4,.int .i64 0,.int .i64 0,.int .i64 0,.bool false,.int .i64 0,.int .i64 q]] w _
 obtain⟨b,hbb⟩:=aF (w.heap.size);obtain⟨wa,g_⟩:∃z,w.alloc (.cells #[.int .u8 4,.int .i64 0,.int .i64 0,.int .i64 0,.bool false,.int .i64 0,.int .i64 q] 25)=z:=⟨_,rfl⟩;have ha:Below w.heap.size w wa:=by rw[<-g_];exact bw
 have B0:Hid (dK wa b 25 #[.int .u8 4,.int .i64 0,.int .i64 0,.int .i64 0,.bool false,.int .i64 0,.int .i64 q]):=by rw[<-g_,<-hbb];exact aI (dK.new _ _ _)
 have hz:wa.heap.size=b+1:=by rw[<-g_,<-hbb,aV]
 obtain⟨s0,s1,s2,s3,s4,s5,s6⟩:=B0.o.c7;have lJ:=aI hbb
 go_enter func19,ntmps19
 go_upto_region 1 with fail;have HZ:=aI hz;clear g_ hbb hz;obtain⟨wb,hwb⟩:∃z,wa.alloc (.cells #[.int .u8 4,.int .i64 0,.int .i64 0,.int .i64 0,.bool false,.int .i64 0,.int .i64 q,.pointer none,.pointer none,.pointer none,.pointer none] 108)=z:=⟨_,rfl⟩;have hab:Below wa.heap.size wa wb:=by rw[<-hwb];exact bw
 have hb:Below w.heap.size w wb:=ha.trans (hab.mono ha.size);have Y0:Hid (dK wb (b+1) 108 #[.int .u8 4,.int .i64 0,.int .i64 0,.int .i64 0,.bool false,.int .i64 0,.int .i64 q,.pointer none,.pointer none,.pointer none,.pointer none]):=by rw[<-hwb,<-HZ.o];exact aI (dK.new _ _ _)
 have B1:Hid (dK wb b 25 #[.int .u8 4,.int .i64 0,.int .i64 0,.int .i64 0,.bool false,.int .i64 0,.int .i64 q]):=aI (B0.o.keep hab);have hzb:wb.heap.size=b+2:=by rw[<-hwb,aV,HZ.o]
 go_upto_region 2 with fail;try rw[hwb]
 try rw[HZ.o]
 clear hwb hab s0 s1 s2 s3 s4 s5 s6;have HZB:=aI hzb;clear hzb;obtain⟨s0,s1,s2,s3,s4,s5,s6⟩:=B1.o.c7;have hby:w.heap.size<=b+1:=by have:=lJ.o;omega
 obtain⟨w1,hw1⟩:∃z,wb.alloc (.cells #[.int .i64 q,.slice none 0 0,.int .u64 0] 116)=z:=⟨_,rfl⟩;have hb1:Below wb.heap.size wb w1:=by rw[<-hw1];exact bw
 have P0:Hid (dK w1 (b+2) 116 #[.int .i64 q,.slice none 0 0,.int .u64 0]):=by rw[<-hw1,<-HZB.o];exact aI (dK.new _ _ _)
 have Y1:=aI (Y0.o.keep hb1);have f0:=Y1.o.cell 10;have f1:=Y1.o.frozen 10;simp only[aK,aJ,aN] at f0;have HBT:=aI (hb.trans (hb1.mono hb.size));have hzz:=hb.size;clear hb1
 go_wp2_with fail;try rw[hw1]
 try rw[HZB.o]
 go_ret;have hzb:=HZB.o;obtain⟨r1,r2⟩:=zU (sp:=.k q) (i:=10) (p:=b+2) (G:=fun j=>j=b+2) Y1.o (⟨_,_,K.VG P0.o⟩) ae hby (fun j h=>by rw[show j=b+2 from h];omega) HBT.o rfl
 exact⟨_,rfl,r1,r2⟩
theorem aj3(w:World)(ok:jG sp):aH 19 #[sp.v] w fun e w'=>∃x,e=.returned (.pointer (some ⟨x,0,none⟩))/\uw sp sp.new x (Gr (fun _=>False) w w') w'/\Below w.heap.size w w':=by
 cases sp with
 | h lo hi dg u m gr=>exact Ql w ok
 | d a m=>exact Qm w ok
 | t d=>exact Qn w ok
 | k q=>exact Qo w ok
open Tryz
open Go.RowKit Go.Lib Go.Shelf
open Tryz
open Go.RowKit Go.Lib Go.Shelf
end Go.Proofs.YtilcnjbpmoijmaaGreat.D
namespace Go.Proofs.YtilcnjbpmoijmaaGreat.K
open Tryz
open Go.RowKit
end Go.Proofs.YtilcnjbpmoijmaaGreat.K
namespace Go.Proofs.YtilcnjbpmoijmaaGreat.D
open Tryz
open Go.RowKit Go.Lib Go.Shelf
open Tryz
open Go.RowKit Go.Lib Go.Shelf
abbrev RjP(sp:fG):Js->Nat->Ft->World->Prop:=fun c p=>uw sp c p
theorem zV(sp:fG):∀c p,jV (RjP sp c p):=fun c p=>Py sp c p
structure qi(sp:fG)(now:Nat)(L:List Js)(v:Value)(ps:List Nat)(Ow:Nat->Ft)(G:Ft)(x:Nat)(w:World):Prop where
 blk:dK w x 59 (sp.cs++[v,Value.int .u64 now]).toArray
 ring:RingAt 54 (RjP sp) L v ps Ow G w
 pos:0<L.length
 n60:L.length<=60
 o:¬G x
def yD(sp:fG)(s:Wn)(x:Nat)(F:Ft)(w:World):Prop:=∃v ps Ow G,qi sp s.now s.L v ps Ow G x w/\F x/\(∀k,G k->F k)/\∀k,F k->k<w.heap.size
section
variable {sp : fG} {now x n a o : Nat} {L : List Js} {v : Value} {ps : List Nat} {Ow : Nat -> Ft} {G F H : Ft} {w w' : World} {s : Wn} {cq : Value} {B : List Int}
theorem qi.stay(h:qi sp now L v ps Ow G x w)(hx:w'.heap[x]?=w.heap[x]?)(hk:∀k,G k->w'.heap[k]?=w.heap[k]?)(hz:w.heap.size<=w'.heap.size):qi sp now L v ps Ow G x w':=
 ⟨hx.trans h.blk,h.ring.stay (zV sp) hk hz,h.pos,h.n60,h.o⟩
theorem qi.keep(h:qi sp now L v ps Ow G x w)(hb:Below w.heap.size w w'):qi sp now L v ps Ow G x w':=h.stay (hb.block x h.blk.lt) (fun k hk=>hb.block k (h.ring.low k hk)) hb.size
theorem BP(sp:fG)(s:Wn)(x:Nat):jV (yD sp s x) where
 stay:=fun⟨v,ps,Ow,G,h1,h3,h4,h5⟩ hk hz=>⟨v,ps,Ow,G,h1.stay (hk x h3) (fun k e=>hk k (h4 k e)) hz,h3,h4,fun k h=>bF (h5 k h) hz⟩
 more:=fun⟨v,ps,Ow,G,h1,h3,h4,_⟩ h hl=>⟨v,ps,Ow,G,h1,h x h3,fun k e=>h k (h4 k e),hl⟩
 low:=fun⟨_,_,_,_,_,_,_,h5⟩=>h5
theorem qi.c7(h:qi sp now L v ps Ow G x w):w.cell? ⟨x,7,none⟩=some v:=by have:=h.blk.cell 7;revert this;cases sp<;>exact id
theorem qi.c8(h:qi sp now L v ps Ow G x w):w.cell? ⟨x,8,none⟩=some (.int .u64 now):=by have:=h.blk.cell 8;revert this;cases sp<;>exact id
theorem qi.js(h:qi sp now L v ps Ow G x w){i:Nat}(hi:i<L.length):uw sp (L.getD i sp.new) (ps.getD i 0) (Ow i) w:=by
 rw[bD,a_ hi,Option.getD_some];exact h.ring.each _ hi
theorem D_(m:Nat)(w:World)(h:qi sp s.now s.L v ps Ow G x w)(ok:∀c∈s.L,iT sp c)(hm:m<=s.L.length):aH 43 #[.pointer (some ⟨x,0,none⟩),.int .i64 m] w (aG w (.int .u64 (uH sp s.L m))):=by
 have C7:=aI h.c7;have HW:=aI h;have xq:=aI ok;have lx:=h.blk.lt;obtain⟨g,c,rfl,hgl,_,_,_,_,hcell⟩:=h.ring.pos h.pos;have HCE:=aI hcell;have c7:=C7.o;have h1:¬((m:Int) > (s.L.length:Int)):=ae
 have h60:=h.n60;obtain⟨N,hN⟩:=aF (s.L.length);rw[hN] at c7 h1 hm h60;have HN:=aI hN;clear h ok hcell hN
 go_enter func43,ntmps43
 go_wp2_with fail;clear c7
 go_loopg [5,6] m (fun q t5 t6 wr=>∃j:Nat,q=m - j/\j<=m/\t5=.int .u64 (uH sp s.L j)/\t6=.int .i64 j/\Hid (Below w.heap.size w wr))
 case atStart=>exact⟨0,rfl,ae,rfl,rfl,aI (aO _ _)⟩
 case round=>
  obtain⟨j,hq,hj,rfl,rfl,HB⟩:=hrel;have HQ:=aI hq;clear hq
  by_cases hlt:j<m
  ·have hji:(j:Int)<(m:Int):=ae
   have hjN:(j:Int)<(N:Int):=ae
   have hjL:j<s.L.length:=by rw[HN.o];omega
   have hw:=HW.o.keep HB.o;have hok:iT sp (s.L.getD j sp.new):=by rw[bD,a_ hjL,Option.getD_some];exact xq.o _ (bf _)
   have C2:=aI (YE wr (hw.js hjL) hok);have HS:Hid (uH sp s.L (j+1)=IntKind.u64.wrap (uH sp s.L j+vT sp (s.L.getD j sp.new))):=aI rfl;have hb1:=VR sp s.L j;have hb2:=LW hok;have c7:=(HB.o.cell (p:=⟨x,7,none⟩) lx).trans C7.o;rw[HN.o] at c7;have cj:wr.cell? ⟨g,j,none⟩=some (.pointer (some ⟨ps.getD j 0,0,none⟩)):=(HB.o.cell (p:=⟨g,j,none⟩) hgl).trans (HCE.o j hjL);clear hw hok;generalize ps.getD j 0=y at *;generalize vT sp (s.L.getD j sp.new)=T at *;obtain⟨S,hS⟩:∃z,uH sp s.L j=z:=⟨_,rfl⟩;rw[hS] at HS hb1 |-;clear hS
   go_wp2_with fail;refine(C2.o).mono ?_
   rintro e w2 ⟨rfl,hb⟩;have HB2:=aI (HB.o.trans (hb.mono HB.o.size));clear hb c7 cj
   go_wp2_with fail
   go_roundg (m - (j+1))
   case measure=>have:=HQ.o;omega
   case rel=>exact⟨j+1,rfl,ae,by rw[HS.o],ai,HB2⟩
  ·have hji:¬((j:Int)<(m:Int)):=ae
   obtain rfl:j=m:=ae
   go_wp2_with fail
   go_ret;exact⟨rfl,HB.o⟩
theorem Ur(last:Int)(w:World)(h:qi sp s.now s.L v ps Ow G x w)(ok:∀c∈s.L,iT sp c):aH 43 #[.pointer (some ⟨x,0,none⟩),.int .i64 last] w (aG w (.int .u64 (oP sp s last))):=by
 by_cases h1:(s.L.length:Int)<last
 ·have c7:=h.c7
  obtain⟨g,c,rfl,_⟩:=h.ring.pos h.pos;have h2:last > (s.L.length:Int):=h1;have e:oP sp s last=0:=by unfold oP;rw[if_pos ae]
  rw[e];clear h ok e h1
  go_enter func43,ntmps43
  go_wp2_with fail
  go_ret;exact⟨rfl,bw⟩
 ·by_cases h0:0<=last
  ·have e:oP sp s last=uH sp s.L last.toNat:=by unfold oP;rw[if_neg ae]
   have hl:((last.toNat:Nat):Int)=last:=ae
   rw[e,<-hl];exact D_ last.toNat w h ok ae
  ·have e:oP sp s last=0:=by unfold oP;rw[if_neg ae,show last.toNat=0 by omega];rfl
   rw[e];have c7:=h.c7;obtain⟨g,c,rfl,_⟩:=h.ring.pos h.pos;have h2:¬last > (s.L.length:Int):=h1;have h3:¬((0:Int)<last):=ae
   clear h ok e h1
   go_enter func43,ntmps43
   go_wp2_with fail
   go_loopg [5,6] 0 (fun q t5 t6 wr=>t5=.int .u64 0/\t6=.int .i64 0/\w=wr)
   case atStart=>exact⟨rfl,rfl,rfl⟩
   case round=>
    obtain⟨rfl,rfl,rfl⟩:=hrel
    go_wp2_with fail
    go_ret;exact⟨rfl,aO _ _⟩
end
open Tryz
open Go.RowKit Go.Lib Go.Shelf
open Tryz
open Go.RowKit Go.Lib Go.Shelf
variable{ac dg hi lo sz:Int}{d h l m u:Nat}{gr:Bool}
theorem bt5:(prog.info? 54).map (fun i=>(i.zero,i.size,i.bytes))=some (some (.pointer none),1,8):=by kernel_rfl
theorem bi9:Ty prog (Ud 54) 57:=CQ bt5 underlying57 rfl af  af
open Tryz
open Go.RowKit Go.Lib Go.Shelf
structure JU(lo hi dg u m:Nat):Prop where
 d0:1<=dg
 d1:dg<=5
 l0:1<=lo
 h0:2 * lo<=hi
 h1:hi<=9223372036854775807
 ue:u=Lib.bitLen lo - 1
 me:m=Lib.bitLen (2 * 10 ^ dg - 1)
theorem aj6{lo hi dg:Nat}(w:World)(ok:JU lo hi dg u m)(hbig:62<u+m):aH 265 #[.agg #[.int .i64 lo,.int .i64 hi,.int .i64 dg]] w (aG w (.tuple #[.pointer none,.int .i64 1])):=by
 obtain⟨d0,d1,l0,h0,h1,ue,me⟩:=ok;have hmb:=Gx d1;have hlb:1<=Lib.bitLen lo:=(Gv (x:=lo) (k:=0) ae).2 (by simpa using l0)
 have bb7:Lib.bitLen lo<=63:=(sU ae).2 ae
 have K_:10 ^ dg<=100000:=(Nat.pow_le_pow_right ae d1:10 ^ dg<=10 ^ 5)
 have ab1:0<10 ^ dg:=Nat.pow_pos ae
 have CP:=fun w=>aI (Jm dg w d1)
 have C1:=fun w=>aI (kY lo w ae)
 have C2:=fun w=>aI (kY (2 * 10 ^ dg - 1) w ae)
 rw[<-me] at C2 hmb;generalize 10 ^ dg=T at *;generalize Lib.bitLen lo=B at *;obtain⟨N,hN⟩:=aF (2 * T - 1);rw[hN] at C2;obtain rfl:B=u+1:=ae
 have hq:(hi:Int).tdiv 2=(hi:Int) / 2:=Int.tdiv_eq_ediv_of_nonneg ae
 have c1:¬(hi:Int) / 2<(lo:Int):=ae
 have c2:¬(dg:Int)<1:=ae
 have c3:¬(5:Int)<(dg:Int):=ae
 have c4:¬(lo:Int)<1:=ae
 have EV:Hid (IntKind.u64.wrap (lo:Int)=(lo:Int)):=aI (by rw[fF];omega)
 have EU:Hid (IntKind.i64.wrap (u:Int)=(u:Int)):=aI ak
 have ET:Hid (IntKind.u64.wrap (2 * (T:Int))=2 * (T:Int)):=aI (by rw[fF];omega)
 have EN:Hid (IntKind.u64.wrap (2 * (T:Int) - 1)=(N:Int)):=aI (by rw[fF];omega)
 have EN2:Hid (2 * (T:Int) - 1=(N:Int)):=aI ae
 have c5:(62:Int)<(u:Int)+(m:Int):=ae
 have EUM:Hid (IntKind.i64.wrap ((u:Int)+(m:Int))=(u:Int)+(m:Int)):=aI ak
 have EN3:Hid (IntKind.u64.wrap (N:Int)=(N:Int)):=aI (by rw[fF];omega)
 clear hN ue me hmb hlb bb7 h0
 go_enter func265,ntmps265
 go_wp2_with fail;refine((CP _).o).mono ?_
 rintro e w' ⟨rfl,rfl⟩;obtain⟨b,hb⟩:=aF (w.heap.size);obtain⟨w1,hw1⟩:=aF (w.alloc (.cells #[.int .i64 lo,.int .i64 hi,.int .i64 dg] 23));have hb1:Below w.heap.size w w1:=by rw[<-hw1];exact bw
 have B1:Hid (dK w1 b 23 #[.int .i64 lo,.int .i64 hi,.int .i64 dg]):=by rw[<-hw1,<-hb];exact aI (dK.new _ _ _)
 have hbl:=B1.o.lt;have La:=aI hb;clear hb;rw[La.o,hw1];clear hw1
 go_upto_region 4 with fail;have c5h:=aI c5;clear c1 c2 c3 c4 c5 hq d0 d1 l0 h1 hbig K_ ab1 CP;refine jh (Below w1.heap.size w1) (dV 0 4 (dV 6 3 (fJ 4 (dV 5 1 (fJ 9 (dV 10 1 (fJ 11 (dV 12 1 [])))))))) ((aO _ _).drew) ?_
 iterate 7 refine eQ (h:=fun w' hS'=>by have k0:=(B1.o.keep hS').cell 0;have k1:=(B1.o.keep hS').cell 1;have k2:=(B1.o.keep hS').cell 2;have ev:=EV.o;have eu:=EU.o;have et:=ET.o;have en2:=EN2.o;have en3:=EN3.o;simp only[aK,aJ,aN] at k0 k1 k2;go_simp;exact⟨rfl,rfl⟩) ?_
 refine fO fun K hK=>?_
 go_simp;refine((C1 w1.drew).o).mono ?_
 rintro e w3 ⟨rfl,rfl⟩;refine hK _ _ ((aO _ _).drew) ?_
 clear hK K;refine eQ (h:=fun w' hS'=>by have k0:=(B1.o.keep hS').cell 0;have k1:=(B1.o.keep hS').cell 1;have k2:=(B1.o.keep hS').cell 2;have ev:=EV.o;have eu:=EU.o;have et:=ET.o;have en2:=EN2.o;have en3:=EN3.o;simp only[aK,aJ,aN] at k0 k1 k2;go_simp;exact⟨rfl,rfl⟩) ?_
 refine fO fun K hK=>?_
 go_simp;refine((C2 w1.drew).o).mono ?_
 rintro e w3 ⟨rfl,rfl⟩;refine hK _ _ ((aO _ _).drew) ?_
 clear hK K;refine eQ (h:=fun w' hS'=>by have k0:=(B1.o.keep hS').cell 0;have k1:=(B1.o.keep hS').cell 1;have k2:=(B1.o.keep hS').cell 2;have ev:=EV.o;have eu:=EU.o;have et:=ET.o;have en2:=EN2.o;have en3:=EN3.o;simp only[aK,aJ,aN] at k0 k1 k2;go_simp;exact⟨rfl,rfl⟩) ?_
 refine fO fun K hK=>?_
 go_simp;refine hK _ _ (((aO _ _).drew).alloc (aS _) _) ?_
 clear hK K;refine eQ (h:=fun w' hS'=>by have k0:=(B1.o.keep hS').cell 0;have k1:=(B1.o.keep hS').cell 1;have k2:=(B1.o.keep hS').cell 2;have ev:=EV.o;have eu:=EU.o;have et:=ET.o;have en2:=EN2.o;have en3:=EN3.o;simp only[aK,aJ,aN] at k0 k1 k2;go_simp;exact⟨rfl,rfl⟩) ?_
 refine dJ ?_
 have hz1:=hb1.size;obtain⟨w4,hw4⟩:=aF ((w1.alloc (.cells #[.int .i64 lo,.int .i64 hi,.int .i64 dg,.int .i64 u,.int .i64 m] 318)).drew);have hb4:Below w1.heap.size w1 w4:=by rw[<-hw4];exact((aO _ _).alloc (aS _) _).drew
 have B4:nX w4 w1.heap.size lo hi dg u m:=by unfold nX;rw[<-hw4];exact(dK.new _ _ _:dK (w1.alloc _) _ _ _).drew
 go_upto_region 5 with fail;have k3:=dK.cell B4 3;have k4:=dK.cell B4 4;simp only[aK,aJ,aN] at k3 k4;have c5:=c5h.o;have eum:=EUM.o
 go_quiet (fail)
 go_wp2_with fail
 go_ret2
 subst hw4;exact⟨rfl,below_drewN (hb1.trans (hb4.mono hz1)) _⟩
theorem Us{lo hi dg:Nat}(w:World)(ok:JU lo hi dg u m)(hbig:62<u+m):aH 35 #[.agg #[.int .i64 lo,.int .i64 hi,.int .i64 dg]] w (aG w (.tuple #[.int .i64 u,.int .i64 m,.bool false])):=by
 obtain⟨d0,d1,l0,h0,h1,ue,me⟩:=ok;have hmb:=Gx d1;rw[<-me] at hmb;have ck6:u<=62:=by
  have:=(sU (x:=lo) (k:=63) ae).2 ae
  omega
 have hT:∀j,j<=5->0<10 ^ j/\10 ^ j<=100000:=fun j h=>⟨Nat.pow_pos ae,(Nat.pow_le_pow_right ae h:10 ^ j<=10 ^ 5)⟩
 have HT:=aI hT;have K_:=hT dg d1;have HU:Hid (∀j,j<=u->(1<lo / 2 ^ j<->j<u)):=aI (fun j h=>Jn l0 ae ue h)
 have HM:Hid (∀j,j<=m->(2 ^ j<2 * 10 ^ dg<->j<m)):=aI (fun j h=>by
  have:=Om (N:=2 * 10 ^ dg - 1) (j:=j) (by omega) me h
  rw[show 2 * 10 ^ dg - 1+1=2 * 10 ^ dg by omega] at this
  exact this)
 have c1:¬(hi:Int)<(lo:Int):=ae
 have c6:IntKind.i64.wrap ((hi:Int) - (lo:Int))=(hi:Int) - (lo:Int):=ak
 have c7:¬(hi:Int) - (lo:Int)<(lo:Int):=ae
 have c2:¬(dg:Int)<1:=ae
 have c3:¬(5:Int)<(dg:Int):=ae
 have c4:¬(lo:Int)<1:=ae
 clear hT ue me
 go_enter func35,ntmps35
 go_wp2_with fail;obtain⟨b,hb⟩:=aF (w.heap.size);obtain⟨w1,hw1⟩:=aF (w.alloc (.cells #[.int .i64 lo,.int .i64 hi,.int .i64 dg] 23));have hb1:Below w.heap.size w w1:=by rw[<-hw1];exact bw
 have B1:Hid (dK w1 b 23 #[.int .i64 lo,.int .i64 hi,.int .i64 dg]):=by rw[<-hw1,<-hb];exact aI (dK.new _ _ _)
 rw[hb,hw1];have k2:=B1.o.cell 2;simp only[aK,aJ,aN] at k2;clear hw1 hb c1 c2 c3 c4 c6 c7
 go_loopg [5,6] u (fun q x y wr=>(∃j:Nat,q=u - j/\j<=u/\x=.int .i64 j/\y=.int .i64 ((lo / 2 ^ j:Nat):Int))/\w1=wr)
 case atStart=>exact⟨⟨0,ae,ae,rfl,ag⟩,rfl⟩
 case round=>
  obtain⟨⟨j,hq,hj,rfl,rfl⟩,rfl⟩:=hrel;have HQ:=aI hq;clear hq;have hs:=HU.o j hj;have HN:Hid (lo / 2 ^ j / 2=lo / 2 ^ (j+1)):=aI (by rw[Nat.div_div_eq_div_mul,Nat.pow_succ])
  have hnl:lo / 2 ^ j<=lo:=Nat.div_le_self ..;generalize lo / 2 ^ j=n at *
  by_cases hlt:j<u
  ·have hn:(1:Int)<(n:Int):=by have:=hs.2 hlt;omega
   have hdv:(n:Int).tdiv 2=(n:Int) / 2:=Int.tdiv_eq_ediv_of_nonneg ae
   have hn9:n<9223372036854775808:=ae
   go_wp2_with fail
   go_roundg (u - (j+1))
   case measure=>have:=HQ.o;omega
   case rel=>exact⟨⟨j+1,rfl,ae,ai,by rw[<-HN.o];simp⟩,rfl⟩
  ·obtain rfl:j=u:=ae
   have hn:¬(1:Int)<(n:Int):=fun h=>by have:=hs.1 ae ;omega
   clear hs HN HU hnl
   go_wp2_with fail
   go_loopg [7,8] dg (fun q x y wr=>(∃i:Nat,q=dg - i/\i<=dg/\y=.int .i64 i/\x=.int .u64 ((2 * 10 ^ i:Nat):Int))/\w1=wr)
   case atStart=>exact⟨⟨0,ae,ae,rfl,rfl⟩,rfl⟩
   case round=>
    obtain⟨⟨i,hq,hi2,rfl,rfl⟩,rfl⟩:=hrel;have Cf:=aI hq;clear hq
    by_cases hlt2:i<dg
    ·have hii:(i:Int)<(dg:Int):=ae
     have hp:=HT.o i ae
     have HS:Hid (2 * 10 ^ (i+1)=10 * (2 * 10 ^ i)):=aI (by rw[Nat.pow_succ];omega)
     obtain⟨P,hP⟩:=aF (2 * 10 ^ i);have hPb:0<P/\P<=200000:=ae
     rw[hP] at HS |-;clear hp hP K_
     go_wp2_with fail
     go_roundg (dg - (i+1))
     case measure=>have:=Cf.o;omega
     case rel=>exact⟨⟨i+1,rfl,ae,ai,by rw[HS.o];go_num⟩,rfl⟩
    ·obtain rfl:i=dg:=ae
     obtain⟨N,hN⟩:=aF (2 * 10 ^ i);rw[hN] at HM |-;have hNb:N<=200000:=ae
     clear hN K_
     go_wp2_with fail
     go_loopg [9,10] m (fun q x y wr=>(∃t:Nat,q=m - t/\t<=m/\x=.int .i64 t/\y=.int .u64 ((2 ^ t:Nat):Int))/\w1=wr)
     case atStart=>exact⟨⟨0,ae,ae,rfl,rfl⟩,rfl⟩
     case round=>
      obtain⟨⟨t,hq,ht,rfl,rfl⟩,rfl⟩:=hrel;have HQ3:=aI hq;clear hq;have hs:=HM.o t ht;have h18:2 ^ t<=262144:=(pW ae :2 ^ t<=2 ^ 18)
      have HS:Hid (2 ^ (t+1)=2 * 2 ^ t):=aI (by rw[Nat.pow_succ];omega)
      generalize 2 ^ t=P at *
      by_cases hlt3:t<m
      ·have hPN:(P:Int)<(N:Int):=by have:=hs.2 hlt3;omega
       go_wp2_with fail
       go_roundg (m - (t+1))
       case measure=>have:=HQ3.o;omega
       case rel=>exact⟨⟨t+1,rfl,ae,ai,by rw[HS.o];go_num⟩,rfl⟩
      ·obtain rfl:t=m:=ae
       have hPN:¬(P:Int)<(N:Int):=fun h=>by have:=hs.1 ae ;omega
       have hum:¬(j:Int)+(t:Int)<=62:=ae
       have ew:IntKind.i64.wrap ((j:Int)+(t:Int))=(j:Int)+(t:Int):=ak
       go_wp2_with fail;refine bodyPost_ret (by simp[results,Tryz.results35,go_sem, *];try rfl) rfl ?_
       exact⟨rfl,hb1⟩
def MI(lo hi dg:Int):Prop:=dg<1\/5<dg\/lo<1\/hi<2 * lo
theorem aj7(lo hi dg:Int)(w:World)(h:MI lo hi dg)(h0:-9223372036854775808<=hi)(h1:hi<=9223372036854775807) :
 aH 265 #[.agg #[.int .i64 lo,.int .i64 hi,.int .i64 dg]] w (aG w (.tuple #[.pointer none,.int .i64 1])):=by
 have hq:dg<1\/5<dg\/lo<1\/hi.tdiv 2<lo:=by
  unfold MI at h
  rcases h with h|h|h|h
  ·exact .inl h
  ·exact .inr (.inl h)
  ·exact .inr (.inr (.inl h))
  ·by_cases hl:lo<1
   ·exact .inr (.inr (.inl hl))
   ·refine .inr (.inr (.inr ?_))
    rcases Int.lt_or_le hi 0 with hn|hn
    ·have h1:=Int.neg_tdiv (a:=hi) (b:=2)
     rw[Int.tdiv_eq_ediv_of_nonneg ae] at h1
     omega
    ·rw[Int.tdiv_eq_ediv_of_nonneg hn];omega
 have hqb:-9223372036854775808<=hi.tdiv 2/\hi.tdiv 2<=9223372036854775807:=by
  rcases Int.lt_or_le hi 0 with hn|hn
  ·have h1:=Int.neg_tdiv (a:=hi) (b:=2)
   rw[Int.tdiv_eq_ediv_of_nonneg ae] at h1
   omega
  ·rw[Int.tdiv_eq_ediv_of_nonneg hn];omega
 clear h;obtain⟨q,hqq⟩:=aF (hi.tdiv 2);rw[hqq] at hq hqb
 by_cases c2:dg<1
 ·go_enter func265,ntmps265
  go_wp2_with fail
  go_ret2
  exact⟨rfl,bw⟩
 ·by_cases c3:5<dg
  ·go_enter func265,ntmps265
   go_wp2_with fail
   go_ret2
   exact⟨rfl,bw⟩
  ·by_cases c4:lo<1
   ·go_enter func265,ntmps265
    go_wp2_with fail
    go_ret2
    exact⟨rfl,bw⟩
   ·have c1:q<lo:=ae
    have hw:wrap64 q=q:=by unfold wrap64;omega
    clear hq hqb
    go_enter func265,ntmps265
    go_wp2_with fail
    go_ret2
    exact⟨rfl,bw⟩
open Tryz
open Go.RowKit Go.Lib Go.Shelf
theorem Ut(lo hi dg:Int)(w:World)(h:MI lo hi dg)(h0:-9223372036854775808<=hi)(h1:hi<=9223372036854775807) :
 aH 35 #[.agg #[.int .i64 lo,.int .i64 hi,.int .i64 dg]] w (aG w (.tuple #[.int .i64 0,.int .i64 0,.bool false])):=by
 unfold MI at h
 by_cases c2:dg<1
 ·clear h
  go_enter func35,ntmps35
  go_wp2_with fail;refine bodyPost_ret (by simp[results,Tryz.results35,go_sem, *];try rfl) rfl ?_
  exact⟨rfl,bw⟩
 by_cases c3:5<dg
 ·clear h
  go_enter func35,ntmps35
  go_wp2_with fail;refine bodyPost_ret (by simp[results,Tryz.results35,go_sem, *];try rfl) rfl ?_
  exact⟨rfl,bw⟩
 by_cases c4:lo<1
 ·clear h
  go_enter func35,ntmps35
  go_wp2_with fail;refine bodyPost_ret (by simp[results,Tryz.results35,go_sem, *];try rfl) rfl ?_
  exact⟨rfl,bw⟩
 by_cases c5:hi<lo
 ·clear h
  go_enter func35,ntmps35
  go_wp2_with fail;refine bodyPost_ret (by simp[results,Tryz.results35,go_sem, *];try rfl) rfl ?_
  exact⟨rfl,bw⟩
 have c6:wrap64 (hi - lo)=hi - lo:=by unfold wrap64;omega
 have c7:hi - lo<lo:=ae
 clear h
 go_enter func35,ntmps35
 go_wp2_with fail;refine bodyPost_ret (by simp[results,Tryz.results35,go_sem, *];try rfl) rfl ?_
 exact⟨rfl,bw⟩
open Tryz
open Go.RowKit Go.Lib Go.Shelf
def kX(kd lo hi dg:Int)(gr:Bool)(ac sz:Int):Prop:=∃sp,jG sp/\sp.v=dS kd lo hi dg gr ac sz
theorem rV:kX 1 lo hi dg gr ac sz<->ac=0/\sz=0/\∃l h d u m:Nat,lo=l/\hi=h/\dg=d/\nY l h d u m:=by
 constructor
 ·rintro ⟨sp,ok,e⟩
  cases sp with
  | h l h d u m g=>
   simp only[fG.v,dS,Value.agg.injEq,Array.mk.injEq,List.cons.injEq,Value.int.injEq,Value.bool.injEq,true_and,and_true] at e;obtain⟨e1,e2,e3,e4,e5,e6⟩:=e;exact⟨e5.symm,e6.symm,l,h,d,u,m,e1.symm,e2.symm,e3.symm,ok⟩
  | _=>simp[fG.v,dS] at e
 ·rintro ⟨rfl,rfl,l,h,d,u,m,rfl,rfl,rfl,ok⟩
  exact⟨.h l h d u m gr,ok,rfl⟩
theorem qj:kX 2 lo hi dg gr ac sz<->lo=0/\hi=0/\dg=0/\gr=false/\100<=ac/\ac<=5000/\2<=sz/\sz<=4096:=by
 constructor
 ·rintro ⟨sp,ok,e⟩
  cases sp with
  | d a m=>
   simp only[fG.v,dS,Value.agg.injEq,Array.mk.injEq,List.cons.injEq,Value.int.injEq,Value.bool.injEq,true_and,and_true] at e;obtain⟨e1,e2,e3,e4,e5,e6⟩:=e;have ok:100<=a/\a<=5000/\2<=m/\m<=4096:=ok;exact⟨e1.symm,e2.symm,e3.symm,e4.symm,ae,ae,ae,ae⟩
  | _=>simp[fG.v,dS] at e
 ·rintro ⟨rfl,rfl,rfl,rfl,h1,h2,h3,h4⟩
  obtain⟨a,rfl⟩:=Int.eq_ofNat_of_zero_le (a:=ac) ae
  obtain⟨m,rfl⟩:=Int.eq_ofNat_of_zero_le (a:=sz) ae
  exact⟨.d a m,(show 100<=a/\a<=5000/\2<=m/\m<=4096 from⟨by omega,ae,ae,ae⟩),rfl⟩
theorem rW:kX 3 lo hi dg gr ac sz<->lo=0/\hi=0/\dg=0/\gr=false/\ac=0/\10<=sz/\sz<=1000:=by
 constructor
 ·rintro ⟨sp,ok,e⟩
  cases sp with
  | t d=>
   simp only[fG.v,dS,Value.agg.injEq,Array.mk.injEq,List.cons.injEq,Value.int.injEq,Value.bool.injEq,true_and,and_true] at e;obtain⟨e1,e2,e3,e4,e5,e6⟩:=e;have ok:10<=d/\d<=1000:=ok;exact⟨e1.symm,e2.symm,e3.symm,e4.symm,e5.symm,ae,ae⟩
  | _=>simp[fG.v,dS] at e
 ·rintro ⟨rfl,rfl,rfl,rfl,rfl,h1,h2⟩
  obtain⟨d,rfl⟩:=Int.eq_ofNat_of_zero_le (a:=sz) ae
  exact⟨.t d,(show 10<=d/\d<=1000 from⟨by omega,ae⟩),rfl⟩
theorem rX:kX 4 lo hi dg gr ac sz<->lo=0/\hi=0/\dg=0/\gr=false/\ac=0/\8<=sz/\sz<=4096:=by
 constructor
 ·rintro ⟨sp,ok,e⟩
  cases sp with
  | k q=>
   simp only[fG.v,dS,Value.agg.injEq,Array.mk.injEq,List.cons.injEq,Value.int.injEq,Value.bool.injEq,true_and,and_true] at e;obtain⟨e1,e2,e3,e4,e5,e6⟩:=e;have ok:8<=q/\q<=4096:=ok;exact⟨e1.symm,e2.symm,e3.symm,e4.symm,e5.symm,ae,ae⟩
  | _=>simp[fG.v,dS] at e
 ·rintro ⟨rfl,rfl,rfl,rfl,rfl,h1,h2⟩
  obtain⟨d,rfl⟩:=Int.eq_ofNat_of_zero_le (a:=sz) ae
  exact⟨.k d,(show 8<=d/\d<=4096 from⟨by omega,ae⟩),rfl⟩
theorem BQ{kd:Int}(h:kd<1\/4<kd):¬kX kd lo hi dg gr ac sz:=by
 rintro ⟨sp,ok,e⟩
 cases sp<;>(simp only[fG.v,dS,Value.agg.injEq,Array.mk.injEq,List.cons.injEq,Value.int.injEq,true_and] at e;omega)
theorem DF(lo hi dg:Int)(h1:hi<=9223372036854775807):MI lo hi dg\/∃l h d u m:Nat,lo=l/\hi=h/\dg=d/\JU l h d u m:=by
 by_cases hn:MI lo hi dg
 ·exact .inl hn
 ·unfold MI at hn
  obtain⟨l,rfl⟩:=Int.eq_ofNat_of_zero_le (a:=lo) ae
  obtain⟨h,rfl⟩:=Int.eq_ofNat_of_zero_le (a:=hi) ae
  obtain⟨d,rfl⟩:=Int.eq_ofNat_of_zero_le (a:=dg) ae
  exact .inr ⟨l,h,d,_,_,rfl,rfl,rfl,⟨by omega,ae,ae,ae,ae,rfl,rfl⟩⟩
theorem JU.ok(p:JU l h d u m)(hu:u+m<=62):nY l h d u m:=⟨p.d0,p.d1,p.l0,p.h0,p.h1,p.ue,p.me,hu⟩
theorem nY.bj0(p:nY l h d u m):¬MI l h d:=by
 have:=p.d0;have:=p.d1;have:=p.l0;have:=p.h0;unfold MI;omega
theorem nY.same{u2 m2:Nat}(p:nY l h d u m)(q:JU l h d u2 m2):u=u2/\m=m2:=⟨p.ue.trans q.ue.symm,p.me.trans q.me.symm⟩
end Go.Proofs.YtilcnjbpmoijmaaGreat.D
