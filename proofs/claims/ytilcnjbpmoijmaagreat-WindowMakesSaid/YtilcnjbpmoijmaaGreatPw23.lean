/- Parts of a proof. No condition. -/
import Derived.Test.YtilcnjbpmoijmaaGreatPw22
set_option maxRecDepth 100000
set_option maxHeartbeats 16000000
set_option linter.unusedVariables false
set_option linter.unusedSimpArgs false
namespace Go.Proofs.YtilcnjbpmoijmaaGreat.D
open Tryz
open Go.RowKit Go.Lib Go.Shelf
section
variable {y : Nat} {p1 p2 p3 p4 : Value} {w : World} {n : Int}
theorem yc(hy:dK w y 126 #[.int .u8 3,p1,p2,p3,p4])(h:∀w1,Below w.heap.size w w1->aH 100 #[p3] w1 fun e w'=>e=.returned (.int .i64 n)/\w1=w') :
 aH 53 #[.pointer (some ⟨y,0,none⟩)] w (aG w (dS 3 0 0 0 false 0 n)):=by
 have C:=aI h;have HY:=aI hy;have f0:=hy.cell 0;simp only[aK,aJ,aN] at f0;clear h hy;unfold dS
 go_enter func53,ntmps53
 obtain⟨b,hbb⟩:=aF (w.heap.size);obtain⟨w0,hw0⟩:∃z,w.alloc (.cells #[.int .u8 0,.int .i64 0,.int .i64 0,.int .i64 0,.bool false,.int .i64 0,.int .i64 0] 25)=z:=⟨_,rfl⟩;have hb0:Below w.heap.size w w0:=by rw[<-hw0];exact bw
 have B1:Hid (dK w0 b 25 #[.int .u8 0,.int .i64 0,.int .i64 0,.int .i64 0,.bool false,.int .i64 0,.int .i64 0]):=by rw[<-hw0,<-hbb];exact aI (dK.new _ _ _)
 have hz0:w0.heap.size=b+1:=by rw[<-hw0,<-hbb,aV]
 have lJ:=aI hbb
 go_upto_region 1 with fail;clear hw0 hbb f0;have f0:=(HY.o.keep hb0).cell 0;simp only[aK,aJ,aN] at f0;have HZ0:=aI hz0;clear hz0
 go_upto_region 2 with fail;obtain⟨w1,hw1⟩:∃z,w0.alloc (.cells #[.int .u8 3,.int .i64 0,.int .i64 0,.int .i64 0,.bool false,.int .i64 0,.int .i64 0] 25)=z:=⟨_,rfl⟩;have b01:Below w0.heap.size w0 w1:=by rw[<-hw1];exact bw
 have hb1:Below w.heap.size w w1:=hb0.trans (b01.mono hb0.size);have B2:Hid (dK w1 b 25 #[.int .u8 0,.int .i64 0,.int .i64 0,.int .i64 0,.bool false,.int .i64 0,.int .i64 0]):=aI (B1.o.keep b01);have B3:Hid (dK w1 (b+1) 25 #[.int .u8 3,.int .i64 0,.int .i64 0,.int .i64 0,.bool false,.int .i64 0,.int .i64 0]):=by rw[<-hw1,<-HZ0.o];exact aI (dK.new _ _ _)
 clear hb0 b01;rw[hw1];rw[HZ0.o];clear hw1 f0;have f0:=(HY.o.keep hb1).cell 0;have f1:=(HY.o.keep hb1).cell 3;have j0:=B3.o.cell 0;have j1:=B3.o.cell 1;have j2:=B3.o.cell 2;have j3:=B3.o.cell 3;have j4:=B3.o.cell 4;have j5:=B3.o.cell 5;have j6:=B3.o.cell 6;have z6:=B3.o.frozen 6;simp only[aK,aJ,aN] at f0 f1 j0 j1 j2 j3 j4 j5 j6
 go_wp2_with fail;refine(C.o w1 hb1).mono ?_
 rintro e w' ⟨rfl,rfl⟩;obtain⟨w2,hw2⟩:∃z,w1.setCell ⟨b+1,6,none⟩ (.int .i64 n)=z:=⟨_,rfl⟩;have D3:Hid (dK w2 (b+1) 25 #[.int .u8 3,.int .i64 0,.int .i64 0,.int .i64 0,.bool false,.int .i64 0,.int .i64 n]):=by rw[<-hw2];exact aI (B3.o.dQ 6 _)
 have D2:Hid (dK w2 b 25 #[.int .u8 0,.int .i64 0,.int .i64 0,.int .i64 0,.bool false,.int .i64 0,.int .i64 0]):=by rw[<-hw2];exact aI (B2.o.far (p:=⟨b+1,6,none⟩) ag _)
 have HB2:Hid (Below w.heap.size w w2):=by rw[<-hw2];exact aI (hb1.setCell (p:=⟨b+1,6,none⟩) (by have:=lJ.o;show _<=b+1;omega) _)
 clear f0 f1
 go_upto_region 10 with fail;clear j0 j1 j2 j3 j4 j5 j6 z6 hw2;obtain⟨j0,j1,j2,j3,j4,j5,j6⟩:=D3.o.c7;have y0:=D2.o.frozen 0;have y1:=D2.o.frozen 1;have y2:=D2.o.frozen 2;have y3:=D2.o.frozen 3;have y4:=D2.o.frozen 4;have y5:=D2.o.frozen 5;have y6:=D2.o.frozen 6;obtain⟨x0,x1,x2,x3,x4,x5,x6⟩:=D2.o.c7
 go_wp2_with fail;have hlt:=D2.o.lt;have E:=((((((D2.o.dQ 0 (.int .u8 3)).dQ 1 (.int .i64 0)).dQ 2 (.int .i64 0)).dQ 3 (.int .i64 0)).dQ 4 (.bool false)).dQ 5 (.int .i64 0)).dQ 6 (.int .i64 n);have c0:=E.cell 0;have c1:=E.cell 1;have c2:=E.cell 2;have c3:=E.cell 3;have c4:=E.cell 4;have c5:=E.cell 5;have c6:=E.cell 6;simp only[bY,List.set_cons_zero,List.set_cons_succ,aK,aJ,aN] at c0 c1 c2 c3 c4 c5 c6;refine bodyPost_ret (by simp[results,Tryz.results53,go_sem, *];try rfl) rfl ?_
 have hbb:=lJ.o;exact⟨rfl,((((((HB2.o.setCell (p:=⟨b,0,none⟩) (by show _<=b;omega) _).setCell (p:=⟨b,1,none⟩) (by show _<=b;omega) _).setCell (p:=⟨b,2,none⟩) (by show _<=b;omega) _).setCell (p:=⟨b,3,none⟩) (by show _<=b;omega) _).setCell (p:=⟨b,4,none⟩) (by show _<=b;omega) _).setCell (p:=⟨b,5,none⟩) (by show _<=b;omega) _).setCell (p:=⟨b,6,none⟩) (by show _<=b;omega) _⟩
theorem yf(hy:dK w y 126 #[.int .u8 4,p1,p2,p3,p4])(h:∀w1,Below w.heap.size w w1->aH 101 #[p4] w1 fun e w'=>e=.returned (.int .i64 n)/\w1=w') :
 aH 53 #[.pointer (some ⟨y,0,none⟩)] w (aG w (dS 4 0 0 0 false 0 n)):=by
 have C:=aI h;have HY:=aI hy;have f0:=hy.cell 0;simp only[aK,aJ,aN] at f0;clear h hy;unfold dS
 go_enter func53,ntmps53
 obtain⟨b,hbb⟩:=aF (w.heap.size);obtain⟨w0,hw0⟩:∃z,w.alloc (.cells #[.int .u8 0,.int .i64 0,.int .i64 0,.int .i64 0,.bool false,.int .i64 0,.int .i64 0] 25)=z:=⟨_,rfl⟩;have hb0:Below w.heap.size w w0:=by rw[<-hw0];exact bw
 have B1:Hid (dK w0 b 25 #[.int .u8 0,.int .i64 0,.int .i64 0,.int .i64 0,.bool false,.int .i64 0,.int .i64 0]):=by rw[<-hw0,<-hbb];exact aI (dK.new _ _ _)
 have hz0:w0.heap.size=b+1:=by rw[<-hw0,<-hbb,aV]
 have lJ:=aI hbb
 go_upto_region 1 with fail;clear hw0 hbb f0;have f0:=(HY.o.keep hb0).cell 0;simp only[aK,aJ,aN] at f0;have HZ0:=aI hz0;clear hz0
 go_upto_region 2 with fail;obtain⟨w1,hw1⟩:∃z,w0.alloc (.cells #[.int .u8 4,.int .i64 0,.int .i64 0,.int .i64 0,.bool false,.int .i64 0,.int .i64 0] 25)=z:=⟨_,rfl⟩;have b01:Below w0.heap.size w0 w1:=by rw[<-hw1];exact bw
 have hb1:Below w.heap.size w w1:=hb0.trans (b01.mono hb0.size);have B2:Hid (dK w1 b 25 #[.int .u8 0,.int .i64 0,.int .i64 0,.int .i64 0,.bool false,.int .i64 0,.int .i64 0]):=aI (B1.o.keep b01);have B3:Hid (dK w1 (b+1) 25 #[.int .u8 4,.int .i64 0,.int .i64 0,.int .i64 0,.bool false,.int .i64 0,.int .i64 0]):=by rw[<-hw1,<-HZ0.o];exact aI (dK.new _ _ _)
 clear hb0 b01;rw[hw1];rw[HZ0.o];clear hw1 f0;have f0:=(HY.o.keep hb1).cell 0;have f1:=(HY.o.keep hb1).cell 4;have j0:=B3.o.cell 0;have j1:=B3.o.cell 1;have j2:=B3.o.cell 2;have j3:=B3.o.cell 3;have j4:=B3.o.cell 4;have j5:=B3.o.cell 5;have j6:=B3.o.cell 6;have z6:=B3.o.frozen 6;simp only[aK,aJ,aN] at f0 f1 j0 j1 j2 j3 j4 j5 j6
 go_wp2_with fail;refine(C.o w1 hb1).mono ?_
 rintro e w' ⟨rfl,rfl⟩;obtain⟨w2,hw2⟩:∃z,w1.setCell ⟨b+1,6,none⟩ (.int .i64 n)=z:=⟨_,rfl⟩;have D3:Hid (dK w2 (b+1) 25 #[.int .u8 4,.int .i64 0,.int .i64 0,.int .i64 0,.bool false,.int .i64 0,.int .i64 n]):=by rw[<-hw2];exact aI (B3.o.dQ 6 _)
 have D2:Hid (dK w2 b 25 #[.int .u8 0,.int .i64 0,.int .i64 0,.int .i64 0,.bool false,.int .i64 0,.int .i64 0]):=by rw[<-hw2];exact aI (B2.o.far (p:=⟨b+1,6,none⟩) ag _)
 have HB2:Hid (Below w.heap.size w w2):=by rw[<-hw2];exact aI (hb1.setCell (p:=⟨b+1,6,none⟩) (by have:=lJ.o;show _<=b+1;omega) _)
 clear f0 f1
 go_upto_region 10 with fail;clear j0 j1 j2 j3 j4 j5 j6 z6 hw2;obtain⟨j0,j1,j2,j3,j4,j5,j6⟩:=D3.o.c7;have y0:=D2.o.frozen 0;have y1:=D2.o.frozen 1;have y2:=D2.o.frozen 2;have y3:=D2.o.frozen 3;have y4:=D2.o.frozen 4;have y5:=D2.o.frozen 5;have y6:=D2.o.frozen 6;obtain⟨x0,x1,x2,x3,x4,x5,x6⟩:=D2.o.c7
 go_wp2_with fail;have hlt:=D2.o.lt;have E:=((((((D2.o.dQ 0 (.int .u8 4)).dQ 1 (.int .i64 0)).dQ 2 (.int .i64 0)).dQ 3 (.int .i64 0)).dQ 4 (.bool false)).dQ 5 (.int .i64 0)).dQ 6 (.int .i64 n);have c0:=E.cell 0;have c1:=E.cell 1;have c2:=E.cell 2;have c3:=E.cell 3;have c4:=E.cell 4;have c5:=E.cell 5;have c6:=E.cell 6;simp only[bY,List.set_cons_zero,List.set_cons_succ,aK,aJ,aN] at c0 c1 c2 c3 c4 c5 c6;refine bodyPost_ret (by simp[results,Tryz.results53,go_sem, *];try rfl) rfl ?_
 have hbb:=lJ.o;exact⟨rfl,((((((HB2.o.setCell (p:=⟨b,0,none⟩) (by show _<=b;omega) _).setCell (p:=⟨b,1,none⟩) (by show _<=b;omega) _).setCell (p:=⟨b,2,none⟩) (by show _<=b;omega) _).setCell (p:=⟨b,3,none⟩) (by show _<=b;omega) _).setCell (p:=⟨b,4,none⟩) (by show _<=b;omega) _).setCell (p:=⟨b,5,none⟩) (by show _<=b;omega) _).setCell (p:=⟨b,6,none⟩) (by show _<=b;omega) _⟩
end
open Tryz
open Go.RowKit Go.Lib Go.Shelf
section
variable {y : Nat} {p1 p2 p3 p4 : Value} {w : World} {a n : Int}
theorem yg(hy:dK w y 126 #[.int .u8 2,p1,p2,p3,p4])(h:∀w1,Below w.heap.size w w1->aH 98 #[p2] w1 fun e w'=>e=.returned (.int .i64 a)/\w1=w')(h':∀w1,Below w.heap.size w w1->aH 99 #[p2] w1 fun e w'=>e=.returned (.int .i64 n)/\w1=w') :
 aH 53 #[.pointer (some ⟨y,0,none⟩)] w (aG w (dS 2 0 0 0 false a n)):=by
 have C:=aI h;have C':=aI h';have HY:=aI hy;have f0:=hy.cell 0;simp only[aK,aJ,aN] at f0;clear h h' hy;unfold dS
 go_enter func53,ntmps53
 obtain⟨b,hbb⟩:=aF (w.heap.size);obtain⟨w0,hw0⟩:∃z,w.alloc (.cells #[.int .u8 0,.int .i64 0,.int .i64 0,.int .i64 0,.bool false,.int .i64 0,.int .i64 0] 25)=z:=⟨_,rfl⟩;have hb0:Below w.heap.size w w0:=by rw[<-hw0];exact bw
 have B1:Hid (dK w0 b 25 #[.int .u8 0,.int .i64 0,.int .i64 0,.int .i64 0,.bool false,.int .i64 0,.int .i64 0]):=by rw[<-hw0,<-hbb];exact aI (dK.new _ _ _)
 have hz0:w0.heap.size=b+1:=by rw[<-hw0,<-hbb,aV]
 have lJ:=aI hbb
 go_upto_region 1 with fail;clear hw0 hbb f0;have f0:=(HY.o.keep hb0).cell 0;simp only[aK,aJ,aN] at f0;have HZ0:=aI hz0;clear hz0
 go_upto_region 2 with fail;obtain⟨w1,hw1⟩:∃z,w0.alloc (.cells #[.int .u8 2,.int .i64 0,.int .i64 0,.int .i64 0,.bool false,.int .i64 0,.int .i64 0] 25)=z:=⟨_,rfl⟩;have b01:Below w0.heap.size w0 w1:=by rw[<-hw1];exact bw
 have hb1:Below w.heap.size w w1:=hb0.trans (b01.mono hb0.size);have B2:Hid (dK w1 b 25 #[.int .u8 0,.int .i64 0,.int .i64 0,.int .i64 0,.bool false,.int .i64 0,.int .i64 0]):=aI (B1.o.keep b01);have B3:Hid (dK w1 (b+1) 25 #[.int .u8 2,.int .i64 0,.int .i64 0,.int .i64 0,.bool false,.int .i64 0,.int .i64 0]):=by rw[<-hw1,<-HZ0.o];exact aI (dK.new _ _ _)
 clear hb0 b01;rw[hw1];rw[HZ0.o];clear hw1 f0;have f0:=(HY.o.keep hb1).cell 0;have f1:=(HY.o.keep hb1).cell 2;simp only[aK,aJ,aN] at f0 f1;have FY:=aI f1;have ly:y<w1.heap.size:=(HY.o.keep hb1).lt;have ny:¬(y=b+1):=by have:=HY.o.lt;have:=lJ.o;omega
 have Bd:Below w1.heap.size w1 w1.drew:=(aO _ _).drew;have bd:Below w.heap.size w w1.drew:=hb1.drew;have T0:Touch (fun k=>k=b+1) w1 w1.drew:=(Touch.refl _ w1).drew
 have G3:=aI (B3.o.keep Bd);have G2:=aI (B2.o.keep Bd);clear f1
 go_upto_region 7 with fail;have mW:=aI (fun(w':World) (hS':(Touch (fun k=>k=b+1) w1) w')=>((dO hS' 2 ly ny).trans FY.o))
 refine jh (Touch (fun k=>k=b+1) w1) (dV 0 4 (dV 5 4 (fJ 4 (dV 10 1 (fJ 9 (fJ 11 (dV 12 1 (fJ 13 [])))))))) (T0) ?_
 iterate 8 refine eQ ?_
 refine fO fun K hK=>?_
 go_simp;refine(C.o w1.drew bd).mono ?_
 rintro e w' ⟨rfl,rfl⟩;refine hK _ _ (T0) ?_
 clear hK K;refine eQ ?_
 refine fO fun K hK=>?_
 go_simp;refine(C'.o w1.drew bd).mono ?_
 rintro e w' ⟨rfl,rfl⟩;refine hK _ _ (T0) ?_
 clear hK K;refine fO fun K hK=>?_
 have y5:=G3.o.frozen 5;have x5:=G3.o.cell 5;simp only[aK,aJ,aN] at x5
 go_simp;have T5:Touch (fun k=>k=b+1) w1 ((w1.setCell ⟨b+1,5,none⟩ (.int .i64 a)).drew):=((show Touch (fun k=>k=b+1) w1 w1 from Touch.refl _ w1).setCell (p:=⟨b+1,5,none⟩) (.inl rfl) _).drew
 have G5:=aI ((B3.o.dQ 5 (.int .i64 a)).keep ((aO _ _).drew));clear y5 x5;refine hK _ _ (T5) ?_
 clear hK K;refine eQ ?_
 refine fO fun K hK=>?_
 have y6:=G5.o.frozen 6;have x6:=G5.o.cell 6;simp only[bY,List.set_cons_zero,List.set_cons_succ,aK,aJ,aN] at x6
 go_simp;have T6:Touch (fun k=>k=b+1) w1 (((w1.setCell ⟨b+1,5,none⟩ (.int .i64 a)).setCell ⟨b+1,6,none⟩ (.int .i64 n)).drew):=(((show Touch (fun k=>k=b+1) w1 w1 from Touch.refl _ w1).setCell (p:=⟨b+1,5,none⟩) (.inl rfl) _).setCell (p:=⟨b+1,6,none⟩) (.inl rfl) _).drew
 clear y6 x6;refine hK _ _ (T6) ?_
 clear hK K;refine dJ ?_
 obtain⟨w2,hw2⟩:∃z,(((w1.setCell ⟨b+1,5,none⟩ (.int .i64 a)).setCell ⟨b+1,6,none⟩ (.int .i64 n)).drew)=z:=⟨_,rfl⟩;have D3:Hid (dK w2 (b+1) 25 #[.int .u8 2,.int .i64 0,.int .i64 0,.int .i64 0,.bool false,.int .i64 a,.int .i64 n]):=by rw[<-hw2];exact aI (((B3.o.dQ 5 _).dQ 6 _).keep ((aO _ _).drew))
 have D2:Hid (dK w2 b 25 #[.int .u8 0,.int .i64 0,.int .i64 0,.int .i64 0,.bool false,.int .i64 0,.int .i64 0]):=by rw[<-hw2];exact aI (((B2.o.far (p:=⟨b+1,5,none⟩) ag _).far (p:=⟨b+1,6,none⟩) ag _).keep ((aO _ _).drew))
 have HB2:Hid (Below w.heap.size w w2):=by rw[<-hw2];exact aI (((hb1.setCell (p:=⟨b+1,5,none⟩) (by have:=lJ.o;show _<=b+1;omega) _).setCell (p:=⟨b+1,6,none⟩) (by have:=lJ.o;show _<=b+1;omega) _).drew)
 try rw[hw2]
 clear f0 T0 T5 T6 Bd bd
 go_upto_region 10 with fail;clear hw2;obtain⟨j0,j1,j2,j3,j4,j5,j6⟩:=D3.o.c7;have y0:=D2.o.frozen 0;have y1:=D2.o.frozen 1;have y2:=D2.o.frozen 2;have y3:=D2.o.frozen 3;have y4:=D2.o.frozen 4;have y5:=D2.o.frozen 5;have y6:=D2.o.frozen 6;obtain⟨x0,x1,x2,x3,x4,x5,x6⟩:=D2.o.c7
 go_wp2_with fail;have hlt:=D2.o.lt;have E:=((((((D2.o.dQ 0 (.int .u8 2)).dQ 1 (.int .i64 0)).dQ 2 (.int .i64 0)).dQ 3 (.int .i64 0)).dQ 4 (.bool false)).dQ 5 (.int .i64 a)).dQ 6 (.int .i64 n);have c0:=E.cell 0;have c1:=E.cell 1;have c2:=E.cell 2;have c3:=E.cell 3;have c4:=E.cell 4;have c5:=E.cell 5;have c6:=E.cell 6;simp only[bY,List.set_cons_zero,List.set_cons_succ,aK,aJ,aN] at c0 c1 c2 c3 c4 c5 c6;refine bodyPost_ret (by simp[results,Tryz.results53,go_sem, *];try rfl) rfl ?_
 have hbb:=lJ.o;exact⟨rfl,((((((HB2.o.setCell (p:=⟨b,0,none⟩) (by show _<=b;omega) _).setCell (p:=⟨b,1,none⟩) (by show _<=b;omega) _).setCell (p:=⟨b,2,none⟩) (by show _<=b;omega) _).setCell (p:=⟨b,3,none⟩) (by show _<=b;omega) _).setCell (p:=⟨b,4,none⟩) (by show _<=b;omega) _).setCell (p:=⟨b,5,none⟩) (by show _<=b;omega) _).setCell (p:=⟨b,6,none⟩) (by show _<=b;omega) _⟩
end
open Tryz
open Go.RowKit Go.Lib Go.Shelf
theorem kP(k:Int)(w:World)(h1:1<=k)(h4:k<=4):aH 69 #[.int .u8 k] w fun e w'=>e=.returned (.bool true)/\w=w':=by
 go_enter func69,ntmps69
 go_wp2_with fail
 go_ret;exact⟨rfl,rfl⟩
open Tryz
open Go.RowKit Go.Lib Go.Shelf
section
variable {y : Nat} {p1 p2 p3 p4 : Value} {w : World} {lo hi dg : Int} {gr : Bool}
theorem yh(hy:dK w y 126 #[.int .u8 1,p1,p2,p3,p4])(h:∀w1,Below w.heap.size w w1->aH 96 #[p1] w1 fun e w'=>e=.returned (.agg #[.int .i64 lo,.int .i64 hi,.int .i64 dg])/\Below w1.heap.size w1 w')(h':∀w1,Below w.heap.size w w1->aH 97 #[p1] w1 fun e w'=>e=.returned (.bool gr)/\w1=w') :
 aH 53 #[.pointer (some ⟨y,0,none⟩)] w (aG w (dS 1 lo hi dg gr 0 0)):=by
 have C:=aI h;have C':=aI h';have HY:=aI hy;have f0:=hy.cell 0;simp only[aK,aJ,aN] at f0;clear h h' hy;unfold dS
 go_enter func53,ntmps53
 obtain⟨b,hbb⟩:=aF (w.heap.size);obtain⟨w0,hw0⟩:∃z,w.alloc (.cells #[.int .u8 0,.int .i64 0,.int .i64 0,.int .i64 0,.bool false,.int .i64 0,.int .i64 0] 25)=z:=⟨_,rfl⟩;have hb0:Below w.heap.size w w0:=by rw[<-hw0];exact bw
 have B1:Hid (dK w0 b 25 #[.int .u8 0,.int .i64 0,.int .i64 0,.int .i64 0,.bool false,.int .i64 0,.int .i64 0]):=by rw[<-hw0,<-hbb];exact aI (dK.new _ _ _)
 have hz0:w0.heap.size=b+1:=by rw[<-hw0,<-hbb,aV]
 have lJ:=aI hbb
 go_upto_region 1 with fail;clear hw0 hbb f0;have f0:=(HY.o.keep hb0).cell 0;simp only[aK,aJ,aN] at f0;have HZ0:=aI hz0;clear hz0
 go_upto_region 2 with fail;obtain⟨w1,hw1⟩:∃z,w0.alloc (.cells #[.int .u8 1,.int .i64 0,.int .i64 0,.int .i64 0,.bool false,.int .i64 0,.int .i64 0] 25)=z:=⟨_,rfl⟩;have b01:Below w0.heap.size w0 w1:=by rw[<-hw1];exact bw
 have hb1:Below w.heap.size w w1:=hb0.trans (b01.mono hb0.size);have B2:Hid (dK w1 b 25 #[.int .u8 0,.int .i64 0,.int .i64 0,.int .i64 0,.bool false,.int .i64 0,.int .i64 0]):=aI (B1.o.keep b01);have B3:Hid (dK w1 (b+1) 25 #[.int .u8 1,.int .i64 0,.int .i64 0,.int .i64 0,.bool false,.int .i64 0,.int .i64 0]):=by rw[<-hw1,<-HZ0.o];exact aI (dK.new _ _ _)
 clear hb0 b01;rw[hw1];rw[HZ0.o];clear hw1 f0;obtain⟨f0,f1⟩:=(HY.o.keep hb1).c2;have FY:=aI f1;have ly:y<w1.heap.size:=(HY.o.keep hb1).lt;have ny:¬(y=b+1):=by have:=HY.o.lt;have:=lJ.o;omega
 have Bd:Below w1.heap.size w1 w1.drew:=(aO _ _).drew;have bd:Below w.heap.size w w1.drew:=hb1.drew;have T0:Touch (fun k=>k=b+1) w1 w1.drew:=(Touch.refl _ w1).drew
 clear f1
 go_upto_region 5 with fail;have mW:=aI (fun(w':World) (hS':(Touch (fun k=>k=b+1) w1) w')=>((dO hS' 1 ly ny).trans FY.o))
 refine jh (Touch (fun k=>k=b+1) w1) (dV 0 4 (dV 5 4 (fJ 4 (dV 10 1 (fJ 9 (fJ 11 (dV 12 1 (fJ 13 [])))))))) (T0) ?_
 iterate 8 refine eQ ?_
 refine fO fun K hK=>?_
 go_simp;refine(C.o w1.drew bd).mono ?_
 rintro e ws ⟨rfl,hbs⟩;have Bs:Below w1.heap.size w1 ws:=Bd.trans hbs;have Ts:Touch (fun k=>k=b+1) w1 ws:=Touch.of_below Bs (aS _)
 have G3:=aI (B3.o.keep Bs);have G2:=aI (B2.o.keep Bs);have bs:Below w.heap.size w ws:=hb1.trans (Bs.mono hb1.size);refine hK _ _ (Ts) ?_
 clear hK K;refine eQ ?_
 refine fO fun K hK=>?_
 go_simp;refine(C'.o ws bs).mono ?_
 rintro e w' ⟨rfl,rfl⟩;refine hK _ _ (Ts) ?_
 clear hK K;refine fO fun K hK=>?_
 have y1:=G3.o.frozen 1;have x1:=G3.o.cell 1;have y2:=G3.o.frozen 2;have x2:=G3.o.cell 2;have y3:=G3.o.frozen 3;have x3:=G3.o.cell 3;simp only[aK,aJ,aN] at x1 x2 x3
 go_simp;have T5:Touch (fun k=>k=b+1) w1 (((ws.setCell ⟨b+1,1,none⟩ (.int .i64 lo)).setCell ⟨b+1,2,none⟩ (.int .i64 hi)).setCell ⟨b+1,3,none⟩ (.int .i64 dg)):=((Ts.setCell (p:=⟨b+1,1,none⟩) (.inl rfl) _).setCell (p:=⟨b+1,2,none⟩) (.inl rfl) _).setCell (p:=⟨b+1,3,none⟩) (.inl rfl) _
 have G5:=aI (((G3.o.dQ 1 (.int .i64 lo)).dQ 2 (.int .i64 hi)).dQ 3 (.int .i64 dg));clear y1 x1 y2 x2 y3 x3;refine hK _ _ (T5) ?_
 clear hK K;refine eQ ?_
 refine fO fun K hK=>?_
 have y4:=G5.o.frozen 4;have x4:=G5.o.cell 4;simp only[bY,List.set_cons_zero,List.set_cons_succ,aK,aJ,aN] at x4
 go_simp;have T6:Touch (fun k=>k=b+1) w1 ((((ws.setCell ⟨b+1,1,none⟩ (.int .i64 lo)).setCell ⟨b+1,2,none⟩ (.int .i64 hi)).setCell ⟨b+1,3,none⟩ (.int .i64 dg)).setCell ⟨b+1,4,none⟩ (.bool gr)):=T5.setCell (p:=⟨b+1,4,none⟩) (.inl rfl) _
 clear y4 x4;refine hK _ _ (T6) ?_
 clear hK K;refine dJ ?_
 obtain⟨w2,hw2⟩:∃z,(((ws.setCell ⟨b+1,1,none⟩ (.int .i64 lo)).setCell ⟨b+1,2,none⟩ (.int .i64 hi)).setCell ⟨b+1,3,none⟩ (.int .i64 dg)).setCell ⟨b+1,4,none⟩ (.bool gr)=z:=⟨_,rfl⟩;have D3:Hid (dK w2 (b+1) 25 #[.int .u8 1,.int .i64 lo,.int .i64 hi,.int .i64 dg,.bool gr,.int .i64 0,.int .i64 0]):=by rw[<-hw2];exact aI (G5.o.dQ 4 _)
 have D2:Hid (dK w2 b 25 #[.int .u8 0,.int .i64 0,.int .i64 0,.int .i64 0,.bool false,.int .i64 0,.int .i64 0]):=by rw[<-hw2];exact aI ((((G2.o.far (p:=⟨b+1,1,none⟩) ag _).far (p:=⟨b+1,2,none⟩) ag _).far (p:=⟨b+1,3,none⟩) ag _).far (p:=⟨b+1,4,none⟩) ag _)
 have hbx:w.heap.size<=b+1:=by have:=lJ.o;omega
 have HB2:Hid (Below w.heap.size w w2):=by rw[<-hw2];exact aI ((((bs.setCell (p:=⟨b+1,1,none⟩) hbx _).setCell (p:=⟨b+1,2,none⟩) hbx _).setCell (p:=⟨b+1,3,none⟩) hbx _).setCell (p:=⟨b+1,4,none⟩) hbx _)
 try rw[hw2]
 clear f0 T0 T5 T6 Ts Bd bd
 go_upto_region 10 with fail;clear hw2;obtain⟨j0,j1,j2,j3,j4,j5,j6⟩:=D3.o.c7;have y0:=D2.o.frozen 0;have y1:=D2.o.frozen 1;have y2:=D2.o.frozen 2;have y3:=D2.o.frozen 3;have y4:=D2.o.frozen 4;have y5:=D2.o.frozen 5;have y6:=D2.o.frozen 6;obtain⟨x0,x1,x2,x3,x4,x5,x6⟩:=D2.o.c7
 go_wp2_with fail;have hlt:=D2.o.lt;have E:=((((((D2.o.dQ 0 (.int .u8 1)).dQ 1 (.int .i64 lo)).dQ 2 (.int .i64 hi)).dQ 3 (.int .i64 dg)).dQ 4 (.bool gr)).dQ 5 (.int .i64 0)).dQ 6 (.int .i64 0);have c0:=E.cell 0;have c1:=E.cell 1;have c2:=E.cell 2;have c3:=E.cell 3;have c4:=E.cell 4;have c5:=E.cell 5;have c6:=E.cell 6;simp only[bY,List.set_cons_zero,List.set_cons_succ,aK,aJ,aN] at c0 c1 c2 c3 c4 c5 c6;refine bodyPost_ret (by simp[results,Tryz.results53,go_sem, *];try rfl) rfl ?_
 have hbb:=lJ.o;exact⟨rfl,((((((HB2.o.setCell (p:=⟨b,0,none⟩) (by show _<=b;omega) _).setCell (p:=⟨b,1,none⟩) (by show _<=b;omega) _).setCell (p:=⟨b,2,none⟩) (by show _<=b;omega) _).setCell (p:=⟨b,3,none⟩) (by show _<=b;omega) _).setCell (p:=⟨b,4,none⟩) (by show _<=b;omega) _).setCell (p:=⟨b,5,none⟩) (by show _<=b;omega) _).setCell (p:=⟨b,6,none⟩) (by show _<=b;omega) _⟩
end
open Tryz
open Go.RowKit Go.Lib Go.Shelf
section
variable {x y : Nat} {p1 p2 p3 p4 q1 q2 q3 q4 c : Value} {w : World} {n : Int} {Q : Value -> World -> Prop}
theorem Su(hy:dK w y 126 #[.int .u8 3,p1,p2,p3,p4])(hx:dK w x 126 #[.int .u8 3,q1,q2,q3,q4])
 (h:∀w1,Below w.heap.size w w1->aH 100 #[p3] w1 fun e w'=>e=.returned (.int .i64 n)/\w1=w')
 (h':∀w1,Below w.heap.size w w1->aH 100 #[q3] w1 fun e w'=>e=.returned (.int .i64 n)/\w1=w')
 (ht:∀w1,Below w.heap.size w w1->aH 75 #[p3,q3] w1 fun e w'=>∃v,e=.returned v/\Q v w') :
 aH 38 #[.pointer (some ⟨y,0,none⟩),.pointer (some ⟨x,0,none⟩),c] w fun e w'=>∃v,e=.returned v/\Q v w':=by
 have C1:Hid (∀w1,Below w.heap.size w w1->_):=aI (fun w1 hb=>yc (hx.keep hb) (fun w2 hb2=>h' w2 (hb.trans (hb2.mono hb.size))))
 have C2:Hid (∀w1,Below w.heap.size w w1->_):=aI (fun w1 hb=>yc (hy.keep hb) (fun w2 hb2=>h w2 (hb.trans (hb2.mono hb.size))))
 have C3:=aI ht;have HY:=aI hy;have HX:=aI hx;clear h h' ht hy hx;unfold dS at C1 C2
 go_enter func38,ntmps38
 go_wp2_with fail;refine(C1.o w (aO _ _)).mono ?_
 rintro e w1 ⟨rfl,hb1⟩
 go_wp2_with fail;refine(C2.o w1 hb1).mono ?_
 rintro e w2 ⟨rfl,hb2⟩;have hb:=hb1.trans (hb2.mono hb1.size);have f0:=(HY.o.keep hb).cell 0;have f3:=(HY.o.keep hb).cell 3;have g3:=(HX.o.keep hb).cell 3;simp only[aK,aJ,aN] at f0 f3 g3;have FF:=aI (aP f3 g3);have Bd:Below w2.heap.size w2 w2.drew:=(aO _ _).drew;have l2:=(HY.o.keep hb).lt;have m2:=(HX.o.keep hb).lt;have hbd:Below w.heap.size w w2.drew:=hb.drew
 go_upto_region 11 with fail;clear f3 g3;refine qm (fun w'=>w'=w2.drew) 8 (dV 0 8 []) (rfl) ?_
 iterate 8 refine mr (h:=fun w' hS'=>by have f3:w2.drew.cell? ⟨y,3,none⟩=some p3:=FF.o.1;have g3:w2.drew.cell? ⟨x,3,none⟩=some q3:=FF.o.2;subst hS';go_simp;exact⟨rfl,rfl⟩) ?_
 refine d_ ?_
 simp only[bT,cO]
 go_wp2_with fail;refine(C3.o w2.drew hbd).mono ?_
 rintro e w3 ⟨v,rfl,hq⟩;have HQ:=aI hq;clear hq
 go_wp2_with fail;try refine dR ?_
 go_wp2_with fail
 go_ret;exact⟨_,rfl,HQ.o⟩
end
open Tryz
open Go.RowKit Go.Lib Go.Shelf
section
variable {x y : Nat} {p1 p2 p3 p4 q1 q2 q3 q4 c : Value} {w : World} {n : Int} {Q : Value -> World -> Prop}
theorem Sz(hy:dK w y 126 #[.int .u8 4,p1,p2,p3,p4])(hx:dK w x 126 #[.int .u8 4,q1,q2,q3,q4])
 (h:∀w1,Below w.heap.size w w1->aH 101 #[p4] w1 fun e w'=>e=.returned (.int .i64 n)/\w1=w')
 (h':∀w1,Below w.heap.size w w1->aH 101 #[q4] w1 fun e w'=>e=.returned (.int .i64 n)/\w1=w')
 (ht:∀w1,Below w.heap.size w w1->aH 76 #[p4,q4,c] w1 fun e w'=>∃v,e=.returned v/\Q v w') :
 aH 38 #[.pointer (some ⟨y,0,none⟩),.pointer (some ⟨x,0,none⟩),c] w fun e w'=>∃v,e=.returned v/\Q v w':=by
 have C1:Hid (∀w1,Below w.heap.size w w1->_):=aI (fun w1 hb=>yf (hx.keep hb) (fun w2 hb2=>h' w2 (hb.trans (hb2.mono hb.size))))
 have C2:Hid (∀w1,Below w.heap.size w w1->_):=aI (fun w1 hb=>yf (hy.keep hb) (fun w2 hb2=>h w2 (hb.trans (hb2.mono hb.size))))
 have C3:=aI ht;have HY:=aI hy;have HX:=aI hx;clear h h' ht hy hx;unfold dS at C1 C2
 go_enter func38,ntmps38
 go_wp2_with fail;refine(C1.o w (aO _ _)).mono ?_
 rintro e w1 ⟨rfl,hb1⟩
 go_wp2_with fail;refine(C2.o w1 hb1).mono ?_
 rintro e w2 ⟨rfl,hb2⟩;have hb:=hb1.trans (hb2.mono hb1.size);have f0:=(HY.o.keep hb).cell 0;have f3:=(HY.o.keep hb).cell 4;have g3:=(HX.o.keep hb).cell 4;simp only[aK,aJ,aN] at f0 f3 g3;have FF:=aI (aP f3 g3);have Bd:Below w2.heap.size w2 w2.drew:=(aO _ _).drew;have l2:=(HY.o.keep hb).lt;have m2:=(HX.o.keep hb).lt;have hbd:Below w.heap.size w w2.drew:=hb.drew
 go_upto_region 12 with fail;clear f3 g3;refine qm (fun w'=>w'=w2.drew) 9 (dV 0 9 []) (rfl) ?_
 iterate 9 refine mr (h:=fun w' hS'=>by have f3:w2.drew.cell? ⟨y,4,none⟩=some p4:=FF.o.1;have g3:w2.drew.cell? ⟨x,4,none⟩=some q4:=FF.o.2;subst hS';go_simp;exact⟨rfl,rfl⟩) ?_
 refine d_ ?_
 simp only[bT,cO]
 go_wp2_with fail;refine(C3.o w2.drew hbd).mono ?_
 rintro e w3 ⟨v,rfl,hq⟩;have HQ:=aI hq;clear hq
 go_wp2_with fail;try refine dR ?_
 go_wp2_with fail
 go_ret;exact⟨_,rfl,HQ.o⟩
end
open Tryz
open Go.RowKit Go.Lib Go.Shelf
section
variable {x y : Nat} {p1 p2 p3 p4 q1 q2 q3 q4 c : Value} {w : World} {a n lo hi dg : Int} {gr : Bool} {Q : Value -> World -> Prop}
theorem SA(hy:dK w y 126 #[.int .u8 1,p1,p2,p3,p4])(hx:dK w x 126 #[.int .u8 1,q1,q2,q3,q4])
 (h:∀w1,Below w.heap.size w w1->aH 96 #[p1] w1 fun e w'=>e=.returned (.agg #[.int .i64 lo,.int .i64 hi,.int .i64 dg])/\Below w1.heap.size w1 w')
 (h2:∀w1,Below w.heap.size w w1->aH 97 #[p1] w1 fun e w'=>e=.returned (.bool gr)/\w1=w')
 (h':∀w1,Below w.heap.size w w1->aH 96 #[q1] w1 fun e w'=>e=.returned (.agg #[.int .i64 lo,.int .i64 hi,.int .i64 dg])/\Below w1.heap.size w1 w')
 (hq2:∀w1,Below w.heap.size w w1->aH 97 #[q1] w1 fun e w'=>e=.returned (.bool gr)/\w1=w')
 (ht:∀w1,Below w.heap.size w w1->aH 73 #[p1,q1] w1 fun e w'=>∃v,e=.returned v/\Q v w') :
 aH 38 #[.pointer (some ⟨y,0,none⟩),.pointer (some ⟨x,0,none⟩),c] w fun e w'=>∃v,e=.returned v/\Q v w':=by
 have C1:Hid (∀w1,Below w.heap.size w w1->_):=aI (fun w1 hb=>yh (hx.keep hb) (fun w2 hb2=>h' w2 (hb.trans (hb2.mono hb.size))) (fun w2 hb2=>hq2 w2 (hb.trans (hb2.mono hb.size))))
 have C2:Hid (∀w1,Below w.heap.size w w1->_):=aI (fun w1 hb=>yh (hy.keep hb) (fun w2 hb2=>h w2 (hb.trans (hb2.mono hb.size))) (fun w2 hb2=>h2 w2 (hb.trans (hb2.mono hb.size))))
 have C3:=aI ht;have HY:=aI hy;have HX:=aI hx;clear h h2 h' hq2 ht hy hx;unfold dS at C1 C2
 go_enter func38,ntmps38
 go_wp2_with fail;refine(C1.o w (aO _ _)).mono ?_
 rintro e w1 ⟨rfl,hb1⟩
 go_wp2_with fail;refine(C2.o w1 hb1).mono ?_
 rintro e w2 ⟨rfl,hb2⟩;have hb:=hb1.trans (hb2.mono hb1.size);have f0:=(HY.o.keep hb).cell 0;have f3:=(HY.o.keep hb).cell 1;have g3:=(HX.o.keep hb).cell 1;simp only[aK,aJ,aN] at f0 f3 g3;have FF:=aI (aP f3 g3);have Bd:Below w2.heap.size w2 w2.drew:=(aO _ _).drew;have l2:=(HY.o.keep hb).lt;have m2:=(HX.o.keep hb).lt;have hbd:Below w.heap.size w w2.drew:=hb.drew
 go_upto_region 7 with fail;clear f3 g3;refine qm (fun w'=>w'=w2.drew) 8 (dV 0 8 []) (rfl) ?_
 iterate 8 refine mr (h:=fun w' hS'=>by have f3:w2.drew.cell? ⟨y,1,none⟩=some p1:=FF.o.1;have g3:w2.drew.cell? ⟨x,1,none⟩=some q1:=FF.o.2;subst hS';go_simp;exact⟨rfl,rfl⟩) ?_
 refine d_ ?_
 simp only[bT,cO]
 go_wp2_with fail;refine(C3.o w2.drew hbd).mono ?_
 rintro e w3 ⟨v,rfl,hq⟩;have HQ:=aI hq;clear hq
 go_wp2_with fail;try refine dR ?_
 go_wp2_with fail
 go_ret;exact⟨_,rfl,HQ.o⟩
theorem SB(hy:dK w y 126 #[.int .u8 2,p1,p2,p3,p4])(hx:dK w x 126 #[.int .u8 2,q1,q2,q3,q4])
 (h:∀w1,Below w.heap.size w w1->aH 98 #[p2] w1 fun e w'=>e=.returned (.int .i64 a)/\w1=w')
 (h2:∀w1,Below w.heap.size w w1->aH 99 #[p2] w1 fun e w'=>e=.returned (.int .i64 n)/\w1=w')
 (h':∀w1,Below w.heap.size w w1->aH 98 #[q2] w1 fun e w'=>e=.returned (.int .i64 a)/\w1=w')
 (hq2:∀w1,Below w.heap.size w w1->aH 99 #[q2] w1 fun e w'=>e=.returned (.int .i64 n)/\w1=w')
 (ht:∀w1,Below w.heap.size w w1->aH 74 #[p2,q2] w1 fun e w'=>∃v,e=.returned v/\Q v w') :
 aH 38 #[.pointer (some ⟨y,0,none⟩),.pointer (some ⟨x,0,none⟩),c] w fun e w'=>∃v,e=.returned v/\Q v w':=by
 have C1:Hid (∀w1,Below w.heap.size w w1->_):=aI (fun w1 hb=>yg (hx.keep hb) (fun w2 hb2=>h' w2 (hb.trans (hb2.mono hb.size))) (fun w2 hb2=>hq2 w2 (hb.trans (hb2.mono hb.size))))
 have C2:Hid (∀w1,Below w.heap.size w w1->_):=aI (fun w1 hb=>yg (hy.keep hb) (fun w2 hb2=>h w2 (hb.trans (hb2.mono hb.size))) (fun w2 hb2=>h2 w2 (hb.trans (hb2.mono hb.size))))
 have C3:=aI ht;have HY:=aI hy;have HX:=aI hx;clear h h2 h' hq2 ht hy hx;unfold dS at C1 C2
 go_enter func38,ntmps38
 go_wp2_with fail;refine(C1.o w (aO _ _)).mono ?_
 rintro e w1 ⟨rfl,hb1⟩
 go_wp2_with fail;refine(C2.o w1 hb1).mono ?_
 rintro e w2 ⟨rfl,hb2⟩;have hb:=hb1.trans (hb2.mono hb1.size);have f0:=(HY.o.keep hb).cell 0;have f3:=(HY.o.keep hb).cell 2;have g3:=(HX.o.keep hb).cell 2;simp only[aK,aJ,aN] at f0 f3 g3;have FF:=aI (aP f3 g3);have Bd:Below w2.heap.size w2 w2.drew:=(aO _ _).drew;have l2:=(HY.o.keep hb).lt;have m2:=(HX.o.keep hb).lt;have hbd:Below w.heap.size w w2.drew:=hb.drew
 go_upto_region 9 with fail;clear f3 g3;refine qm (fun w'=>w'=w2.drew) 8 (dV 0 8 []) (rfl) ?_
 iterate 8 refine mr (h:=fun w' hS'=>by have f3:w2.drew.cell? ⟨y,2,none⟩=some p2:=FF.o.1;have g3:w2.drew.cell? ⟨x,2,none⟩=some q2:=FF.o.2;subst hS';go_simp;exact⟨rfl,rfl⟩) ?_
 refine d_ ?_
 simp only[bT,cO]
 go_wp2_with fail;refine(C3.o w2.drew hbd).mono ?_
 rintro e w3 ⟨v,rfl,hq⟩;have HQ:=aI hq;clear hq
 go_wp2_with fail;try refine dR ?_
 go_wp2_with fail
 go_ret;exact⟨_,rfl,HQ.o⟩
end
end Go.Proofs.YtilcnjbpmoijmaaGreat.D
