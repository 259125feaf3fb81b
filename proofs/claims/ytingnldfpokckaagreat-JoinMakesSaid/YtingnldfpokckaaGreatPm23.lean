/- Parts of a proof: what its theorem reaches, words cut short. No condition of its own. -/
import Derived.Test.YtingnldfpokckaaGreatPm22
set_option maxRecDepth 100000
set_option maxHeartbeats 16000000
set_option linter.unusedVariables false
set_option linter.unusedSimpArgs false
namespace Go.Proofs.YtingnldfpokckaaGreat.D
open Go.RowKit Go.Lib Go.Shelf
section
variable {y : Nat} {p1 p2 p3 p4 : Value} {w : World} {n : Int}
theorem jspec3_any(hy:Blk w y 66 #[.int .u8 3,p1,p2,p3,p4])(h:∀w1,Below w.heap.size w w1->Calls Tryz.prog 28 #[p3] w1 fun e w'=>e=.returned (.int .i64 n)/\w1=w') :
 Calls Tryz.prog 8 #[.pointer (some ⟨y,0,none⟩)] w fun e w'=>e=.returned (specV 3 0 0 0 false 0 n)/\Below w.heap.size w w':=by
 have C:=Lib.hid h
 have HY:=Lib.hid hy
 have f0:=hy.cell 0
 simp only[List.getElem?_toArray,List.getElem?_cons_zero,List.getElem?_cons_succ] at f0
 clear h hy
 unfold specV
 go_enter Tryz.func8,Tryz.ntmps8
 obtain⟨b,hbb⟩:∃b,w.heap.size=b:=⟨_,rfl⟩
 obtain⟨w0,hw0⟩:∃z,w.alloc (.cells #[.int .u8 0,.int .i64 0,.int .i64 0,.int .i64 0,.bool false,.int .i64 0,.int .i64 0] 25)=z:=⟨_,rfl⟩
 have hb0:Below w.heap.size w w0:=by rw[<-hw0];(repeat' (first|(with_reducible exact Below.refl _ _)|(with_reducible refine Below.alloc ?_ ?_ _)|(with_reducible refine Below.drew ?_)|(with_reducible refine below_drewN ?_ _)|(with_reducible refine Below.setCell ?_ ?_ _)|(with_reducible refine below_of (by assumption) ?_ ?_)|go_size))
 have B1:Hid (Blk w0 b 25 #[.int .u8 0,.int .i64 0,.int .i64 0,.int .i64 0,.bool false,.int .i64 0,.int .i64 0]):=by rw[<-hw0,<-hbb];exact Lib.hid (Blk.new _ _ _)
 have hz0:w0.heap.size=b+1:=by rw[<-hw0,<-hbb,World.size_alloc]
 have HBB:=Lib.hid hbb
 go_upto_region 1 with fail
 clear hw0 hbb f0
 have f0:=(HY.out.keep hb0).cell 0
 simp only[List.getElem?_toArray,List.getElem?_cons_zero,List.getElem?_cons_succ] at f0
 have HZ0:=Lib.hid hz0
 clear hz0
 go_upto_region 2 with fail
 obtain⟨w1,hw1⟩:∃z,w0.alloc (.cells #[.int .u8 3,.int .i64 0,.int .i64 0,.int .i64 0,.bool false,.int .i64 0,.int .i64 0] 25)=z:=⟨_,rfl⟩
 have b01:Below w0.heap.size w0 w1:=by rw[<-hw1];(repeat' (first|(with_reducible exact Below.refl _ _)|(with_reducible refine Below.alloc ?_ ?_ _)|(with_reducible refine Below.drew ?_)|(with_reducible refine below_drewN ?_ _)|(with_reducible refine Below.setCell ?_ ?_ _)|(with_reducible refine below_of (by assumption) ?_ ?_)|go_size))
 have hb1:Below w.heap.size w w1:=hb0.trans (b01.mono hb0.size)
 have B2:Hid (Blk w1 b 25 #[.int .u8 0,.int .i64 0,.int .i64 0,.int .i64 0,.bool false,.int .i64 0,.int .i64 0]):=Lib.hid (B1.out.keep b01)
 have B3:Hid (Blk w1 (b+1) 25 #[.int .u8 3,.int .i64 0,.int .i64 0,.int .i64 0,.bool false,.int .i64 0,.int .i64 0]):=by rw[<-hw1,<-HZ0.out];exact Lib.hid (Blk.new _ _ _)
 clear hb0 b01
 rw[hw1]
 rw[HZ0.out]
 clear hw1 f0
 have f0:=(HY.out.keep hb1).cell 0
 have f1:=(HY.out.keep hb1).cell 3
 have j0:=B3.out.cell 0
 have j1:=B3.out.cell 1
 have j2:=B3.out.cell 2
 have j3:=B3.out.cell 3
 have j4:=B3.out.cell 4
 have j5:=B3.out.cell 5
 have j6:=B3.out.cell 6
 have z6:=B3.out.frozen 6
 simp only[List.getElem?_toArray,List.getElem?_cons_zero,List.getElem?_cons_succ] at f0 f1 j0 j1 j2 j3 j4 j5 j6
 go_wp2_with fail
 refine(C.out w1 hb1).mono ?_
 rintro e w' ⟨rfl,rfl⟩
 obtain⟨w2,hw2⟩:∃z,w1.setCell ⟨b+1,6,none⟩ (.int .i64 n)=z:=⟨_,rfl⟩
 have D3:Hid (Blk w2 (b+1) 25 #[.int .u8 3,.int .i64 0,.int .i64 0,.int .i64 0,.bool false,.int .i64 0,.int .i64 n]):=by rw[<-hw2];exact Lib.hid (B3.out.set_ 6 _)
 have D2:Hid (Blk w2 b 25 #[.int .u8 0,.int .i64 0,.int .i64 0,.int .i64 0,.bool false,.int .i64 0,.int .i64 0]):=by rw[<-hw2];exact Lib.hid (B2.out.far (p:=⟨b+1,6,none⟩) (by simp) _)
 have HB2:Hid (Below w.heap.size w w2):=by rw[<-hw2];exact Lib.hid (hb1.setCell (p:=⟨b+1,6,none⟩) (by have:=HBB.out;show _<=b+1;omega) _)
 clear f0 f1
 go_upto_region 10 with fail
 clear j0 j1 j2 j3 j4 j5 j6 z6 hw2
 have j0:=D3.out.cell 0
 have j1:=D3.out.cell 1
 have j2:=D3.out.cell 2
 have j3:=D3.out.cell 3
 have j4:=D3.out.cell 4
 have j5:=D3.out.cell 5
 have j6:=D3.out.cell 6
 simp only[List.getElem?_toArray,List.getElem?_cons_zero,List.getElem?_cons_succ] at j0 j1 j2 j3 j4 j5 j6
 have y0:=D2.out.frozen 0
 have y1:=D2.out.frozen 1
 have y2:=D2.out.frozen 2
 have y3:=D2.out.frozen 3
 have y4:=D2.out.frozen 4
 have y5:=D2.out.frozen 5
 have y6:=D2.out.frozen 6
 have x0:=D2.out.cell 0
 have x1:=D2.out.cell 1
 have x2:=D2.out.cell 2
 have x3:=D2.out.cell 3
 have x4:=D2.out.cell 4
 have x5:=D2.out.cell 5
 have x6:=D2.out.cell 6
 simp only[List.getElem?_toArray,List.getElem?_cons_zero,List.getElem?_cons_succ] at x0 x1 x2 x3 x4 x5 x6
 go_wp2_with fail
 have hlt:=D2.out.lt
 have E:=((((((D2.out.set_ 0 (.int .u8 3)).set_ 1 (.int .i64 0)).set_ 2 (.int .i64 0)).set_ 3 (.int .i64 0)).set_ 4 (.bool false)).set_ 5 (.int .i64 0)).set_ 6 (.int .i64 n)
 have c0:=E.cell 0
 have c1:=E.cell 1
 have c2:=E.cell 2
 have c3:=E.cell 3
 have c4:=E.cell 4
 have c5:=E.cell 5
 have c6:=E.cell 6
 simp only[List.setIfInBounds_toArray,List.set_cons_zero,List.set_cons_succ,List.getElem?_toArray,List.getElem?_cons_zero,List.getElem?_cons_succ] at c0 c1 c2 c3 c4 c5 c6
 refine bodyPost_ret (by simp[results,Tryz.results8,go_sem, *];try rfl) rfl ?_
 have hbb:=HBB.out
 exact⟨rfl,((((((HB2.out.setCell (p:=⟨b,0,none⟩) (by show _<=b;omega) _).setCell (p:=⟨b,1,none⟩) (by show _<=b;omega) _).setCell (p:=⟨b,2,none⟩) (by show _<=b;omega) _).setCell (p:=⟨b,3,none⟩) (by show _<=b;omega) _).setCell (p:=⟨b,4,none⟩) (by show _<=b;omega) _).setCell (p:=⟨b,5,none⟩) (by show _<=b;omega) _).setCell (p:=⟨b,6,none⟩) (by show _<=b;omega) _⟩
theorem jspec4_any(hy:Blk w y 66 #[.int .u8 4,p1,p2,p3,p4])(h:∀w1,Below w.heap.size w w1->Calls Tryz.prog 29 #[p4] w1 fun e w'=>e=.returned (.int .i64 n)/\w1=w') :
 Calls Tryz.prog 8 #[.pointer (some ⟨y,0,none⟩)] w fun e w'=>e=.returned (specV 4 0 0 0 false 0 n)/\Below w.heap.size w w':=by
 have C:=Lib.hid h
 have HY:=Lib.hid hy
 have f0:=hy.cell 0
 simp only[List.getElem?_toArray,List.getElem?_cons_zero,List.getElem?_cons_succ] at f0
 clear h hy
 unfold specV
 go_enter Tryz.func8,Tryz.ntmps8
 obtain⟨b,hbb⟩:∃b,w.heap.size=b:=⟨_,rfl⟩
 obtain⟨w0,hw0⟩:∃z,w.alloc (.cells #[.int .u8 0,.int .i64 0,.int .i64 0,.int .i64 0,.bool false,.int .i64 0,.int .i64 0] 25)=z:=⟨_,rfl⟩
 have hb0:Below w.heap.size w w0:=by rw[<-hw0];(repeat' (first|(with_reducible exact Below.refl _ _)|(with_reducible refine Below.alloc ?_ ?_ _)|(with_reducible refine Below.drew ?_)|(with_reducible refine below_drewN ?_ _)|(with_reducible refine Below.setCell ?_ ?_ _)|(with_reducible refine below_of (by assumption) ?_ ?_)|go_size))
 have B1:Hid (Blk w0 b 25 #[.int .u8 0,.int .i64 0,.int .i64 0,.int .i64 0,.bool false,.int .i64 0,.int .i64 0]):=by rw[<-hw0,<-hbb];exact Lib.hid (Blk.new _ _ _)
 have hz0:w0.heap.size=b+1:=by rw[<-hw0,<-hbb,World.size_alloc]
 have HBB:=Lib.hid hbb
 go_upto_region 1 with fail
 clear hw0 hbb f0
 have f0:=(HY.out.keep hb0).cell 0
 simp only[List.getElem?_toArray,List.getElem?_cons_zero,List.getElem?_cons_succ] at f0
 have HZ0:=Lib.hid hz0
 clear hz0
 go_upto_region 2 with fail
 obtain⟨w1,hw1⟩:∃z,w0.alloc (.cells #[.int .u8 4,.int .i64 0,.int .i64 0,.int .i64 0,.bool false,.int .i64 0,.int .i64 0] 25)=z:=⟨_,rfl⟩
 have b01:Below w0.heap.size w0 w1:=by rw[<-hw1];(repeat' (first|(with_reducible exact Below.refl _ _)|(with_reducible refine Below.alloc ?_ ?_ _)|(with_reducible refine Below.drew ?_)|(with_reducible refine below_drewN ?_ _)|(with_reducible refine Below.setCell ?_ ?_ _)|(with_reducible refine below_of (by assumption) ?_ ?_)|go_size))
 have hb1:Below w.heap.size w w1:=hb0.trans (b01.mono hb0.size)
 have B2:Hid (Blk w1 b 25 #[.int .u8 0,.int .i64 0,.int .i64 0,.int .i64 0,.bool false,.int .i64 0,.int .i64 0]):=Lib.hid (B1.out.keep b01)
 have B3:Hid (Blk w1 (b+1) 25 #[.int .u8 4,.int .i64 0,.int .i64 0,.int .i64 0,.bool false,.int .i64 0,.int .i64 0]):=by rw[<-hw1,<-HZ0.out];exact Lib.hid (Blk.new _ _ _)
 clear hb0 b01
 rw[hw1]
 rw[HZ0.out]
 clear hw1 f0
 have f0:=(HY.out.keep hb1).cell 0
 have f1:=(HY.out.keep hb1).cell 4
 have j0:=B3.out.cell 0
 have j1:=B3.out.cell 1
 have j2:=B3.out.cell 2
 have j3:=B3.out.cell 3
 have j4:=B3.out.cell 4
 have j5:=B3.out.cell 5
 have j6:=B3.out.cell 6
 have z6:=B3.out.frozen 6
 simp only[List.getElem?_toArray,List.getElem?_cons_zero,List.getElem?_cons_succ] at f0 f1 j0 j1 j2 j3 j4 j5 j6
 go_wp2_with fail
 refine(C.out w1 hb1).mono ?_
 rintro e w' ⟨rfl,rfl⟩
 obtain⟨w2,hw2⟩:∃z,w1.setCell ⟨b+1,6,none⟩ (.int .i64 n)=z:=⟨_,rfl⟩
 have D3:Hid (Blk w2 (b+1) 25 #[.int .u8 4,.int .i64 0,.int .i64 0,.int .i64 0,.bool false,.int .i64 0,.int .i64 n]):=by rw[<-hw2];exact Lib.hid (B3.out.set_ 6 _)
 have D2:Hid (Blk w2 b 25 #[.int .u8 0,.int .i64 0,.int .i64 0,.int .i64 0,.bool false,.int .i64 0,.int .i64 0]):=by rw[<-hw2];exact Lib.hid (B2.out.far (p:=⟨b+1,6,none⟩) (by simp) _)
 have HB2:Hid (Below w.heap.size w w2):=by rw[<-hw2];exact Lib.hid (hb1.setCell (p:=⟨b+1,6,none⟩) (by have:=HBB.out;show _<=b+1;omega) _)
 clear f0 f1
 go_upto_region 10 with fail
 clear j0 j1 j2 j3 j4 j5 j6 z6 hw2
 have j0:=D3.out.cell 0
 have j1:=D3.out.cell 1
 have j2:=D3.out.cell 2
 have j3:=D3.out.cell 3
 have j4:=D3.out.cell 4
 have j5:=D3.out.cell 5
 have j6:=D3.out.cell 6
 simp only[List.getElem?_toArray,List.getElem?_cons_zero,List.getElem?_cons_succ] at j0 j1 j2 j3 j4 j5 j6
 have y0:=D2.out.frozen 0
 have y1:=D2.out.frozen 1
 have y2:=D2.out.frozen 2
 have y3:=D2.out.frozen 3
 have y4:=D2.out.frozen 4
 have y5:=D2.out.frozen 5
 have y6:=D2.out.frozen 6
 have x0:=D2.out.cell 0
 have x1:=D2.out.cell 1
 have x2:=D2.out.cell 2
 have x3:=D2.out.cell 3
 have x4:=D2.out.cell 4
 have x5:=D2.out.cell 5
 have x6:=D2.out.cell 6
 simp only[List.getElem?_toArray,List.getElem?_cons_zero,List.getElem?_cons_succ] at x0 x1 x2 x3 x4 x5 x6
 go_wp2_with fail
 have hlt:=D2.out.lt
 have E:=((((((D2.out.set_ 0 (.int .u8 4)).set_ 1 (.int .i64 0)).set_ 2 (.int .i64 0)).set_ 3 (.int .i64 0)).set_ 4 (.bool false)).set_ 5 (.int .i64 0)).set_ 6 (.int .i64 n)
 have c0:=E.cell 0
 have c1:=E.cell 1
 have c2:=E.cell 2
 have c3:=E.cell 3
 have c4:=E.cell 4
 have c5:=E.cell 5
 have c6:=E.cell 6
 simp only[List.setIfInBounds_toArray,List.set_cons_zero,List.set_cons_succ,List.getElem?_toArray,List.getElem?_cons_zero,List.getElem?_cons_succ] at c0 c1 c2 c3 c4 c5 c6
 refine bodyPost_ret (by simp[results,Tryz.results8,go_sem, *];try rfl) rfl ?_
 have hbb:=HBB.out
 exact⟨rfl,((((((HB2.out.setCell (p:=⟨b,0,none⟩) (by show _<=b;omega) _).setCell (p:=⟨b,1,none⟩) (by show _<=b;omega) _).setCell (p:=⟨b,2,none⟩) (by show _<=b;omega) _).setCell (p:=⟨b,3,none⟩) (by show _<=b;omega) _).setCell (p:=⟨b,4,none⟩) (by show _<=b;omega) _).setCell (p:=⟨b,5,none⟩) (by show _<=b;omega) _).setCell (p:=⟨b,6,none⟩) (by show _<=b;omega) _⟩
end
open Go.RowKit Go.Lib Go.Shelf
section
variable {y : Nat} {p1 p2 p3 p4 : Value} {w : World} {a n : Int}
theorem jspec2_any(hy:Blk w y 66 #[.int .u8 2,p1,p2,p3,p4])(h:∀w1,Below w.heap.size w w1->Calls Tryz.prog 26 #[p2] w1 fun e w'=>e=.returned (.int .i64 a)/\w1=w')(h':∀w1,Below w.heap.size w w1->Calls Tryz.prog 27 #[p2] w1 fun e w'=>e=.returned (.int .i64 n)/\w1=w') :
 Calls Tryz.prog 8 #[.pointer (some ⟨y,0,none⟩)] w fun e w'=>e=.returned (specV 2 0 0 0 false a n)/\Below w.heap.size w w':=by
 have C:=Lib.hid h
 have C':=Lib.hid h'
 have HY:=Lib.hid hy
 have f0:=hy.cell 0
 simp only[List.getElem?_toArray,List.getElem?_cons_zero,List.getElem?_cons_succ] at f0
 clear h h' hy
 unfold specV
 go_enter Tryz.func8,Tryz.ntmps8
 obtain⟨b,hbb⟩:∃b,w.heap.size=b:=⟨_,rfl⟩
 obtain⟨w0,hw0⟩:∃z,w.alloc (.cells #[.int .u8 0,.int .i64 0,.int .i64 0,.int .i64 0,.bool false,.int .i64 0,.int .i64 0] 25)=z:=⟨_,rfl⟩
 have hb0:Below w.heap.size w w0:=by rw[<-hw0];(repeat' (first|(with_reducible exact Below.refl _ _)|(with_reducible refine Below.alloc ?_ ?_ _)|(with_reducible refine Below.drew ?_)|(with_reducible refine below_drewN ?_ _)|(with_reducible refine Below.setCell ?_ ?_ _)|(with_reducible refine below_of (by assumption) ?_ ?_)|go_size))
 have B1:Hid (Blk w0 b 25 #[.int .u8 0,.int .i64 0,.int .i64 0,.int .i64 0,.bool false,.int .i64 0,.int .i64 0]):=by rw[<-hw0,<-hbb];exact Lib.hid (Blk.new _ _ _)
 have hz0:w0.heap.size=b+1:=by rw[<-hw0,<-hbb,World.size_alloc]
 have HBB:=Lib.hid hbb
 go_upto_region 1 with fail
 clear hw0 hbb f0
 have f0:=(HY.out.keep hb0).cell 0
 simp only[List.getElem?_toArray,List.getElem?_cons_zero,List.getElem?_cons_succ] at f0
 have HZ0:=Lib.hid hz0
 clear hz0
 go_upto_region 2 with fail
 obtain⟨w1,hw1⟩:∃z,w0.alloc (.cells #[.int .u8 2,.int .i64 0,.int .i64 0,.int .i64 0,.bool false,.int .i64 0,.int .i64 0] 25)=z:=⟨_,rfl⟩
 have b01:Below w0.heap.size w0 w1:=by rw[<-hw1];(repeat' (first|(with_reducible exact Below.refl _ _)|(with_reducible refine Below.alloc ?_ ?_ _)|(with_reducible refine Below.drew ?_)|(with_reducible refine below_drewN ?_ _)|(with_reducible refine Below.setCell ?_ ?_ _)|(with_reducible refine below_of (by assumption) ?_ ?_)|go_size))
 have hb1:Below w.heap.size w w1:=hb0.trans (b01.mono hb0.size)
 have B2:Hid (Blk w1 b 25 #[.int .u8 0,.int .i64 0,.int .i64 0,.int .i64 0,.bool false,.int .i64 0,.int .i64 0]):=Lib.hid (B1.out.keep b01)
 have B3:Hid (Blk w1 (b+1) 25 #[.int .u8 2,.int .i64 0,.int .i64 0,.int .i64 0,.bool false,.int .i64 0,.int .i64 0]):=by rw[<-hw1,<-HZ0.out];exact Lib.hid (Blk.new _ _ _)
 clear hb0 b01
 rw[hw1]
 rw[HZ0.out]
 clear hw1 f0
 have f0:=(HY.out.keep hb1).cell 0
 have f1:=(HY.out.keep hb1).cell 2
 simp only[List.getElem?_toArray,List.getElem?_cons_zero,List.getElem?_cons_succ] at f0 f1
 have FY:=Lib.hid f1
 have ly:y<w1.heap.size:=(HY.out.keep hb1).lt
 have ny:¬(y=b+1):=by have:=HY.out.lt;have:=HBB.out;omega
 have Bd:Below w1.heap.size w1 w1.drew:=(Below.refl _ _).drew
 have bd:Below w.heap.size w w1.drew:=hb1.drew
 have T0:Touch (fun k=>k=b+1) w1 w1.drew:=(Touch.refl _ w1).drew
 have G3:=Lib.hid (B3.out.keep Bd)
 have G2:=Lib.hid (B2.out.keep Bd)
 clear f1
 go_upto_region 7 with fail
 refine wp_region_plan (Touch (fun k=>k=b+1) w1) [(0,true),(1,true),(2,true),(3,true),(5,true),(6,true),(7,true),(8,true),(4,false),(10,true),(9,false),(11,false),(12,true),(13,false)] (by kernel_rfl) (by kernel_rfl) (T0) ?_
 iterate 8
  refine wpPlan_read (by rfl) (by rfl) (fun R hR=>?_)
  apply Exists.intro
  refine⟨fun w' hS'=>?_,?_⟩
  ·have f1:=(tcell hS' 2 ly ny).trans FY.out
   go_simp
   exact⟨rfl,rfl⟩
  go_simp
  refine hR _ ?_
  clear hR R
 refine wpPlan_do (by rfl) (by rfl) (fun K hK=>?_)
 go_simp
 refine(C.out w1.drew bd).mono ?_
 rintro e w' ⟨rfl,rfl⟩
 refine hK _ _ (T0) ?_
 clear hK K
 iterate 1
  refine wpPlan_read (by rfl) (by rfl) (fun R hR=>?_)
  apply Exists.intro
  refine⟨fun w' hS'=>?_,?_⟩
  ·have f1:=(tcell hS' 2 ly ny).trans FY.out
   go_simp
   exact⟨rfl,rfl⟩
  go_simp
  refine hR _ ?_
  clear hR R
 refine wpPlan_do (by rfl) (by rfl) (fun K hK=>?_)
 go_simp
 refine(C'.out w1.drew bd).mono ?_
 rintro e w' ⟨rfl,rfl⟩
 refine hK _ _ (T0) ?_
 clear hK K
 refine wpPlan_do (by rfl) (by rfl) (fun K hK=>?_)
 have y5:=G3.out.frozen 5
 have x5:=G3.out.cell 5
 simp only[List.getElem?_toArray,List.getElem?_cons_zero,List.getElem?_cons_succ] at x5
 go_simp
 have T5:Touch (fun k=>k=b+1) w1 ((w1.setCell ⟨b+1,5,none⟩ (.int .i64 a)).drew):=((show Touch (fun k=>k=b+1) w1 w1 from Touch.refl _ w1).setCell (p:=⟨b+1,5,none⟩) (.inl rfl) _).drew
 have G5:=Lib.hid ((B3.out.set_ 5 (.int .i64 a)).keep ((Below.refl _ _).drew))
 clear y5 x5
 refine hK _ _ (T5) ?_
 clear hK K
 iterate 1
  refine wpPlan_read (by rfl) (by rfl) (fun R hR=>?_)
  apply Exists.intro
  refine⟨fun w' hS'=>?_,?_⟩
  ·have f1:=(tcell hS' 2 ly ny).trans FY.out
   go_simp
   exact⟨rfl,rfl⟩
  go_simp
  refine hR _ ?_
  clear hR R
 refine wpPlan_do (by rfl) (by rfl) (fun K hK=>?_)
 have y6:=G5.out.frozen 6
 have x6:=G5.out.cell 6
 simp only[List.setIfInBounds_toArray,List.set_cons_zero,List.set_cons_succ,List.getElem?_toArray,List.getElem?_cons_zero,List.getElem?_cons_succ] at x6
 go_simp
 have T6:Touch (fun k=>k=b+1) w1 (((w1.setCell ⟨b+1,5,none⟩ (.int .i64 a)).setCell ⟨b+1,6,none⟩ (.int .i64 n)).drew):=(((show Touch (fun k=>k=b+1) w1 w1 from Touch.refl _ w1).setCell (p:=⟨b+1,5,none⟩) (.inl rfl) _).setCell (p:=⟨b+1,6,none⟩) (.inl rfl) _).drew
 clear y6 x6
 refine hK _ _ (T6) ?_
 clear hK K
 refine wpPlan_nil ?_
 obtain⟨w2,hw2⟩:∃z,(((w1.setCell ⟨b+1,5,none⟩ (.int .i64 a)).setCell ⟨b+1,6,none⟩ (.int .i64 n)).drew)=z:=⟨_,rfl⟩
 have D3:Hid (Blk w2 (b+1) 25 #[.int .u8 2,.int .i64 0,.int .i64 0,.int .i64 0,.bool false,.int .i64 a,.int .i64 n]):=by rw[<-hw2];exact Lib.hid (((B3.out.set_ 5 _).set_ 6 _).keep ((Below.refl _ _).drew))
 have D2:Hid (Blk w2 b 25 #[.int .u8 0,.int .i64 0,.int .i64 0,.int .i64 0,.bool false,.int .i64 0,.int .i64 0]):=by rw[<-hw2];exact Lib.hid (((B2.out.far (p:=⟨b+1,5,none⟩) (by simp) _).far (p:=⟨b+1,6,none⟩) (by simp) _).keep ((Below.refl _ _).drew))
 have HB2:Hid (Below w.heap.size w w2):=by rw[<-hw2];exact Lib.hid (((hb1.setCell (p:=⟨b+1,5,none⟩) (by have:=HBB.out;show _<=b+1;omega) _).setCell (p:=⟨b+1,6,none⟩) (by have:=HBB.out;show _<=b+1;omega) _).drew)
 try rw[hw2]
 clear f0 T0 T5 T6 Bd bd
 go_upto_region 10 with fail
 clear hw2
 have j0:=D3.out.cell 0
 have j1:=D3.out.cell 1
 have j2:=D3.out.cell 2
 have j3:=D3.out.cell 3
 have j4:=D3.out.cell 4
 have j5:=D3.out.cell 5
 have j6:=D3.out.cell 6
 simp only[List.getElem?_toArray,List.getElem?_cons_zero,List.getElem?_cons_succ] at j0 j1 j2 j3 j4 j5 j6
 have y0:=D2.out.frozen 0
 have y1:=D2.out.frozen 1
 have y2:=D2.out.frozen 2
 have y3:=D2.out.frozen 3
 have y4:=D2.out.frozen 4
 have y5:=D2.out.frozen 5
 have y6:=D2.out.frozen 6
 have x0:=D2.out.cell 0
 have x1:=D2.out.cell 1
 have x2:=D2.out.cell 2
 have x3:=D2.out.cell 3
 have x4:=D2.out.cell 4
 have x5:=D2.out.cell 5
 have x6:=D2.out.cell 6
 simp only[List.getElem?_toArray,List.getElem?_cons_zero,List.getElem?_cons_succ] at x0 x1 x2 x3 x4 x5 x6
 go_wp2_with fail
 have hlt:=D2.out.lt
 have E:=((((((D2.out.set_ 0 (.int .u8 2)).set_ 1 (.int .i64 0)).set_ 2 (.int .i64 0)).set_ 3 (.int .i64 0)).set_ 4 (.bool false)).set_ 5 (.int .i64 a)).set_ 6 (.int .i64 n)
 have c0:=E.cell 0
 have c1:=E.cell 1
 have c2:=E.cell 2
 have c3:=E.cell 3
 have c4:=E.cell 4
 have c5:=E.cell 5
 have c6:=E.cell 6
 simp only[List.setIfInBounds_toArray,List.set_cons_zero,List.set_cons_succ,List.getElem?_toArray,List.getElem?_cons_zero,List.getElem?_cons_succ] at c0 c1 c2 c3 c4 c5 c6
 refine bodyPost_ret (by simp[results,Tryz.results8,go_sem, *];try rfl) rfl ?_
 have hbb:=HBB.out
 exact⟨rfl,((((((HB2.out.setCell (p:=⟨b,0,none⟩) (by show _<=b;omega) _).setCell (p:=⟨b,1,none⟩) (by show _<=b;omega) _).setCell (p:=⟨b,2,none⟩) (by show _<=b;omega) _).setCell (p:=⟨b,3,none⟩) (by show _<=b;omega) _).setCell (p:=⟨b,4,none⟩) (by show _<=b;omega) _).setCell (p:=⟨b,5,none⟩) (by show _<=b;omega) _).setCell (p:=⟨b,6,none⟩) (by show _<=b;omega) _⟩
end
open Go.RowKit Go.Lib Go.Shelf
theorem isKind_any(k:Int)(w:World)(h1:1<=k)(h4:k<=4):Calls Tryz.prog 21 #[.int .u8 k] w fun e w'=>e=.returned (.bool true)/\w=w':=by
 go_enter Tryz.func21,Tryz.ntmps21
 go_wp2_with fail
 go_ret
 exact⟨rfl,rfl⟩
open Go.RowKit Go.Lib Go.Shelf
section
variable {y : Nat} {p1 p2 p3 p4 : Value} {w : World} {lo hi dg : Int} {gr : Bool}
theorem jspec1_any(hy:Blk w y 66 #[.int .u8 1,p1,p2,p3,p4])(h:∀w1,Below w.heap.size w w1->Calls Tryz.prog 24 #[p1] w1 fun e w'=>e=.returned (.agg #[.int .i64 lo,.int .i64 hi,.int .i64 dg])/\Below w1.heap.size w1 w')(h':∀w1,Below w.heap.size w w1->Calls Tryz.prog 25 #[p1] w1 fun e w'=>e=.returned (.bool gr)/\w1=w') :
 Calls Tryz.prog 8 #[.pointer (some ⟨y,0,none⟩)] w fun e w'=>e=.returned (specV 1 lo hi dg gr 0 0)/\Below w.heap.size w w':=by
 have C:=Lib.hid h
 have C':=Lib.hid h'
 have HY:=Lib.hid hy
 have f0:=hy.cell 0
 simp only[List.getElem?_toArray,List.getElem?_cons_zero,List.getElem?_cons_succ] at f0
 clear h h' hy
 unfold specV
 go_enter Tryz.func8,Tryz.ntmps8
 obtain⟨b,hbb⟩:∃b,w.heap.size=b:=⟨_,rfl⟩
 obtain⟨w0,hw0⟩:∃z,w.alloc (.cells #[.int .u8 0,.int .i64 0,.int .i64 0,.int .i64 0,.bool false,.int .i64 0,.int .i64 0] 25)=z:=⟨_,rfl⟩
 have hb0:Below w.heap.size w w0:=by rw[<-hw0];(repeat' (first|(with_reducible exact Below.refl _ _)|(with_reducible refine Below.alloc ?_ ?_ _)|(with_reducible refine Below.drew ?_)|(with_reducible refine below_drewN ?_ _)|(with_reducible refine Below.setCell ?_ ?_ _)|(with_reducible refine below_of (by assumption) ?_ ?_)|go_size))
 have B1:Hid (Blk w0 b 25 #[.int .u8 0,.int .i64 0,.int .i64 0,.int .i64 0,.bool false,.int .i64 0,.int .i64 0]):=by rw[<-hw0,<-hbb];exact Lib.hid (Blk.new _ _ _)
 have hz0:w0.heap.size=b+1:=by rw[<-hw0,<-hbb,World.size_alloc]
 have HBB:=Lib.hid hbb
 go_upto_region 1 with fail
 clear hw0 hbb f0
 have f0:=(HY.out.keep hb0).cell 0
 simp only[List.getElem?_toArray,List.getElem?_cons_zero,List.getElem?_cons_succ] at f0
 have HZ0:=Lib.hid hz0
 clear hz0
 go_upto_region 2 with fail
 obtain⟨w1,hw1⟩:∃z,w0.alloc (.cells #[.int .u8 1,.int .i64 0,.int .i64 0,.int .i64 0,.bool false,.int .i64 0,.int .i64 0] 25)=z:=⟨_,rfl⟩
 have b01:Below w0.heap.size w0 w1:=by rw[<-hw1];(repeat' (first|(with_reducible exact Below.refl _ _)|(with_reducible refine Below.alloc ?_ ?_ _)|(with_reducible refine Below.drew ?_)|(with_reducible refine below_drewN ?_ _)|(with_reducible refine Below.setCell ?_ ?_ _)|(with_reducible refine below_of (by assumption) ?_ ?_)|go_size))
 have hb1:Below w.heap.size w w1:=hb0.trans (b01.mono hb0.size)
 have B2:Hid (Blk w1 b 25 #[.int .u8 0,.int .i64 0,.int .i64 0,.int .i64 0,.bool false,.int .i64 0,.int .i64 0]):=Lib.hid (B1.out.keep b01)
 have B3:Hid (Blk w1 (b+1) 25 #[.int .u8 1,.int .i64 0,.int .i64 0,.int .i64 0,.bool false,.int .i64 0,.int .i64 0]):=by rw[<-hw1,<-HZ0.out];exact Lib.hid (Blk.new _ _ _)
 clear hb0 b01
 rw[hw1]
 rw[HZ0.out]
 clear hw1 f0
 have f0:=(HY.out.keep hb1).cell 0
 have f1:=(HY.out.keep hb1).cell 1
 simp only[List.getElem?_toArray,List.getElem?_cons_zero,List.getElem?_cons_succ] at f0 f1
 have FY:=Lib.hid f1
 have ly:y<w1.heap.size:=(HY.out.keep hb1).lt
 have ny:¬(y=b+1):=by have:=HY.out.lt;have:=HBB.out;omega
 have Bd:Below w1.heap.size w1 w1.drew:=(Below.refl _ _).drew
 have bd:Below w.heap.size w w1.drew:=hb1.drew
 have T0:Touch (fun k=>k=b+1) w1 w1.drew:=(Touch.refl _ w1).drew
 clear f1
 go_upto_region 5 with fail
 refine wp_region_plan (Touch (fun k=>k=b+1) w1) [(0,true),(1,true),(2,true),(3,true),(5,true),(6,true),(7,true),(8,true),(4,false),(10,true),(9,false),(11,false),(12,true),(13,false)] (by kernel_rfl) (by kernel_rfl) (T0) ?_
 iterate 8
  refine wpPlan_read (by rfl) (by rfl) (fun R hR=>?_)
  apply Exists.intro
  refine⟨fun w' hS'=>?_,?_⟩
  ·have f1:=(tcell hS' 1 ly ny).trans FY.out
   go_simp
   exact⟨rfl,rfl⟩
  go_simp
  refine hR _ ?_
  clear hR R
 refine wpPlan_do (by rfl) (by rfl) (fun K hK=>?_)
 go_simp
 refine(C.out w1.drew bd).mono ?_
 rintro e ws ⟨rfl,hbs⟩
 have Bs:Below w1.heap.size w1 ws:=Bd.trans hbs
 have Ts:Touch (fun k=>k=b+1) w1 ws:=Touch.of_below Bs (Nat.le_refl _)
 have G3:=Lib.hid (B3.out.keep Bs)
 have G2:=Lib.hid (B2.out.keep Bs)
 have bs:Below w.heap.size w ws:=hb1.trans (Bs.mono hb1.size)
 refine hK _ _ (Ts) ?_
 clear hK K
 iterate 1
  refine wpPlan_read (by rfl) (by rfl) (fun R hR=>?_)
  apply Exists.intro
  refine⟨fun w' hS'=>?_,?_⟩
  ·have f1:=(tcell hS' 1 ly ny).trans FY.out
   go_simp
   exact⟨rfl,rfl⟩
  go_simp
  refine hR _ ?_
  clear hR R
 refine wpPlan_do (by rfl) (by rfl) (fun K hK=>?_)
 go_simp
 refine(C'.out ws bs).mono ?_
 rintro e w' ⟨rfl,rfl⟩
 refine hK _ _ (Ts) ?_
 clear hK K
 refine wpPlan_do (by rfl) (by rfl) (fun K hK=>?_)
 have y1:=G3.out.frozen 1
 have x1:=G3.out.cell 1
 have y2:=G3.out.frozen 2
 have x2:=G3.out.cell 2
 have y3:=G3.out.frozen 3
 have x3:=G3.out.cell 3
 simp only[List.getElem?_toArray,List.getElem?_cons_zero,List.getElem?_cons_succ] at x1 x2 x3
 go_simp
 have T5:Touch (fun k=>k=b+1) w1 (((ws.setCell ⟨b+1,1,none⟩ (.int .i64 lo)).setCell ⟨b+1,2,none⟩ (.int .i64 hi)).setCell ⟨b+1,3,none⟩ (.int .i64 dg)):=((Ts.setCell (p:=⟨b+1,1,none⟩) (.inl rfl) _).setCell (p:=⟨b+1,2,none⟩) (.inl rfl) _).setCell (p:=⟨b+1,3,none⟩) (.inl rfl) _
 have G5:=Lib.hid (((G3.out.set_ 1 (.int .i64 lo)).set_ 2 (.int .i64 hi)).set_ 3 (.int .i64 dg))
 clear y1 x1 y2 x2 y3 x3
 refine hK _ _ (T5) ?_
 clear hK K
 iterate 1
  refine wpPlan_read (by rfl) (by rfl) (fun R hR=>?_)
  apply Exists.intro
  refine⟨fun w' hS'=>?_,?_⟩
  ·have f1:=(tcell hS' 1 ly ny).trans FY.out
   go_simp
   exact⟨rfl,rfl⟩
  go_simp
  refine hR _ ?_
  clear hR R
 refine wpPlan_do (by rfl) (by rfl) (fun K hK=>?_)
 have y4:=G5.out.frozen 4
 have x4:=G5.out.cell 4
 simp only[List.setIfInBounds_toArray,List.set_cons_zero,List.set_cons_succ,List.getElem?_toArray,List.getElem?_cons_zero,List.getElem?_cons_succ] at x4
 go_simp
 have T6:Touch (fun k=>k=b+1) w1 ((((ws.setCell ⟨b+1,1,none⟩ (.int .i64 lo)).setCell ⟨b+1,2,none⟩ (.int .i64 hi)).setCell ⟨b+1,3,none⟩ (.int .i64 dg)).setCell ⟨b+1,4,none⟩ (.bool gr)):=T5.setCell (p:=⟨b+1,4,none⟩) (.inl rfl) _
 clear y4 x4
 refine hK _ _ (T6) ?_
 clear hK K
 refine wpPlan_nil ?_
 obtain⟨w2,hw2⟩:∃z,(((ws.setCell ⟨b+1,1,none⟩ (.int .i64 lo)).setCell ⟨b+1,2,none⟩ (.int .i64 hi)).setCell ⟨b+1,3,none⟩ (.int .i64 dg)).setCell ⟨b+1,4,none⟩ (.bool gr)=z:=⟨_,rfl⟩
 have D3:Hid (Blk w2 (b+1) 25 #[.int .u8 1,.int .i64 lo,.int .i64 hi,.int .i64 dg,.bool gr,.int .i64 0,.int .i64 0]):=by rw[<-hw2];exact Lib.hid (G5.out.set_ 4 _)
 have D2:Hid (Blk w2 b 25 #[.int .u8 0,.int .i64 0,.int .i64 0,.int .i64 0,.bool false,.int .i64 0,.int .i64 0]):=by rw[<-hw2];exact Lib.hid ((((G2.out.far (p:=⟨b+1,1,none⟩) (by simp) _).far (p:=⟨b+1,2,none⟩) (by simp) _).far (p:=⟨b+1,3,none⟩) (by simp) _).far (p:=⟨b+1,4,none⟩) (by simp) _)
 have hbx:w.heap.size<=b+1:=by have:=HBB.out;omega
 have HB2:Hid (Below w.heap.size w w2):=by rw[<-hw2];exact Lib.hid ((((bs.setCell (p:=⟨b+1,1,none⟩) hbx _).setCell (p:=⟨b+1,2,none⟩) hbx _).setCell (p:=⟨b+1,3,none⟩) hbx _).setCell (p:=⟨b+1,4,none⟩) hbx _)
 try rw[hw2]
 clear f0 T0 T5 T6 Ts Bd bd
 go_upto_region 10 with fail
 clear hw2
 have j0:=D3.out.cell 0
 have j1:=D3.out.cell 1
 have j2:=D3.out.cell 2
 have j3:=D3.out.cell 3
 have j4:=D3.out.cell 4
 have j5:=D3.out.cell 5
 have j6:=D3.out.cell 6
 simp only[List.getElem?_toArray,List.getElem?_cons_zero,List.getElem?_cons_succ] at j0 j1 j2 j3 j4 j5 j6
 have y0:=D2.out.frozen 0
 have y1:=D2.out.frozen 1
 have y2:=D2.out.frozen 2
 have y3:=D2.out.frozen 3
 have y4:=D2.out.frozen 4
 have y5:=D2.out.frozen 5
 have y6:=D2.out.frozen 6
 have x0:=D2.out.cell 0
 have x1:=D2.out.cell 1
 have x2:=D2.out.cell 2
 have x3:=D2.out.cell 3
 have x4:=D2.out.cell 4
 have x5:=D2.out.cell 5
 have x6:=D2.out.cell 6
 simp only[List.getElem?_toArray,List.getElem?_cons_zero,List.getElem?_cons_succ] at x0 x1 x2 x3 x4 x5 x6
 go_wp2_with fail
 have hlt:=D2.out.lt
 have E:=((((((D2.out.set_ 0 (.int .u8 1)).set_ 1 (.int .i64 lo)).set_ 2 (.int .i64 hi)).set_ 3 (.int .i64 dg)).set_ 4 (.bool gr)).set_ 5 (.int .i64 0)).set_ 6 (.int .i64 0)
 have c0:=E.cell 0
 have c1:=E.cell 1
 have c2:=E.cell 2
 have c3:=E.cell 3
 have c4:=E.cell 4
 have c5:=E.cell 5
 have c6:=E.cell 6
 simp only[List.setIfInBounds_toArray,List.set_cons_zero,List.set_cons_succ,List.getElem?_toArray,List.getElem?_cons_zero,List.getElem?_cons_succ] at c0 c1 c2 c3 c4 c5 c6
 refine bodyPost_ret (by simp[results,Tryz.results8,go_sem, *];try rfl) rfl ?_
 have hbb:=HBB.out
 exact⟨rfl,((((((HB2.out.setCell (p:=⟨b,0,none⟩) (by show _<=b;omega) _).setCell (p:=⟨b,1,none⟩) (by show _<=b;omega) _).setCell (p:=⟨b,2,none⟩) (by show _<=b;omega) _).setCell (p:=⟨b,3,none⟩) (by show _<=b;omega) _).setCell (p:=⟨b,4,none⟩) (by show _<=b;omega) _).setCell (p:=⟨b,5,none⟩) (by show _<=b;omega) _).setCell (p:=⟨b,6,none⟩) (by show _<=b;omega) _⟩
end
end Go.Proofs.YtingnldfpokckaaGreat.D
