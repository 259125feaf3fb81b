/- Parts of a proof: what its theorem reaches, words cut short. No condition of its own. -/
import Derived.Test.YtilcnjbpmoijmaaGreatPs14
set_option maxRecDepth 100000
set_option maxHeartbeats 16000000
set_option linter.unusedVariables false
set_option linter.unusedSimpArgs false
namespace Go.Proofs.YtilcnjbpmoijmaaGreat.D
open Go.RowKit Go.Lib Go.Shelf
section
variable {y : Nat} {p1 p2 p3 p4 : Value} {w : World} {n : Int}
theorem jspec4_any(hy:Blk w y 126 #[.int .u8 4,p1,p2,p3,p4])(h:∀w1,Below w.heap.size w w1->Calls Tryz.prog 101 #[p4] w1 fun e w'=>e=.returned (.int .i64 n)/\w1=w') :
 Calls Tryz.prog 53 #[.pointer (some ⟨y,0,none⟩)] w fun e w'=>e=.returned (specV 4 0 0 0 false 0 n)/\Below w.heap.size w w':=by
 have C:=Lib.hid h
 have HY:=Lib.hid hy
 have f0:=hy.cell 0
 simp only[List.getElem?_toArray,List.getElem?_cons_zero,List.getElem?_cons_succ] at f0
 clear h hy
 unfold specV
 go_enter Tryz.func53,Tryz.ntmps53
 obtain⟨b,hbb⟩:∃b,w.heap.size=b:=⟨_,rfl⟩
 obtain⟨w0,hw0⟩:∃z,w.alloc (.cells #[.int .u8 0,.int .i64 0,.int .i64 0,.int .i64 0,.bool false,.int .i64 0,.int .i64 0] 25)=z:=⟨_,rfl⟩
 have hb0:Below w.heap.size w w0:=by rw[<-hw0];(repeat' (first|(with_reducible exact Below.refl _ _)|(with_reducible refine Below.alloc ?_ ?_ _)|(with_reducible refine Below.drew ?_)|(with_reducible refine below_drewN ?_ _)|(with_reducible refine Below.setCell ?_ ?_ _)|(with_reducible refine below_of (by assumption) ?_ ?_)|go_size))
 have B1:Hid (Blk w0 b 25 #[.int .u8 0,.int .i64 0,.int .i64 0,.int .i64 0,.bool false,.int .i64 0,.int .i64 0]):=by rw[<-hw0,<-hbb];exact Lib.hid (Blk.new _ _ _)
 have hz0:w0.heap.size=b+1:=by rw[<-hw0,<-hbb,World.size_alloc]
 have HBB:=Lib.hid hbb
 go_upto_region 1 with fail
 clear hw0 hbb f0
 have f0:=(HY.out.keep hb0).cell 0
 simp only[List.getElem?_toArray,List.getElem?_cons_zero,List.getElem?_cons_succ] at f0
 have HZ0:=Lib.hid hz0
 clear hz0
 go_upto_region 2 with fail
 obtain⟨w1,hw1⟩:∃z,w0.alloc (.cells #[.int .u8 4,.int .i64 0,.int .i64 0,.int .i64 0,.bool false,.int .i64 0,.int .i64 0] 25)=z:=⟨_,rfl⟩
 have b01:Below w0.heap.size w0 w1:=by rw[<-hw1];(repeat' (first|(with_reducible exact Below.refl _ _)|(with_reducible refine Below.alloc ?_ ?_ _)|(with_reducible refine Below.drew ?_)|(with_reducible refine below_drewN ?_ _)|(with_reducible refine Below.setCell ?_ ?_ _)|(with_reducible refine below_of (by assumption) ?_ ?_)|go_size))
 have hb1:Below w.heap.size w w1:=hb0.trans (b01.mono hb0.size)
 have B2:Hid (Blk w1 b 25 #[.int .u8 0,.int .i64 0,.int .i64 0,.int .i64 0,.bool false,.int .i64 0,.int .i64 0]):=Lib.hid (B1.out.keep b01)
 have B3:Hid (Blk w1 (b+1) 25 #[.int .u8 4,.int .i64 0,.int .i64 0,.int .i64 0,.bool false,.int .i64 0,.int .i64 0]):=by rw[<-hw1,<-HZ0.out];exact Lib.hid (Blk.new _ _ _)
 clear hb0 b01
 rw[hw1]
 rw[HZ0.out]
 clear hw1 f0
 have f0:=(HY.out.keep hb1).cell 0
 have f1:=(HY.out.keep hb1).cell 4
 have j0:=B3.out.cell 0
 have j1:=B3.out.cell 1
 have j2:=B3.out.cell 2
 have j3:=B3.out.cell 3
 have j4:=B3.out.cell 4
 have j5:=B3.out.cell 5
 have j6:=B3.out.cell 6
 have z6:=B3.out.frozen 6
 simp only[List.getElem?_toArray,List.getElem?_cons_zero,List.getElem?_cons_succ] at f0 f1 j0 j1 j2 j3 j4 j5 j6
 go_wp2_with fail
 refine(C.out w1 hb1).mono ?_
 rintro e w' ⟨rfl,rfl⟩
 obtain⟨w2,hw2⟩:∃z,w1.setCell ⟨b+1,6,none⟩ (.int .i64 n)=z:=⟨_,rfl⟩
 have D3:Hid (Blk w2 (b+1) 25 #[.int .u8 4,.int .i64 0,.int .i64 0,.int .i64 0,.bool false,.int .i64 0,.int .i64 n]):=by rw[<-hw2];exact Lib.hid (B3.out.set_ 6 _)
 have D2:Hid (Blk w2 b 25 #[.int .u8 0,.int .i64 0,.int .i64 0,.int .i64 0,.bool false,.int .i64 0,.int .i64 0]):=by rw[<-hw2];exact Lib.hid (B2.out.far (p:=⟨b+1,6,none⟩) (by simp) _)
 have HB2:Hid (Below w.heap.size w w2):=by rw[<-hw2];exact Lib.hid (hb1.setCell (p:=⟨b+1,6,none⟩) (by have:=HBB.out;show _<=b+1;omega) _)
 clear f0 f1
 go_upto_region 10 with fail
 clear j0 j1 j2 j3 j4 j5 j6 z6 hw2
 have j0:=D3.out.cell 0
 have j1:=D3.out.cell 1
 have j2:=D3.out.cell 2
 have j3:=D3.out.cell 3
 have j4:=D3.out.cell 4
 have j5:=D3.out.cell 5
 have j6:=D3.out.cell 6
 simp only[List.getElem?_toArray,List.getElem?_cons_zero,List.getElem?_cons_succ] at j0 j1 j2 j3 j4 j5 j6
 have y0:=D2.out.frozen 0
 have y1:=D2.out.frozen 1
 have y2:=D2.out.frozen 2
 have y3:=D2.out.frozen 3
 have y4:=D2.out.frozen 4
 have y5:=D2.out.frozen 5
 have y6:=D2.out.frozen 6
 have x0:=D2.out.cell 0
 have x1:=D2.out.cell 1
 have x2:=D2.out.cell 2
 have x3:=D2.out.cell 3
 have x4:=D2.out.cell 4
 have x5:=D2.out.cell 5
 have x6:=D2.out.cell 6
 simp only[List.getElem?_toArray,List.getElem?_cons_zero,List.getElem?_cons_succ] at x0 x1 x2 x3 x4 x5 x6
 go_wp2_with fail
 have hlt:=D2.out.lt
 have E:=((((((D2.out.set_ 0 (.int .u8 4)).set_ 1 (.int .i64 0)).set_ 2 (.int .i64 0)).set_ 3 (.int .i64 0)).set_ 4 (.bool false)).set_ 5 (.int .i64 0)).set_ 6 (.int .i64 n)
 have c0:=E.cell 0
 have c1:=E.cell 1
 have c2:=E.cell 2
 have c3:=E.cell 3
 have c4:=E.cell 4
 have c5:=E.cell 5
 have c6:=E.cell 6
 simp only[List.setIfInBounds_toArray,List.set_cons_zero,List.set_cons_succ,List.getElem?_toArray,List.getElem?_cons_zero,List.getElem?_cons_succ] at c0 c1 c2 c3 c4 c5 c6
 refine bodyPost_ret (by simp[results,Tryz.results53,go_sem, *];try rfl) rfl ?_
 have hbb:=HBB.out
 exact⟨rfl,((((((HB2.out.setCell (p:=⟨b,0,none⟩) (by show _<=b;omega) _).setCell (p:=⟨b,1,none⟩) (by show _<=b;omega) _).setCell (p:=⟨b,2,none⟩) (by show _<=b;omega) _).setCell (p:=⟨b,3,none⟩) (by show _<=b;omega) _).setCell (p:=⟨b,4,none⟩) (by show _<=b;omega) _).setCell (p:=⟨b,5,none⟩) (by show _<=b;omega) _).setCell (p:=⟨b,6,none⟩) (by show _<=b;omega) _⟩
end
open Go.RowKit Go.Lib Go.Shelf
open Go.RowKit Go.Lib Go.Shelf
theorem isKind_any(k:Int)(w:World)(h1:1<=k)(h4:k<=4):Calls Tryz.prog 69 #[.int .u8 k] w fun e w'=>e=.returned (.bool true)/\w=w':=by
 go_enter Tryz.func69,Tryz.ntmps69
 go_wp2_with fail
 go_ret
 exact⟨rfl,rfl⟩
open Go.RowKit Go.Lib Go.Shelf
open Go.RowKit Go.Lib Go.Shelf
open Go.RowKit Go.Lib Go.Shelf
open Go.RowKit Go.Lib Go.Shelf
end Go.Proofs.YtilcnjbpmoijmaaGreat.D
