/- Parts of a proof: what its theorem reaches, words cut short. No condition of its own. -/
import Derived.Test.YtilcnjbpmoijmaaGreatPs13
import Derived.Defers
import Derived.Recover
import Derived.Test.YtilcnjbpmoijmaaGreatPs07
import Derived.Laws.CopyRow
import Derived.Lib.AppendZeros
import Derived.Lib.AppendZerosOnto
import Derived.Lib.Overlaps
import Derived.Shelf.RegionOpenPlain
set_option maxRecDepth 100000
set_option maxHeartbeats 16000000
set_option linter.unusedVariables false
set_option linter.unusedSimpArgs false
namespace Go.Proofs.YtilcnjbpmoijmaaGreat
open Go.RowKit Go.Lib
open Go.RowKit Go.Lib
open Go.RowKit Go.Lib
open Go.RowKit
end Go.Proofs.YtilcnjbpmoijmaaGreat
namespace Go.Proofs.YtilcnjbpmoijmaaGreat.D
open Go.RowKit
open Go.RowKit
open Go.RowKit
open Go.RowKit
open Go.RowKit
open Go.RowKit
open Go.RowKit
open Go.RowKit
open Go.RowKit
open Go.RowKit
open Go.RowKit
open Go.RowKit
open Go.RowKit
open Go.RowKit
open Go.RowKit
open Go.RowKit
open Go.RowKit Go.Lib
open Go.RowKit Go.Lib
open Go.RowKit Go.Lib
open Go.RowKit Go.Lib
open Go.RowKit Go.Lib
open Go.RowKit Go.Lib
open Go.RowKit Go.Lib Go.Shelf
def Placed(y i:Nat)(cs:Array Value)(Q:Value->World->Prop)(w:World)(e:Ending)(w':World):Prop:=
 e=.returned (.int .i64 0)/\∃p w1,Q p w1/\Below w.heap.size w w1/\Blk w' y 126 (cs.setIfInBounds i p)/\Touch (fun k=>k=y) w1 w'/\Touch (fun k=>k=y) w w'
open Go.RowKit Go.Lib Go.Shelf
def specV(kd lo hi dg:Int)(gr:Bool)(ac sz:Int):Value:=.agg #[.int .u8 kd,.int .i64 lo,.int .i64 hi,.int .i64 dg,.bool gr,.int .i64 ac,.int .i64 sz]
theorem placed_of{y i:Nat}{cs:Array Value}{Q:Value->World->Prop}{w wa w1:World}{p:Value}(hy:Blk w1 y 126 cs)(ha:Below w.heap.size w wa)(hb:Below wa.heap.size wa w1)(hq:Q p w1) :
 Placed y i cs Q w (.returned (.int .i64 0)) (w1.setCell ⟨y,i,none⟩ p):=by
 have hb':=ha.trans (hb.mono ha.size)
 exact⟨rfl,p,w1,hq,hb',hy.set_ i p,(show Touch (fun k=>k=y) w1 w1 from Touch.refl _ w1).setCell (p:=⟨y,i,none⟩) (.inl rfl) p,(Touch.of_below (F:=fun k=>k=y) hb' (Nat.le_refl _)).setCell (p:=⟨y,i,none⟩) (.inl rfl) p⟩
section
variable {y : Nat} {k0 p1 p2 p3 p4 : Value} {w : World} {Q : Value -> World -> Prop} {kd lo hi dg ac sz : Int} {gr : Bool}
theorem makeKll_any(hy:Blk w y 126 #[k0,p1,p2,p3,p4])(h:∀wa,Below w.heap.size w wa->Calls Tryz.prog 209 #[.int .i64 sz] wa fun e w'=>∃d,e=.returned (.tuple #[.pointer (some ⟨d,0,none⟩),.int .i64 0])/\Q (.pointer (some ⟨d,0,none⟩)) w'/\Below wa.heap.size wa w') :
 Calls Tryz.prog 131 #[.pointer (some ⟨y,0,none⟩),specV kd lo hi dg gr ac sz] w (Placed y 4 #[k0,p1,p2,p3,p4] Q w):=by
 have C:=Lib.hid h
 have HY:=Lib.hid hy
 clear h hy
 unfold specV
 obtain⟨b,hbb⟩:∃b,w.heap.size=b:=⟨_,rfl⟩
 obtain⟨wa,hwa⟩:∃z,w.alloc (.cells #[.int .u8 kd,.int .i64 lo,.int .i64 hi,.int .i64 dg,.bool gr,.int .i64 ac,.int .i64 sz] 25)=z:=⟨_,rfl⟩
 have ha:Below w.heap.size w wa:=by rw[<-hwa];(repeat' (first|(with_reducible exact Below.refl _ _)|(with_reducible refine Below.alloc ?_ ?_ _)|(with_reducible refine Below.drew ?_)|(with_reducible refine below_drewN ?_ _)|(with_reducible refine Below.setCell ?_ ?_ _)|(with_reducible refine below_of (by assumption) ?_ ?_)|go_size))
 have B0:Blk wa b 25 #[.int .u8 kd,.int .i64 lo,.int .i64 hi,.int .i64 dg,.bool gr,.int .i64 ac,.int .i64 sz]:=by rw[<-hwa,<-hbb];exact Blk.new _ _ _
 have j6:=B0.cell 6
 simp only[List.getElem?_toArray,List.getElem?_cons_zero,List.getElem?_cons_succ] at j6
 clear B0
 have HA:=Lib.hid ha
 clear ha
 go_enter Tryz.func131,Tryz.ntmps131
 go_wp2_with fail
 refine(C.out wa HA.out).mono ?_
 rintro e w1 ⟨d,rfl,hq,hb⟩
 have L:=Lib.hid ((HY.out.keep HA.out).keep hb)
 have f1:=L.out.cell 4
 have f2:=L.out.frozen 4
 simp only[List.getElem?_toArray,List.getElem?_cons_zero,List.getElem?_cons_succ] at f1
 have M:=Lib.hid (placed_of (i:=4) L.out HA.out hb hq)
 clear hq
 go_wp2_with fail
 go_ret
 exact M.out
end
open Go.RowKit Go.Lib Go.Shelf
section
variable {y : Nat} {p1 p2 p3 p4 : Value} {w : World} {Q : Value -> World -> Prop}
theorem jadd4_any{a n c:Value}(hy:Blk w y 126 #[.int .u8 4,p1,p2,p3,p4])(h:Calls Tryz.prog 124 #[p4,a,n,c] w fun e w'=>∃v,e=.returned v/\Q v w') :
 Calls Tryz.prog 68 #[.pointer (some ⟨y,0,none⟩),a,n,c] w fun e w'=>∃v,e=.returned v/\Q v w':=by
 have C:=Lib.hid h
 have HY:=Lib.hid hy
 clear h hy
 have f0:=HY.out.cell 0
 have f1:=HY.out.cell 4
 simp only[List.getElem?_toArray,List.getElem?_cons_zero,List.getElem?_cons_succ] at f0 f1
 go_enter Tryz.func68,Tryz.ntmps68
 go_wp2_with fail
 refine(C.out).mono ?_
 rintro e w1 ⟨v,rfl,hq⟩
 have HQ:=Lib.hid hq
 clear hq
 go_wp2_with fail
 go_ret
 exact⟨_,rfl,HQ.out⟩
end
end Go.Proofs.YtilcnjbpmoijmaaGreat.D
