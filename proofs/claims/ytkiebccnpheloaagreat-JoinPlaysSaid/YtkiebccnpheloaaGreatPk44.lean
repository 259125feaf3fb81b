/- Parts of a proof: what its theorem reaches, words cut short. No condition of its own. -/
import Derived.Test.YtkiebccnpheloaaGreatPk43
set_option maxRecDepth 100000
set_option maxHeartbeats 16000000
set_option linter.unusedVariables false
set_option linter.unusedSimpArgs false
namespace Go.Proofs.YtkiebccnpheloaaGreat.D
open Go.RowKit Go.Lib Go.Shelf
section
variable {x y : Nat} {p1 p2 p3 p4 q1 q2 q3 q4 : Value} {w : World} {Q : Value -> World -> Prop} {lo hi dg ac sz : Int} {gr : Bool}
theorem LZ{c:Value}(hy:dH w y 146 #[.int .u8 1,.int .i64 lo,.int .i64 hi,.int .i64 dg,.bool gr,.int .i64 ac,.int .i64 sz,p1,p2,p3,p4])(hx:dH w x 146 #[.int .u8 1,.int .i64 lo,.int .i64 hi,.int .i64 dg,.bool gr,.int .i64 ac,.int .i64 sz,q1,q2,q3,q4])(h:∀w1,Below w.heap.size w w1->Calls Tryz.prog 91 #[p1,q1] w1 fun e w'=>∃v,e=.returned v/\Q v w') :
 Calls Tryz.prog 35 #[.pointer (some ⟨y,0,none⟩),.pointer (some ⟨x,0,none⟩),c] w fun e w'=>∃v,e=.returned v/\Q v w':=by
 have C:=aB h;have f0:=hy.cell 0;have f1:=hy.cell 1;have f2:=hy.cell 2;have f3:=hy.cell 3;have f4:=hy.cell 4;have f5:=hy.cell 5;have f6:=hy.cell 6;have f7:=hy.cell 7;have g0:=hx.cell 0;have g1:=hx.cell 1;have g2:=hx.cell 2;have g3:=hx.cell 3;have g4:=hx.cell 4;have g5:=hx.cell 5;have g6:=hx.cell 6;have g7:=hx.cell 7;simp only[aF,aC,aG] at f0 f1 f2 f3 f4 f5 f6 f7 g0 g1 g2 g3 g4 g5 g6 g7;have HY:=aB hy;have HX:=aB hx;clear h hy hx;have FF:=aB (aN f7 g7);have lx:=HX.out.lt;have ly:=HY.out.lt;clear f7 g7;have HB1:Below w.heap.size w w.drew:=(aH _ _).drew;have HB2:Below w.heap.size w w.drew.drew:=HB1.drew
 go_enter Tryz.func35,Tryz.ntmps35
 go_upto_region 1 with fail;refine dD (fun w'=>w'=w.drew) [(0,true),(1,true),(2,true),(3,true),(4,true),(5,true),(6,true),(7,true),(8,true)] (by kernel_rfl) (by kernel_rfl) (rfl) ?_
 iterate 9
  refine dC ax  ax (fun R hR=>?_)
  apply aJ
  refine⟨fun w' hS'=>?_,?_⟩
  ·subst hS'
   have f0:w.drew.cell? ⟨y,0,none⟩=_:=f0;have f1:w.drew.cell? ⟨y,1,none⟩=_:=f1;have f2:w.drew.cell? ⟨y,2,none⟩=_:=f2;have f3:w.drew.cell? ⟨y,3,none⟩=_:=f3;have f4:w.drew.cell? ⟨y,4,none⟩=_:=f4;have f5:w.drew.cell? ⟨y,5,none⟩=_:=f5;have f6:w.drew.cell? ⟨y,6,none⟩=_:=f6;have g0:w.drew.cell? ⟨x,0,none⟩=_:=g0;have g1:w.drew.cell? ⟨x,1,none⟩=_:=g1;have g2:w.drew.cell? ⟨x,2,none⟩=_:=g2;have g3:w.drew.cell? ⟨x,3,none⟩=_:=g3;have g4:w.drew.cell? ⟨x,4,none⟩=_:=g4;have g5:w.drew.cell? ⟨x,5,none⟩=_:=g5;have g6:w.drew.cell? ⟨x,6,none⟩=_:=g6
   go_simp;exact⟨rfl,rfl⟩
  go_simp;refine hR _ ?_;clear hR R
 refine dF ?_
 have f0:w.drew.cell? ⟨y,0,none⟩=_:=f0
 go_upto_region 5 with fail;refine dJ (fun w'=>w'=w.drew.drew) 8 [(0,true),(1,true),(2,true),(3,true),(4,true),(5,true),(6,true),(7,true)] (by kernel_rfl) (by kernel_rfl) (rfl) ?_
 iterate 8
  refine dK ax  ax (fun R hR=>?_)
  apply aJ
  refine⟨fun w' hS'=>?_,?_⟩
  ·have f7:w.drew.drew.cell? ⟨y,7,none⟩=some p1:=FF.out.1
   have g7:w.drew.drew.cell? ⟨x,7,none⟩=some q1:=FF.out.2;subst hS'
   go_simp;exact⟨rfl,rfl⟩
  go_simp;refine hR _ ?_;clear hR R
 refine dQ ?_
 simp only[bD,bQ]
 go_wp2_with fail;refine(C.out w.drew.drew HB2).mono ?_
 rintro e w1 ⟨v,rfl,hq⟩;have HQ:=aB hq;clear hq
 go_wp2_with fail;try refine dO ?_
 go_wp2_with fail
 go_ret;exact⟨_,rfl,HQ.out⟩
theorem L_{c:Value}(hy:dH w y 146 #[.int .u8 2,.int .i64 lo,.int .i64 hi,.int .i64 dg,.bool gr,.int .i64 ac,.int .i64 sz,p1,p2,p3,p4])(hx:dH w x 146 #[.int .u8 2,.int .i64 lo,.int .i64 hi,.int .i64 dg,.bool gr,.int .i64 ac,.int .i64 sz,q1,q2,q3,q4])(h:∀w1,Below w.heap.size w w1->Calls Tryz.prog 92 #[p2,q2] w1 fun e w'=>∃v,e=.returned v/\Q v w') :
 Calls Tryz.prog 35 #[.pointer (some ⟨y,0,none⟩),.pointer (some ⟨x,0,none⟩),c] w fun e w'=>∃v,e=.returned v/\Q v w':=by
 have C:=aB h;have f0:=hy.cell 0;have f1:=hy.cell 1;have f2:=hy.cell 2;have f3:=hy.cell 3;have f4:=hy.cell 4;have f5:=hy.cell 5;have f6:=hy.cell 6;have f7:=hy.cell 8;have g0:=hx.cell 0;have g1:=hx.cell 1;have g2:=hx.cell 2;have g3:=hx.cell 3;have g4:=hx.cell 4;have g5:=hx.cell 5;have g6:=hx.cell 6;have g7:=hx.cell 8;simp only[aF,aC,aG] at f0 f1 f2 f3 f4 f5 f6 f7 g0 g1 g2 g3 g4 g5 g6 g7;have HY:=aB hy;have HX:=aB hx;clear h hy hx;have FF:=aB (aN f7 g7);have lx:=HX.out.lt;have ly:=HY.out.lt;clear f7 g7;have HB1:Below w.heap.size w w.drew:=(aH _ _).drew;have HB2:Below w.heap.size w w.drew.drew:=HB1.drew
 go_enter Tryz.func35,Tryz.ntmps35
 go_upto_region 1 with fail;refine dD (fun w'=>w'=w.drew) [(0,true),(1,true),(2,true),(3,true),(4,true),(5,true),(6,true),(7,true),(8,true)] (by kernel_rfl) (by kernel_rfl) (rfl) ?_
 iterate 9
  refine dC ax  ax (fun R hR=>?_)
  apply aJ
  refine⟨fun w' hS'=>?_,?_⟩
  ·subst hS'
   have f0:w.drew.cell? ⟨y,0,none⟩=_:=f0;have f1:w.drew.cell? ⟨y,1,none⟩=_:=f1;have f2:w.drew.cell? ⟨y,2,none⟩=_:=f2;have f3:w.drew.cell? ⟨y,3,none⟩=_:=f3;have f4:w.drew.cell? ⟨y,4,none⟩=_:=f4;have f5:w.drew.cell? ⟨y,5,none⟩=_:=f5;have f6:w.drew.cell? ⟨y,6,none⟩=_:=f6;have g0:w.drew.cell? ⟨x,0,none⟩=_:=g0;have g1:w.drew.cell? ⟨x,1,none⟩=_:=g1;have g2:w.drew.cell? ⟨x,2,none⟩=_:=g2;have g3:w.drew.cell? ⟨x,3,none⟩=_:=g3;have g4:w.drew.cell? ⟨x,4,none⟩=_:=g4;have g5:w.drew.cell? ⟨x,5,none⟩=_:=g5;have g6:w.drew.cell? ⟨x,6,none⟩=_:=g6
   go_simp;exact⟨rfl,rfl⟩
  go_simp;refine hR _ ?_;clear hR R
 refine dF ?_
 have f0:w.drew.cell? ⟨y,0,none⟩=_:=f0
 go_upto_region 7 with fail;refine dJ (fun w'=>w'=w.drew.drew) 8 [(0,true),(1,true),(2,true),(3,true),(4,true),(5,true),(6,true),(7,true)] (by kernel_rfl) (by kernel_rfl) (rfl) ?_
 iterate 8
  refine dK ax  ax (fun R hR=>?_)
  apply aJ
  refine⟨fun w' hS'=>?_,?_⟩
  ·have f7:w.drew.drew.cell? ⟨y,8,none⟩=some p2:=FF.out.1
   have g7:w.drew.drew.cell? ⟨x,8,none⟩=some q2:=FF.out.2;subst hS'
   go_simp;exact⟨rfl,rfl⟩
  go_simp;refine hR _ ?_;clear hR R
 refine dQ ?_
 simp only[bD,bQ]
 go_wp2_with fail;refine(C.out w.drew.drew HB2).mono ?_
 rintro e w1 ⟨v,rfl,hq⟩;have HQ:=aB hq;clear hq
 go_wp2_with fail;try refine dO ?_
 go_wp2_with fail
 go_ret;exact⟨_,rfl,HQ.out⟩
theorem Mc{c:Value}(hy:dH w y 146 #[.int .u8 3,.int .i64 lo,.int .i64 hi,.int .i64 dg,.bool gr,.int .i64 ac,.int .i64 sz,p1,p2,p3,p4])(hx:dH w x 146 #[.int .u8 3,.int .i64 lo,.int .i64 hi,.int .i64 dg,.bool gr,.int .i64 ac,.int .i64 sz,q1,q2,q3,q4])(h:∀w1,Below w.heap.size w w1->Calls Tryz.prog 93 #[p3,q3] w1 fun e w'=>∃v,e=.returned v/\Q v w') :
 Calls Tryz.prog 35 #[.pointer (some ⟨y,0,none⟩),.pointer (some ⟨x,0,none⟩),c] w fun e w'=>∃v,e=.returned v/\Q v w':=by
 have C:=aB h;have f0:=hy.cell 0;have f1:=hy.cell 1;have f2:=hy.cell 2;have f3:=hy.cell 3;have f4:=hy.cell 4;have f5:=hy.cell 5;have f6:=hy.cell 6;have f7:=hy.cell 9;have g0:=hx.cell 0;have g1:=hx.cell 1;have g2:=hx.cell 2;have g3:=hx.cell 3;have g4:=hx.cell 4;have g5:=hx.cell 5;have g6:=hx.cell 6;have g7:=hx.cell 9;simp only[aF,aC,aG] at f0 f1 f2 f3 f4 f5 f6 f7 g0 g1 g2 g3 g4 g5 g6 g7;have HY:=aB hy;have HX:=aB hx;clear h hy hx;have FF:=aB (aN f7 g7);have lx:=HX.out.lt;have ly:=HY.out.lt;clear f7 g7;have HB1:Below w.heap.size w w.drew:=(aH _ _).drew;have HB2:Below w.heap.size w w.drew.drew:=HB1.drew
 go_enter Tryz.func35,Tryz.ntmps35
 go_upto_region 1 with fail;refine dD (fun w'=>w'=w.drew) [(0,true),(1,true),(2,true),(3,true),(4,true),(5,true),(6,true),(7,true),(8,true)] (by kernel_rfl) (by kernel_rfl) (rfl) ?_
 iterate 9
  refine dC ax  ax (fun R hR=>?_)
  apply aJ
  refine⟨fun w' hS'=>?_,?_⟩
  ·subst hS'
   have f0:w.drew.cell? ⟨y,0,none⟩=_:=f0;have f1:w.drew.cell? ⟨y,1,none⟩=_:=f1;have f2:w.drew.cell? ⟨y,2,none⟩=_:=f2;have f3:w.drew.cell? ⟨y,3,none⟩=_:=f3;have f4:w.drew.cell? ⟨y,4,none⟩=_:=f4;have f5:w.drew.cell? ⟨y,5,none⟩=_:=f5;have f6:w.drew.cell? ⟨y,6,none⟩=_:=f6;have g0:w.drew.cell? ⟨x,0,none⟩=_:=g0;have g1:w.drew.cell? ⟨x,1,none⟩=_:=g1;have g2:w.drew.cell? ⟨x,2,none⟩=_:=g2;have g3:w.drew.cell? ⟨x,3,none⟩=_:=g3;have g4:w.drew.cell? ⟨x,4,none⟩=_:=g4;have g5:w.drew.cell? ⟨x,5,none⟩=_:=g5;have g6:w.drew.cell? ⟨x,6,none⟩=_:=g6
   go_simp;exact⟨rfl,rfl⟩
  go_simp;refine hR _ ?_;clear hR R
 refine dF ?_
 have f0:w.drew.cell? ⟨y,0,none⟩=_:=f0
 go_upto_region 9 with fail;refine dJ (fun w'=>w'=w.drew.drew) 8 [(0,true),(1,true),(2,true),(3,true),(4,true),(5,true),(6,true),(7,true)] (by kernel_rfl) (by kernel_rfl) (rfl) ?_
 iterate 8
  refine dK ax  ax (fun R hR=>?_)
  apply aJ
  refine⟨fun w' hS'=>?_,?_⟩
  ·have f7:w.drew.drew.cell? ⟨y,9,none⟩=some p3:=FF.out.1
   have g7:w.drew.drew.cell? ⟨x,9,none⟩=some q3:=FF.out.2;subst hS'
   go_simp;exact⟨rfl,rfl⟩
  go_simp;refine hR _ ?_;clear hR R
 refine dQ ?_
 simp only[bD,bQ]
 go_wp2_with fail;refine(C.out w.drew.drew HB2).mono ?_
 rintro e w1 ⟨v,rfl,hq⟩;have HQ:=aB hq;clear hq
 go_wp2_with fail;try refine dO ?_
 go_wp2_with fail
 go_ret;exact⟨_,rfl,HQ.out⟩
theorem Md{c:Value}(hy:dH w y 146 #[.int .u8 4,.int .i64 lo,.int .i64 hi,.int .i64 dg,.bool gr,.int .i64 ac,.int .i64 sz,p1,p2,p3,p4])(hx:dH w x 146 #[.int .u8 4,.int .i64 lo,.int .i64 hi,.int .i64 dg,.bool gr,.int .i64 ac,.int .i64 sz,q1,q2,q3,q4])(h:∀w1,Below w.heap.size w w1->Calls Tryz.prog 94 #[p4,q4,c] w1 fun e w'=>∃v,e=.returned v/\Q v w') :
 Calls Tryz.prog 35 #[.pointer (some ⟨y,0,none⟩),.pointer (some ⟨x,0,none⟩),c] w fun e w'=>∃v,e=.returned v/\Q v w':=by
 have C:=aB h;have f0:=hy.cell 0;have f1:=hy.cell 1;have f2:=hy.cell 2;have f3:=hy.cell 3;have f4:=hy.cell 4;have f5:=hy.cell 5;have f6:=hy.cell 6;have f7:=hy.cell 10;have g0:=hx.cell 0;have g1:=hx.cell 1;have g2:=hx.cell 2;have g3:=hx.cell 3;have g4:=hx.cell 4;have g5:=hx.cell 5;have g6:=hx.cell 6;have g7:=hx.cell 10;simp only[aF,aC,aG] at f0 f1 f2 f3 f4 f5 f6 f7 g0 g1 g2 g3 g4 g5 g6 g7;have HY:=aB hy;have HX:=aB hx;clear h hy hx;have FF:=aB (aN f7 g7);have lx:=HX.out.lt;have ly:=HY.out.lt;clear f7 g7;have HB1:Below w.heap.size w w.drew:=(aH _ _).drew;have HB2:Below w.heap.size w w.drew.drew:=HB1.drew
 go_enter Tryz.func35,Tryz.ntmps35
 go_upto_region 1 with fail;refine dD (fun w'=>w'=w.drew) [(0,true),(1,true),(2,true),(3,true),(4,true),(5,true),(6,true),(7,true),(8,true)] (by kernel_rfl) (by kernel_rfl) (rfl) ?_
 iterate 9
  refine dC ax  ax (fun R hR=>?_)
  apply aJ
  refine⟨fun w' hS'=>?_,?_⟩
  ·subst hS'
   have f0:w.drew.cell? ⟨y,0,none⟩=_:=f0;have f1:w.drew.cell? ⟨y,1,none⟩=_:=f1;have f2:w.drew.cell? ⟨y,2,none⟩=_:=f2;have f3:w.drew.cell? ⟨y,3,none⟩=_:=f3;have f4:w.drew.cell? ⟨y,4,none⟩=_:=f4;have f5:w.drew.cell? ⟨y,5,none⟩=_:=f5;have f6:w.drew.cell? ⟨y,6,none⟩=_:=f6;have g0:w.drew.cell? ⟨x,0,none⟩=_:=g0;have g1:w.drew.cell? ⟨x,1,none⟩=_:=g1;have g2:w.drew.cell? ⟨x,2,none⟩=_:=g2;have g3:w.drew.cell? ⟨x,3,none⟩=_:=g3;have g4:w.drew.cell? ⟨x,4,none⟩=_:=g4;have g5:w.drew.cell? ⟨x,5,none⟩=_:=g5;have g6:w.drew.cell? ⟨x,6,none⟩=_:=g6
   go_simp;exact⟨rfl,rfl⟩
  go_simp;refine hR _ ?_;clear hR R
 refine dF ?_
 have f0:w.drew.cell? ⟨y,0,none⟩=_:=f0
 go_upto_region 10 with fail;refine dJ (fun w'=>w'=w.drew.drew) 9 [(0,true),(1,true),(2,true),(3,true),(4,true),(5,true),(6,true),(7,true),(8,true)] (by kernel_rfl) (by kernel_rfl) (rfl) ?_
 iterate 9
  refine dK ax  ax (fun R hR=>?_)
  apply aJ
  refine⟨fun w' hS'=>?_,?_⟩
  ·have f7:w.drew.drew.cell? ⟨y,10,none⟩=some p4:=FF.out.1
   have g7:w.drew.drew.cell? ⟨x,10,none⟩=some q4:=FF.out.2;subst hS'
   go_simp;exact⟨rfl,rfl⟩
  go_simp;refine hR _ ?_;clear hR R
 refine dQ ?_
 simp only[bD,bQ]
 go_wp2_with fail;refine(C.out w.drew.drew HB2).mono ?_
 rintro e w1 ⟨v,rfl,hq⟩;have HQ:=aB hq;clear hq
 go_wp2_with fail;try refine dO ?_
 go_wp2_with fail
 go_ret;exact⟨_,rfl,HQ.out⟩
end
open Go.RowKit Go.Lib
theorem Qe(w:World):Calls Tryz.prog 276 #[.int .u8 110] w fun e w'=>e=.returned (.tuple #[.int .i64 0,.bool false])/\w=w':=by
 go_enter Tryz.func276,Tryz.ntmps276
 go_wp2
 go_ret2
 exact⟨rfl,rfl⟩
theorem Qg(w:World):Calls Tryz.prog 276 #[.int .u8 87] w fun e w'=>e=.returned (.tuple #[.int .i64 4,.bool true])/\w=w':=by
 go_enter Tryz.func276,Tryz.ntmps276
 go_wp2
 go_ret2
 exact⟨rfl,rfl⟩
theorem Qh(w:World):Calls Tryz.prog 276 #[.int .u8 81] w fun e w'=>e=.returned (.tuple #[.int .i64 8,.bool true])/\w=w':=by
 go_enter Tryz.func276,Tryz.ntmps276
 go_wp2
 go_ret2
 exact⟨rfl,rfl⟩
theorem Vp(x:Int)(w:World)(h0:-9223372036854775808<=x)(h1:x<=9223372036854775807) :
 Calls Tryz.prog 181 #[.int .u8 110,.int .u64 (ub x)] w fun e w'=>∃v,e=.returned (.tuple #[v,.bool true])/\OwnB w.heap.size w' v (nn x)/\Below w.heap.size w w':=by
 have sb:=vM h0 h1;have FX:=fun w=>aB (Qe w)
 have SG:=aB (Gg x w h0 h1);have HN:Hid (nn x=lC 8 (vg x)):=aB rfl;rw[HN.out];clear HN;generalize vg x=m at *;generalize ub x=n at *
 go_enter Tryz.func181,Tryz.ntmps181
 go_wp2_with (first|(go_at_call 276;refine((FX _).out).mono ?_;rintro e w' ⟨rfl,rfl⟩)|(go_at_call 277;refine(SG.out).mono ?_;rintro e w' ⟨rfl,rfl⟩))
 go_loopg [8,11] 8 (fun k b v wr=>∃(q:Int) (acc:List Int),k+acc.length=8/\v=.int .u64 q/\0<=q/\q<256 * 128 ^ k/\Hid (acc++lC k q=lC 8 m)/\Hid (OwnB w.heap.size wr b acc)/\Below w.heap.size w wr)
 case atStart=>exact⟨m,[],rfl,rfl,sb.1,ae,aB rfl,aB (dN.nil_ _ _ _ _),aH _ _⟩
 case round=>
  obtain⟨q,acc,hk,rfl,q0,q1,he,HO,hb⟩:=hrel;have hz:=hb.size;have hlen:acc.length+1<=1099511627776:=ae
  obtain⟨A8,k8,WM,_,_,_⟩:=(dN.rd HO.out).form;obtain⟨n8,ZL⟩:∃z,acc.length=z:=⟨_,rfl⟩;rw[ZL] at WM;subst WM;have VP:=aB (dR.1 HO.out);have DV:Hid (∀(y:Int) (v2:Value) (w2:World),dI bE w.heap.size w2 v2 (acc++[y])->(wr.alloc (.cells #[.int .u8 y] 5)).grownBy w2 (Value.slice A8 n8 k8).ownBlock->Below w.heap.size w w2):=aB (fun y v2 w2 _ g2=>(hb.alloc hz _).grown g2 (by simp only[aO];omega) (fun k hk=>(VP.out.lt k hk).1))
  by_cases hk0:gk=0
  ·subst hk0
   obtain rfl:n8=8:=ae
   have hq8:q % 256=q:=by simp at q1;omega
   have EB:Hid (IntKind.u8.wrap q=q):=aB hq8;have he0:acc++[q]=lC 8 m:=he.out;have HE0:=aB he0;clear he he0 ZL q1 hq8;have eb:=EB.out
   by_cases hq:127<q
   ·go_wp2_with (at_builtin;refine pY wC rfl (.tmp 69) (.tmp 72) rfl (VP.out.alloc _) rfl _ [q] rfl (gz.dY (E:=bE) _ q _ rfl _ rfl _ ag) hlen aj ?_;intro v2 w2 o2 g2 _;have hb2:=DV.out q _ w2 o2 g2;have O2:=aB (dR.2 o2);clear o2 g2)
    go_ret2
    exact⟨_,rfl,by rw[<-HE0.out];exact O2.out,hb2⟩
   ·go_wp2_with (at_builtin;refine pY wC rfl (.tmp 69) (.tmp 72) rfl (VP.out.alloc _) rfl _ [q] rfl (gz.dY (E:=bE) _ q _ rfl _ rfl _ ag) hlen aj ?_;intro v2 w2 o2 g2 _;have hb2:=DV.out q _ w2 o2 g2;have O2:=aB (dR.2 o2);clear o2 g2)
    go_ret2
    exact⟨_,rfl,by rw[<-HE0.out];exact O2.out,hb2⟩
  ·obtain⟨r,rfl⟩:∃r,gk=r+1:=⟨gk - 1,ae⟩
   have bo6:((n8:Int) == 8)=false:=ah
   by_cases hq:127<q
   ·have hE:=aB (uo r q hq)
    have hd:q / 128<256 * 128 ^ r:=Int.ediv_lt_of_lt_mul ae (by rw[bV,<-Int.pow_succ];exact q1)
    have HCM:=aB (show q % 128+128=128+q % 128 by omega)
    have bo7:q<18446744073709551616:=by
     have h1:(128:Int) ^ (r+1)<=128 ^ 8:=by
      have h2:(128:Nat) ^ (r+1)<=128 ^ 8:=Nat.pow_le_pow_right ae  ae
      exact_mod_cast h2
     omega
    clear q1 ZL
    go_wp2_with (at_builtin;refine pY wC rfl (.tmp 60) (.tmp 65) rfl (VP.out.alloc _) rfl _ [128+q % 128] rfl (gz.dY (E:=bE) _ (128+q % 128) _ rfl _ rfl _ ag) hlen aj ?_;intro v2 w2 o2 g2 _;have hb2:=DV.out _ _ w2 o2 g2;have O2:=aB (dR.2 o2);clear o2 g2)
    go_roundg r
    case measure=>omega
    case rel=>exact⟨q / 128,acc++[128+q % 128],ah,rfl,ae,hd,aB (by rw[aS,<-he.out,hE.out,HCM.out];rfl),O2,hb2⟩
   ·have hE:=aB (uq (r+1) q hq)
    have hq8:q % 256=q:=ae
    have EB:Hid (IntKind.u8.wrap q=q):=aB hq8;clear q1 ZL hq8;have eb:=EB.out
    go_wp2_with (at_builtin;refine pY wC rfl (.tmp 69) (.tmp 72) rfl (VP.out.alloc _) rfl _ [q] rfl (gz.dY (E:=bE) _ q _ rfl _ rfl _ ag) hlen aj ?_;intro v2 w2 o2 g2 _;have hb2:=DV.out q _ w2 o2 g2;have O2:=aB (dR.2 o2);clear o2 g2)
    go_ret2
    exact⟨_,rfl,by rw[<-he.out,hE.out];exact O2.out,hb2⟩
theorem Me:∀(j:Nat) (n:Int),iZ (j+1) n=(n / 2 ^ (8 * j) % 256)::iZ j n
 | 0,n=>by simp[iZ]
 | j+1,n=>by
  have e:n / 256 / 2 ^ (8 * j)=n / 2 ^ (8 * (j+1)):=by
   rw[Int.ediv_ediv_of_nonneg ae]
   congr 1
   rw[Nat.mul_add,Int.pow_add,Int.mul_comm];rfl
  rw[iZ,Me j (n / 256),e];rfl
theorem Hm(K:Nat)(c n:Int)(w:World)(hf:∀w,Calls Tryz.prog 276 #[.int .u8 c] w fun e w'=>e=.returned (.tuple #[.int .i64 K,.bool true])/\w=w')(k0:0<K)(k1:K<=8)(n0:0<=n)(n1:n<18446744073709551616)(nK:n / 2 ^ (8 * K)=0) :
 Calls Tryz.prog 181 #[.int .u8 c,.int .u64 n] w fun e w'=>∃v,e=.returned (.tuple #[v,.bool true])/\OwnB w.heap.size w' v (iZ K n)/\Below w.heap.size w w':=by
 have FX:=fun w=>aB (hf w)
 have hk0:(0:Int)<(K:Int):=ae
 have NK:=aB nK;clear hf nK
 go_enter Tryz.func181,Tryz.ntmps181
 go_wp2_with (go_at_call 276;refine((FX _).out).mono ?_;rintro e w' ⟨rfl,rfl⟩)
 go_loopg [8,9,10] K (fun k b v i wr=>∃j:Nat,k=K - j/\j<=K/\i=.int .i64 j/\v=.int .u64 (n / 2 ^ (8 * j))/\Hid (OwnB w.heap.size wr b (iZ j n))/\Below w.heap.size w wr)
 case atStart=>exact⟨0,rfl,ae,rfl,ag,aB (dN.nil_ _ _ _ _),aH _ _⟩
 case round=>
  obtain⟨j,hq,hj,rfl,rfl,HO,hb⟩:=hrel;have HQ:=aB hq;have hz:=hb.size;clear hq
  by_cases hlt:j<K
  ·have hji:(j:Int)<(K:Int):=ae
   obtain⟨m,hm⟩:∃m,n / 2 ^ (8 * j)=m:=⟨_,rfl⟩;have hm0:0<=m:=by rw[<-hm];exact Int.ediv_nonneg n0 (Int.le_of_lt (Int.pow_pos ae))
   have hmn:m<=n:=by rw[<-hm];exact Int.ediv_le_self _ n0
   have HM:Hid (n / 2 ^ (8 * (j+1))=m / 256):=aB (by
    rw[<-hm,Int.ediv_ediv_of_nonneg (Int.le_of_lt (Int.pow_pos ae))]
    congr 1
    rw[Nat.mul_add,Int.pow_add];rfl)
   have HC:Hid (iZ (j+1) n=[m % 256]++iZ j n):=aB (by rw[Me,hm];rfl)
   have EB:Hid (IntKind.u8.wrap (m % 256)=m % 256):=aB (by rw[show IntKind.u8.wrap (m % 256)=m % 256 % 256 from rfl];omega)
   have hl:=gK j n;rw[hm];obtain⟨A8,k8,WM,_,_,_⟩:=(dN.rd HO.out).form;obtain⟨n8,ZL⟩:∃z,(iZ j n).length=z:=⟨_,rfl⟩;rw[ZL] at WM;subst WM;have hlen:[m % 256].length+(iZ j n).length<=1099511627776:=ah
   have HR:Hid (gz bE (wr.alloc (.cells #[.int .u8 (m % 256)] 5)) (.slice A8 n8 k8) (iZ j n)):=aB ((dR.1 HO.out).alloc _).rd;have HW:Hid (dI bE wr.heap.size (wr.alloc (.cells #[.int .u8 (m % 256)] 5)) (.slice (some ⟨wr.heap.size,0,none⟩) 1 1) [m % 256]):=aB (dI.one (E:=bE) wr (m % 256) _ rfl _ rfl);have eb:=EB.out;clear hm ZL
   go_wp2_with (at_builtin;refine pY wC rfl (.tmp 29) (.tmp 30) rfl HW.out rfl _ (iZ j n) rfl HR.out hlen aj ?_;intro v2 w2 o2 g2 _;have O2:=aB (dR.2 (o2.more hz));have hb2:Below w.heap.size w w2:=(hb.alloc hz _).grown g2 (by simp only[aO];omega) (fun k hk=>by have:=(dI.lt HW.out k hk).1;omega);clear o2 g2)
   go_roundg (K - (j+1))
   case measure=>have:=HQ.out;omega
   case rel=>exact⟨j+1,rfl,ae,ai,by rw[HM.out],by rw[HC.out];exact O2,hb2⟩
  ·obtain rfl:j=K:=ae
   rw[NK.out]
   go_wp2_with fail
   go_ret2
   exact⟨_,rfl,HO.out,hb⟩
open Go.RowKit Go.Lib Go.Shelf
theorem wO(c n:Int)(out:List Int)(w:World)(h:Calls Tryz.prog 181 #[.int .u8 c,.int .u64 n] w fun e w'=>∃v,e=.returned (.tuple #[v,.bool true])/\OwnB w.heap.size w' v out/\Below w.heap.size w w') :
 Calls Tryz.prog 183 #[.int .u8 c,.int .u64 n] w fun e w'=>∃v,e=.returned v/\OwnB w.heap.size w' v out/\Below w.heap.size w w':=by
 have C:=aB h;clear h
 go_enter Tryz.func183,Tryz.ntmps183
 go_wp2_with fail;refine(C.out).mono ?_
 rintro e w1 ⟨v1,rfl,o1,hb1⟩
 go_wp2_with fail
 go_ret;exact⟨v1,rfl,o1,hb1⟩
theorem yg(x n:Int)(w:World)(hn:n=ub x)(h0:-9223372036854775808<=x)(h1:x<=9223372036854775807):Calls Tryz.prog 183 #[.int .u8 110,.int .u64 n] w fun e w'=>∃v,e=.returned v/\OwnB w.heap.size w' v (nn x)/\Below w.heap.size w w':=by
 subst hn;exact wO 110 _ _ w (Vp x w h0 h1)
theorem yh(n:Int)(w:World)(h0:0<=n)(h1:n<4294967296):Calls Tryz.prog 183 #[.int .u8 87,.int .u64 n] w fun e w'=>∃v,e=.returned v/\OwnB w.heap.size w' v (iZ 4 n)/\Below w.heap.size w w':=
 wO 87 _ _ w (Hm 4 87 n w Qg ae  ae h0 ae (by show n / 4294967296=0;omega))
theorem Et(n:Int)(w:World)(h0:0<=n)(h1:n<18446744073709551616):Calls Tryz.prog 183 #[.int .u8 81,.int .u64 n] w fun e w'=>∃v,e=.returned v/\OwnB w.heap.size w' v (iZ 8 n)/\Below w.heap.size w w':=
 wO 81 _ _ w (Hm 8 81 n w Qh ae  ae h0 ae (by show n / 18446744073709551616=0;omega))
theorem qJ{base:Nat}{w w1 w2:World}{v v2:Value}{bs out:List Int}(hb0:base<=w.heap.size)(hb1:Below w.heap.size w w1)(hO:OwnB base w v bs)(o2:dI bE base w2 v2 (bs++out))(g2:w1.grownBy w2 v.ownBlock):OwnB base w2 v2 (bs++out)/\Below base w w2:=
 ⟨dR.2 o2,(hb1.mono hb0).grown g2 (by have:=hb1.size;omega) (fun k hk=>(dN.lt hO k hk).1)⟩
theorem MC{lo hi dg u m bk:Nat}{gr:Bool}{l:List Pr}(v:Value)(w:World)(h:gz fU w v l)(ok:jo lo hi dg u m gr bk l):Calls Tryz.prog 182 #[v] w fun e w'=>∃v',e=.returned v'/\OwnB w.heap.size w' v' (rU l)/\Below w.heap.size w w':=by
 obtain⟨A,c,rfl,_,_,hf⟩:=h.form;have HF:=aB hf;have PB:=aB ok.pb;have hlen:=ok.len;have KB:=aB ok.kb;clear h hf ok
 go_enter Tryz.func182,Tryz.ntmps182
 go_wp2_with fail
 go_loopg [3,4,5] l.length (fun q b s i wr=>∃j:Nat,q=l.length - j/\j<=l.length/\i=.int .i64 j/\s=.int .i64 (uU 0 (l.take j))/\Hid (OwnB w.heap.size wr b (uT (Fg 0 (l.take j))))/\Below w.heap.size w wr)
 case atStart=>exact⟨0,rfl,ae,rfl,rfl,aB (dN.nil_ _ _ _ _),aH _ _⟩
 case round=>
  obtain⟨j,hq,hj,rfl,rfl,HO,hb⟩:=hrel;have HQ:=aB hq;have hz:=hb.size;clear hq
  by_cases hlt:j<l.length
  ·obtain⟨gp,off,rfl,Yb,c0,c1⟩:=kY HF.out hlt
   have hgr:gp<wr.heap.size:=ae
   have CC:=aB (aN ((hb.cell (p:=⟨gp,off+j * 2,none⟩) Yb).trans c0) ((hb.cell (p:=⟨gp,off+j * 2+1,none⟩) Yb).trans c1));have hji:(j:Int)<(l.length:Int):=ae
   have hbd:=PB.out _ (bu hlt);have hed:=Rq (l:=l.take j) (fun p hp=>KB.out p (List.mem_of_mem_take hp)) 0 ae  ae
   have hnl:=xP (Fg 0 (l.take j));have hnm:=AX (l.take j) 0;have htl:(l.take j).length<=16777217:=by rw[bg];omega
   have Bf:Hid (uT (Fg 0 (l.take (j+1)))=uT (Fg 0 (l.take j))++uT (qy (l[j].1 - uU 0 (l.take j)))++nn l[j].2/\uU 0 (l.take (j+1))=l[j].1+1):=aB (by
    rw[aT hlt,DW,zf,ru,ru,aS];refine⟨?_,rfl⟩
    congr 2
    simp[uT])
   clear c0 c1;generalize l[j].1=x at *;generalize l[j].2=n at *;generalize uU 0 (l.take j)=at_ at *;generalize uT (Fg 0 (l.take j))=BS at *;have EX:Hid (IntKind.i64.wrap (x - at_)=x - at_/\IntKind.i64.wrap (x+1)=x+1):=aB ⟨by rw[aX];omega,ak⟩
   have CN:Hid (∀w1:World,_):=aB (fun w1=>yg n n w1 (by unfold ub;omega) ae  ae)
   have hn9:=DF n;obtain⟨A8,k8,WM,_,_,_⟩:=(dN.rd HO.out).form;obtain⟨n8,ZL⟩:∃z,BS.length=z:=⟨_,rfl⟩;have hl8:BS.length<=1000000000:=ae
   rw[ZL] at WM;subst WM;clear ZL
   by_cases g1:x - at_=1
   ·have hg1:(x - at_ == 1)=true:=by simpa using g1
    have hg2:¬1<x - at_:=ae
    have HG:Hid (uT (qy (x - at_))=nn 0):=aB (by rw[g1];decide +kernel)
    have C0:Hid (∀w1:World,_):=aB (fun w1=>yg 0 0 w1 rfl ae  ae)
    have h09:=DF 0;rw[HG.out] at Bf;clear g1 HG;have cc:=CC.out;obtain⟨c0,c1⟩:=cc;obtain⟨e1,e2⟩:=EX.out
    go_wp2_with fail;refine(C0.out wr).mono ?_
    rintro e w1 ⟨v1,rfl,o1,hb1⟩;have O1:=aB o1;clear o1 c0 c1;generalize nn 0=Z at *
    go_wp2_with (at_builtin;refine pY wC rfl (.tmp 22) (.tmp 23) rfl ((dR.1 HO.out).keep hb1) rfl _ Z rfl (dR.1 O1.out).rd ae (by have:=hb1.size;omega) ?_;intro v2 w2 o2 g2 _;have P2:=aB (qJ hz hb1 HO.out o2 g2);have c1:=(P2.out.2.cell (p:=⟨gp,off+j * 2+1,none⟩) (by show gp<_;omega)).trans CC.out.2;obtain⟨A2,k2,hv2,_,_,_⟩:=o2.form;obtain⟨n2,hn2⟩:∃z,(BS++Z).length=z:=⟨_,rfl⟩;rw[hn2] at hv2;subst hv2;clear o2 g2)
    have hz2:=P2.out.2.size;refine(CN.out w2).mono ?_
    rintro e w3 ⟨v3,rfl,o3,hb3⟩;have O3:=aB o3;clear o3 c1;have c0:=(hb3.cell (p:=⟨gp,off+j * 2,none⟩) (by show gp<_;omega)).trans ((P2.out.2.cell (p:=⟨gp,off+j * 2,none⟩) (by show gp<_;omega)).trans CC.out.1)
    generalize nn n=Y at *;have hl2:(BS++Z).length<=2000000000:=by rw[aI];omega
    clear hn2
    go_wp2_with (at_builtin;refine pY wC rfl (.tmp 34) (.tmp 40) rfl ((dR.1 P2.out.1).keep hb3) rfl _ Y rfl (dR.1 O3.out).rd ae (by have:=hb3.size;omega) ?_;intro v4 w4 o4 g4 _;have P4:=aB (qJ ae hb3 P2.out.1 o4 g4);have c0:=(P4.out.2.cell (p:=⟨gp,off+j * 2,none⟩) (by show gp<_;omega)).trans ((P2.out.2.cell (p:=⟨gp,off+j * 2,none⟩) (by show gp<_;omega)).trans CC.out.1);clear o4 g4)
    go_roundg (l.length - (j+1))
    case measure=>have:=HQ.out;omega
    case rel=>exact⟨j+1,rfl,ae,ai,by rw[Bf.out.2],by rw[Bf.out.1];exact aB P4.out.1,(hb.trans P2.out.2).trans P4.out.2⟩
   ·have hg1:(x - at_ == 1)=false:=by simpa using g1
    by_cases g2:1<x - at_
    ·have HG:Hid (uT (qy (x - at_))=nn (-(x - at_))):=aB (by unfold qy;rw[if_neg g1,if_pos g2];simp[uT])
     have EU:Hid (IntKind.i64.wrap (x - at_ - 1)=x - at_ - 1/\IntKind.u64.wrap (x - at_ - 1)=x - at_ - 1/\IntKind.u64.wrap (18446744073709551615 - (x - at_ - 1))=18446744073709551615 - (x - at_ - 1)):=aB ⟨by rw[aX];omega,by rw[eH];omega,by rw[eH];omega⟩
     have C0:Hid (∀w1:World,_):=aB (fun w1=>yg (-(x - at_)) (18446744073709551615 - (x - at_ - 1)) w1 (by unfold ub;omega) ae  ae)
     have h09:=DF (-(x - at_));rw[HG.out] at Bf;clear g1 HG;have cc:=CC.out;obtain⟨c0,c1⟩:=cc;obtain⟨e1,e2⟩:=EX.out;obtain⟨e3,e4,e5⟩:=EU.out
     go_wp2_with fail;refine(C0.out wr).mono ?_
     rintro e w1 ⟨v1,rfl,o1,hb1⟩;have O1:=aB o1;clear o1 c0 c1 e3 e4 e5;generalize nn (-(x - at_))=Z at *
     go_wp2_with (at_builtin;refine pY wC rfl (.tmp 27) (.tmp 32) rfl ((dR.1 HO.out).keep hb1) rfl _ Z rfl (dR.1 O1.out).rd ae (by have:=hb1.size;omega) ?_;intro v2 w2 o2 g2 _;have P2:=aB (qJ hz hb1 HO.out o2 g2);have c1:=(P2.out.2.cell (p:=⟨gp,off+j * 2+1,none⟩) (by show gp<_;omega)).trans CC.out.2;obtain⟨A2,k2,hv2,_,_,_⟩:=o2.form;obtain⟨n2,hn2⟩:∃z,(BS++Z).length=z:=⟨_,rfl⟩;rw[hn2] at hv2;subst hv2;clear o2 g2)
     have hz2:=P2.out.2.size;refine(CN.out w2).mono ?_
     rintro e w3 ⟨v3,rfl,o3,hb3⟩;have O3:=aB o3;clear o3 c1;have c0:=(hb3.cell (p:=⟨gp,off+j * 2,none⟩) (by show gp<_;omega)).trans ((P2.out.2.cell (p:=⟨gp,off+j * 2,none⟩) (by show gp<_;omega)).trans CC.out.1)
     generalize nn n=Y at *;have hl2:(BS++Z).length<=2000000000:=by rw[aI];omega
     clear hn2
     go_wp2_with (at_builtin;refine pY wC rfl (.tmp 34) (.tmp 40) rfl ((dR.1 P2.out.1).keep hb3) rfl _ Y rfl (dR.1 O3.out).rd ae (by have:=hb3.size;omega) ?_;intro v4 w4 o4 g4 _;have P4:=aB (qJ ae hb3 P2.out.1 o4 g4);have c0:=(P4.out.2.cell (p:=⟨gp,off+j * 2,none⟩) (by show gp<_;omega)).trans ((P2.out.2.cell (p:=⟨gp,off+j * 2,none⟩) (by show gp<_;omega)).trans CC.out.1);clear o4 g4)
     go_roundg (l.length - (j+1))
     case measure=>have:=HQ.out;omega
     case rel=>exact⟨j+1,rfl,ae,ai,by rw[Bf.out.2],by rw[Bf.out.1];exact aB P4.out.1,(hb.trans P2.out.2).trans P4.out.2⟩
    ·have HG:Hid (uT (qy (x - at_))=[]):=aB (by unfold qy;rw[if_neg g1,if_neg g2];rfl)
     rw[HG.out,List.append_nil] at Bf;clear g1 HG;have cc:=CC.out;obtain⟨c0,c1⟩:=cc;obtain⟨e1,e2⟩:=EX.out
     go_wp2_with fail;refine(CN.out wr).mono ?_
     rintro e w3 ⟨v3,rfl,o3,hb3⟩;have O3:=aB o3;clear o3;have c0:=(hb3.cell (p:=⟨gp,off+j * 2,none⟩) hgr).trans CC.out.1;generalize nn n=Y at *
     go_wp2_with (at_builtin;refine pY wC rfl (.tmp 34) (.tmp 40) rfl ((dR.1 HO.out).keep hb3) rfl _ Y rfl (dR.1 O3.out).rd ae (by have:=hb3.size;omega) ?_;intro v4 w4 o4 g4 _;have P4:=aB (qJ hz hb3 HO.out o4 g4);have c0:=(P4.out.2.cell (p:=⟨gp,off+j * 2,none⟩) (by show gp<_;omega)).trans CC.out.1;clear o4 g4)
     go_roundg (l.length - (j+1))
     case measure=>have:=HQ.out;omega
     case rel=>exact⟨j+1,rfl,ae,ai,by rw[Bf.out.2],by rw[Bf.out.1];exact aB P4.out.1,hb.trans P4.out.2⟩
  ·obtain rfl:j=l.length:=ae
   have HO9:=HO;rw[bH (aK _)] at HO9;clear HO
   by_cases hl0:l.length=0
   ·have e:l=[]:=aW hl0
    subst e;have C0:=aB (yg 0 0 wr rfl ae  ae)
    go_wp2_with fail;refine(C0.out).mono ?_
    rintro e w4 ⟨v4,rfl,o4,hb4⟩
    go_wp2_with fail
    go_ret;exact⟨_,rfl,by rw[show rU []=nn 0 by decide +kernel];exact dN.lift o4 (fun k hk=>by have:=(dN.lt o4 k hk).1;omega),hb.trans (hb4.mono hz)⟩
   ·have hl1:((l.length:Int) == 0)=false:=by simpa using hl0
    go_wp2_with fail
    go_ret;have hne:l≠[]:=fun e=>hl0 (by rw[e];rfl)
    exact⟨_,rfl,by unfold rU nmA;rw[if_neg hne];exact HO9.out,hb⟩
end Go.Proofs.YtkiebccnpheloaaGreat.D
