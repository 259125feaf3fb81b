/- Parts of a proof: what its theorem reaches, words cut short. No condition of its own. -/
import Derived.Test.YtingnldfpokckaaGreatPm23
set_option maxRecDepth 100000
set_option maxHeartbeats 16000000
set_option linter.unusedVariables false
set_option linter.unusedSimpArgs false
namespace Go.Proofs.YtingnldfpokckaaGreat.D
open Go.RowKit Go.Lib Go.Shelf
section
variable {x y : Nat} {p1 p2 p3 p4 q1 q2 q3 q4 c : Value} {w : World} {n : Int} {Q : Value -> World -> Prop}
theorem jtake3_any(hy:Blk w y 66 #[.int .u8 3,p1,p2,p3,p4])(hx:Blk w x 66 #[.int .u8 3,q1,q2,q3,q4])
 (h:∀w1,Below w.heap.size w w1->Calls Tryz.prog 28 #[p3] w1 fun e w'=>e=.returned (.int .i64 n)/\w1=w')
 (h':∀w1,Below w.heap.size w w1->Calls Tryz.prog 28 #[q3] w1 fun e w'=>e=.returned (.int .i64 n)/\w1=w')
 (ht:∀w1,Below w.heap.size w w1->Calls Tryz.prog 32 #[p3,q3] w1 fun e w'=>∃v,e=.returned v/\Q v w') :
 Calls Tryz.prog 9 #[.pointer (some ⟨y,0,none⟩),.pointer (some ⟨x,0,none⟩),c] w fun e w'=>∃v,e=.returned v/\Q v w':=by
 have C1:Hid (∀w1,Below w.heap.size w w1->_):=Lib.hid (fun w1 hb=>jspec3_any (hx.keep hb) (fun w2 hb2=>h' w2 (hb.trans (hb2.mono hb.size))))
 have C2:Hid (∀w1,Below w.heap.size w w1->_):=Lib.hid (fun w1 hb=>jspec3_any (hy.keep hb) (fun w2 hb2=>h w2 (hb.trans (hb2.mono hb.size))))
 have C3:=Lib.hid ht
 have HY:=Lib.hid hy
 have HX:=Lib.hid hx
 clear h h' ht hy hx
 unfold specV at C1 C2
 go_enter Tryz.func9,Tryz.ntmps9
 go_wp2_with fail
 refine(C1.out w (Below.refl _ _)).mono ?_
 rintro e w1 ⟨rfl,hb1⟩
 go_wp2_with fail
 refine(C2.out w1 hb1).mono ?_
 rintro e w2 ⟨rfl,hb2⟩
 have hb:=hb1.trans (hb2.mono hb1.size)
 have f0:=(HY.out.keep hb).cell 0
 have f3:=(HY.out.keep hb).cell 3
 have g3:=(HX.out.keep hb).cell 3
 simp only[List.getElem?_toArray,List.getElem?_cons_zero,List.getElem?_cons_succ] at f0 f3 g3
 have FF:=Lib.hid (And.intro f3 g3)
 have Bd:Below w2.heap.size w2 w2.drew:=(Below.refl _ _).drew
 have l2:=(HY.out.keep hb).lt
 have m2:=(HX.out.keep hb).lt
 have hbd:Below w.heap.size w w2.drew:=hb.drew
 go_upto_region 11 with fail
 clear f3 g3
 refine wp_region_planT (fun w'=>w'=w2.drew) 8 [(0,true),(1,true),(2,true),(3,true),(4,true),(5,true),(6,true),(7,true)] (by kernel_rfl) (by kernel_rfl) (rfl) ?_
 iterate 8
  refine wpPlanT_read (by rfl) (by rfl) (fun R hR=>?_)
  apply Exists.intro
  refine⟨fun w' hS'=>?_,?_⟩
  ·have f3:w2.drew.cell? ⟨y,3,none⟩=some p3:=FF.out.1
   have g3:w2.drew.cell? ⟨x,3,none⟩=some q3:=FF.out.2
   subst hS'
   go_simp
   exact⟨rfl,rfl⟩
  go_simp
  refine hR _ ?_
  clear hR R
 refine wpPlanT_nil ?_
 simp only[List.drop_succ_cons,List.drop_zero]
 go_wp2_with fail
 refine(C3.out w2.drew hbd).mono ?_
 rintro e w3 ⟨v,rfl,hq⟩
 have HQ:=Lib.hid hq
 clear hq
 go_wp2_with fail
 try refine calm_normal ?_
 go_wp2_with fail
 go_ret
 exact⟨_,rfl,HQ.out⟩
end
open Go.RowKit Go.Lib Go.Shelf
section
variable {x y : Nat} {p1 p2 p3 p4 q1 q2 q3 q4 c : Value} {w : World} {n : Int} {Q : Value -> World -> Prop}
theorem jtake4_any(hy:Blk w y 66 #[.int .u8 4,p1,p2,p3,p4])(hx:Blk w x 66 #[.int .u8 4,q1,q2,q3,q4])
 (h:∀w1,Below w.heap.size w w1->Calls Tryz.prog 29 #[p4] w1 fun e w'=>e=.returned (.int .i64 n)/\w1=w')
 (h':∀w1,Below w.heap.size w w1->Calls Tryz.prog 29 #[q4] w1 fun e w'=>e=.returned (.int .i64 n)/\w1=w')
 (ht:∀w1,Below w.heap.size w w1->Calls Tryz.prog 33 #[p4,q4,c] w1 fun e w'=>∃v,e=.returned v/\Q v w') :
 Calls Tryz.prog 9 #[.pointer (some ⟨y,0,none⟩),.pointer (some ⟨x,0,none⟩),c] w fun e w'=>∃v,e=.returned v/\Q v w':=by
 have C1:Hid (∀w1,Below w.heap.size w w1->_):=Lib.hid (fun w1 hb=>jspec4_any (hx.keep hb) (fun w2 hb2=>h' w2 (hb.trans (hb2.mono hb.size))))
 have C2:Hid (∀w1,Below w.heap.size w w1->_):=Lib.hid (fun w1 hb=>jspec4_any (hy.keep hb) (fun w2 hb2=>h w2 (hb.trans (hb2.mono hb.size))))
 have C3:=Lib.hid ht
 have HY:=Lib.hid hy
 have HX:=Lib.hid hx
 clear h h' ht hy hx
 unfold specV at C1 C2
 go_enter Tryz.func9,Tryz.ntmps9
 go_wp2_with fail
 refine(C1.out w (Below.refl _ _)).mono ?_
 rintro e w1 ⟨rfl,hb1⟩
 go_wp2_with fail
 refine(C2.out w1 hb1).mono ?_
 rintro e w2 ⟨rfl,hb2⟩
 have hb:=hb1.trans (hb2.mono hb1.size)
 have f0:=(HY.out.keep hb).cell 0
 have f3:=(HY.out.keep hb).cell 4
 have g3:=(HX.out.keep hb).cell 4
 simp only[List.getElem?_toArray,List.getElem?_cons_zero,List.getElem?_cons_succ] at f0 f3 g3
 have FF:=Lib.hid (And.intro f3 g3)
 have Bd:Below w2.heap.size w2 w2.drew:=(Below.refl _ _).drew
 have l2:=(HY.out.keep hb).lt
 have m2:=(HX.out.keep hb).lt
 have hbd:Below w.heap.size w w2.drew:=hb.drew
 go_upto_region 12 with fail
 clear f3 g3
 refine wp_region_planT (fun w'=>w'=w2.drew) 9 [(0,true),(1,true),(2,true),(3,true),(4,true),(5,true),(6,true),(7,true),(8,true)] (by kernel_rfl) (by kernel_rfl) (rfl) ?_
 iterate 9
  refine wpPlanT_read (by rfl) (by rfl) (fun R hR=>?_)
  apply Exists.intro
  refine⟨fun w' hS'=>?_,?_⟩
  ·have f3:w2.drew.cell? ⟨y,4,none⟩=some p4:=FF.out.1
   have g3:w2.drew.cell? ⟨x,4,none⟩=some q4:=FF.out.2
   subst hS'
   go_simp
   exact⟨rfl,rfl⟩
  go_simp
  refine hR _ ?_
  clear hR R
 refine wpPlanT_nil ?_
 simp only[List.drop_succ_cons,List.drop_zero]
 go_wp2_with fail
 refine(C3.out w2.drew hbd).mono ?_
 rintro e w3 ⟨v,rfl,hq⟩
 have HQ:=Lib.hid hq
 clear hq
 go_wp2_with fail
 try refine calm_normal ?_
 go_wp2_with fail
 go_ret
 exact⟨_,rfl,HQ.out⟩
end
open Go.RowKit Go.Lib Go.Shelf
section
variable {x y : Nat} {p1 p2 p3 p4 q1 q2 q3 q4 c : Value} {w : World} {a n lo hi dg : Int} {gr : Bool} {Q : Value -> World -> Prop}
theorem jtake1_any(hy:Blk w y 66 #[.int .u8 1,p1,p2,p3,p4])(hx:Blk w x 66 #[.int .u8 1,q1,q2,q3,q4])
 (h:∀w1,Below w.heap.size w w1->Calls Tryz.prog 24 #[p1] w1 fun e w'=>e=.returned (.agg #[.int .i64 lo,.int .i64 hi,.int .i64 dg])/\Below w1.heap.size w1 w')
 (h2:∀w1,Below w.heap.size w w1->Calls Tryz.prog 25 #[p1] w1 fun e w'=>e=.returned (.bool gr)/\w1=w')
 (h':∀w1,Below w.heap.size w w1->Calls Tryz.prog 24 #[q1] w1 fun e w'=>e=.returned (.agg #[.int .i64 lo,.int .i64 hi,.int .i64 dg])/\Below w1.heap.size w1 w')
 (hq2:∀w1,Below w.heap.size w w1->Calls Tryz.prog 25 #[q1] w1 fun e w'=>e=.returned (.bool gr)/\w1=w')
 (ht:∀w1,Below w.heap.size w w1->Calls Tryz.prog 30 #[p1,q1] w1 fun e w'=>∃v,e=.returned v/\Q v w') :
 Calls Tryz.prog 9 #[.pointer (some ⟨y,0,none⟩),.pointer (some ⟨x,0,none⟩),c] w fun e w'=>∃v,e=.returned v/\Q v w':=by
 have C1:Hid (∀w1,Below w.heap.size w w1->_):=Lib.hid (fun w1 hb=>jspec1_any (hx.keep hb) (fun w2 hb2=>h' w2 (hb.trans (hb2.mono hb.size))) (fun w2 hb2=>hq2 w2 (hb.trans (hb2.mono hb.size))))
 have C2:Hid (∀w1,Below w.heap.size w w1->_):=Lib.hid (fun w1 hb=>jspec1_any (hy.keep hb) (fun w2 hb2=>h w2 (hb.trans (hb2.mono hb.size))) (fun w2 hb2=>h2 w2 (hb.trans (hb2.mono hb.size))))
 have C3:=Lib.hid ht
 have HY:=Lib.hid hy
 have HX:=Lib.hid hx
 clear h h2 h' hq2 ht hy hx
 unfold specV at C1 C2
 go_enter Tryz.func9,Tryz.ntmps9
 go_wp2_with fail
 refine(C1.out w (Below.refl _ _)).mono ?_
 rintro e w1 ⟨rfl,hb1⟩
 go_wp2_with fail
 refine(C2.out w1 hb1).mono ?_
 rintro e w2 ⟨rfl,hb2⟩
 have hb:=hb1.trans (hb2.mono hb1.size)
 have f0:=(HY.out.keep hb).cell 0
 have f3:=(HY.out.keep hb).cell 1
 have g3:=(HX.out.keep hb).cell 1
 simp only[List.getElem?_toArray,List.getElem?_cons_zero,List.getElem?_cons_succ] at f0 f3 g3
 have FF:=Lib.hid (And.intro f3 g3)
 have Bd:Below w2.heap.size w2 w2.drew:=(Below.refl _ _).drew
 have l2:=(HY.out.keep hb).lt
 have m2:=(HX.out.keep hb).lt
 have hbd:Below w.heap.size w w2.drew:=hb.drew
 go_upto_region 7 with fail
 clear f3 g3
 refine wp_region_planT (fun w'=>w'=w2.drew) 8 [(0,true),(1,true),(2,true),(3,true),(4,true),(5,true),(6,true),(7,true)] (by kernel_rfl) (by kernel_rfl) (rfl) ?_
 iterate 8
  refine wpPlanT_read (by rfl) (by rfl) (fun R hR=>?_)
  apply Exists.intro
  refine⟨fun w' hS'=>?_,?_⟩
  ·have f3:w2.drew.cell? ⟨y,1,none⟩=some p1:=FF.out.1
   have g3:w2.drew.cell? ⟨x,1,none⟩=some q1:=FF.out.2
   subst hS'
   go_simp
   exact⟨rfl,rfl⟩
  go_simp
  refine hR _ ?_
  clear hR R
 refine wpPlanT_nil ?_
 simp only[List.drop_succ_cons,List.drop_zero]
 go_wp2_with fail
 refine(C3.out w2.drew hbd).mono ?_
 rintro e w3 ⟨v,rfl,hq⟩
 have HQ:=Lib.hid hq
 clear hq
 go_wp2_with fail
 try refine calm_normal ?_
 go_wp2_with fail
 go_ret
 exact⟨_,rfl,HQ.out⟩
theorem jtake2_any(hy:Blk w y 66 #[.int .u8 2,p1,p2,p3,p4])(hx:Blk w x 66 #[.int .u8 2,q1,q2,q3,q4])
 (h:∀w1,Below w.heap.size w w1->Calls Tryz.prog 26 #[p2] w1 fun e w'=>e=.returned (.int .i64 a)/\w1=w')
 (h2:∀w1,Below w.heap.size w w1->Calls Tryz.prog 27 #[p2] w1 fun e w'=>e=.returned (.int .i64 n)/\w1=w')
 (h':∀w1,Below w.heap.size w w1->Calls Tryz.prog 26 #[q2] w1 fun e w'=>e=.returned (.int .i64 a)/\w1=w')
 (hq2:∀w1,Below w.heap.size w w1->Calls Tryz.prog 27 #[q2] w1 fun e w'=>e=.returned (.int .i64 n)/\w1=w')
 (ht:∀w1,Below w.heap.size w w1->Calls Tryz.prog 31 #[p2,q2] w1 fun e w'=>∃v,e=.returned v/\Q v w') :
 Calls Tryz.prog 9 #[.pointer (some ⟨y,0,none⟩),.pointer (some ⟨x,0,none⟩),c] w fun e w'=>∃v,e=.returned v/\Q v w':=by
 have C1:Hid (∀w1,Below w.heap.size w w1->_):=Lib.hid (fun w1 hb=>jspec2_any (hx.keep hb) (fun w2 hb2=>h' w2 (hb.trans (hb2.mono hb.size))) (fun w2 hb2=>hq2 w2 (hb.trans (hb2.mono hb.size))))
 have C2:Hid (∀w1,Below w.heap.size w w1->_):=Lib.hid (fun w1 hb=>jspec2_any (hy.keep hb) (fun w2 hb2=>h w2 (hb.trans (hb2.mono hb.size))) (fun w2 hb2=>h2 w2 (hb.trans (hb2.mono hb.size))))
 have C3:=Lib.hid ht
 have HY:=Lib.hid hy
 have HX:=Lib.hid hx
 clear h h2 h' hq2 ht hy hx
 unfold specV at C1 C2
 go_enter Tryz.func9,Tryz.ntmps9
 go_wp2_with fail
 refine(C1.out w (Below.refl _ _)).mono ?_
 rintro e w1 ⟨rfl,hb1⟩
 go_wp2_with fail
 refine(C2.out w1 hb1).mono ?_
 rintro e w2 ⟨rfl,hb2⟩
 have hb:=hb1.trans (hb2.mono hb1.size)
 have f0:=(HY.out.keep hb).cell 0
 have f3:=(HY.out.keep hb).cell 2
 have g3:=(HX.out.keep hb).cell 2
 simp only[List.getElem?_toArray,List.getElem?_cons_zero,List.getElem?_cons_succ] at f0 f3 g3
 have FF:=Lib.hid (And.intro f3 g3)
 have Bd:Below w2.heap.size w2 w2.drew:=(Below.refl _ _).drew
 have l2:=(HY.out.keep hb).lt
 have m2:=(HX.out.keep hb).lt
 have hbd:Below w.heap.size w w2.drew:=hb.drew
 go_upto_region 9 with fail
 clear f3 g3
 refine wp_region_planT (fun w'=>w'=w2.drew) 8 [(0,true),(1,true),(2,true),(3,true),(4,true),(5,true),(6,true),(7,true)] (by kernel_rfl) (by kernel_rfl) (rfl) ?_
 iterate 8
  refine wpPlanT_read (by rfl) (by rfl) (fun R hR=>?_)
  apply Exists.intro
  refine⟨fun w' hS'=>?_,?_⟩
  ·have f3:w2.drew.cell? ⟨y,2,none⟩=some p2:=FF.out.1
   have g3:w2.drew.cell? ⟨x,2,none⟩=some q2:=FF.out.2
   subst hS'
   go_simp
   exact⟨rfl,rfl⟩
  go_simp
  refine hR _ ?_
  clear hR R
 refine wpPlanT_nil ?_
 simp only[List.drop_succ_cons,List.drop_zero]
 go_wp2_with fail
 refine(C3.out w2.drew hbd).mono ?_
 rintro e w3 ⟨v,rfl,hq⟩
 have HQ:=Lib.hid hq
 clear hq
 go_wp2_with fail
 try refine calm_normal ?_
 go_wp2_with fail
 go_ret
 exact⟨_,rfl,HQ.out⟩
end
open Go.RowKit Go.Lib Go.Shelf
def mkV:Value:=.agg #[.func (.func 58) #[] #[],.func (.func 59) #[] #[],.func (.func 60) #[] #[],.func (.func 61) #[] #[],
 .func (.func 62) #[] #[],.func (.func 63) #[] #[],.func (.func 64) #[] #[],.func (.func 65) #[] #[]]
theorem makers_any(w:World):Calls Tryz.prog 22 #[] w fun e w'=>e=.returned mkV/\Below w.heap.size w w':=by
 unfold mkV
 go_enter Tryz.func22,Tryz.ntmps22
 go_wp2_with fail
 refine bodyPost_ret (by simp[results,Tryz.results22,go_sem, *];try rfl) rfl ?_
 exact⟨rfl,by(repeat' (first|(with_reducible exact Below.refl _ _)|(with_reducible refine Below.alloc ?_ ?_ _)|(with_reducible refine Below.drew ?_)|(with_reducible refine below_drewN ?_ _)|(with_reducible refine Below.setCell ?_ ?_ _)|(with_reducible refine below_of (by assumption) ?_ ?_)|go_size))⟩
section
variable {R : Nat -> World -> Prop} {lo hi dg ac sz : Int} {gr : Bool}
theorem jmake_any{kd:Int}{mf:Nat}(hkm:(kd=1/\mf=58)\/(kd=2/\mf=60)\/(kd=3/\mf=62)\/(kd=4/\mf=64))(w:World)(hm:∀y w1,Below w.heap.size w w1->w.heap.size<=y->Blk w1 y 66 #[.int .u8 kd,.pointer none,.pointer none,.pointer none,.pointer none]->Calls Tryz.prog mf #[.pointer (some ⟨y,0,none⟩),specV kd lo hi dg gr ac sz] w1 fun e w'=>e=.returned (.int .i64 0)/\R y w'/\Touch (fun j=>j=y) w1 w')
 (hs:∀y w1,R y w1->Calls Tryz.prog 8 #[.pointer (some ⟨y,0,none⟩)] w1 fun e w'=>e=.returned (specV kd lo hi dg gr ac sz)/\Below w1.heap.size w1 w')
 (hk:∀y w1 w',R y w1->Below w1.heap.size w1 w'->R y w') :
 Calls Tryz.prog 6 #[specV kd lo hi dg gr ac sz] w fun e w'=>∃y,e=.returned (.tuple #[.pointer (some ⟨y,0,none⟩),.int .i64 0])/\R y w'/\Below w.heap.size w w':=by
 obtain⟨cs,hcs⟩:∃q:Array Value,q=#[.int .u8 kd,.int .i64 lo,.int .i64 hi,.int .i64 dg,.bool gr,.int .i64 ac,.int .i64 sz]:=⟨_,rfl⟩
 obtain⟨fv,hfv⟩:∃q:Array Value,q=#[.int .u8 kd,.pointer none,.pointer none,.pointer none,.pointer none]:=⟨_,rfl⟩
 have CK0:=fun W=>isKind_any kd W (by omega) (by omega)
 rcases hkm with⟨rfl,rfl⟩|⟨rfl,rfl⟩|⟨rfl,rfl⟩|⟨rfl,rfl⟩
 all_goals
  have HM:=Lib.hid hm
  have HS:=Lib.hid hs
  have HK:=Lib.hid hk
  clear hm hs hk
  unfold specV at *
  obtain⟨b,hbb⟩:∃b,w.heap.size=b:=⟨_,rfl⟩
  obtain⟨wa,hwa⟩:∃z,w.alloc (.cells cs 25)=z:=⟨_,rfl⟩
  have ha:Below w.heap.size w wa:=by rw[<-hwa];(repeat' (first|(with_reducible exact Below.refl _ _)|(with_reducible refine Below.alloc ?_ ?_ _)|(with_reducible refine Below.drew ?_)|(with_reducible refine below_drewN ?_ _)|(with_reducible refine Below.setCell ?_ ?_ _)|(with_reducible refine below_of (by assumption) ?_ ?_)|go_size))
  have B0:Hid (Blk wa b 25 cs):=by rw[<-hwa,<-hbb];exact Lib.hid (Blk.new _ _ _)
  subst hcs
  have hz:wa.heap.size=b+1:=by rw[<-hwa,<-hbb,World.size_alloc]
  have s0:=B0.out.cell 0
  simp only[List.getElem?_toArray,List.getElem?_cons_zero,List.getElem?_cons_succ] at s0
  have CK:=Lib.hid (CK0 wa)
  have HBB:=Lib.hid hbb
  go_enter Tryz.func6,Tryz.ntmps6
  go_upto_region 1 with fail
  have HZ:=Lib.hid hz
  clear hwa hbb hz
  go_wp2_with fail
  refine(CK.out).mono ?_
  rintro e w' ⟨rfl,rfl⟩
  obtain⟨wb,hwb⟩:∃z,wa.alloc (.cells fv 66)=z:=⟨_,rfl⟩
  have hab:Below wa.heap.size wa wb:=by rw[<-hwb];(repeat' (first|(with_reducible exact Below.refl _ _)|(with_reducible refine Below.alloc ?_ ?_ _)|(with_reducible refine Below.drew ?_)|(with_reducible refine below_drewN ?_ _)|(with_reducible refine Below.setCell ?_ ?_ _)|(with_reducible refine below_of (by assumption) ?_ ?_)|go_size))
  have hb:Below w.heap.size w wb:=ha.trans (hab.mono ha.size)
  have Y0:Hid (Blk wb (b+1) 66 fv):=by rw[<-hwb,<-HZ.out];exact Lib.hid (Blk.new _ _ _)
  subst hfv
  have B1:=Lib.hid (B0.out.keep hab)
  go_upto_region 4 with fail
  try rw[hwb]
  try rw[HZ.out]
  clear hwb s0 hab B0
  have B0:=B1
  have s0:=B0.out.cell 0
  have s1:=B0.out.cell 1
  have s2:=B0.out.cell 2
  have s3:=B0.out.cell 3
  have s4:=B0.out.cell 4
  have s5:=B0.out.cell 5
  have s6:=B0.out.cell 6
  simp only[List.getElem?_toArray,List.getElem?_cons_zero,List.getElem?_cons_succ] at s0 s1 s2 s3 s4 s5 s6
  have FS0:=Lib.hid s0
  have FS1:=Lib.hid s1
  have FS2:=Lib.hid s2
  have FS3:=Lib.hid s3
  have FS4:=Lib.hid s4
  have FS5:=Lib.hid s5
  have FS6:=Lib.hid s6
  clear s0 s1 s2 s3 s4 s5 s6
  have lb:b<wb.heap.size:=B0.out.lt
  have nb:¬(b=b+1):=by omega
  have hby:w.heap.size<=b+1:=by have:=HBB.out;omega
  have T0:Touch (fun j=>j=b+1) wb wb.drew:=(Touch.refl _ wb).drew
  have Bd:Below wb.heap.size wb wb.drew:=(Below.refl _ _).drew
  have FBq:=Lib.hid (fun w' (hS':(Touch (fun j=>j=b+1) wb) w')=>(And.intro (((tcell hS' 0 lb nb).trans FS0.out)) (And.intro (((tcell hS' 1 lb nb).trans FS1.out)) (And.intro (((tcell hS' 2 lb nb).trans FS2.out)) (And.intro (((tcell hS' 3 lb nb).trans FS3.out)) (And.intro (((tcell hS' 4 lb nb).trans FS4.out)) (And.intro (((tcell hS' 5 lb nb).trans FS5.out)) (((tcell hS' 6 lb nb).trans FS6.out)))))))))
  refine wp_region_plan (Touch (fun j=>j=b+1) wb) [(1,true),(2,true),(3,true),(6,true),(7,true),(0,false),(4,true),(5,true),(8,false),(9,true)] (by kernel_rfl) (by kernel_rfl) (T0) ?_
  iterate 5
   refine wpPlan_read (by rfl) (by rfl) (fun R hR=>?_)
   apply Exists.intro
   refine⟨fun w' hS'=>?_,?_⟩
   ·obtain⟨s0,s1,s2,s3,s4,s5,s6⟩:=FBq.out w' hS'
    go_simp
    exact⟨rfl,rfl⟩
   go_simp
   refine hR _ ?_
   clear hR R
  refine wpPlan_do (by rfl) (by rfl) (fun K hK=>?_)
  go_simp
  refine(makers_any wb.drew).mono ?_
  rintro e ws ⟨rfl,hbs⟩
  have Bs:Below wb.heap.size wb ws:=Bd.trans hbs
  have Ts:Touch (fun j=>j=b+1) wb ws:=Touch.of_below Bs (Nat.le_refl _)
  have hb1:Below w.heap.size w ws:=hb.trans (Bs.mono hb.size)
  have C8:=Lib.hid (HM.out (b+1) ws hb1 hby (Y0.out.keep Bs))
  unfold mkV
  refine hK _ _ (Ts) ?_
  clear hK K
  iterate 2
   refine wpPlan_read (by rfl) (by rfl) (fun R hR=>?_)
   apply Exists.intro
   refine⟨fun w' hS'=>?_,?_⟩
   ·obtain⟨s0,s1,s2,s3,s4,s5,s6⟩:=FBq.out w' hS'
    go_simp
    exact⟨rfl,rfl⟩
   go_simp
   refine hR _ ?_
   clear hR R
  refine wpPlan_do (by rfl) (by rfl) (fun K hK=>?_)
  go_simp
  refine(C8.out).mono ?_
  rintro e wt ⟨rfl,hr,ht⟩
  have Tt:Touch (fun j=>j=b+1) wb wt:=Ts.trans ht (fun _ h=>.inl h)
  have HR:=Lib.hid hr
  have TT:=Lib.hid (hb.trans (Tt.below (fun j hj=>by rw[show j=b+1 from hj];exact hby) hb.size))
  refine hK _ _ (Tt) ?_
  clear hK K
  iterate 1
   refine wpPlan_read (by rfl) (by rfl) (fun R hR=>?_)
   apply Exists.intro
   refine⟨fun w' hS'=>?_,?_⟩
   ·obtain⟨s0,s1,s2,s3,s4,s5,s6⟩:=FBq.out w' hS'
    go_simp
    exact⟨rfl,rfl⟩
   go_simp
   refine hR _ ?_
   clear hR R
  refine wpPlan_nil ?_
  have Td:Touch (fun j=>j=b+1) wb wt.drew:=Tt.drew
  have bd:Below wt.heap.size wt wt.drew:=(Below.refl _ _).drew
  have CS:=Lib.hid (HS.out (b+1) wt.drew (HK.out _ _ _ HR.out bd))
  have zt:=TT.out.size
  clear C8
  go_upto_region 5 with fail
  have FBq:=Lib.hid (fun w' (hS':(Touch (fun j=>j=b+1) wb) w')=>(And.intro (((tcell hS' 0 lb nb).trans FS0.out)) (And.intro (((tcell hS' 1 lb nb).trans FS1.out)) (And.intro (((tcell hS' 2 lb nb).trans FS2.out)) (And.intro (((tcell hS' 3 lb nb).trans FS3.out)) (And.intro (((tcell hS' 4 lb nb).trans FS4.out)) (And.intro (((tcell hS' 5 lb nb).trans FS5.out)) (((tcell hS' 6 lb nb).trans FS6.out)))))))))
  refine wp_region_plan (Touch (fun j=>j=b+1) wb) [(0,true),(1,true),(2,true),(3,true),(5,true),(4,false),(6,true),(7,true)] (by kernel_rfl) (by kernel_rfl) (Td) ?_
  iterate 5
   refine wpPlan_read (by rfl) (by rfl) (fun R hR=>?_)
   apply Exists.intro
   refine⟨fun w' hS'=>?_,?_⟩
   ·obtain⟨s0,s1,s2,s3,s4,s5,s6⟩:=FBq.out w' hS'
    go_simp
    exact⟨rfl,rfl⟩
   go_simp
   refine hR _ ?_
   clear hR R
  refine wpPlan_do (by rfl) (by rfl) (fun K hK=>?_)
  go_simp
  refine(CS.out).mono ?_
  rintro e wu ⟨rfl,hbu⟩
  have Tu:Touch (fun j=>j=b+1) wb wu:=tbl Td hbu
  have BU:=Lib.hid (TT.out.trans ((bd.trans hbu).mono zt))
  have RU:=Lib.hid (HK.out _ _ _ HR.out (bd.trans hbu))
  refine hK _ _ (Tu) ?_
  clear hK K
  iterate 2
   refine wpPlan_read (by rfl) (by rfl) (fun R hR=>?_)
   apply Exists.intro
   refine⟨fun w' hS'=>?_,?_⟩
   ·obtain⟨s0,s1,s2,s3,s4,s5,s6⟩:=FBq.out w' hS'
    go_simp
    exact⟨rfl,rfl⟩
   go_simp
   refine hR _ ?_
   clear hR R
  refine wpPlan_nil ?_
  go_wp2_with fail
  refine bodyPost_ret (by simp[results,Tryz.results6,go_sem, *];try rfl) rfl ?_
  exact⟨_,rfl,RU.out,BU.out⟩
end
open Go.RowKit Go.Lib Go.Shelf
section
variable {lo hi dg ac sz : Int} {gr : Bool}
theorem jmake_er{kd:Int}{mf:Nat}(hkm:(kd=1/\mf=58)\/(kd=2/\mf=60)\/(kd=3/\mf=62)\/(kd=4/\mf=64))(w:World)(hm:∀y w1,Below w.heap.size w w1->w.heap.size<=y->Blk w1 y 66 #[.int .u8 kd,.pointer none,.pointer none,.pointer none,.pointer none]->Calls Tryz.prog mf #[.pointer (some ⟨y,0,none⟩),specV kd lo hi dg gr ac sz] w1 fun e w'=>e=.returned (.int .i64 1)/\Touch (fun j=>j=y) w1 w') :
 Calls Tryz.prog 6 #[specV kd lo hi dg gr ac sz] w fun e w'=>e=.returned (.tuple #[.pointer none,.int .i64 1])/\Below w.heap.size w w':=by
 obtain⟨cs,hcs⟩:∃q:Array Value,q=#[.int .u8 kd,.int .i64 lo,.int .i64 hi,.int .i64 dg,.bool gr,.int .i64 ac,.int .i64 sz]:=⟨_,rfl⟩
 obtain⟨fv,hfv⟩:∃q:Array Value,q=#[.int .u8 kd,.pointer none,.pointer none,.pointer none,.pointer none]:=⟨_,rfl⟩
 have CK0:=fun W=>isKind_any kd W (by omega) (by omega)
 rcases hkm with⟨rfl,rfl⟩|⟨rfl,rfl⟩|⟨rfl,rfl⟩|⟨rfl,rfl⟩
 all_goals
  have HM:=Lib.hid hm
  have CK1:=Lib.hid CK0
  clear hm CK0
  unfold specV at *
  obtain⟨b,hbb⟩:∃b,w.heap.size=b:=⟨_,rfl⟩
  obtain⟨wa,hwa⟩:∃z,w.alloc (.cells cs 25)=z:=⟨_,rfl⟩
  have ha:Below w.heap.size w wa:=by rw[<-hwa];(repeat' (first|(with_reducible exact Below.refl _ _)|(with_reducible refine Below.alloc ?_ ?_ _)|(with_reducible refine Below.drew ?_)|(with_reducible refine below_drewN ?_ _)|(with_reducible refine Below.setCell ?_ ?_ _)|(with_reducible refine below_of (by assumption) ?_ ?_)|go_size))
  have B0:Hid (Blk wa b 25 cs):=by rw[<-hwa,<-hbb];exact Lib.hid (Blk.new _ _ _)
  subst hcs
  have hz:wa.heap.size=b+1:=by rw[<-hwa,<-hbb,World.size_alloc]
  have s0:=B0.out.cell 0
  simp only[List.getElem?_toArray,List.getElem?_cons_zero,List.getElem?_cons_succ] at s0
  have CK:=Lib.hid (CK1.out wa)
  have HBB:=Lib.hid hbb
  go_enter Tryz.func6,Tryz.ntmps6
  go_upto_region 1 with fail
  have HZ:=Lib.hid hz
  clear hwa hbb hz
  go_wp2_with fail
  refine(CK.out).mono ?_
  rintro e w' ⟨rfl,rfl⟩
  obtain⟨wb,hwb⟩:∃z,wa.alloc (.cells fv 66)=z:=⟨_,rfl⟩
  have hab:Below wa.heap.size wa wb:=by rw[<-hwb];(repeat' (first|(with_reducible exact Below.refl _ _)|(with_reducible refine Below.alloc ?_ ?_ _)|(with_reducible refine Below.drew ?_)|(with_reducible refine below_drewN ?_ _)|(with_reducible refine Below.setCell ?_ ?_ _)|(with_reducible refine below_of (by assumption) ?_ ?_)|go_size))
  have hb:Below w.heap.size w wb:=ha.trans (hab.mono ha.size)
  have Y0:Hid (Blk wb (b+1) 66 fv):=by rw[<-hwb,<-HZ.out];exact Lib.hid (Blk.new _ _ _)
  subst hfv
  have B1:=Lib.hid (B0.out.keep hab)
  go_upto_region 4 with fail
  try rw[hwb]
  try rw[HZ.out]
  clear hwb s0 hab B0
  have B0:=B1
  have s0:=B0.out.cell 0
  have s1:=B0.out.cell 1
  have s2:=B0.out.cell 2
  have s3:=B0.out.cell 3
  have s4:=B0.out.cell 4
  have s5:=B0.out.cell 5
  have s6:=B0.out.cell 6
  simp only[List.getElem?_toArray,List.getElem?_cons_zero,List.getElem?_cons_succ] at s0 s1 s2 s3 s4 s5 s6
  have FS0:=Lib.hid s0
  have FS1:=Lib.hid s1
  have FS2:=Lib.hid s2
  have FS3:=Lib.hid s3
  have FS4:=Lib.hid s4
  have FS5:=Lib.hid s5
  have FS6:=Lib.hid s6
  clear s0 s1 s2 s3 s4 s5 s6
  have lb:b<wb.heap.size:=B0.out.lt
  have nb:¬(b=b+1):=by omega
  have hby:w.heap.size<=b+1:=by have:=HBB.out;omega
  have T0:Touch (fun j=>j=b+1) wb wb.drew:=(Touch.refl _ wb).drew
  have Bd:Below wb.heap.size wb wb.drew:=(Below.refl _ _).drew
  have FBq:=Lib.hid (fun w' (hS':(Touch (fun j=>j=b+1) wb) w')=>(And.intro (((tcell hS' 0 lb nb).trans FS0.out)) (And.intro (((tcell hS' 1 lb nb).trans FS1.out)) (And.intro (((tcell hS' 2 lb nb).trans FS2.out)) (And.intro (((tcell hS' 3 lb nb).trans FS3.out)) (And.intro (((tcell hS' 4 lb nb).trans FS4.out)) (And.intro (((tcell hS' 5 lb nb).trans FS5.out)) (((tcell hS' 6 lb nb).trans FS6.out)))))))))
  refine wp_region_plan (Touch (fun j=>j=b+1) wb) [(1,true),(2,true),(3,true),(6,true),(7,true),(0,false),(4,true),(5,true),(8,false),(9,true)] (by kernel_rfl) (by kernel_rfl) (T0) ?_
  iterate 5
   refine wpPlan_read (by rfl) (by rfl) (fun R hR=>?_)
   apply Exists.intro
   refine⟨fun w' hS'=>?_,?_⟩
   ·obtain⟨s0,s1,s2,s3,s4,s5,s6⟩:=FBq.out w' hS'
    go_simp
    exact⟨rfl,rfl⟩
   go_simp
   refine hR _ ?_
   clear hR R
  refine wpPlan_do (by rfl) (by rfl) (fun K hK=>?_)
  go_simp
  refine(makers_any wb.drew).mono ?_
  rintro e ws ⟨rfl,hbs⟩
  have Bs:Below wb.heap.size wb ws:=Bd.trans hbs
  have Ts:Touch (fun j=>j=b+1) wb ws:=Touch.of_below Bs (Nat.le_refl _)
  have hb1:Below w.heap.size w ws:=hb.trans (Bs.mono hb.size)
  have C8:=Lib.hid (HM.out (b+1) ws hb1 hby (Y0.out.keep Bs))
  unfold mkV
  refine hK _ _ (Ts) ?_
  clear hK K
  iterate 2
   refine wpPlan_read (by rfl) (by rfl) (fun R hR=>?_)
   apply Exists.intro
   refine⟨fun w' hS'=>?_,?_⟩
   ·obtain⟨s0,s1,s2,s3,s4,s5,s6⟩:=FBq.out w' hS'
    go_simp
    exact⟨rfl,rfl⟩
   go_simp
   refine hR _ ?_
   clear hR R
  refine wpPlan_do (by rfl) (by rfl) (fun K hK=>?_)
  go_simp
  refine(C8.out).mono ?_
  rintro e wt ⟨rfl,ht⟩
  have Tt:Touch (fun j=>j=b+1) wb wt:=Ts.trans ht (fun _ h=>.inl h)
  have TT:=Lib.hid (hb.trans (Tt.below (fun j hj=>by rw[show j=b+1 from hj];exact hby) hb.size))
  refine hK _ _ (Tt) ?_
  clear hK K
  iterate 1
   refine wpPlan_read (by rfl) (by rfl) (fun R hR=>?_)
   apply Exists.intro
   refine⟨fun w' hS'=>?_,?_⟩
   ·obtain⟨s0,s1,s2,s3,s4,s5,s6⟩:=FBq.out w' hS'
    go_simp
    exact⟨rfl,rfl⟩
   go_simp
   refine hR _ ?_
   clear hR R
  refine wpPlan_nil ?_
  have Td:Touch (fun j=>j=b+1) wb wt.drew:=Tt.drew
  have bd:Below wt.heap.size wt wt.drew:=(Below.refl _ _).drew
  clear C8
  go_upto_region 5 with fail
  refine wp_region_plan (Touch (fun j=>j=b+1) wb) [(0,true),(1,true),(2,true),(3,true),(4,true),(5,true),(6,true),(7,true)] (by kernel_rfl) (by kernel_rfl) (Td) ?_
  iterate 3
   refine wpPlan_read (by rfl) (by rfl) (fun R hR=>?_)
   apply Exists.intro
   refine⟨fun w' hS'=>?_,?_⟩
   ·go_simp
    exact⟨rfl,rfl⟩
   go_simp
   refine hR _ ?_
   clear hR R
  refine wpPlan_skip (by rfl) (by rfl) ?_
  try go_simp
  refine wpPlan_skip (by rfl) (by rfl) ?_
  try go_simp
  refine wpPlan_skip (by rfl) (by rfl) ?_
  try go_simp
  refine wpPlan_skip (by rfl) (by rfl) ?_
  try go_simp
  iterate 1
   refine wpPlan_read (by rfl) (by rfl) (fun R hR=>?_)
   apply Exists.intro
   refine⟨fun w' hS'=>?_,?_⟩
   ·go_simp
    exact⟨rfl,rfl⟩
   go_simp
   refine hR _ ?_
   clear hR R
  refine wpPlan_nil ?_
  go_wp2_with fail
  refine bodyPost_ret (by simp[results,Tryz.results6,go_sem, *];try rfl) rfl ?_
  exact⟨rfl,TT.out.drew⟩
end
end Go.Proofs.YtingnldfpokckaaGreat.D
