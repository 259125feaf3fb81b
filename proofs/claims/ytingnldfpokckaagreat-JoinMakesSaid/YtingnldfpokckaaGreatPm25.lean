/- Parts of a proof: what its theorem reaches, words cut short. No condition of its own. -/
import Derived.Test.YtingnldfpokckaaGreatPm24
import Derived.Maps.RangeWalk
import Derived.Maps.OwnSet
import Derived.Maps.OwnOps
set_option maxRecDepth 100000
set_option maxHeartbeats 16000000
set_option linter.unusedVariables false
set_option linter.unusedSimpArgs false
namespace Go.Proofs.YtingnldfpokckaaGreat.D
open Go.RowKit Go.Lib Go.Shelf
section
variable {y : Nat} {k0 p1 p2 p3 p4 : Value} {w : World} {kd lo hi dg ac sz : Int} {gr : Bool}
theorem makeHdr_er(hy:Blk w y 66 #[k0,p1,p2,p3,p4])(h:∀wa,Below w.heap.size w wa->Calls Tryz.prog 127 #[.agg #[.int .i64 lo,.int .i64 hi,.int .i64 dg],.bool gr] wa fun e w'=>e=.returned (.tuple #[.pointer none,.int .i64 1])/\Below wa.heap.size wa w') :
 Calls Tryz.prog 58 #[.pointer (some ⟨y,0,none⟩),specV kd lo hi dg gr ac sz] w fun e w'=>e=.returned (.int .i64 1)/\Touch (fun j=>j=y) w w':=by
 have C:=Lib.hid h
 have HY:=Lib.hid hy
 clear h hy
 unfold specV
 obtain⟨b,hbb⟩:∃b,w.heap.size=b:=⟨_,rfl⟩
 obtain⟨wa,hwa⟩:∃z,w.alloc (.cells #[.int .u8 kd,.int .i64 lo,.int .i64 hi,.int .i64 dg,.bool gr,.int .i64 ac,.int .i64 sz] 25)=z:=⟨_,rfl⟩
 have ha:Below w.heap.size w wa:=by rw[<-hwa];(repeat' (first|(with_reducible exact Below.refl _ _)|(with_reducible refine Below.alloc ?_ ?_ _)|(with_reducible refine Below.drew ?_)|(with_reducible refine below_drewN ?_ _)|(with_reducible refine Below.setCell ?_ ?_ _)|(with_reducible refine below_of (by assumption) ?_ ?_)|go_size))
 have B0:Blk wa b 25 #[.int .u8 kd,.int .i64 lo,.int .i64 hi,.int .i64 dg,.bool gr,.int .i64 ac,.int .i64 sz]:=by rw[<-hwa,<-hbb];exact Blk.new _ _ _
 have j1:=B0.cell 1
 have j2:=B0.cell 2
 have j3:=B0.cell 3
 have j4:=B0.cell 4
 simp only[List.getElem?_toArray,List.getElem?_cons_zero,List.getElem?_cons_succ] at j1 j2 j3 j4
 clear B0
 have HA:=Lib.hid ha
 clear ha
 go_enter Tryz.func58,Tryz.ntmps58
 go_wp2_with fail
 refine(C.out wa HA.out).mono ?_
 rintro e w1 ⟨rfl,hb⟩
 have L:=Lib.hid ((HY.out.keep HA.out).keep hb)
 have f1:=L.out.cell 1
 have f2:=L.out.frozen 1
 simp only[List.getElem?_toArray,List.getElem?_cons_zero,List.getElem?_cons_succ] at f1
 have M:=Lib.hid (HA.out.trans (hb.mono HA.out.size))
 go_wp2_with fail
 go_ret
 exact⟨rfl,(Touch.of_below (F:=fun k=>k=y) M.out (Nat.le_refl _)).setCell (p:=⟨y,1,none⟩) (.inl rfl) _⟩
theorem makeDd_er(hy:Blk w y 66 #[k0,p1,p2,p3,p4])(h:∀wa,Below w.heap.size w wa->Calls Tryz.prog 132 #[.int .i64 ac,.int .i64 sz] wa fun e w'=>e=.returned (.tuple #[.pointer none,.int .i64 1])/\Below wa.heap.size wa w') :
 Calls Tryz.prog 60 #[.pointer (some ⟨y,0,none⟩),specV kd lo hi dg gr ac sz] w fun e w'=>e=.returned (.int .i64 1)/\Touch (fun j=>j=y) w w':=by
 have C:=Lib.hid h
 have HY:=Lib.hid hy
 clear h hy
 unfold specV
 obtain⟨b,hbb⟩:∃b,w.heap.size=b:=⟨_,rfl⟩
 obtain⟨wa,hwa⟩:∃z,w.alloc (.cells #[.int .u8 kd,.int .i64 lo,.int .i64 hi,.int .i64 dg,.bool gr,.int .i64 ac,.int .i64 sz] 25)=z:=⟨_,rfl⟩
 have ha:Below w.heap.size w wa:=by rw[<-hwa];(repeat' (first|(with_reducible exact Below.refl _ _)|(with_reducible refine Below.alloc ?_ ?_ _)|(with_reducible refine Below.drew ?_)|(with_reducible refine below_drewN ?_ _)|(with_reducible refine Below.setCell ?_ ?_ _)|(with_reducible refine below_of (by assumption) ?_ ?_)|go_size))
 have B0:Blk wa b 25 #[.int .u8 kd,.int .i64 lo,.int .i64 hi,.int .i64 dg,.bool gr,.int .i64 ac,.int .i64 sz]:=by rw[<-hwa,<-hbb];exact Blk.new _ _ _
 have j5:=B0.cell 5
 have j6:=B0.cell 6
 simp only[List.getElem?_toArray,List.getElem?_cons_zero,List.getElem?_cons_succ] at j5 j6
 clear B0
 have HA:=Lib.hid ha
 clear ha
 go_enter Tryz.func60,Tryz.ntmps60
 go_wp2_with fail
 refine(C.out wa HA.out).mono ?_
 rintro e w1 ⟨rfl,hb⟩
 have L:=Lib.hid ((HY.out.keep HA.out).keep hb)
 have f1:=L.out.cell 2
 have f2:=L.out.frozen 2
 simp only[List.getElem?_toArray,List.getElem?_cons_zero,List.getElem?_cons_succ] at f1
 have M:=Lib.hid (HA.out.trans (hb.mono HA.out.size))
 go_wp2_with fail
 go_ret
 exact⟨rfl,(Touch.of_below (F:=fun k=>k=y) M.out (Nat.le_refl _)).setCell (p:=⟨y,2,none⟩) (.inl rfl) _⟩
theorem makeDigest_er(hy:Blk w y 66 #[k0,p1,p2,p3,p4])(h:∀wa,Below w.heap.size w wa->Calls Tryz.prog 134 #[.int .i64 sz] wa fun e w'=>e=.returned (.tuple #[.pointer none,.int .i64 1])/\Below wa.heap.size wa w') :
 Calls Tryz.prog 62 #[.pointer (some ⟨y,0,none⟩),specV kd lo hi dg gr ac sz] w fun e w'=>e=.returned (.int .i64 1)/\Touch (fun j=>j=y) w w':=by
 have C:=Lib.hid h
 have HY:=Lib.hid hy
 clear h hy
 unfold specV
 obtain⟨b,hbb⟩:∃b,w.heap.size=b:=⟨_,rfl⟩
 obtain⟨wa,hwa⟩:∃z,w.alloc (.cells #[.int .u8 kd,.int .i64 lo,.int .i64 hi,.int .i64 dg,.bool gr,.int .i64 ac,.int .i64 sz] 25)=z:=⟨_,rfl⟩
 have ha:Below w.heap.size w wa:=by rw[<-hwa];(repeat' (first|(with_reducible exact Below.refl _ _)|(with_reducible refine Below.alloc ?_ ?_ _)|(with_reducible refine Below.drew ?_)|(with_reducible refine below_drewN ?_ _)|(with_reducible refine Below.setCell ?_ ?_ _)|(with_reducible refine below_of (by assumption) ?_ ?_)|go_size))
 have B0:Blk wa b 25 #[.int .u8 kd,.int .i64 lo,.int .i64 hi,.int .i64 dg,.bool gr,.int .i64 ac,.int .i64 sz]:=by rw[<-hwa,<-hbb];exact Blk.new _ _ _
 have j6:=B0.cell 6
 simp only[List.getElem?_toArray,List.getElem?_cons_zero,List.getElem?_cons_succ] at j6
 clear B0
 have HA:=Lib.hid ha
 clear ha
 go_enter Tryz.func62,Tryz.ntmps62
 go_wp2_with fail
 refine(C.out wa HA.out).mono ?_
 rintro e w1 ⟨rfl,hb⟩
 have L:=Lib.hid ((HY.out.keep HA.out).keep hb)
 have f1:=L.out.cell 3
 have f2:=L.out.frozen 3
 simp only[List.getElem?_toArray,List.getElem?_cons_zero,List.getElem?_cons_succ] at f1
 have M:=Lib.hid (HA.out.trans (hb.mono HA.out.size))
 go_wp2_with fail
 go_ret
 exact⟨rfl,(Touch.of_below (F:=fun k=>k=y) M.out (Nat.le_refl _)).setCell (p:=⟨y,3,none⟩) (.inl rfl) _⟩
theorem makeKll_er(hy:Blk w y 66 #[k0,p1,p2,p3,p4])(h:∀wa,Below w.heap.size w wa->Calls Tryz.prog 136 #[.int .i64 sz] wa fun e w'=>e=.returned (.tuple #[.pointer none,.int .i64 1])/\Below wa.heap.size wa w') :
 Calls Tryz.prog 64 #[.pointer (some ⟨y,0,none⟩),specV kd lo hi dg gr ac sz] w fun e w'=>e=.returned (.int .i64 1)/\Touch (fun j=>j=y) w w':=by
 have C:=Lib.hid h
 have HY:=Lib.hid hy
 clear h hy
 unfold specV
 obtain⟨b,hbb⟩:∃b,w.heap.size=b:=⟨_,rfl⟩
 obtain⟨wa,hwa⟩:∃z,w.alloc (.cells #[.int .u8 kd,.int .i64 lo,.int .i64 hi,.int .i64 dg,.bool gr,.int .i64 ac,.int .i64 sz] 25)=z:=⟨_,rfl⟩
 have ha:Below w.heap.size w wa:=by rw[<-hwa];(repeat' (first|(with_reducible exact Below.refl _ _)|(with_reducible refine Below.alloc ?_ ?_ _)|(with_reducible refine Below.drew ?_)|(with_reducible refine below_drewN ?_ _)|(with_reducible refine Below.setCell ?_ ?_ _)|(with_reducible refine below_of (by assumption) ?_ ?_)|go_size))
 have B0:Blk wa b 25 #[.int .u8 kd,.int .i64 lo,.int .i64 hi,.int .i64 dg,.bool gr,.int .i64 ac,.int .i64 sz]:=by rw[<-hwa,<-hbb];exact Blk.new _ _ _
 have j6:=B0.cell 6
 simp only[List.getElem?_toArray,List.getElem?_cons_zero,List.getElem?_cons_succ] at j6
 clear B0
 have HA:=Lib.hid ha
 clear ha
 go_enter Tryz.func64,Tryz.ntmps64
 go_wp2_with fail
 refine(C.out wa HA.out).mono ?_
 rintro e w1 ⟨rfl,hb⟩
 have L:=Lib.hid ((HY.out.keep HA.out).keep hb)
 have f1:=L.out.cell 4
 have f2:=L.out.frozen 4
 simp only[List.getElem?_toArray,List.getElem?_cons_zero,List.getElem?_cons_succ] at f1
 have M:=Lib.hid (HA.out.trans (hb.mono HA.out.size))
 go_wp2_with fail
 go_ret
 exact⟨rfl,(Touch.of_below (F:=fun k=>k=y) M.out (Nat.le_refl _)).setCell (p:=⟨y,4,none⟩) (.inl rfl) _⟩
end
open Go.RowKit Go.Lib Go.Shelf
section
variable {R : Nat -> World -> Prop} {lo hi dg ac sz lo2 hi2 dg2 ac2 sz2 : Int} {gr gr2 : Bool}
theorem jmake_ne{kd:Int}{mf:Nat}(hkm:(kd=1/\mf=58)\/(kd=2/\mf=60)\/(kd=3/\mf=62)\/(kd=4/\mf=64))(w:World)(hm:∀y w1,Below w.heap.size w w1->w.heap.size<=y->Blk w1 y 66 #[.int .u8 kd,.pointer none,.pointer none,.pointer none,.pointer none]->Calls Tryz.prog mf #[.pointer (some ⟨y,0,none⟩),specV kd lo hi dg gr ac sz] w1 fun e w'=>e=.returned (.int .i64 0)/\R y w'/\Touch (fun j=>j=y) w1 w')
 (hs:∀y w1,R y w1->Calls Tryz.prog 8 #[.pointer (some ⟨y,0,none⟩)] w1 fun e w'=>e=.returned (specV kd lo2 hi2 dg2 gr2 ac2 sz2)/\Below w1.heap.size w1 w')
 (hk:∀y w1 w',R y w1->Below w1.heap.size w1 w'->R y w')
 (hne:¬(lo2=lo/\hi2=hi/\dg2=dg/\gr2=gr/\ac2=ac/\sz2=sz)) :
 Calls Tryz.prog 6 #[specV kd lo hi dg gr ac sz] w fun e w'=>e=.returned (.tuple #[.pointer none,.int .i64 1])/\Below w.heap.size w w':=by
 obtain⟨cs,hcs⟩:∃q:Array Value,q=#[.int .u8 kd,.int .i64 lo,.int .i64 hi,.int .i64 dg,.bool gr,.int .i64 ac,.int .i64 sz]:=⟨_,rfl⟩
 obtain⟨fv,hfv⟩:∃q:Array Value,q=#[.int .u8 kd,.pointer none,.pointer none,.pointer none,.pointer none]:=⟨_,rfl⟩
 have CK0:=fun W=>isKind_any kd W (by omega) (by omega)
 rcases hkm with⟨rfl,rfl⟩|⟨rfl,rfl⟩|⟨rfl,rfl⟩|⟨rfl,rfl⟩
 all_goals
  have HM:=Lib.hid hm
  have HS:=Lib.hid hs
  have HK:=Lib.hid hk
  have HNE:Hid (∀W:World,((if lo2=lo then if hi2=hi then if dg2=dg then if gr2=gr then if ac2=ac then if sz2=sz then Result.ok (Next.value (Value.bool false)) W else Result.ok (Next.value (Value.bool true)) W else Result.ok (Next.value (Value.bool true)) W else Result.ok (Next.value (Value.bool true)) W else Result.ok (Next.value (Value.bool true)) W else Result.ok (Next.value (Value.bool true)) W else Result.ok (Next.value (Value.bool true)) W):Result Next)=Result.ok (Next.value (Value.bool true)) W):=Lib.hid (by
   intro W
   repeat' split
   all_goals first|rfl|exact absurd ⟨‹_›,‹_›,‹_›,‹_›,‹_›,‹_›⟩ hne)
  have CK1:=Lib.hid CK0
  clear hm hs hk hne CK0
  unfold specV at *
  obtain⟨b,hbb⟩:∃b,w.heap.size=b:=⟨_,rfl⟩
  obtain⟨wa,hwa⟩:∃z,w.alloc (.cells cs 25)=z:=⟨_,rfl⟩
  have ha:Below w.heap.size w wa:=by rw[<-hwa];(repeat' (first|(with_reducible exact Below.refl _ _)|(with_reducible refine Below.alloc ?_ ?_ _)|(with_reducible refine Below.drew ?_)|(with_reducible refine below_drewN ?_ _)|(with_reducible refine Below.setCell ?_ ?_ _)|(with_reducible refine below_of (by assumption) ?_ ?_)|go_size))
  have B0:Hid (Blk wa b 25 cs):=by rw[<-hwa,<-hbb];exact Lib.hid (Blk.new _ _ _)
  subst hcs
  have hz:wa.heap.size=b+1:=by rw[<-hwa,<-hbb,World.size_alloc]
  have s0:=B0.out.cell 0
  simp only[List.getElem?_toArray,List.getElem?_cons_zero,List.getElem?_cons_succ] at s0
  have CK:=Lib.hid (CK1.out wa)
  have HBB:=Lib.hid hbb
  go_enter Tryz.func6,Tryz.ntmps6
  go_upto_region 1 with fail
  have HZ:=Lib.hid hz
  clear hwa hbb hz
  go_wp2_with fail
  refine(CK.out).mono ?_
  rintro e w' ⟨rfl,rfl⟩
  obtain⟨wb,hwb⟩:∃z,wa.alloc (.cells fv 66)=z:=⟨_,rfl⟩
  have hab:Below wa.heap.size wa wb:=by rw[<-hwb];(repeat' (first|(with_reducible exact Below.refl _ _)|(with_reducible refine Below.alloc ?_ ?_ _)|(with_reducible refine Below.drew ?_)|(with_reducible refine below_drewN ?_ _)|(with_reducible refine Below.setCell ?_ ?_ _)|(with_reducible refine below_of (by assumption) ?_ ?_)|go_size))
  have hb:Below w.heap.size w wb:=ha.trans (hab.mono ha.size)
  have Y0:Hid (Blk wb (b+1) 66 fv):=by rw[<-hwb,<-HZ.out];exact Lib.hid (Blk.new _ _ _)
  subst hfv
  have B1:=Lib.hid (B0.out.keep hab)
  go_upto_region 4 with fail
  try rw[hwb]
  try rw[HZ.out]
  clear hwb s0 hab B0
  have B0:=B1
  have s0:=B0.out.cell 0
  have s1:=B0.out.cell 1
  have s2:=B0.out.cell 2
  have s3:=B0.out.cell 3
  have s4:=B0.out.cell 4
  have s5:=B0.out.cell 5
  have s6:=B0.out.cell 6
  simp only[List.getElem?_toArray,List.getElem?_cons_zero,List.getElem?_cons_succ] at s0 s1 s2 s3 s4 s5 s6
  have FS0:=Lib.hid s0
  have FS1:=Lib.hid s1
  have FS2:=Lib.hid s2
  have FS3:=Lib.hid s3
  have FS4:=Lib.hid s4
  have FS5:=Lib.hid s5
  have FS6:=Lib.hid s6
  clear s0 s1 s2 s3 s4 s5 s6
  have lb:b<wb.heap.size:=B0.out.lt
  have nb:¬(b=b+1):=by omega
  have hby:w.heap.size<=b+1:=by have:=HBB.out;omega
  have T0:Touch (fun j=>j=b+1) wb wb.drew:=(Touch.refl _ wb).drew
  have Bd:Below wb.heap.size wb wb.drew:=(Below.refl _ _).drew
  have FBq:=Lib.hid (fun w' (hS':(Touch (fun j=>j=b+1) wb) w')=>(And.intro (((tcell hS' 0 lb nb).trans FS0.out)) (And.intro (((tcell hS' 1 lb nb).trans FS1.out)) (And.intro (((tcell hS' 2 lb nb).trans FS2.out)) (And.intro (((tcell hS' 3 lb nb).trans FS3.out)) (And.intro (((tcell hS' 4 lb nb).trans FS4.out)) (And.intro (((tcell hS' 5 lb nb).trans FS5.out)) (((tcell hS' 6 lb nb).trans FS6.out)))))))))
  refine wp_region_plan (Touch (fun j=>j=b+1) wb) [(1,true),(2,true),(3,true),(6,true),(7,true),(0,false),(4,true),(5,true),(8,false),(9,true)] (by kernel_rfl) (by kernel_rfl) (T0) ?_
  iterate 5
   refine wpPlan_read (by rfl) (by rfl) (fun R hR=>?_)
   apply Exists.intro
   refine⟨fun w' hS'=>?_,?_⟩
   ·obtain⟨s0,s1,s2,s3,s4,s5,s6⟩:=FBq.out w' hS'
    go_simp
    exact⟨rfl,rfl⟩
   go_simp
   refine hR _ ?_
   clear hR R
  refine wpPlan_do (by rfl) (by rfl) (fun K hK=>?_)
  go_simp
  refine(makers_any wb.drew).mono ?_
  rintro e ws ⟨rfl,hbs⟩
  have Bs:Below wb.heap.size wb ws:=Bd.trans hbs
  have Ts:Touch (fun j=>j=b+1) wb ws:=Touch.of_below Bs (Nat.le_refl _)
  have hb1:Below w.heap.size w ws:=hb.trans (Bs.mono hb.size)
  have C8:=Lib.hid (HM.out (b+1) ws hb1 hby (Y0.out.keep Bs))
  unfold mkV
  refine hK _ _ (Ts) ?_
  clear hK K
  iterate 2
   refine wpPlan_read (by rfl) (by rfl) (fun R hR=>?_)
   apply Exists.intro
   refine⟨fun w' hS'=>?_,?_⟩
   ·obtain⟨s0,s1,s2,s3,s4,s5,s6⟩:=FBq.out w' hS'
    go_simp
    exact⟨rfl,rfl⟩
   go_simp
   refine hR _ ?_
   clear hR R
  refine wpPlan_do (by rfl) (by rfl) (fun K hK=>?_)
  go_simp
  refine(C8.out).mono ?_
  rintro e wt ⟨rfl,hr,ht⟩
  have Tt:Touch (fun j=>j=b+1) wb wt:=Ts.trans ht (fun _ h=>.inl h)
  have HR:=Lib.hid hr
  have TT:=Lib.hid (hb.trans (Tt.below (fun j hj=>by rw[show j=b+1 from hj];exact hby) hb.size))
  refine hK _ _ (Tt) ?_
  clear hK K
  iterate 1
   refine wpPlan_read (by rfl) (by rfl) (fun R hR=>?_)
   apply Exists.intro
   refine⟨fun w' hS'=>?_,?_⟩
   ·obtain⟨s0,s1,s2,s3,s4,s5,s6⟩:=FBq.out w' hS'
    go_simp
    exact⟨rfl,rfl⟩
   go_simp
   refine hR _ ?_
   clear hR R
  refine wpPlan_nil ?_
  have Td:Touch (fun j=>j=b+1) wb wt.drew:=Tt.drew
  have bd:Below wt.heap.size wt wt.drew:=(Below.refl _ _).drew
  have CS:=Lib.hid (HS.out (b+1) wt.drew (HK.out _ _ _ HR.out bd))
  have zt:=TT.out.size
  clear C8
  go_upto_region 5 with fail
  have FBq:=Lib.hid (fun w' (hS':(Touch (fun j=>j=b+1) wb) w')=>(And.intro (((tcell hS' 0 lb nb).trans FS0.out)) (And.intro (((tcell hS' 1 lb nb).trans FS1.out)) (And.intro (((tcell hS' 2 lb nb).trans FS2.out)) (And.intro (((tcell hS' 3 lb nb).trans FS3.out)) (And.intro (((tcell hS' 4 lb nb).trans FS4.out)) (And.intro (((tcell hS' 5 lb nb).trans FS5.out)) (And.intro (((tcell hS' 6 lb nb).trans FS6.out)) (HNE.out w')))))))))
  refine wp_region_plan (Touch (fun j=>j=b+1) wb) [(0,true),(1,true),(2,true),(3,true),(5,true),(4,false),(6,true),(7,true)] (by kernel_rfl) (by kernel_rfl) (Td) ?_
  iterate 5
   refine wpPlan_read (by rfl) (by rfl) (fun R hR=>?_)
   apply Exists.intro
   refine⟨fun w' hS'=>?_,?_⟩
   ·obtain⟨s0,s1,s2,s3,s4,s5,s6,hite⟩:=FBq.out w' hS'
    go_simp
    exact⟨rfl,rfl⟩
   go_simp
   refine hR _ ?_
   clear hR R
  refine wpPlan_do (by rfl) (by rfl) (fun K hK=>?_)
  go_simp
  refine(CS.out).mono ?_
  rintro e wu ⟨rfl,hbu⟩
  have Tu:Touch (fun j=>j=b+1) wb wu:=tbl Td hbu
  have BU:=Lib.hid (TT.out.trans ((bd.trans hbu).mono zt))
  have RU:=Lib.hid (HK.out _ _ _ HR.out (bd.trans hbu))
  refine hK _ _ (Tu) ?_
  clear hK K
  iterate 2
   refine wpPlan_read (by rfl) (by rfl) (fun R hR=>?_)
   apply Exists.intro
   refine⟨fun w' hS'=>?_,?_⟩
   ·obtain⟨s0,s1,s2,s3,s4,s5,s6,hite⟩:=FBq.out w' hS'
    go_simp
    exact⟨rfl,rfl⟩
   go_simp
   refine hR _ ?_
   clear hR R
  refine wpPlan_nil ?_
  go_wp2_with fail
  refine bodyPost_ret (by simp[results,Tryz.results6,go_sem, *];try rfl) rfl ?_
  exact⟨rfl,BU.out⟩
end
open Go.Maps
abbrev iL(k:Int):Lit:=.int .i64 k
theorem iLk(k:Int):WideAt.IsKeyLit (iL k):=trivial
abbrev uD(n:Int):DataW Unit:=.lit (.int .u64 n)
theorem iL_ne{a b:Int}(h:a≠b):iL a≠iL b:=fun e=>h (by cases e;rfl)
theorem iL_same(a b:Int):(iL a).sameKey (iL b)=decide (a=b):=by
 by_cases h:a=b
 ·subst h;rw[WideAt.sameKey_self (iLk _)];simp
 ·rw[sameKey_ne (iL_ne h)];simp[h]
structure LkD(D:DataW Unit)(l:List Pr):Prop where
 tidy:Tidy D
 has_:∀k:Int,Maps.has D (iL k)=decide (∃p∈l,p.1=k)
 at_:∀(k:Int) (z:DataW Unit),Maps.has D (iL k)=true->D.atKey (iL k) z=uD (cnP l k)
 sz:Maps.size D=l.length
theorem lk_nil:LkD (.map []) []:=⟨tidy_empty,fun k=>by simp[Maps.has],fun k z h=>by simp[Maps.has] at h,rfl⟩
theorem LkD.get{D:DataW Unit}{l:List Pr}(h:LkD D l)(k:Int):D.atKey (iL k) (uD 0)=uD (cnP l k):=by
 by_cases hk:Maps.has D (iL k)=true
 ·exact h.at_ k _ hk
 ·have h0:=h.has_ k
  have hf:Maps.has D (iL k)=false:=by simpa using hk
  rw[hf] at h0
  rw[atKey_of_not_has hf,cn_zero]
  intro p hp e
  exact absurd h0.symm (by simp;exact⟨p.2,by rw[<-e];exact hp⟩)
theorem put_len{k n:Int}:∀{l:List Pr},SrtP l->(putP k n l).length=if (∃p∈l,p.1=k) then l.length else l.length+1
 | [],_=>by simp[putP]
 | p::l,s=>by
  have s1:=List.pairwise_cons.1 s
  have ih:=put_len (k:=k) (n:=n) s1.2
  unfold putP
  by_cases h1:p.1<k
  ·have e:(∃q∈p::l,q.1=k)<->(∃q∈l,q.1=k):=⟨fun⟨q,hq,e⟩=>by
    rcases List.mem_cons.1 hq with rfl|hq
    ·omega
    ·exact⟨q,hq,e⟩,fun⟨q,hq,e⟩=>⟨q,List.mem_cons_of_mem _ hq,e⟩⟩
   rw[if_pos h1,List.length_cons,ih]
   by_cases hx:∃q∈l,q.1=k
   ·rw[if_pos hx,if_pos (e.2 hx)];simp
   ·rw[if_neg hx,if_neg (fun h=>hx (e.1 h))];simp
  ·rw[if_neg h1]
   by_cases h2:p.1=k
   ·rw[if_pos h2,if_pos ⟨p,List.mem_cons_self ..,h2⟩];simp
   ·rw[if_neg h2,if_neg]
    ·simp
    ·rintro ⟨q,hq,e⟩
     rcases List.mem_cons.1 hq with rfl|hq
     ·exact h2 e
     ·have:=s1.1 q hq;omega
theorem LkD.put{D:DataW Unit}{l:List Pr}(h:LkD D l)(s:SrtP l)(hp:PosP l)(k n:Int)(hn:0<n):LkD (D.put (iL k) (uD (cnP l k+n))) (putP k n l):=by
 have hput:=put_pos hn hp (k:=k)
 refine⟨h.tidy.put (iLk _) _,fun j=>?_,fun j z hj=>?_,?_⟩
 ·have e:=cn_key hput j
  rw[cn_put] at e
  by_cases hjk:j=k
  ·subst hjk
   rw[has_put_same h.tidy.isMap (iLk _)]
   have:=cn_nonneg (k:=j) hp
   simp only[if_pos] at e
   exact(decide_eq_true (e.2 (by omega))).symm
  ·rw[has_put_other (iL_ne hjk),h.has_ j]
   rw[if_neg (fun h=>hjk h.symm),Int.add_zero] at e
   have e0:=cn_key hp j
   congr 1
   exact propext (e0.trans e.symm)
 ·rw[cn_put]
  by_cases hjk:j=k
  ·subst hjk
   rw[atKey_put_same h.tidy.isMap (iLk _),if_pos rfl]
  ·rw[has_put_other (iL_ne hjk)] at hj
   rw[atKey_put_other (iL_ne hjk),h.at_ j z hj,if_neg (fun h=>hjk h.symm),Int.add_zero]
 ·rw[size_put h.tidy,h.sz,h.has_ k,put_len s]
  by_cases hx:∃p∈l,p.1=k<;>simp[hx]
theorem cn_of{l:List Pr}(s:SrtP l){p:Pr}(h:p∈l):cnP l p.1=p.2:=by
 induction l with
 | nil=>cases h
 | cons q l ih=>
  have s1:=List.pairwise_cons.1 s
  rcases List.mem_cons.1 h with rfl|h
  ·exact cn_head s
  ·have h1:=s1.1 p h
   have:=ih s1.2 h
   have e:cnP (q::l) p.1=(if q.1=p.1 then q.2 else 0)+cnP l p.1:=by simp[cnP]
   rw[e,this,if_neg (by omega)];omega
def RgI(l out:List Pr)(left:Lit->Bool):Prop:=(out++l.filter (fun p=>left (iL p.1))).Perm l
theorem rg_start{D:DataW Unit}{l:List Pr}(h:LkD D l):RgI l [] (Maps.has D):=by
 show(l.filter (fun p=>Maps.has D (iL p.1))).Perm l
 rw[List.filter_eq_self.2 (fun p hp=>by rw[h.has_];exact decide_eq_true ⟨p,hp,rfl⟩)]
theorem strike_perm{f:Int->Bool}{p:Pr}:∀{l:List Pr},SrtP l->p∈l->f p.1=true->(p::l.filter (fun q=>f q.1 && !decide (q.1=p.1))).Perm (l.filter (fun q=>f q.1))
 | [],_,h,_=>by cases h
 | q::l,s,h,hf=>by
  have s1:=List.pairwise_cons.1 s
  rcases List.mem_cons.1 h with rfl|h
  ·have e:l.filter (fun q=>f q.1 && !decide (q.1=p.1))=l.filter (fun q=>f q.1):=List.filter_congr fun q hq=>by
    have:=s1.1 q hq
    have h2:¬q.1=p.1:=by omega
    simp[h2]
   simp[hf,e]
  ·have h1:=s1.1 p h
   have h2:¬q.1=p.1:=by omega
   have ih:=strike_perm s1.2 h hf
   cases hq:f q.1
   ·simpa[hq,h2] using ih
   ·simp only[List.filter_cons,hq,h2,decide_false,Bool.not_false,Bool.and_self,if_true]
    exact(List.Perm.swap q p _).trans (ih.cons q)
theorem rg_in{D:DataW Unit}{l:List Pr}(h:LkD D l)(s:SrtP l){x c:Int}(hat:∀z,D.atKey (iL x) z=uD c):(x,c)∈l:=by
 have h1:=has_true_of_atKey hat
 have h2:=h.at_ x (uD 0) h1
 rw[hat] at h2
 have h3:=h.has_ x
 rw[h1] at h3
 obtain⟨p,hp,rfl⟩:=of_decide_eq_true h3.symm
 rw[cn_of s hp] at h2
 cases h2
 exact hp
theorem rg_step{l out:List Pr}{left:Lit->Bool}(s:SrtP l)(h:RgI l out left){x c:Int}(hx:left (iL x)=true)(hm:(x,c)∈l):RgI l (out++[(x,c)]) (fun z=>left z && !z.sameKey (iL x)):=by
 unfold RgI
 have e:l.filter (fun p=>left (iL p.1) && !(iL p.1).sameKey (iL x))=l.filter (fun p=>left (iL p.1) && !decide (p.1=x)):=List.filter_congr fun p _=>by rw[iL_same]
 rw[e,List.append_assoc]
 refine List.Perm.trans ?_ h
 exact List.Perm.append_left out (strike_perm (f:=fun k=>left (iL k)) (p:=(x,c)) s hm hx)
theorem rg_end{l out:List Pr}{left:Lit->Bool}(h:RgI l out left)(h0:∀kl,left kl=false):out.Perm l:=by
 unfold RgI at h
 rw[List.filter_eq_nil_iff.2 (fun p _=>by rw[h0];simp),List.append_nil] at h
 exact h
theorem rg_len{l out:List Pr}{left:Lit->Bool}(h:RgI l out left):out.length<=l.length:=by
 have:=h.length_eq
 rw[List.length_append] at this
 omega
theorem cn_perm{a b:List Pr}(h:a.Perm b)(k:Int):cnP a k=cnP b k:=by
 induction h with
 | nil=>rfl
 | cons x _ ih=>simp only[cnP,List.map_cons,List.sum_cons] at ih |-;omega
 | swap x y l=>simp only[cnP,List.map_cons,List.sum_cons];omega
 | trans _ _ i1 i2=>exact i1.trans i2
theorem sorted_is{l r:List Pr}(s:SrtP l)(hp:PosP l)(h:r.Perm l)(hr:r.Pairwise (fun a b=>a.1<=b.1)):r=l:=by
 have hne:r.Pairwise (fun a b=>a.1≠b.1):=(h.pairwise_iff (fun {a b} (h:a.1≠b.1)=>h.symm)).2 (s.imp (fun h=>by omega))
 have hs:SrtP r:=(hr.and hne).imp (fun h=>by omega)
 exact ext_P hs s (fun p hpr=>hp p (h.mem_iff.1 hpr)) hp (fun k=>cn_perm h k)
open Go.RowKit Go.Maps
theorem mapU:Tryz.prog.underlying 122=some (.map 3 41):=by kernel_rfl
theorem intU:Tryz.prog.underlying 3=some (.int .i64):=by kernel_rfl
theorem u64U:Tryz.prog.underlying 41=some (.int .u64):=by kernel_rfl
theorem keyI:Keyed Tryz.prog 3:=int_keyed intU
theorem zeroU(w:World):(zeroValue 41).run Tryz.prog w=.ok (.int .u64 0) w:=by kernel_rfl
def CtAt(w:World)(b:Nat)(l:List Pr):Prop:=∃D,w.ownsMap Tryz.prog 3 (plainElem (H:=Unit) Tryz.prog 41) b l.length D/\LkD D l
section
variable {w w' : World} {b : Nat} {l : List Pr}
theorem CtAt.stay(h:CtAt w b l)(hk:w'.heap[b]?=w.heap[b]?):CtAt w' b l:=by
 obtain⟨D,⟨es,clock,hb,r⟩,hD⟩:=h
 exact⟨D,⟨es,clock,hk.trans hb,r⟩,hD⟩
theorem CtAt.lt(h:CtAt w b l):b<w.heap.size:=by
 obtain⟨D,h,_⟩:=h;exact h.lt
theorem CtAt.keep(h:CtAt w b l)(hb:Below w.heap.size w w'):CtAt w' b l:=h.stay (hb.block b h.lt)
theorem ct_new(w:World):CtAt (w.alloc (.map #[] 0)) w.heap.size []:=⟨_,World.ownsMap_made w _ _ _,lk_nil⟩
theorem CtAt.ne(h:CtAt w b l){g:Nat}{T:TypeId}{cs:Array Value}(hB:Blk w g T cs):b≠g:=by
 rintro rfl
 obtain⟨D,⟨es,clock,hb,_⟩,_⟩:=h
 unfold Blk at hB
 rw[hb] at hB;cases hB
theorem ct_tight{n:Nat}{D:DataW Unit}(h:w.ownsMap Tryz.prog 3 (plainElem (H:=Unit) Tryz.prog 41) b n D)(hD:LkD D l):CtAt w b l:=by
 obtain⟨es,clock,hb,F,_,e⟩:=h
 refine⟨D,⟨es,clock,hb,F,?_,e⟩,hD⟩
 have h1:=hD.sz
 rw[e] at h1
 rw[<-h1]
 show es.size<=List.length _
 rw[length_read];exact Nat.le_refl _
theorem key_of{k:Int}(k0:-9223372036854775808<=k)(k1:k<=9223372036854775807):keyOf Tryz.prog 3 (.int .i64 k)=some (iL k):=keyOf_int_mk intU (WalkArith.wf_i64 ⟨k0,k1⟩)
theorem CtAt.look(h:CtAt w b l){k:Int}(k0:-9223372036854775808<=k)(k1:k<=9223372036854775807):(Instr.lookup 122 (.map (some b)) (.int .i64 k) false).run Tryz.prog w=.ok (.int .u64 (cnP l k)) w:=by
 obtain⟨D,h,hD⟩:=h
 obtain⟨c,hr,hat,_⟩:=h.lookup_int keyI mapU u64U (zeroU w) (key_of k0 k1)
 rw[hD.get k] at hat
 cases hat
 exact hr
theorem CtAt.upd(h:CtAt w b l)(s:SrtP l)(hp:PosP l)(hl:l.length<=1000000000){k n:Int}(k0:-9223372036854775808<=k)(k1:k<=9223372036854775807)(n0:0<n)(n1:cnP l k+n<=18446744073709551615) :
 ∃w',(Instr.mapUpdate 122 (.map (some b)) (.int .i64 k) (.int .u64 (cnP l k+n))).run Tryz.prog w=.ok () w'/\CtAt w' b (putP k n l)/\w.grownBy w' (some b):=by
 obtain⟨D,h,hD⟩:=h
 have hc:=cn_nonneg (k:=k) hp
 obtain⟨w',h1,h2,h3⟩:=h.update keyI mapU (by unfold maxLen;omega) (key_of k0 k1) (plainElem_int u64U (WalkArith.wf_u64 ⟨by omega,n1⟩))
 exact⟨w',h1,ct_tight h2 (hD.put s hp k n n0),h3⟩
theorem touch_map{F:Ft}(hF:F b)(hg:w.grownBy w' (some b)):Touch F w w':=⟨hg.os,hg.tape,hg.output,hg.size,fun k hk hn=>hg.block k hk (fun e=>by cases e;exact hn hF)⟩
theorem upL{ops:Array Oper}{rest:List Oper}{o:Oper}{a:Act}{Q:Exit->Act->World->Prop}(hgd:o.guard=none)(m x v:Operand)(hop:o.op=Op.mapUpdate 122 m x v)
 (h:CtAt w b l) (s:SrtP l) (hp:PosP l) (hl:l.length<=1000000000) {k n:Int} (k0:-9223372036854775808<=k) (k1:k<=9223372036854775807) (n0:0<n) (n1:cnP l k+n<=18446744073709551615)
 (hm:a.eval m=.map (some b)) (hx:a.eval x=.int .i64 k) (hv:a.eval v=.int .u64 (cnP l k+n))
 (hK:∀w',CtAt w' b (putP k n l)->w.grownBy w' (some b)->wpList Tryz.prog ops Q rest (a.put o.dst undef) w'):wpList Tryz.prog ops Q (o::rest) a w:=by
 refine wpList_plain hgd fun K' hK'=>?_
 obtain⟨w',hrun,r1,r2⟩:=h.upd s hp hl k0 k1 n0 n1
 unfold Oper.wp
 simp[execOp,hop,hm,hx,hv,hrun,Result.andThen]
 exact hK' _ _ (hK w' r1 r2)
end
open Go.Lib
theorem pow64:(2:Nat) ^ 64=18446744073709551616:=by decide
theorem bit_le{x k:Nat}(hx:x<18446744073709551616):Lib.bitLen x<=k<->x<2 ^ k:=by
 constructor
 ·intro h
  by_cases hk:x<2 ^ k
  ·exact hk
  ·have h1:=Lib.bitLen_shift k x (by omega) (by rw[pow64];exact hx)
   have hp:0<2 ^ k:=Nat.two_pow_pos k
   have h2:1<=x / 2 ^ k:=(Nat.le_div_iff_mul_le hp).2 (by omega)
   have h3:x / 2 ^ k<2 ^ 64:=by rw[pow64];exact Nat.lt_of_le_of_lt (Nat.div_le_self ..) hx
   have h4:=Lib.bitLen_half (x / 2 ^ k) (by omega) h3
   omega
 ·intro h
  by_cases hk:k<=64
  ·exact Lib.bitLen_le x k hk h
  ·exact Nat.le_trans (Lib.bitLen_le x 64 (Nat.le_refl _) (by rw[pow64];exact hx)) (by omega)
theorem bit_gt{x k:Nat}(hx:x<18446744073709551616):k<Lib.bitLen x<->2 ^ k<=x:=by
 have:=bit_le (k:=k) hx
 omega
def bkN(u m v:Nat):Nat:=Lib.bitLen v - (u+m)
theorem bk_lt{u m v:Nat}(hv:v<18446744073709551616):v<2 ^ (u+m+bkN u m v):=(bit_le hv).1 (by unfold bkN;omega)
theorem bk_le{u m v b:Nat}(hv:v<18446744073709551616):bkN u m v<=b<->v<2 ^ (u+m+b):=by
 rw[<-bit_le hv];unfold bkN;omega
theorem bk_max{u m v:Nat}(hv:v<9223372036854775808):u+m+bkN u m v<=63\/bkN u m v=0:=by
 have h:Lib.bitLen v<=63:=(bit_le (by omega)).2 (by rw[show(2:Nat) ^ 63=9223372036854775808 by decide];exact hv)
 unfold bkN
 omega
def ckN(u m v:Nat):Nat:=v / 2 ^ (bkN u m v+u)
theorem ck_lt{u m v:Nat}(hv:v<18446744073709551616):ckN u m v<2 ^ m:=by
 unfold ckN
 rw[Nat.div_lt_iff_lt_mul (Nat.two_pow_pos _),<-Nat.pow_add]
 rw[show m+(bkN u m v+u)=u+m+bkN u m v by omega]
 exact bk_lt hv
def ixN(u m v:Nat):Nat:=bkN u m v * 2 ^ (m - 1)+ckN u m v
end Go.Proofs.YtingnldfpokckaaGreat.D
