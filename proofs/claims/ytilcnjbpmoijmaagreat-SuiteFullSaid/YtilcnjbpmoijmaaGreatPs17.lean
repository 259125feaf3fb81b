/- Parts of a proof: what its theorem reaches, words cut short. No condition of its own. -/
import Derived.Test.YtilcnjbpmoijmaaGreatPs16
set_option maxRecDepth 100000
set_option maxHeartbeats 16000000
set_option linter.unusedVariables false
set_option linter.unusedSimpArgs false
namespace Go.Proofs.YtilcnjbpmoijmaaGreat.D
open Go.RowKit Go.Lib Go.Shelf
def mkV:Value:=.agg #[.func (.func 125) #[] #[],.func (.func 126) #[] #[],.func (.func 127) #[] #[],.func (.func 128) #[] #[],
 .func (.func 129) #[] #[],.func (.func 130) #[] #[],.func (.func 131) #[] #[],.func (.func 132) #[] #[]]
theorem makers_any(w:World):Calls Tryz.prog 70 #[] w fun e w'=>e=.returned mkV/\Below w.heap.size w w':=by
 unfold mkV
 go_enter Tryz.func70,Tryz.ntmps70
 go_wp2_with fail
 refine bodyPost_ret (by simp[results,Tryz.results70,go_sem, *];try rfl) rfl ?_
 exact⟨rfl,by(repeat' (first|(with_reducible exact Below.refl _ _)|(with_reducible refine Below.alloc ?_ ?_ _)|(with_reducible refine Below.drew ?_)|(with_reducible refine below_drewN ?_ _)|(with_reducible refine Below.setCell ?_ ?_ _)|(with_reducible refine below_of (by assumption) ?_ ?_)|go_size))⟩
section
variable {R : Nat -> World -> Prop} {lo hi dg ac sz : Int} {gr : Bool}
theorem jmake_any{kd:Int}{mf:Nat}(hkm:(kd=1/\mf=125)\/(kd=2/\mf=127)\/(kd=3/\mf=129)\/(kd=4/\mf=131))(w:World)(hm:∀y w1,Below w.heap.size w w1->w.heap.size<=y->Blk w1 y 126 #[.int .u8 kd,.pointer none,.pointer none,.pointer none,.pointer none]->Calls Tryz.prog mf #[.pointer (some ⟨y,0,none⟩),specV kd lo hi dg gr ac sz] w1 fun e w'=>e=.returned (.int .i64 0)/\R y w'/\Touch (fun j=>j=y) w1 w')
 (hs:∀y w1,R y w1->Calls Tryz.prog 53 #[.pointer (some ⟨y,0,none⟩)] w1 fun e w'=>e=.returned (specV kd lo hi dg gr ac sz)/\Below w1.heap.size w1 w')
 (hk:∀y w1 w',R y w1->Below w1.heap.size w1 w'->R y w') :
 Calls Tryz.prog 34 #[specV kd lo hi dg gr ac sz] w fun e w'=>∃y,e=.returned (.tuple #[.pointer (some ⟨y,0,none⟩),.int .i64 0])/\R y w'/\Below w.heap.size w w':=by
 obtain⟨cs,hcs⟩:∃q:Array Value,q=#[.int .u8 kd,.int .i64 lo,.int .i64 hi,.int .i64 dg,.bool gr,.int .i64 ac,.int .i64 sz]:=⟨_,rfl⟩
 obtain⟨fv,hfv⟩:∃q:Array Value,q=#[.int .u8 kd,.pointer none,.pointer none,.pointer none,.pointer none]:=⟨_,rfl⟩
 have CK0:=fun W=>isKind_any kd W (by omega) (by omega)
 rcases hkm with⟨rfl,rfl⟩|⟨rfl,rfl⟩|⟨rfl,rfl⟩|⟨rfl,rfl⟩
 all_goals
  have HM:=Lib.hid hm
  have HS:=Lib.hid hs
  have HK:=Lib.hid hk
  clear hm hs hk
  unfold specV at *
  obtain⟨b,hbb⟩:∃b,w.heap.size=b:=⟨_,rfl⟩
  obtain⟨wa,hwa⟩:∃z,w.alloc (.cells cs 25)=z:=⟨_,rfl⟩
  have ha:Below w.heap.size w wa:=by rw[<-hwa];(repeat' (first|(with_reducible exact Below.refl _ _)|(with_reducible refine Below.alloc ?_ ?_ _)|(with_reducible refine Below.drew ?_)|(with_reducible refine below_drewN ?_ _)|(with_reducible refine Below.setCell ?_ ?_ _)|(with_reducible refine below_of (by assumption) ?_ ?_)|go_size))
  have B0:Hid (Blk wa b 25 cs):=by rw[<-hwa,<-hbb];exact Lib.hid (Blk.new _ _ _)
  subst hcs
  have hz:wa.heap.size=b+1:=by rw[<-hwa,<-hbb,World.size_alloc]
  have s0:=B0.out.cell 0
  simp only[List.getElem?_toArray,List.getElem?_cons_zero,List.getElem?_cons_succ] at s0
  have CK:=Lib.hid (CK0 wa)
  have HBB:=Lib.hid hbb
  go_enter Tryz.func34,Tryz.ntmps34
  go_upto_region 1 with fail
  have HZ:=Lib.hid hz
  clear hwa hbb hz
  go_wp2_with fail
  refine(CK.out).mono ?_
  rintro e w' ⟨rfl,rfl⟩
  obtain⟨wb,hwb⟩:∃z,wa.alloc (.cells fv 126)=z:=⟨_,rfl⟩
  have hab:Below wa.heap.size wa wb:=by rw[<-hwb];(repeat' (first|(with_reducible exact Below.refl _ _)|(with_reducible refine Below.alloc ?_ ?_ _)|(with_reducible refine Below.drew ?_)|(with_reducible refine below_drewN ?_ _)|(with_reducible refine Below.setCell ?_ ?_ _)|(with_reducible refine below_of (by assumption) ?_ ?_)|go_size))
  have hb:Below w.heap.size w wb:=ha.trans (hab.mono ha.size)
  have Y0:Hid (Blk wb (b+1) 126 fv):=by rw[<-hwb,<-HZ.out];exact Lib.hid (Blk.new _ _ _)
  subst hfv
  have B1:=Lib.hid (B0.out.keep hab)
  go_upto_region 4 with fail
  try rw[hwb]
  try rw[HZ.out]
  clear hwb s0 hab B0
  have B0:=B1
  have s0:=B0.out.cell 0
  have s1:=B0.out.cell 1
  have s2:=B0.out.cell 2
  have s3:=B0.out.cell 3
  have s4:=B0.out.cell 4
  have s5:=B0.out.cell 5
  have s6:=B0.out.cell 6
  simp only[List.getElem?_toArray,List.getElem?_cons_zero,List.getElem?_cons_succ] at s0 s1 s2 s3 s4 s5 s6
  have FS0:=Lib.hid s0
  have FS1:=Lib.hid s1
  have FS2:=Lib.hid s2
  have FS3:=Lib.hid s3
  have FS4:=Lib.hid s4
  have FS5:=Lib.hid s5
  have FS6:=Lib.hid s6
  clear s0 s1 s2 s3 s4 s5 s6
  have lb:b<wb.heap.size:=B0.out.lt
  have nb:¬(b=b+1):=by omega
  have hby:w.heap.size<=b+1:=by have:=HBB.out;omega
  have T0:Touch (fun j=>j=b+1) wb wb.drew:=(Touch.refl _ wb).drew
  have Bd:Below wb.heap.size wb wb.drew:=(Below.refl _ _).drew
  have FBq:=Lib.hid (fun(w':World) (hS':(Touch (fun j=>j=b+1) wb) w')=>(And.intro (((tcell hS' 0 lb nb).trans FS0.out)) (And.intro (((tcell hS' 1 lb nb).trans FS1.out)) (And.intro (((tcell hS' 2 lb nb).trans FS2.out)) (And.intro (((tcell hS' 3 lb nb).trans FS3.out)) (And.intro (((tcell hS' 4 lb nb).trans FS4.out)) (And.intro (((tcell hS' 5 lb nb).trans FS5.out)) (((tcell hS' 6 lb nb).trans FS6.out)))))))))
  refine plA (Touch (fun j=>j=b+1) wb) (plr 1 3 (plr 6 2 (ple 0 (plr 4 2 (ple 8 (plr 9 1 [])))))) (T0) ?_
  iterate 5 refine plR ?_
  refine plD fun K hK=>?_
  go_simp
  refine(makers_any wb.drew).mono ?_
  rintro e ws ⟨rfl,hbs⟩
  have Bs:Below wb.heap.size wb ws:=Bd.trans hbs
  have Ts:Touch (fun j=>j=b+1) wb ws:=Touch.of_below Bs (Nat.le_refl _)
  have hb1:Below w.heap.size w ws:=hb.trans (Bs.mono hb.size)
  have C8:=Lib.hid (HM.out (b+1) ws hb1 hby (Y0.out.keep Bs))
  unfold mkV
  refine hK _ _ (Ts) ?_
  clear hK K
  iterate 2 refine plR ?_
  refine plD fun K hK=>?_
  go_simp
  refine(C8.out).mono ?_
  rintro e wt ⟨rfl,hr,ht⟩
  have Tt:Touch (fun j=>j=b+1) wb wt:=Ts.trans ht (fun _ h=>.inl h)
  have HR:=Lib.hid hr
  have TT:=Lib.hid (hb.trans (Tt.below (fun j hj=>by rw[show j=b+1 from hj];exact hby) hb.size))
  refine hK _ _ (Tt) ?_
  clear hK K
  refine plR ?_
  refine wpPlan_nil ?_
  have Td:Touch (fun j=>j=b+1) wb wt.drew:=Tt.drew
  have bd:Below wt.heap.size wt wt.drew:=(Below.refl _ _).drew
  have CS:=Lib.hid (HS.out (b+1) wt.drew (HK.out _ _ _ HR.out bd))
  have zt:=TT.out.size
  clear C8
  go_upto_region 5 with fail
  have FBq:=Lib.hid (fun(w':World) (hS':(Touch (fun j=>j=b+1) wb) w')=>(And.intro (((tcell hS' 0 lb nb).trans FS0.out)) (And.intro (((tcell hS' 1 lb nb).trans FS1.out)) (And.intro (((tcell hS' 2 lb nb).trans FS2.out)) (And.intro (((tcell hS' 3 lb nb).trans FS3.out)) (And.intro (((tcell hS' 4 lb nb).trans FS4.out)) (And.intro (((tcell hS' 5 lb nb).trans FS5.out)) (((tcell hS' 6 lb nb).trans FS6.out)))))))))
  refine plA (Touch (fun j=>j=b+1) wb) (plr 0 4 (plr 5 1 (ple 4 (plr 6 2 [])))) (Td) ?_
  iterate 5 refine plR ?_
  refine plD fun K hK=>?_
  go_simp
  refine(CS.out).mono ?_
  rintro e wu ⟨rfl,hbu⟩
  have Tu:Touch (fun j=>j=b+1) wb wu:=tbl Td hbu
  have BU:=Lib.hid (TT.out.trans ((bd.trans hbu).mono zt))
  have RU:=Lib.hid (HK.out _ _ _ HR.out (bd.trans hbu))
  refine hK _ _ (Tu) ?_
  clear hK K
  iterate 2 refine plR ?_
  refine wpPlan_nil ?_
  go_wp2_with fail
  refine bodyPost_ret (by simp[results,Tryz.results34,go_sem, *];try rfl) rfl ?_
  exact⟨_,rfl,RU.out,BU.out⟩
end
end Go.Proofs.YtilcnjbpmoijmaaGreat.D
