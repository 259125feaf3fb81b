/- Parts of a proof: what its theorem reaches, words cut short. No condition of its own. -/
import Derived.Test.YtilcnjbpmoijmaaGreatPs36
set_option maxRecDepth 100000
set_option maxHeartbeats 16000000
set_option linter.unusedVariables false
set_option linter.unusedSimpArgs false
namespace Go.Proofs.YtilcnjbpmoijmaaGreat.D
open Go.RowKit Go.Lib Go.Maps
section
variable {sb : Nat}
theorem sdo_none{kd k sk q v n num den:Int}{px:Value}(w:World)(hkm:kd=2\/kd=4\/kd=6\/kd=11)
 (hf:∀w1,Below w.heap.size w w1->Calls Tryz.prog 66 #[.pointer (some ⟨sb,0,none⟩),.int .u32 k] w1 fun e w'=>e=.returned (.tuple #[px,.bool false])/\w1=w') :
 Calls Tryz.prog 29 #[.pointer (some ⟨sb,0,none⟩),.agg (actC kd k sk q v n num den)] w fun e w'=>e=.returned (.agg (resC 2 0 false 0))/\Below w.heap.size w w':=by
 obtain⟨wa,b0,b1,hwa,A⟩:∃wa b0 b1,(w.alloc (.cells (actC kd k sk q v n num den) 81)).alloc (.cells (resC 0 0 false 0) 77)=wa/\ActAt w wa b0 b1 (actC kd k sk q v n num den):=⟨_,_,_,rfl,act_at w _⟩
 have HA:=Lib.hid A
 have HF:=Lib.hid hf
 have e0:=A.e0
 have e1:=A.e1
 have c0:=A.ba.cell 0
 have c1:=A.ba.cell 1
 unfold actC at hwa c0 c1
 unfold resC at hwa
 simp only[List.getElem?_toArray,List.getElem?_cons_zero,List.getElem?_cons_succ] at c0 c1
 clear A hf
 have CA:=Lib.hid (acts_any wa)
 have HK:=Lib.hid hkm
 have k1:¬kd<1:=by omega
 have k2:¬kd > 11:=by omega
 rw[show(Value.agg (actC kd k sk q v n num den))=.agg #[.int .u8 kd,.int .u32 k,.int .u32 0,.int .u8 sk,.int .i64 0,.int .i64 0,.int .i64 0,.bool false,.int .i64 0,.int .i64 q,.int .i64 v,.int .u64 n,.int .u64 num,.int .u64 den,.slice none 0 0,.slice none 0 0,.int .i64 0,.int .i64 0,.slice none 0 0] from rfl]
 clear hkm
 go_enter Tryz.func29,Tryz.ntmps29
 go_upto_region 1 with fail
 rw[<-e1,<-e0]
 have E0:=Lib.hid (And.intro e0 e1)
 clear hwa e0 e1
 go_wp2_with fail
 refine(CA.out).mono ?_
 rintro e w2 ⟨rfl,hb2⟩
 have HB2:=Lib.hid hb2
 clear hb2 CA c0 c1
 unfold actsA aloneA
 go_upto_region 4 with fail
 obtain⟨wd,b2,hwd,D0,D1,DB,hd2⟩:∃wd b2,(w2.alloc (.cells actsA 146)).alloc (.cells aloneA 147)=wd/\Blk wd b2 146 actsA/\Blk wd (b2+1) 147 aloneA/\Below w2.heap.size w2 wd/\b2=w2.heap.size:=by
  have h:=Blk.new (w2.alloc (.cells actsA 146)) 147 aloneA
  rw[World.size_alloc] at h
  exact⟨_,_,rfl,(Blk.new w2 _ _).alloc _,h,((Below.refl _ _).alloc (Nat.le_refl _) _).alloc (by rw[World.size_alloc];omega) _,rfl⟩
 unfold actsA aloneA at hwd
 rw[hwd,<-hd2]
 have HWD:Hid (Below w.heap.size w wd):=Lib.hid (HA.out.bel.trans ((HB2.out.trans (DB.mono HB2.out.size)).mono HA.out.bel.size))
 have HBA:Hid (Blk wd b0 81 (actC kd k sk q v n num den)):=Lib.hid ((HA.out.ba.keep HB2.out).keep DB)
 have HBB:Hid (Blk wd b1 77 (resC 0 0 false 0)):=Lib.hid ((HA.out.bb.keep HB2.out).keep DB)
 have HD0:=Lib.hid D0
 have HD1:=Lib.hid D1
 have HFD:=Lib.hid (HF.out wd HWD.out)
 have c1:=(act_cells HBA.out).2.1
 have hb2w:Hid (wa.heap.size<=b2):=Lib.hid (by rw[hd2];exact HB2.out.size)
 clear hwd hd2 D0 D1 DB HB2
 go_wp2_with fail
 refine(HFD.out).mono ?_
 rintro e w3 ⟨rfl,hw3⟩
 subst hw3
 clear c1 HFD
 go_upto_region 5 with fail
 go_cut [38] (fun x wx=>x=.bool true/\wd=wx)
 case first=>
  rcases HK.out with rfl|rfl|rfl|rfl
  all_goals
   have c0:=(act_cells HBA.out).1
  ·have d1:wd.cell? ⟨b2+1,2,none⟩=some (.bool false):=HD1.out.cell 2
   go_wp2_with fail
   go_meet
   exact⟨rfl,rfl⟩
  ·have d1:wd.cell? ⟨b2+1,4,none⟩=some (.bool false):=HD1.out.cell 4
   go_wp2_with fail
   go_meet
   exact⟨rfl,rfl⟩
  ·have d1:wd.cell? ⟨b2+1,6,none⟩=some (.bool false):=HD1.out.cell 6
   go_wp2_with fail
   go_meet
   exact⟨rfl,rfl⟩
  ·have d1:wd.cell? ⟨b2+1,11,none⟩=some (.bool false):=HD1.out.cell 11
   go_wp2_with fail
   go_meet
   exact⟨rfl,rfl⟩
 case rest=>
 obtain⟨rfl,hwx⟩:=hcut
 subst hwx
 clear HF
 have CF:=Lib.hid (fail_any 2 wd)
 unfold resV at CF
 go_upto_region 6 with fail
 go_wp2_with fail
 refine(CF.out).mono ?_
 rintro e w6 ⟨rfl,hb6⟩
 have hB6:w6.heap[b1]?=some (.cells (resC 0 0 false 0) 77 (0,0)):=Blk.keep HBB.out hb6
 have HB6:=Lib.hid hb6
 clear hb6
 go_wp2_with (refine wpList_store_row rfl 77 (.tmp 4) (.tmp 39) rfl b1 (resC 2 0 false 0) rfl rfl 77 _ hB6 (by kernel_rfl) rfl (by simp[resC,Value.oneCell']) ?_)
 refine bodyPost_ret (v:=.agg (resC 2 0 false 0)) (results_cell_row (p:=4) (ty:=77) (by kernel_rfl) _ _ b1 77 (resC 2 0 false 0) (0,0) _ rfl (setRow_heap _ _ _ _ _ _ hB6) Tryz.underlying77 rfl (by kernel_rfl)) rfl ?_
 have hbl:w.heap.size<=b1:=by have:=E0.out;omega
 exact⟨rfl,below_setRow (HWD.out.trans (HB6.out.mono HWD.out.size)) hbl _⟩
end
end Go.Proofs.YtilcnjbpmoijmaaGreat.D
