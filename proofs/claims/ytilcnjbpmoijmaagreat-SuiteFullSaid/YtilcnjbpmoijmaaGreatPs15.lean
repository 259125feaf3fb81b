/- Parts of a proof: what its theorem reaches, words cut short. No condition of its own. -/
import Derived.Test.YtilcnjbpmoijmaaGreatPs14
set_option maxRecDepth 100000
set_option maxHeartbeats 16000000
set_option linter.unusedVariables false
set_option linter.unusedSimpArgs false
namespace Go.Proofs.YtilcnjbpmoijmaaGreat.D
open Go.RowKit Go.Lib
section
variable {y : Nat} {p1 p2 p3 p4 : Value} {num den v led : Int}
theorem jat0_any(w:World)(hy:Blk w y 126 #[.int .u8 4,p1,p2,p3,p4])(h:∀w1,Below w.heap.size w w1->Calls Tryz.prog 313 #[p4,.int .u64 num,.int .u64 den] w1 fun e w'=>e=.returned (.tuple #[.int .i64 v,.int .u64 led,.int .i64 0])/\Below w1.heap.size w1 w') :
 Calls Tryz.prog 243 #[.pointer (some ⟨y,0,none⟩),.int .u64 num,.int .u64 den] w fun e w'=>e=.returned (.tuple #[.agg #[.int .i64 v,.bool false,.int .u64 led],.int .i64 0])/\Below w.heap.size w w':=by
 have C:=Lib.hid h
 clear h
 have hyl:=hy.lt
 obtain⟨z,hz⟩:∃z,w.heap.size=z:=⟨_,rfl⟩
 obtain⟨wa,hwa⟩:∃q,w.alloc (.cells #[.int .i64 0,.bool false,.int .u64 0] 75)=q:=⟨_,rfl⟩
 have ha:Below w.heap.size w wa:=by rw[<-hwa];(repeat' (first|(with_reducible exact Below.refl _ _)|(with_reducible refine Below.alloc ?_ ?_ _)|(with_reducible refine Below.drew ?_)|(with_reducible refine below_drewN ?_ _)|(with_reducible refine Below.setCell ?_ ?_ _)|(with_reducible refine below_of (by assumption) ?_ ?_)|go_size))
 have B0:Blk wa z 75 #[.int .i64 0,.bool false,.int .u64 0]:=by rw[<-hwa,<-hz];exact Blk.new _ _ _
 have hy1:=hy.keep ha
 have f0:=hy1.cell 0
 have f4:=hy1.cell 4
 simp only[List.getElem?_toArray,List.getElem?_cons_zero,List.getElem?_cons_succ] at f0 f4
 have CA:=Lib.hid (C.out wa ha)
 have HA:=Lib.hid ha
 have HB0:=Lib.hid B0
 clear hy hy1 C ha B0
 go_enter Tryz.func243,Tryz.ntmps243
 go_upto_region 1 with fail
 have HZ:=Lib.hid hz
 clear hwa hz
 go_wp2_with fail
 refine(CA.out).mono ?_
 rintro e w1 ⟨rfl,hb⟩
 have B1:=Lib.hid (HB0.out.keep hb)
 have s0:=B1.out.cell 0
 have s1:=B1.out.cell 1
 have s2:=B1.out.cell 2
 have g0:=B1.out.frozen 0
 have g1:=B1.out.frozen 1
 have g2:=B1.out.frozen 2
 simp only[List.getElem?_toArray,List.getElem?_cons_zero,List.getElem?_cons_succ] at s0 s1 s2
 have HB:Hid (Below w.heap.size w w1):=Lib.hid (HA.out.trans (hb.mono HA.out.size))
 clear hb CA f0 f4
 go_upto_region 9 with fail
 have BF:=(B1.out.set_ 0 (.int .i64 v)).set_ 2 (.int .u64 led)
 have HBF:=Lib.hid (((HB.out.setCell (p:=⟨z,0,none⟩) (by rw[HZ.out];exact Nat.le_refl _) (.int .i64 v)).setCell (p:=⟨z,2,none⟩) (by rw[HZ.out];exact Nat.le_refl _) (.int .u64 led)))
 obtain⟨w5,hw5⟩:∃q,(w1.setCell ⟨z,0,none⟩ (.int .i64 v)).setCell ⟨z,2,none⟩ (.int .u64 led)=q:=⟨_,rfl⟩
 rw[hw5] at BF HBF |-
 simp only[List.setIfInBounds_toArray,List.set_cons_zero,List.set_cons_succ] at BF
 have s0:=BF.cell 0
 have s1:=BF.cell 1
 have s2:=BF.cell 2
 have g0:=BF.frozen 0
 have g1:=BF.frozen 1
 have g2:=BF.frozen 2
 simp only[List.getElem?_toArray,List.getElem?_cons_zero,List.getElem?_cons_succ] at s0 s1 s2
 have HBF2:=Lib.hid BF
 clear hw5 B1 HB BF
 go_wp2_with fail
 have BG:=Lib.hid (((HBF2.out.set_ 0 (.int .i64 v)).set_ 1 (.bool false)).set_ 2 (.int .u64 led))
 have HBG:=Lib.hid (((HBF.out.setCell (p:=⟨z,0,none⟩) (by rw[HZ.out];exact Nat.le_refl _) (.int .i64 v)).setCell (p:=⟨z,1,none⟩) (by rw[HZ.out];exact Nat.le_refl _) (.bool false)).setCell (p:=⟨z,2,none⟩) (by rw[HZ.out];exact Nat.le_refl _) (.int .u64 led))
 obtain⟨w6,hw6⟩:∃q,((w5.setCell ⟨z,0,none⟩ (.int .i64 v)).setCell ⟨z,1,none⟩ (.bool false)).setCell ⟨z,2,none⟩ (.int .u64 led)=q:=⟨_,rfl⟩
 rw[hw6] at BG HBG |-
 have BH:=BG.out
 simp only[List.setIfInBounds_toArray,List.set_cons_zero,List.set_cons_succ] at BH
 have r0:=BH.cell 0
 have r1:=BH.cell 1
 have r2:=BH.cell 2
 simp only[List.getElem?_toArray,List.getElem?_cons_zero,List.getElem?_cons_succ] at r0 r1 r2
 clear hw6 s0 s1 s2 g0 g1 g2 BH
 refine bodyPost_ret (by simp[results,Tryz.results243,go_sem, *];try rfl) rfl ?_
 have hbb:=HBG.out
 exact⟨rfl,hbb⟩
theorem jAt_any(w:World)(hy:Blk w y 126 #[.int .u8 4,p1,p2,p3,p4])(h:∀w1,Below w.heap.size w w1->Calls Tryz.prog 313 #[p4,.int .u64 num,.int .u64 den] w1 fun e w'=>e=.returned (.tuple #[.int .i64 v,.int .u64 led,.int .i64 0])/\Below w1.heap.size w1 w') :
 Calls Tryz.prog 180 #[.pointer (some ⟨y,0,none⟩),.int .u64 num,.int .u64 den] w fun e w'=>e=.returned (.tuple #[.agg #[.int .i64 v,.bool false,.int .u64 led],.int .i64 0])/\Below w.heap.size w w':=by
 obtain⟨wa,hwa⟩:∃q,w.alloc (.cells #[.int .i64 0,.bool false,.int .u64 0] 75)=q:=⟨_,rfl⟩
 have ha:Below w.heap.size w wa:=by rw[<-hwa];(repeat' (first|(with_reducible exact Below.refl _ _)|(with_reducible refine Below.alloc ?_ ?_ _)|(with_reducible refine Below.drew ?_)|(with_reducible refine below_drewN ?_ _)|(with_reducible refine Below.setCell ?_ ?_ _)|(with_reducible refine below_of (by assumption) ?_ ?_)|go_size))
 have CA:=Lib.hid (jat0_any wa (hy.keep ha) (fun w1 hb=>h w1 (ha.trans (hb.mono ha.size))))
 obtain⟨z,hz⟩:∃z,w.heap.size=z:=⟨_,rfl⟩
 have B0:Hid (Blk wa z 75 #[.int .i64 0,.bool false,.int .u64 0]):=by rw[<-hwa,<-hz];exact Lib.hid (Blk.new _ _ _)
 have HA:=Lib.hid ha
 clear hy h ha
 go_enter Tryz.func180,Tryz.ntmps180
 go_upto_region 1 with fail
 have HZ:=Lib.hid hz
 clear hwa hz
 go_wp2_with fail
 refine(CA.out).mono ?_
 rintro e w1 ⟨rfl,hb⟩
 have HB1:=Lib.hid (HA.out.trans (hb.mono HA.out.size))
 have B1:=Lib.hid (B0.out.keep hb)
 clear hb CA
 go_upto_region 2 with fail
 obtain⟨z2,hz2⟩:∃q,w1.heap.size=q:=⟨_,rfl⟩
 obtain⟨wb,hwb⟩:∃q,w1.alloc (.cells #[.int .i64 v,.bool false,.int .u64 led] 75)=q:=⟨_,rfl⟩
 have hb2:Below w1.heap.size w1 wb:=by rw[<-hwb];(repeat' (first|(with_reducible exact Below.refl _ _)|(with_reducible refine Below.alloc ?_ ?_ _)|(with_reducible refine Below.drew ?_)|(with_reducible refine below_drewN ?_ _)|(with_reducible refine Below.setCell ?_ ?_ _)|(with_reducible refine below_of (by assumption) ?_ ?_)|go_size))
 have C0:Hid (Blk wb z2 75 #[.int .i64 v,.bool false,.int .u64 led]):=by rw[<-hwb,<-hz2];exact Lib.hid (Blk.new _ _ _)
 have B2:=Lib.hid (B1.out.keep hb2)
 have HB2:=Lib.hid (HB1.out.trans (hb2.mono HB1.out.size))
 rw[hwb,hz2]
 have k0:=C0.out.cell 0
 have k1:=C0.out.cell 1
 have k2:=C0.out.cell 2
 have s0:=B2.out.cell 0
 have s1:=B2.out.cell 1
 have s2:=B2.out.cell 2
 have g0:=B2.out.frozen 0
 have g1:=B2.out.frozen 1
 have g2:=B2.out.frozen 2
 simp only[List.getElem?_toArray,List.getElem?_cons_zero,List.getElem?_cons_succ] at k0 k1 k2 s0 s1 s2
 clear hwb hz2 hb2 HB1 B1
 go_wp2_with fail
 have BG:=Lib.hid (((B2.out.set_ 0 (.int .i64 v)).set_ 1 (.bool false)).set_ 2 (.int .u64 led))
 have HBG:=Lib.hid (((HB2.out.setCell (p:=⟨z,0,none⟩) (by rw[HZ.out];exact Nat.le_refl _) (.int .i64 v)).setCell (p:=⟨z,1,none⟩) (by rw[HZ.out];exact Nat.le_refl _) (.bool false)).setCell (p:=⟨z,2,none⟩) (by rw[HZ.out];exact Nat.le_refl _) (.int .u64 led))
 obtain⟨w6,hw6⟩:∃q,((wb.setCell ⟨z,0,none⟩ (.int .i64 v)).setCell ⟨z,1,none⟩ (.bool false)).setCell ⟨z,2,none⟩ (.int .u64 led)=q:=⟨_,rfl⟩
 rw[hw6] at BG HBG |-
 have BH:=BG.out
 simp only[List.setIfInBounds_toArray,List.set_cons_zero,List.set_cons_succ] at BH
 have r0:=BH.cell 0
 have r1:=BH.cell 1
 have r2:=BH.cell 2
 simp only[List.getElem?_toArray,List.getElem?_cons_zero,List.getElem?_cons_succ] at r0 r1 r2
 clear hw6 s0 s1 s2 g0 g1 g2 k0 k1 k2 BH
 refine bodyPost_ret (by simp[results,Tryz.results180,go_sem, *];try rfl) rfl ?_
 have hbb:=HBG.out
 exact⟨rfl,hbb⟩
end
end Go.Proofs.YtilcnjbpmoijmaaGreat.D
