/- Parts of a proof: what its theorem reaches, words cut short. No condition of its own. -/
import Derived.Test.YtilcnjbpmoijmaaGreatPs34
import Derived.Test.YtilcnjbpmoijmaaGreatPs35
set_option maxRecDepth 100000
set_option maxHeartbeats 16000000
set_option linter.unusedVariables false
set_option linter.unusedSimpArgs false
namespace Go.Proofs.YtilcnjbpmoijmaaGreat.D
open Go.RowKit Go.Lib Go.Maps
theorem act_cells{w:World}{b:Nat}{kd k sk q v n num den:Int}(h:Blk w b 81 (actC kd k sk q v n num den)):w.cell? ⟨b,0,none⟩=some (.int .u8 kd)/\w.cell? ⟨b,1,none⟩=some (.int .u32 k)/\w.cell? ⟨b,2,none⟩=some (.int .u32 0)/\w.cell? ⟨b,3,none⟩=some (.int .u8 sk)/\w.cell? ⟨b,4,none⟩=some (.int .i64 0)/\w.cell? ⟨b,5,none⟩=some (.int .i64 0)/\w.cell? ⟨b,6,none⟩=some (.int .i64 0)/\w.cell? ⟨b,7,none⟩=some (.bool false)/\w.cell? ⟨b,8,none⟩=some (.int .i64 0)/\w.cell? ⟨b,9,none⟩=some (.int .i64 q)/\w.cell? ⟨b,10,none⟩=some (.int .i64 v)/\w.cell? ⟨b,11,none⟩=some (.int .u64 n)/\w.cell? ⟨b,12,none⟩=some (.int .u64 num)/\w.cell? ⟨b,13,none⟩=some (.int .u64 den)/\w.cell? ⟨b,14,none⟩=some (.slice none 0 0)/\w.cell? ⟨b,15,none⟩=some (.slice none 0 0)/\w.cell? ⟨b,16,none⟩=some (.int .i64 0)/\w.cell? ⟨b,17,none⟩=some (.int .i64 0)/\w.cell? ⟨b,18,none⟩=some (.slice none 0 0):=
 ⟨h.cell 0,h.cell 1,h.cell 2,h.cell 3,h.cell 4,h.cell 5,h.cell 6,h.cell 7,h.cell 8,h.cell 9,h.cell 10,h.cell 11,h.cell 12,h.cell 13,h.cell 14,h.cell 15,h.cell 16,h.cell 17,h.cell 18⟩
theorem acts_cells{w:World}{b:Nat}(h:Blk w b 146 actsA):w.cell? ⟨b,1,none⟩=some (fnV 108)/\w.cell? ⟨b,2,none⟩=some (fnV 109)/\w.cell? ⟨b,4,none⟩=some (fnV 111)/\w.cell? ⟨b,11,none⟩=some (fnV 118):=
 ⟨h.cell 1,h.cell 2,h.cell 4,h.cell 11⟩
theorem read_row{o:Oper}{a:Act}{w:World}(ty:TypeId)(x:Operand)(ho:o.op=.load ty x)(g:Nat)(hx:a.eval x=.pointer (some ⟨g,0,none⟩))(t:TypeId)(cs:Array Value)(fr:Nat × Nat){d:TypeDesc}(hd:(match d with|.struct _|.array _ _=>true|_=>false)=true)(hu:Tryz.prog.underlying ty=some d)(hg:w.heap[g]?=some (.cells cs t fr))(hi:(Tryz.prog.info? ty).map (·.size)=some cs.size):IsVal (.agg cs) w ((execOp a.eval o).run Tryz.prog w):=by
 unfold execOp
 have H:=run_loadVar_row w g t ty cs fr d hg hu (by cases d<;>exact hd) hi
 simp only[ho,hx,Instr.loadAt,Instr.sureAddr,Sem.run_bind,Sem.run_pure,Result.andThen_ok,H]
 exact⟨rfl,rfl⟩
def S3(b0 b1 b2:Nat)(A:Array Value)(w:World):Prop:=Blk w b0 81 A/\Blk w b2 146 actsA/\Blk w b1 77 (resC 0 0 false 0)
theorem S3.alloc{b0 b1 b2:Nat}{A:Array Value}{w:World}(h:S3 b0 b1 b2 A w)(o:Obj):S3 b0 b1 b2 A (w.alloc o):=⟨h.1.alloc o,h.2.1.alloc o,h.2.2.alloc o⟩
theorem S3.row{b0 b1 b2 r:Nat}{A cs:Array Value}{w:World}(h:S3 b0 b1 b2 A w)(h0:b0≠r)(h2:b2≠r)(h1:b1≠r):S3 b0 b1 b2 A (w.setRow r cs):=⟨(setRow_other _ _ _ _ h0).trans h.1,(setRow_other _ _ _ _ h2).trans h.2.1,(setRow_other _ _ _ _ h1).trans h.2.2⟩
theorem S3.touch{b0 b1 b2:Nat}{A:Array Value}{H:Ft}{w w1:World}(h:S3 b0 b1 b2 A w)(ht:Touch H w w1)(h0:¬H b0)(h2:¬H b2)(h1:¬H b1):S3 b0 b1 b2 A w1:=⟨(ht.block _ h.1.lt h0).trans h.1,(ht.block _ h.2.1.lt h2).trans h.2.1,(ht.block _ h.2.2.lt h1).trans h.2.2⟩
theorem S3.low{b0 b1 b2:Nat}{A:Array Value}{w:World}(h:S3 b0 b1 b2 A w):b0<w.heap.size/\b2<w.heap.size/\b1<w.heap.size:=⟨h.1.lt,h.2.1.lt,h.2.2.lt⟩
section
variable {sb : Nat}
def DoR(R:World->World->Prop)(w w':World):Prop:=∃wc,Below w.heap.size w wc/\R wc w'
theorem sdo_any{kd k sk q v n num den er val led:Int}{vag ok:Bool}{mf:Nat}{px:Value}{H:Ft}{R:World->World->Prop}(w:World)
 (hkm:(kd=1/\mf=108)\/(kd=2/\mf=109)\/(kd=4/\mf=111)\/(kd=11/\mf=118))
 (hf:∀w1,Below w.heap.size w w1->Calls Tryz.prog 66 #[.pointer (some ⟨sb,0,none⟩),.int .u32 k] w1 fun e w'=>e=.returned (.tuple #[px,.bool ok])/\w1=w') (hok:ok=true\/kd=1)
 (hH:∀j,H j->j<w.heap.size)
 (hM:∀wc,Below w.heap.size w wc->Calls Tryz.prog mf #[.pointer (some ⟨sb,0,none⟩),px,.agg (actC kd k sk q v n num den)] wc fun e w'=>e=.returned (.agg (resC er val vag led))/\R wc w'/\Touch H wc w')
 (her:er≠0->val=0/\vag=false/\led=0)
 (hRB:∀wc w1 w2,Below w.heap.size w wc->R wc w1->Below w1.heap.size w1 w2->R wc w2)
 (hRR:∀wc w1 b cs,Below w.heap.size w wc->R wc w1->w.heap.size<=b->b<wc.heap.size->R wc (w1.setRow b cs)) :
 Calls Tryz.prog 29 #[.pointer (some ⟨sb,0,none⟩),.agg (actC kd k sk q v n num den)] w fun e w'=>e=.returned (.agg (resC er val vag led))/\DoR R w w':=by
 obtain⟨wa,b0,b1,hwa,A⟩:∃wa b0 b1,(w.alloc (.cells (actC kd k sk q v n num den) 81)).alloc (.cells (resC 0 0 false 0) 77)=wa/\ActAt w wa b0 b1 (actC kd k sk q v n num den):=⟨_,_,_,rfl,act_at w _⟩
 have HA:=Lib.hid A
 have HF:=Lib.hid hf
 have HH:=Lib.hid hH
 have HM:=Lib.hid hM
 have HER:=Lib.hid her
 have HRB:=Lib.hid hRB
 have HRR:=Lib.hid hRR
 have e0:=A.e0
 have e1:=A.e1
 have c0:=A.ba.cell 0
 have c1:=A.ba.cell 1
 unfold actC at hwa c0 c1
 unfold resC at hwa
 simp only[List.getElem?_toArray,List.getElem?_cons_zero,List.getElem?_cons_succ] at c0 c1
 clear A hf hH hM her hRB hRR
 have CA:=Lib.hid (acts_any wa)
 have HK:=Lib.hid hkm
 have k1:¬kd<1:=by omega
 have k2:¬kd > 11:=by omega
 rw[show(Value.agg (actC kd k sk q v n num den))=.agg #[.int .u8 kd,.int .u32 k,.int .u32 0,.int .u8 sk,.int .i64 0,.int .i64 0,.int .i64 0,.bool false,.int .i64 0,.int .i64 q,.int .i64 v,.int .u64 n,.int .u64 num,.int .u64 den,.slice none 0 0,.slice none 0 0,.int .i64 0,.int .i64 0,.slice none 0 0] from rfl]
 clear hkm
 go_enter Tryz.func29,Tryz.ntmps29
 go_upto_region 1 with fail
 rw[<-e1,<-e0]
 have E0:=Lib.hid (And.intro e0 e1)
 clear hwa e0 e1
 go_wp2_with fail
 refine(CA.out).mono ?_
 rintro e w2 ⟨rfl,hb2⟩
 have HB2:=Lib.hid hb2
 clear hb2 CA c0 c1
 unfold actsA aloneA
 go_upto_region 4 with fail
 obtain⟨wd,b2,hwd,D0,D1,DB,hd2⟩:∃wd b2,(w2.alloc (.cells actsA 146)).alloc (.cells aloneA 147)=wd/\Blk wd b2 146 actsA/\Blk wd (b2+1) 147 aloneA/\Below w2.heap.size w2 wd/\b2=w2.heap.size:=by
  have h:=Blk.new (w2.alloc (.cells actsA 146)) 147 aloneA
  rw[World.size_alloc] at h
  exact⟨_,_,rfl,(Blk.new w2 _ _).alloc _,h,((Below.refl _ _).alloc (Nat.le_refl _) _).alloc (by rw[World.size_alloc];omega) _,rfl⟩
 unfold actsA aloneA at hwd
 rw[hwd,<-hd2]
 have HWD:Hid (Below w.heap.size w wd):=Lib.hid (HA.out.bel.trans ((HB2.out.trans (DB.mono HB2.out.size)).mono HA.out.bel.size))
 have HBA:Hid (Blk wd b0 81 (actC kd k sk q v n num den)):=Lib.hid ((HA.out.ba.keep HB2.out).keep DB)
 have HBB:Hid (Blk wd b1 77 (resC 0 0 false 0)):=Lib.hid ((HA.out.bb.keep HB2.out).keep DB)
 have HD0:=Lib.hid D0
 have HD1:=Lib.hid D1
 have HFD:=Lib.hid (HF.out wd HWD.out)
 have c1:=(act_cells HBA.out).2.1
 have hb2w:Hid (wa.heap.size<=b2):=Lib.hid (by rw[hd2];exact HB2.out.size)
 clear hwd hd2 D0 D1 DB HB2
 go_wp2_with fail
 refine(HFD.out).mono ?_
 rintro e w3 ⟨rfl,hw3⟩
 subst hw3
 clear c1 HFD
 go_upto_region 5 with fail
 go_cut [38] (fun x wx=>x=.bool false/\wd=wx)
 case first=>
  cases ok with
  | true=>
   go_wp2_with fail
   go_meet
   exact⟨rfl,rfl⟩
  | false=>
   obtain rfl:kd=1:=by rcases hok with h|h;cases h;exact h
   have c0:=(act_cells HBA.out).1
   have d1:wd.cell? ⟨b2+1,1,none⟩=some (.bool true):=HD1.out.cell 1
   go_wp2_with fail
   go_meet
   exact⟨rfl,rfl⟩
 case rest=>
 obtain⟨rfl,hwx⟩:=hcut
 subst hwx
 clear hok HF
 go_upto_region 7 with fail
 rcases HK.out with⟨rfl,rfl⟩|⟨rfl,rfl⟩|⟨rfl,rfl⟩|⟨rfl,rfl⟩
 ·go_cut [9] (fun x wx=>∃(r9:Nat) (wc:World),x=.pointer (some ⟨r9,0,none⟩)/\Hid (Below w.heap.size w wc)/\Hid (R wc wx)/\Hid (Blk wx r9 77 (resC er val vag led))/\Hid (Blk wx b1 77 (resC 0 0 false 0)/\b1<wc.heap.size))
  case first=>
   have S0:S3 b0 b1 b2 (actC 1 k sk q v n num den) wd.drew:=⟨HBA.out,HD0.out,HBB.out⟩
   have hw0:Below w.heap.size w wd.drew:=HWD.out.drew
   have hw8:Below w.heap.size w (wd.drew.alloc (.cells #[.int .i64 0,.int .i64 0,.bool false,.int .u64 0,.int .u64 0,.int .u64 0,.int .u64 0,.slice none 0 0] 77)):=hw0.alloc hw0.size _
   have S8:=S0.alloc (.cells #[.int .i64 0,.int .i64 0,.bool false,.int .u64 0,.int .u64 0,.int .u64 0,.int .u64 0,.slice none 0 0] 77)
   have n0:¬H b0:=fun e=>by have:=HH.out b0 e;have:=E0.out;omega
   have n1:¬H b1:=fun e=>by have:=HH.out b1 e;have:=E0.out;omega
   have n2:¬H b2:=fun e=>by have:=HH.out b2 e;have:=hb2w.out;have:=HA.out.sz;omega
   have CM0:=Lib.hid (HM.out wd.drew hw0)
   have CM8:=Lib.hid (HM.out _ hw8)
   refine wp_region_tree (fun w'=>S3 b0 b1 b2 (actC 1 k sk q v n num den) w') (.rd 0 (.rd 1 (.rd 2 (.rd 3 (.rd 4 (.rd 5 (.rd 6 (.two 7 8 (.ef 8 (.ef 9 .nil)) (.ef 7 (.ef 9 .nil)))))))))) (by kernel_rfl) (by kernel_rfl) (S0) ?_
   iterate 6
    refine wpTr_read (by rfl) (by rfl) (fun R hR=>?_)
    apply Exists.intro
    refine⟨fun w' hS'=>?_,?_⟩
    ·obtain⟨a0,a1,a2,a3,a4,a5,a6,a7,a8,a9,a10,a11,a12,a13,a14,a15,a16,a17,a18⟩:=act_cells hS'.1;obtain⟨f1,f2,f4,f11⟩:=acts_cells hS'.2.1
     go_simp
     exact⟨rfl,rfl⟩
    go_simp
    refine hR _ ?_
    clear hR R
   refine wpTr_read (by rfl) (by rfl) (fun R hR=>?_)
   refine⟨Value.agg (actC 1 k sk q v n num den),fun w' hS'=>read_row 81 (.tmp 3) rfl b0 rfl 81 (actC 1 k sk q v n num den) (0,0) (by rfl) Tryz.underlying81 hS'.1 (by kernel_rfl),?_⟩
   go_simp
   refine hR _ ?_
   clear hR R
   refine wpTr_two (by rfl) (by rfl) (by rfl) (by rfl) (fun K hK=>?_) (fun K hK=>?_)
   go_simp
   refine(CM0.out).mono ?_
   rintro e w5 ⟨rfl,hR,hT⟩
   have SB:=S0.touch hT n0 n2 n1
   have HRX:=Lib.hid hR
   have HTX:=Lib.hid hT.size
   refine hK _ _ (SB) ?_
   clear hK K
   refine wpTr_do (by rfl) (by rfl) (fun K hK=>?_)
   go_simp
   have SC:=SB.alloc (.cells #[.int .i64 0,.int .i64 0,.bool false,.int .u64 0,.int .u64 0,.int .u64 0,.int .u64 0,.slice none 0 0] 77)
   refine hK _ _ (SC) ?_
   clear hK K
   refine wpTr_do (by rfl) (by rfl) (fun K hK=>?_)
   have hold5:(w5.alloc (.cells #[.int .i64 0,.int .i64 0,.bool false,.int .u64 0,.int .u64 0,.int .u64 0,.int .u64 0,.slice none 0 0] 77)).heap[w5.heap.size]?=some (.cells (resC 0 0 false 0) 77 (0,0)):=heap_alloc_new w5 _
   have SE:=SC.row (r:=w5.heap.size) (cs:=resC er val vag led) (by have:=SB.low;omega) (by have:=SB.low;omega) (by have:=SB.low;omega)
   refine wp_store_row 77 (.tmp 9) (.tmp 47) rfl w5.heap.size (resC er val vag led) rfl rfl 77 _ hold5 (by kernel_rfl) rfl (by simp[resC,Value.oneCell']) ?_
   refine hK _ _ (SE) ?_
   clear hK K
   refine wpTr_nil ?_
   rotate_left
   go_simp
   refine hK _ _ (S8) ?_
   clear hK K
   refine wpTr_do (by rfl) (by rfl) (fun K hK=>?_)
   go_simp
   refine(CM8.out).mono ?_
   rintro e w5 ⟨rfl,hR,hT⟩
   have SB:=S8.touch hT n0 n2 n1
   have HRX:=Lib.hid hR
   have HTX:=Lib.hid hT
   refine hK _ _ (SB) ?_
   clear hK K
   refine wpTr_do (by rfl) (by rfl) (fun K hK=>?_)
   have hold:Blk w5 wd.drew.heap.size 77 (resC 0 0 false 0):=(HTX.out.block _ (Blk.new wd.drew 77 (resC 0 0 false 0)).lt (fun e=>by have:=HH.out _ e;have:=hw0.size;omega)).trans (Blk.new wd.drew 77 (resC 0 0 false 0))
   have SE:=SB.row (r:=wd.drew.heap.size) (cs:=resC er val vag led) (by have:=S0.low;omega) (by have:=S0.low;omega) (by have:=S0.low;omega)
   refine wp_store_row 77 (.tmp 9) (.tmp 47) rfl wd.drew.heap.size (resC er val vag led) rfl rfl 77 _ hold (by kernel_rfl) rfl (by simp[resC,Value.oneCell']) ?_
   refine hK _ _ (SE) ?_
   clear hK K
   refine wpTr_nil ?_
   ·go_wp2_with fail
    go_meet
    have hl:=S0.low
    refine⟨wd.drew.heap.size,_,rfl,Lib.hid hw8,Lib.hid (HRR.out _ _ _ _ hw8 HRX.out hw0.size (by rw[World.size_alloc];exact Nat.lt_succ_self _)),Lib.hid (setRow_heap _ _ _ _ _ _ hold),Lib.hid ⟨SE.2.2,S8.2.2.lt⟩⟩
   ·go_wp2_with fail
    go_meet
    have hl:=SB.low
    refine⟨w5.heap.size,wd.drew,rfl,Lib.hid hw0,Lib.hid (HRB.out _ _ _ hw0 HRX.out (below_setRow ((Below.refl _ _).alloc (Nat.le_refl _) _) (Nat.le_refl _) _)),Lib.hid (setRow_heap _ _ _ _ _ _ (heap_alloc_new w5 (.cells #[.int .i64 0,.int .i64 0,.bool false,.int .u64 0,.int .u64 0,.int .u64 0,.int .u64 0,.slice none 0 0] 77))),Lib.hid ⟨SE.2.2,S0.2.2.lt⟩⟩
  case rest=>
   obtain⟨r9,wq,rfl,HWC,HR,HB9,HB1⟩:=hcut
   have g0:wc.cell? ⟨r9,0,none⟩=some (.int .i64 er):=HB9.out.cell 0
   have g1:wc.cell? ⟨r9,1,none⟩=some (.int .i64 val):=HB9.out.cell 1
   have g2:wc.cell? ⟨r9,2,none⟩=some (.bool vag):=HB9.out.cell 2
   have g3:wc.cell? ⟨r9,3,none⟩=some (.int .u64 led):=HB9.out.cell 3
   have g4:wc.cell? ⟨r9,4,none⟩=some (.int .u64 0):=HB9.out.cell 4
   have g5:wc.cell? ⟨r9,5,none⟩=some (.int .u64 0):=HB9.out.cell 5
   have g6:wc.cell? ⟨r9,6,none⟩=some (.int .u64 0):=HB9.out.cell 6
   have g7:wc.cell? ⟨r9,7,none⟩=some (.slice none 0 0):=HB9.out.cell 7
   have hB1:wc.heap[b1]?=some (.cells (resC 0 0 false 0) 77 (0,0)):=HB1.out.1
   have hbl:w.heap.size<=b1:=by have:=E0.out;omega
   by_cases h0:er=0
   ·subst h0
    go_upto_region 10 with fail
    go_wp2_with (refine wpList_store_row rfl 77 (.tmp 4) (.tmp 54) rfl b1 (resC 0 val vag led) rfl rfl 77 _ hB1 (by kernel_rfl) rfl (by simp[resC,Value.oneCell']) ?_)
    refine bodyPost_ret (v:=.agg (resC 0 val vag led)) (results_cell_row (p:=4) (ty:=77) (by kernel_rfl) _ _ b1 77 (resC 0 val vag led) (0,0) _ rfl (setRow_heap _ _ _ _ _ _ hB1) Tryz.underlying77 rfl (by kernel_rfl)) rfl ?_
    exact⟨rfl,wq,HWC.out,HRR.out _ _ _ _ HWC.out HR.out hbl HB1.out.2⟩
   ·obtain⟨rfl,rfl,rfl⟩:=HER.out h0
    have CF:=Lib.hid (fail_any er wc)
    unfold resV at CF
    go_upto_region 9 with fail
    go_wp2_with fail
    refine(CF.out).mono ?_
    rintro e w6 ⟨rfl,hb6⟩
    have hB6:w6.heap[b1]?=some (.cells (resC 0 0 false 0) 77 (0,0)):=Blk.keep HB1.out.1 hb6
    have HB6:=Lib.hid hb6
    clear hb6 g0 g1 g2 g3 g4 g5 g6 g7
    go_wp2_with (refine wpList_store_row rfl 77 (.tmp 4) (.tmp 53) rfl b1 (resC er 0 false 0) rfl rfl 77 _ hB6 (by kernel_rfl) rfl (by simp[resC,Value.oneCell']) ?_)
    refine bodyPost_ret (v:=.agg (resC er 0 false 0)) (results_cell_row (p:=4) (ty:=77) (by kernel_rfl) _ _ b1 77 (resC er 0 false 0) (0,0) _ rfl (setRow_heap _ _ _ _ _ _ hB6) Tryz.underlying77 rfl (by kernel_rfl)) rfl ?_
    exact⟨rfl,wq,HWC.out,HRR.out _ _ _ _ HWC.out (HRB.out _ _ _ HWC.out HR.out HB6.out) hbl HB1.out.2⟩
 ·go_cut [9] (fun x wx=>∃(r9:Nat) (wc:World),x=.pointer (some ⟨r9,0,none⟩)/\Hid (Below w.heap.size w wc)/\Hid (R wc wx)/\Hid (Blk wx r9 77 (resC er val vag led))/\Hid (Blk wx b1 77 (resC 0 0 false 0)/\b1<wc.heap.size))
  case first=>
   have S0:S3 b0 b1 b2 (actC 2 k sk q v n num den) wd.drew:=⟨HBA.out,HD0.out,HBB.out⟩
   have hw0:Below w.heap.size w wd.drew:=HWD.out.drew
   have hw8:Below w.heap.size w (wd.drew.alloc (.cells #[.int .i64 0,.int .i64 0,.bool false,.int .u64 0,.int .u64 0,.int .u64 0,.int .u64 0,.slice none 0 0] 77)):=hw0.alloc hw0.size _
   have S8:=S0.alloc (.cells #[.int .i64 0,.int .i64 0,.bool false,.int .u64 0,.int .u64 0,.int .u64 0,.int .u64 0,.slice none 0 0] 77)
   have n0:¬H b0:=fun e=>by have:=HH.out b0 e;have:=E0.out;omega
   have n1:¬H b1:=fun e=>by have:=HH.out b1 e;have:=E0.out;omega
   have n2:¬H b2:=fun e=>by have:=HH.out b2 e;have:=hb2w.out;have:=HA.out.sz;omega
   have CM0:=Lib.hid (HM.out wd.drew hw0)
   have CM8:=Lib.hid (HM.out _ hw8)
   refine wp_region_tree (fun w'=>S3 b0 b1 b2 (actC 2 k sk q v n num den) w') (.rd 0 (.rd 1 (.rd 2 (.rd 3 (.rd 4 (.rd 5 (.rd 6 (.two 7 8 (.ef 8 (.ef 9 .nil)) (.ef 7 (.ef 9 .nil)))))))))) (by kernel_rfl) (by kernel_rfl) (S0) ?_
   iterate 6
    refine wpTr_read (by rfl) (by rfl) (fun R hR=>?_)
    apply Exists.intro
    refine⟨fun w' hS'=>?_,?_⟩
    ·obtain⟨a0,a1,a2,a3,a4,a5,a6,a7,a8,a9,a10,a11,a12,a13,a14,a15,a16,a17,a18⟩:=act_cells hS'.1;obtain⟨f1,f2,f4,f11⟩:=acts_cells hS'.2.1
     go_simp
     exact⟨rfl,rfl⟩
    go_simp
    refine hR _ ?_
    clear hR R
   refine wpTr_read (by rfl) (by rfl) (fun R hR=>?_)
   refine⟨Value.agg (actC 2 k sk q v n num den),fun w' hS'=>read_row 81 (.tmp 3) rfl b0 rfl 81 (actC 2 k sk q v n num den) (0,0) (by rfl) Tryz.underlying81 hS'.1 (by kernel_rfl),?_⟩
   go_simp
   refine hR _ ?_
   clear hR R
   refine wpTr_two (by rfl) (by rfl) (by rfl) (by rfl) (fun K hK=>?_) (fun K hK=>?_)
   go_simp
   refine(CM0.out).mono ?_
   rintro e w5 ⟨rfl,hR,hT⟩
   have SB:=S0.touch hT n0 n2 n1
   have HRX:=Lib.hid hR
   have HTX:=Lib.hid hT.size
   refine hK _ _ (SB) ?_
   clear hK K
   refine wpTr_do (by rfl) (by rfl) (fun K hK=>?_)
   go_simp
   have SC:=SB.alloc (.cells #[.int .i64 0,.int .i64 0,.bool false,.int .u64 0,.int .u64 0,.int .u64 0,.int .u64 0,.slice none 0 0] 77)
   refine hK _ _ (SC) ?_
   clear hK K
   refine wpTr_do (by rfl) (by rfl) (fun K hK=>?_)
   have hold5:(w5.alloc (.cells #[.int .i64 0,.int .i64 0,.bool false,.int .u64 0,.int .u64 0,.int .u64 0,.int .u64 0,.slice none 0 0] 77)).heap[w5.heap.size]?=some (.cells (resC 0 0 false 0) 77 (0,0)):=heap_alloc_new w5 _
   have SE:=SC.row (r:=w5.heap.size) (cs:=resC er val vag led) (by have:=SB.low;omega) (by have:=SB.low;omega) (by have:=SB.low;omega)
   refine wp_store_row 77 (.tmp 9) (.tmp 47) rfl w5.heap.size (resC er val vag led) rfl rfl 77 _ hold5 (by kernel_rfl) rfl (by simp[resC,Value.oneCell']) ?_
   refine hK _ _ (SE) ?_
   clear hK K
   refine wpTr_nil ?_
   rotate_left
   go_simp
   refine hK _ _ (S8) ?_
   clear hK K
   refine wpTr_do (by rfl) (by rfl) (fun K hK=>?_)
   go_simp
   refine(CM8.out).mono ?_
   rintro e w5 ⟨rfl,hR,hT⟩
   have SB:=S8.touch hT n0 n2 n1
   have HRX:=Lib.hid hR
   have HTX:=Lib.hid hT
   refine hK _ _ (SB) ?_
   clear hK K
   refine wpTr_do (by rfl) (by rfl) (fun K hK=>?_)
   have hold:Blk w5 wd.drew.heap.size 77 (resC 0 0 false 0):=(HTX.out.block _ (Blk.new wd.drew 77 (resC 0 0 false 0)).lt (fun e=>by have:=HH.out _ e;have:=hw0.size;omega)).trans (Blk.new wd.drew 77 (resC 0 0 false 0))
   have SE:=SB.row (r:=wd.drew.heap.size) (cs:=resC er val vag led) (by have:=S0.low;omega) (by have:=S0.low;omega) (by have:=S0.low;omega)
   refine wp_store_row 77 (.tmp 9) (.tmp 47) rfl wd.drew.heap.size (resC er val vag led) rfl rfl 77 _ hold (by kernel_rfl) rfl (by simp[resC,Value.oneCell']) ?_
   refine hK _ _ (SE) ?_
   clear hK K
   refine wpTr_nil ?_
   ·go_wp2_with fail
    go_meet
    have hl:=S0.low
    refine⟨wd.drew.heap.size,_,rfl,Lib.hid hw8,Lib.hid (HRR.out _ _ _ _ hw8 HRX.out hw0.size (by rw[World.size_alloc];exact Nat.lt_succ_self _)),Lib.hid (setRow_heap _ _ _ _ _ _ hold),Lib.hid ⟨SE.2.2,S8.2.2.lt⟩⟩
   ·go_wp2_with fail
    go_meet
    have hl:=SB.low
    refine⟨w5.heap.size,wd.drew,rfl,Lib.hid hw0,Lib.hid (HRB.out _ _ _ hw0 HRX.out (below_setRow ((Below.refl _ _).alloc (Nat.le_refl _) _) (Nat.le_refl _) _)),Lib.hid (setRow_heap _ _ _ _ _ _ (heap_alloc_new w5 (.cells #[.int .i64 0,.int .i64 0,.bool false,.int .u64 0,.int .u64 0,.int .u64 0,.int .u64 0,.slice none 0 0] 77))),Lib.hid ⟨SE.2.2,S0.2.2.lt⟩⟩
  case rest=>
   obtain⟨r9,wq,rfl,HWC,HR,HB9,HB1⟩:=hcut
   have g0:wc.cell? ⟨r9,0,none⟩=some (.int .i64 er):=HB9.out.cell 0
   have g1:wc.cell? ⟨r9,1,none⟩=some (.int .i64 val):=HB9.out.cell 1
   have g2:wc.cell? ⟨r9,2,none⟩=some (.bool vag):=HB9.out.cell 2
   have g3:wc.cell? ⟨r9,3,none⟩=some (.int .u64 led):=HB9.out.cell 3
   have g4:wc.cell? ⟨r9,4,none⟩=some (.int .u64 0):=HB9.out.cell 4
   have g5:wc.cell? ⟨r9,5,none⟩=some (.int .u64 0):=HB9.out.cell 5
   have g6:wc.cell? ⟨r9,6,none⟩=some (.int .u64 0):=HB9.out.cell 6
   have g7:wc.cell? ⟨r9,7,none⟩=some (.slice none 0 0):=HB9.out.cell 7
   have hB1:wc.heap[b1]?=some (.cells (resC 0 0 false 0) 77 (0,0)):=HB1.out.1
   have hbl:w.heap.size<=b1:=by have:=E0.out;omega
   by_cases h0:er=0
   ·subst h0
    go_upto_region 10 with fail
    go_wp2_with (refine wpList_store_row rfl 77 (.tmp 4) (.tmp 54) rfl b1 (resC 0 val vag led) rfl rfl 77 _ hB1 (by kernel_rfl) rfl (by simp[resC,Value.oneCell']) ?_)
    refine bodyPost_ret (v:=.agg (resC 0 val vag led)) (results_cell_row (p:=4) (ty:=77) (by kernel_rfl) _ _ b1 77 (resC 0 val vag led) (0,0) _ rfl (setRow_heap _ _ _ _ _ _ hB1) Tryz.underlying77 rfl (by kernel_rfl)) rfl ?_
    exact⟨rfl,wq,HWC.out,HRR.out _ _ _ _ HWC.out HR.out hbl HB1.out.2⟩
   ·obtain⟨rfl,rfl,rfl⟩:=HER.out h0
    have CF:=Lib.hid (fail_any er wc)
    unfold resV at CF
    go_upto_region 9 with fail
    go_wp2_with fail
    refine(CF.out).mono ?_
    rintro e w6 ⟨rfl,hb6⟩
    have hB6:w6.heap[b1]?=some (.cells (resC 0 0 false 0) 77 (0,0)):=Blk.keep HB1.out.1 hb6
    have HB6:=Lib.hid hb6
    clear hb6 g0 g1 g2 g3 g4 g5 g6 g7
    go_wp2_with (refine wpList_store_row rfl 77 (.tmp 4) (.tmp 53) rfl b1 (resC er 0 false 0) rfl rfl 77 _ hB6 (by kernel_rfl) rfl (by simp[resC,Value.oneCell']) ?_)
    refine bodyPost_ret (v:=.agg (resC er 0 false 0)) (results_cell_row (p:=4) (ty:=77) (by kernel_rfl) _ _ b1 77 (resC er 0 false 0) (0,0) _ rfl (setRow_heap _ _ _ _ _ _ hB6) Tryz.underlying77 rfl (by kernel_rfl)) rfl ?_
    exact⟨rfl,wq,HWC.out,HRR.out _ _ _ _ HWC.out (HRB.out _ _ _ HWC.out HR.out HB6.out) hbl HB1.out.2⟩
 ·go_cut [9] (fun x wx=>∃(r9:Nat) (wc:World),x=.pointer (some ⟨r9,0,none⟩)/\Hid (Below w.heap.size w wc)/\Hid (R wc wx)/\Hid (Blk wx r9 77 (resC er val vag led))/\Hid (Blk wx b1 77 (resC 0 0 false 0)/\b1<wc.heap.size))
  case first=>
   have S0:S3 b0 b1 b2 (actC 4 k sk q v n num den) wd.drew:=⟨HBA.out,HD0.out,HBB.out⟩
   have hw0:Below w.heap.size w wd.drew:=HWD.out.drew
   have hw8:Below w.heap.size w (wd.drew.alloc (.cells #[.int .i64 0,.int .i64 0,.bool false,.int .u64 0,.int .u64 0,.int .u64 0,.int .u64 0,.slice none 0 0] 77)):=hw0.alloc hw0.size _
   have S8:=S0.alloc (.cells #[.int .i64 0,.int .i64 0,.bool false,.int .u64 0,.int .u64 0,.int .u64 0,.int .u64 0,.slice none 0 0] 77)
   have n0:¬H b0:=fun e=>by have:=HH.out b0 e;have:=E0.out;omega
   have n1:¬H b1:=fun e=>by have:=HH.out b1 e;have:=E0.out;omega
   have n2:¬H b2:=fun e=>by have:=HH.out b2 e;have:=hb2w.out;have:=HA.out.sz;omega
   have CM0:=Lib.hid (HM.out wd.drew hw0)
   have CM8:=Lib.hid (HM.out _ hw8)
   refine wp_region_tree (fun w'=>S3 b0 b1 b2 (actC 4 k sk q v n num den) w') (.rd 0 (.rd 1 (.rd 2 (.rd 3 (.rd 4 (.rd 5 (.rd 6 (.two 7 8 (.ef 8 (.ef 9 .nil)) (.ef 7 (.ef 9 .nil)))))))))) (by kernel_rfl) (by kernel_rfl) (S0) ?_
   iterate 6
    refine wpTr_read (by rfl) (by rfl) (fun R hR=>?_)
    apply Exists.intro
    refine⟨fun w' hS'=>?_,?_⟩
    ·obtain⟨a0,a1,a2,a3,a4,a5,a6,a7,a8,a9,a10,a11,a12,a13,a14,a15,a16,a17,a18⟩:=act_cells hS'.1;obtain⟨f1,f2,f4,f11⟩:=acts_cells hS'.2.1
     go_simp
     exact⟨rfl,rfl⟩
    go_simp
    refine hR _ ?_
    clear hR R
   refine wpTr_read (by rfl) (by rfl) (fun R hR=>?_)
   refine⟨Value.agg (actC 4 k sk q v n num den),fun w' hS'=>read_row 81 (.tmp 3) rfl b0 rfl 81 (actC 4 k sk q v n num den) (0,0) (by rfl) Tryz.underlying81 hS'.1 (by kernel_rfl),?_⟩
   go_simp
   refine hR _ ?_
   clear hR R
   refine wpTr_two (by rfl) (by rfl) (by rfl) (by rfl) (fun K hK=>?_) (fun K hK=>?_)
   go_simp
   refine(CM0.out).mono ?_
   rintro e w5 ⟨rfl,hR,hT⟩
   have SB:=S0.touch hT n0 n2 n1
   have HRX:=Lib.hid hR
   have HTX:=Lib.hid hT.size
   refine hK _ _ (SB) ?_
   clear hK K
   refine wpTr_do (by rfl) (by rfl) (fun K hK=>?_)
   go_simp
   have SC:=SB.alloc (.cells #[.int .i64 0,.int .i64 0,.bool false,.int .u64 0,.int .u64 0,.int .u64 0,.int .u64 0,.slice none 0 0] 77)
   refine hK _ _ (SC) ?_
   clear hK K
   refine wpTr_do (by rfl) (by rfl) (fun K hK=>?_)
   have hold5:(w5.alloc (.cells #[.int .i64 0,.int .i64 0,.bool false,.int .u64 0,.int .u64 0,.int .u64 0,.int .u64 0,.slice none 0 0] 77)).heap[w5.heap.size]?=some (.cells (resC 0 0 false 0) 77 (0,0)):=heap_alloc_new w5 _
   have SE:=SC.row (r:=w5.heap.size) (cs:=resC er val vag led) (by have:=SB.low;omega) (by have:=SB.low;omega) (by have:=SB.low;omega)
   refine wp_store_row 77 (.tmp 9) (.tmp 47) rfl w5.heap.size (resC er val vag led) rfl rfl 77 _ hold5 (by kernel_rfl) rfl (by simp[resC,Value.oneCell']) ?_
   refine hK _ _ (SE) ?_
   clear hK K
   refine wpTr_nil ?_
   rotate_left
   go_simp
   refine hK _ _ (S8) ?_
   clear hK K
   refine wpTr_do (by rfl) (by rfl) (fun K hK=>?_)
   go_simp
   refine(CM8.out).mono ?_
   rintro e w5 ⟨rfl,hR,hT⟩
   have SB:=S8.touch hT n0 n2 n1
   have HRX:=Lib.hid hR
   have HTX:=Lib.hid hT
   refine hK _ _ (SB) ?_
   clear hK K
   refine wpTr_do (by rfl) (by rfl) (fun K hK=>?_)
   have hold:Blk w5 wd.drew.heap.size 77 (resC 0 0 false 0):=(HTX.out.block _ (Blk.new wd.drew 77 (resC 0 0 false 0)).lt (fun e=>by have:=HH.out _ e;have:=hw0.size;omega)).trans (Blk.new wd.drew 77 (resC 0 0 false 0))
   have SE:=SB.row (r:=wd.drew.heap.size) (cs:=resC er val vag led) (by have:=S0.low;omega) (by have:=S0.low;omega) (by have:=S0.low;omega)
   refine wp_store_row 77 (.tmp 9) (.tmp 47) rfl wd.drew.heap.size (resC er val vag led) rfl rfl 77 _ hold (by kernel_rfl) rfl (by simp[resC,Value.oneCell']) ?_
   refine hK _ _ (SE) ?_
   clear hK K
   refine wpTr_nil ?_
   ·go_wp2_with fail
    go_meet
    have hl:=S0.low
    refine⟨wd.drew.heap.size,_,rfl,Lib.hid hw8,Lib.hid (HRR.out _ _ _ _ hw8 HRX.out hw0.size (by rw[World.size_alloc];exact Nat.lt_succ_self _)),Lib.hid (setRow_heap _ _ _ _ _ _ hold),Lib.hid ⟨SE.2.2,S8.2.2.lt⟩⟩
   ·go_wp2_with fail
    go_meet
    have hl:=SB.low
    refine⟨w5.heap.size,wd.drew,rfl,Lib.hid hw0,Lib.hid (HRB.out _ _ _ hw0 HRX.out (below_setRow ((Below.refl _ _).alloc (Nat.le_refl _) _) (Nat.le_refl _) _)),Lib.hid (setRow_heap _ _ _ _ _ _ (heap_alloc_new w5 (.cells #[.int .i64 0,.int .i64 0,.bool false,.int .u64 0,.int .u64 0,.int .u64 0,.int .u64 0,.slice none 0 0] 77))),Lib.hid ⟨SE.2.2,S0.2.2.lt⟩⟩
  case rest=>
   obtain⟨r9,wq,rfl,HWC,HR,HB9,HB1⟩:=hcut
   have g0:wc.cell? ⟨r9,0,none⟩=some (.int .i64 er):=HB9.out.cell 0
   have g1:wc.cell? ⟨r9,1,none⟩=some (.int .i64 val):=HB9.out.cell 1
   have g2:wc.cell? ⟨r9,2,none⟩=some (.bool vag):=HB9.out.cell 2
   have g3:wc.cell? ⟨r9,3,none⟩=some (.int .u64 led):=HB9.out.cell 3
   have g4:wc.cell? ⟨r9,4,none⟩=some (.int .u64 0):=HB9.out.cell 4
   have g5:wc.cell? ⟨r9,5,none⟩=some (.int .u64 0):=HB9.out.cell 5
   have g6:wc.cell? ⟨r9,6,none⟩=some (.int .u64 0):=HB9.out.cell 6
   have g7:wc.cell? ⟨r9,7,none⟩=some (.slice none 0 0):=HB9.out.cell 7
   have hB1:wc.heap[b1]?=some (.cells (resC 0 0 false 0) 77 (0,0)):=HB1.out.1
   have hbl:w.heap.size<=b1:=by have:=E0.out;omega
   by_cases h0:er=0
   ·subst h0
    go_upto_region 10 with fail
    go_wp2_with (refine wpList_store_row rfl 77 (.tmp 4) (.tmp 54) rfl b1 (resC 0 val vag led) rfl rfl 77 _ hB1 (by kernel_rfl) rfl (by simp[resC,Value.oneCell']) ?_)
    refine bodyPost_ret (v:=.agg (resC 0 val vag led)) (results_cell_row (p:=4) (ty:=77) (by kernel_rfl) _ _ b1 77 (resC 0 val vag led) (0,0) _ rfl (setRow_heap _ _ _ _ _ _ hB1) Tryz.underlying77 rfl (by kernel_rfl)) rfl ?_
    exact⟨rfl,wq,HWC.out,HRR.out _ _ _ _ HWC.out HR.out hbl HB1.out.2⟩
   ·obtain⟨rfl,rfl,rfl⟩:=HER.out h0
    have CF:=Lib.hid (fail_any er wc)
    unfold resV at CF
    go_upto_region 9 with fail
    go_wp2_with fail
    refine(CF.out).mono ?_
    rintro e w6 ⟨rfl,hb6⟩
    have hB6:w6.heap[b1]?=some (.cells (resC 0 0 false 0) 77 (0,0)):=Blk.keep HB1.out.1 hb6
    have HB6:=Lib.hid hb6
    clear hb6 g0 g1 g2 g3 g4 g5 g6 g7
    go_wp2_with (refine wpList_store_row rfl 77 (.tmp 4) (.tmp 53) rfl b1 (resC er 0 false 0) rfl rfl 77 _ hB6 (by kernel_rfl) rfl (by simp[resC,Value.oneCell']) ?_)
    refine bodyPost_ret (v:=.agg (resC er 0 false 0)) (results_cell_row (p:=4) (ty:=77) (by kernel_rfl) _ _ b1 77 (resC er 0 false 0) (0,0) _ rfl (setRow_heap _ _ _ _ _ _ hB6) Tryz.underlying77 rfl (by kernel_rfl)) rfl ?_
    exact⟨rfl,wq,HWC.out,HRR.out _ _ _ _ HWC.out (HRB.out _ _ _ HWC.out HR.out HB6.out) hbl HB1.out.2⟩
 ·go_cut [9] (fun x wx=>∃(r9:Nat) (wc:World),x=.pointer (some ⟨r9,0,none⟩)/\Hid (Below w.heap.size w wc)/\Hid (R wc wx)/\Hid (Blk wx r9 77 (resC er val vag led))/\Hid (Blk wx b1 77 (resC 0 0 false 0)/\b1<wc.heap.size))
  case first=>
   have S0:S3 b0 b1 b2 (actC 11 k sk q v n num den) wd.drew:=⟨HBA.out,HD0.out,HBB.out⟩
   have hw0:Below w.heap.size w wd.drew:=HWD.out.drew
   have hw8:Below w.heap.size w (wd.drew.alloc (.cells #[.int .i64 0,.int .i64 0,.bool false,.int .u64 0,.int .u64 0,.int .u64 0,.int .u64 0,.slice none 0 0] 77)):=hw0.alloc hw0.size _
   have S8:=S0.alloc (.cells #[.int .i64 0,.int .i64 0,.bool false,.int .u64 0,.int .u64 0,.int .u64 0,.int .u64 0,.slice none 0 0] 77)
   have n0:¬H b0:=fun e=>by have:=HH.out b0 e;have:=E0.out;omega
   have n1:¬H b1:=fun e=>by have:=HH.out b1 e;have:=E0.out;omega
   have n2:¬H b2:=fun e=>by have:=HH.out b2 e;have:=hb2w.out;have:=HA.out.sz;omega
   have CM0:=Lib.hid (HM.out wd.drew hw0)
   have CM8:=Lib.hid (HM.out _ hw8)
   refine wp_region_tree (fun w'=>S3 b0 b1 b2 (actC 11 k sk q v n num den) w') (.rd 0 (.rd 1 (.rd 2 (.rd 3 (.rd 4 (.rd 5 (.rd 6 (.two 7 8 (.ef 8 (.ef 9 .nil)) (.ef 7 (.ef 9 .nil)))))))))) (by kernel_rfl) (by kernel_rfl) (S0) ?_
   iterate 6
    refine wpTr_read (by rfl) (by rfl) (fun R hR=>?_)
    apply Exists.intro
    refine⟨fun w' hS'=>?_,?_⟩
    ·obtain⟨a0,a1,a2,a3,a4,a5,a6,a7,a8,a9,a10,a11,a12,a13,a14,a15,a16,a17,a18⟩:=act_cells hS'.1;obtain⟨f1,f2,f4,f11⟩:=acts_cells hS'.2.1
     go_simp
     exact⟨rfl,rfl⟩
    go_simp
    refine hR _ ?_
    clear hR R
   refine wpTr_read (by rfl) (by rfl) (fun R hR=>?_)
   refine⟨Value.agg (actC 11 k sk q v n num den),fun w' hS'=>read_row 81 (.tmp 3) rfl b0 rfl 81 (actC 11 k sk q v n num den) (0,0) (by rfl) Tryz.underlying81 hS'.1 (by kernel_rfl),?_⟩
   go_simp
   refine hR _ ?_
   clear hR R
   refine wpTr_two (by rfl) (by rfl) (by rfl) (by rfl) (fun K hK=>?_) (fun K hK=>?_)
   go_simp
   refine(CM0.out).mono ?_
   rintro e w5 ⟨rfl,hR,hT⟩
   have SB:=S0.touch hT n0 n2 n1
   have HRX:=Lib.hid hR
   have HTX:=Lib.hid hT.size
   refine hK _ _ (SB) ?_
   clear hK K
   refine wpTr_do (by rfl) (by rfl) (fun K hK=>?_)
   go_simp
   have SC:=SB.alloc (.cells #[.int .i64 0,.int .i64 0,.bool false,.int .u64 0,.int .u64 0,.int .u64 0,.int .u64 0,.slice none 0 0] 77)
   refine hK _ _ (SC) ?_
   clear hK K
   refine wpTr_do (by rfl) (by rfl) (fun K hK=>?_)
   have hold5:(w5.alloc (.cells #[.int .i64 0,.int .i64 0,.bool false,.int .u64 0,.int .u64 0,.int .u64 0,.int .u64 0,.slice none 0 0] 77)).heap[w5.heap.size]?=some (.cells (resC 0 0 false 0) 77 (0,0)):=heap_alloc_new w5 _
   have SE:=SC.row (r:=w5.heap.size) (cs:=resC er val vag led) (by have:=SB.low;omega) (by have:=SB.low;omega) (by have:=SB.low;omega)
   refine wp_store_row 77 (.tmp 9) (.tmp 47) rfl w5.heap.size (resC er val vag led) rfl rfl 77 _ hold5 (by kernel_rfl) rfl (by simp[resC,Value.oneCell']) ?_
   refine hK _ _ (SE) ?_
   clear hK K
   refine wpTr_nil ?_
   rotate_left
   go_simp
   refine hK _ _ (S8) ?_
   clear hK K
   refine wpTr_do (by rfl) (by rfl) (fun K hK=>?_)
   go_simp
   refine(CM8.out).mono ?_
   rintro e w5 ⟨rfl,hR,hT⟩
   have SB:=S8.touch hT n0 n2 n1
   have HRX:=Lib.hid hR
   have HTX:=Lib.hid hT
   refine hK _ _ (SB) ?_
   clear hK K
   refine wpTr_do (by rfl) (by rfl) (fun K hK=>?_)
   have hold:Blk w5 wd.drew.heap.size 77 (resC 0 0 false 0):=(HTX.out.block _ (Blk.new wd.drew 77 (resC 0 0 false 0)).lt (fun e=>by have:=HH.out _ e;have:=hw0.size;omega)).trans (Blk.new wd.drew 77 (resC 0 0 false 0))
   have SE:=SB.row (r:=wd.drew.heap.size) (cs:=resC er val vag led) (by have:=S0.low;omega) (by have:=S0.low;omega) (by have:=S0.low;omega)
   refine wp_store_row 77 (.tmp 9) (.tmp 47) rfl wd.drew.heap.size (resC er val vag led) rfl rfl 77 _ hold (by kernel_rfl) rfl (by simp[resC,Value.oneCell']) ?_
   refine hK _ _ (SE) ?_
   clear hK K
   refine wpTr_nil ?_
   ·go_wp2_with fail
    go_meet
    have hl:=S0.low
    refine⟨wd.drew.heap.size,_,rfl,Lib.hid hw8,Lib.hid (HRR.out _ _ _ _ hw8 HRX.out hw0.size (by rw[World.size_alloc];exact Nat.lt_succ_self _)),Lib.hid (setRow_heap _ _ _ _ _ _ hold),Lib.hid ⟨SE.2.2,S8.2.2.lt⟩⟩
   ·go_wp2_with fail
    go_meet
    have hl:=SB.low
    refine⟨w5.heap.size,wd.drew,rfl,Lib.hid hw0,Lib.hid (HRB.out _ _ _ hw0 HRX.out (below_setRow ((Below.refl _ _).alloc (Nat.le_refl _) _) (Nat.le_refl _) _)),Lib.hid (setRow_heap _ _ _ _ _ _ (heap_alloc_new w5 (.cells #[.int .i64 0,.int .i64 0,.bool false,.int .u64 0,.int .u64 0,.int .u64 0,.int .u64 0,.slice none 0 0] 77))),Lib.hid ⟨SE.2.2,S0.2.2.lt⟩⟩
  case rest=>
   obtain⟨r9,wq,rfl,HWC,HR,HB9,HB1⟩:=hcut
   have g0:wc.cell? ⟨r9,0,none⟩=some (.int .i64 er):=HB9.out.cell 0
   have g1:wc.cell? ⟨r9,1,none⟩=some (.int .i64 val):=HB9.out.cell 1
   have g2:wc.cell? ⟨r9,2,none⟩=some (.bool vag):=HB9.out.cell 2
   have g3:wc.cell? ⟨r9,3,none⟩=some (.int .u64 led):=HB9.out.cell 3
   have g4:wc.cell? ⟨r9,4,none⟩=some (.int .u64 0):=HB9.out.cell 4
   have g5:wc.cell? ⟨r9,5,none⟩=some (.int .u64 0):=HB9.out.cell 5
   have g6:wc.cell? ⟨r9,6,none⟩=some (.int .u64 0):=HB9.out.cell 6
   have g7:wc.cell? ⟨r9,7,none⟩=some (.slice none 0 0):=HB9.out.cell 7
   have hB1:wc.heap[b1]?=some (.cells (resC 0 0 false 0) 77 (0,0)):=HB1.out.1
   have hbl:w.heap.size<=b1:=by have:=E0.out;omega
   by_cases h0:er=0
   ·subst h0
    go_upto_region 10 with fail
    go_wp2_with (refine wpList_store_row rfl 77 (.tmp 4) (.tmp 54) rfl b1 (resC 0 val vag led) rfl rfl 77 _ hB1 (by kernel_rfl) rfl (by simp[resC,Value.oneCell']) ?_)
    refine bodyPost_ret (v:=.agg (resC 0 val vag led)) (results_cell_row (p:=4) (ty:=77) (by kernel_rfl) _ _ b1 77 (resC 0 val vag led) (0,0) _ rfl (setRow_heap _ _ _ _ _ _ hB1) Tryz.underlying77 rfl (by kernel_rfl)) rfl ?_
    exact⟨rfl,wq,HWC.out,HRR.out _ _ _ _ HWC.out HR.out hbl HB1.out.2⟩
   ·obtain⟨rfl,rfl,rfl⟩:=HER.out h0
    have CF:=Lib.hid (fail_any er wc)
    unfold resV at CF
    go_upto_region 9 with fail
    go_wp2_with fail
    refine(CF.out).mono ?_
    rintro e w6 ⟨rfl,hb6⟩
    have hB6:w6.heap[b1]?=some (.cells (resC 0 0 false 0) 77 (0,0)):=Blk.keep HB1.out.1 hb6
    have HB6:=Lib.hid hb6
    clear hb6 g0 g1 g2 g3 g4 g5 g6 g7
    go_wp2_with (refine wpList_store_row rfl 77 (.tmp 4) (.tmp 53) rfl b1 (resC er 0 false 0) rfl rfl 77 _ hB6 (by kernel_rfl) rfl (by simp[resC,Value.oneCell']) ?_)
    refine bodyPost_ret (v:=.agg (resC er 0 false 0)) (results_cell_row (p:=4) (ty:=77) (by kernel_rfl) _ _ b1 77 (resC er 0 false 0) (0,0) _ rfl (setRow_heap _ _ _ _ _ _ hB6) Tryz.underlying77 rfl (by kernel_rfl)) rfl ?_
    exact⟨rfl,wq,HWC.out,HRR.out _ _ _ _ HWC.out (HRB.out _ _ _ HWC.out HR.out HB6.out) hbl HB1.out.2⟩
end
end Go.Proofs.YtilcnjbpmoijmaaGreat.D
