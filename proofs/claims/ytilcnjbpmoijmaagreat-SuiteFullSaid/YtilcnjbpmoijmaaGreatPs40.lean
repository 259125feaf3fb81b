/- Parts of a proof: what its theorem reaches, words cut short. No condition of its own. -/
import Derived.Test.YtilcnjbpmoijmaaGreatPs39
set_option maxRecDepth 100000
set_option maxHeartbeats 16000000
set_option linter.unusedVariables false
set_option linter.unusedSimpArgs false
namespace Go.Proofs.YtilcnjbpmoijmaaGreat.D
open Go.RowKit Go.Lib Go.Maps
theorem alive28_any(w:World):Calls Tryz.prog 27 #[] w fun e w'=>e=.returned (.bool true)/\Below w.heap.size w w':=by
 have CN:=Lib.hid (su_new w)
 go_enter Tryz.func27,Tryz.ntmps27
 go_upto_region 1 with fail
 go_wp2_with fail
 refine(CN.out).mono ?_
 rintro e w1 ⟨sb,rfl,hS,hb⟩
 have HS:∃H,Hid (AS w (SuAt sb 0 (fun _=>none) []) [] H w1):=⟨_,Lib.hid ⟨hS,hb,fun j e=>by simp[Gr] at e;exact e.1,by simp⟩⟩
 clear CN hS hb
 obtain⟨H0,HS⟩:=HS
 go_upto_region 4 with fail
 go_cut [2] (fun x wx=>∃r H',x=.pointer (some ⟨r,0,none⟩)/\Hid (AS w (AlAt sb []) ((r,(resC 0 0 false 0))::[]) H' wx))
 case first=>
  have CM0:=Lib.hid ((al_create) w1 HS.out.1)
  unfold actC at CM0
  go_wp2_with fail
  refine(CM0.out).mono ?_
  rintro e w5 ⟨rfl,hL⟩
  have HL:=Lib.hid hL
  clear hL CM0
  have hold5:(w5.alloc (.cells #[.int .i64 0,.int .i64 0,.bool false,.int .u64 0,.int .u64 0,.int .u64 0,.int .u64 0,.slice none 0 0] 77)).heap[w5.heap.size]?=some (.cells (resC 0 0 false 0) 77 (0,0)):=heap_alloc_new w5 _
  go_wp2_with (refine wpList_store_row rfl 77 (.tmp 2) (.tmp 15) rfl w5.heap.size (resC 0 0 false 0) rfl rfl 77 _ hold5 (by kernel_rfl) rfl (by simp[resC,Value.oneCell']) ?_)
  go_meet
  obtain⟨H',hA,_⟩:=HS.out.left (al_stay _ _) HL.out
  exact⟨_,_,rfl,Lib.hid (hA.behind (al_stay _ _) (resC 0 0 false 0))⟩
 case rest=>
 obtain⟨r4,H4,rfl,HS4⟩:=hcut
 clear HS;have HS:=HS4;clear HS4
 go_upto_region 5 with fail
 go_cut [3] (fun x wx=>∃r H',x=.pointer (some ⟨r,0,none⟩)/\Hid (AS w (AlAt sb [[3]]) ((r,(resC 0 0 false 0))::(r4,(resC 0 0 false 0))::[]) H' wx))
 case first=>
  have CM0:=Lib.hid ((fun w h=>al_add w h (fun m i xs x F G h1 h2 h3 h4=>do_add3 (by decide) (by decide) w h1 h2 h3 h4)) wc HS.out.1)
  unfold actC at CM0
  go_wp2_with fail
  refine(CM0.out).mono ?_
  rintro e w5 ⟨rfl,hL⟩
  have HL:=Lib.hid hL
  clear hL CM0
  have hold5:(w5.alloc (.cells #[.int .i64 0,.int .i64 0,.bool false,.int .u64 0,.int .u64 0,.int .u64 0,.int .u64 0,.slice none 0 0] 77)).heap[w5.heap.size]?=some (.cells (resC 0 0 false 0) 77 (0,0)):=heap_alloc_new w5 _
  go_wp2_with (refine wpList_store_row rfl 77 (.tmp 3) (.tmp 18) rfl w5.heap.size (resC 0 0 false 0) rfl rfl 77 _ hold5 (by kernel_rfl) rfl (by simp[resC,Value.oneCell']) ?_)
  go_meet
  obtain⟨H',hA,_⟩:=HS.out.left (al_stay _ _) HL.out
  exact⟨_,_,rfl,Lib.hid (hA.behind (al_stay _ _) (resC 0 0 false 0))⟩
 case rest=>
 obtain⟨r5,H5,rfl,HS5⟩:=hcut
 clear HS;have HS:=HS5;clear HS5
 go_upto_region 6 with fail
 go_cut [4] (fun x wx=>∃r H',x=.pointer (some ⟨r,0,none⟩)/\Hid (AS w (AlAt sb [[3]]) ((r,(resC 0 3 false 0))::(r5,(resC 0 0 false 0))::(r4,(resC 0 0 false 0))::[]) H' wx))
 case first=>
  have CM0:=Lib.hid ((al_query) wc HS.out.1)
  unfold actC at CM0
  go_wp2_with fail
  refine(CM0.out).mono ?_
  rintro e w5 ⟨rfl,hL⟩
  have HL:=Lib.hid hL
  clear hL CM0
  have hold5:(w5.alloc (.cells #[.int .i64 0,.int .i64 0,.bool false,.int .u64 0,.int .u64 0,.int .u64 0,.int .u64 0,.slice none 0 0] 77)).heap[w5.heap.size]?=some (.cells (resC 0 0 false 0) 77 (0,0)):=heap_alloc_new w5 _
  go_wp2_with (refine wpList_store_row rfl 77 (.tmp 4) (.tmp 21) rfl w5.heap.size (resC 0 3 false 0) rfl rfl 77 _ hold5 (by kernel_rfl) rfl (by simp[resC,Value.oneCell']) ?_)
  go_meet
  obtain⟨H',hA,_⟩:=HS.out.left (al_stay _ _) HL.out
  exact⟨_,_,rfl,Lib.hid (hA.behind (al_stay _ _) (resC 0 0 false 0))⟩
 case rest=>
 obtain⟨r6,H6,rfl,HS6⟩:=hcut
 clear HS;have HS:=HS6;clear HS6
 go_upto_region 7 with fail
 go_cut [5] (fun x wx=>∃r H',x=.pointer (some ⟨r,0,none⟩)/\Hid (AS w (AlAt sb [[3]]) ((r,(resC 2 0 false 0))::(r6,(resC 0 3 false 0))::(r5,(resC 0 0 false 0))::(r4,(resC 0 0 false 0))::[]) H' wx))
 case first=>
  have CM0:=Lib.hid ((al_again) wc HS.out.1)
  unfold actC at CM0
  go_wp2_with fail
  refine(CM0.out).mono ?_
  rintro e w5 ⟨rfl,hL⟩
  have HL:=Lib.hid hL
  clear hL CM0
  have hold5:(w5.alloc (.cells #[.int .i64 0,.int .i64 0,.bool false,.int .u64 0,.int .u64 0,.int .u64 0,.int .u64 0,.slice none 0 0] 77)).heap[w5.heap.size]?=some (.cells (resC 0 0 false 0) 77 (0,0)):=heap_alloc_new w5 _
  go_wp2_with (refine wpList_store_row rfl 77 (.tmp 5) (.tmp 25) rfl w5.heap.size (resC 2 0 false 0) rfl rfl 77 _ hold5 (by kernel_rfl) rfl (by simp[resC,Value.oneCell']) ?_)
  go_meet
  obtain⟨H',hA,_⟩:=HS.out.left (al_stay _ _) HL.out
  exact⟨_,_,rfl,Lib.hid (hA.behind (al_stay _ _) (resC 0 0 false 0))⟩
 case rest=>
 obtain⟨r7,H7,rfl,HS7⟩:=hcut
 clear HS;have HS:=HS7;clear HS7
 go_upto_region 8 with fail
 go_cut [6] (fun x wx=>∃r H',x=.pointer (some ⟨r,0,none⟩)/\Hid (AS w (AlAt sb [[3]]) ((r,(resC 4 0 false 0))::(r7,(resC 2 0 false 0))::(r6,(resC 0 3 false 0))::(r5,(resC 0 0 false 0))::(r4,(resC 0 0 false 0))::[]) H' wx))
 case first=>
  have CM0:=Lib.hid ((fun w h=>al_add w h (fun m i xs x F G h1 h2 h3 h4=>do_add0 (by decide) (by decide) w h1 h2 h3 h4)) wc HS.out.1)
  unfold actC at CM0
  go_wp2_with fail
  refine(CM0.out).mono ?_
  rintro e w5 ⟨rfl,hL⟩
  have HL:=Lib.hid hL
  clear hL CM0
  have hold5:(w5.alloc (.cells #[.int .i64 0,.int .i64 0,.bool false,.int .u64 0,.int .u64 0,.int .u64 0,.int .u64 0,.slice none 0 0] 77)).heap[w5.heap.size]?=some (.cells (resC 0 0 false 0) 77 (0,0)):=heap_alloc_new w5 _
  go_wp2_with (refine wpList_store_row rfl 77 (.tmp 6) (.tmp 28) rfl w5.heap.size (resC 4 0 false 0) rfl rfl 77 _ hold5 (by kernel_rfl) rfl (by simp[resC,Value.oneCell']) ?_)
  go_meet
  obtain⟨H',hA,_⟩:=HS.out.left (al_stay _ _) HL.out
  exact⟨_,_,rfl,Lib.hid (hA.behind (al_stay _ _) (resC 0 0 false 0))⟩
 case rest=>
 obtain⟨r8,H8,rfl,HS8⟩:=hcut
 clear HS;have HS:=HS8;clear HS8
 go_upto_region 9 with fail
 go_cut [7] (fun x wx=>∃r H',x=.pointer (some ⟨r,0,none⟩)/\Hid (AS w (AlE sb) ((r,(resC 0 0 false 0))::(r8,(resC 4 0 false 0))::(r7,(resC 2 0 false 0))::(r6,(resC 0 3 false 0))::(r5,(resC 0 0 false 0))::(r4,(resC 0 0 false 0))::[]) H' wx))
 case first=>
  have CM0:=Lib.hid ((al_remove) wc HS.out.1)
  unfold actC at CM0
  go_wp2_with fail
  refine(CM0.out).mono ?_
  rintro e w5 ⟨rfl,hL⟩
  have HL:=Lib.hid hL
  clear hL CM0
  have hold5:(w5.alloc (.cells #[.int .i64 0,.int .i64 0,.bool false,.int .u64 0,.int .u64 0,.int .u64 0,.int .u64 0,.slice none 0 0] 77)).heap[w5.heap.size]?=some (.cells (resC 0 0 false 0) 77 (0,0)):=heap_alloc_new w5 _
  go_wp2_with (refine wpList_store_row rfl 77 (.tmp 7) (.tmp 31) rfl w5.heap.size (resC 0 0 false 0) rfl rfl 77 _ hold5 (by kernel_rfl) rfl (by simp[resC,Value.oneCell']) ?_)
  go_meet
  obtain⟨H',hA,_⟩:=HS.out.left (ale_stay _) HL.out
  exact⟨_,_,rfl,Lib.hid (hA.behind (ale_stay _) (resC 0 0 false 0))⟩
 case rest=>
 obtain⟨r9,H9,rfl,HS9⟩:=hcut
 clear HS;have HS:=HS9;clear HS9
 go_upto_region 10 with fail
 go_cut [8] (fun x wx=>∃r H',x=.pointer (some ⟨r,0,none⟩)/\Hid (AS w (AlE sb) ((r,(resC 2 0 false 0))::(r9,(resC 0 0 false 0))::(r8,(resC 4 0 false 0))::(r7,(resC 2 0 false 0))::(r6,(resC 0 3 false 0))::(r5,(resC 0 0 false 0))::(r4,(resC 0 0 false 0))::[]) H' wx))
 case first=>
  have CM0:=Lib.hid ((al_gone) wc HS.out.1)
  unfold actC at CM0
  go_wp2_with fail
  refine(CM0.out).mono ?_
  rintro e w5 ⟨rfl,hL⟩
  have HL:=Lib.hid hL
  clear hL CM0
  have hold5:(w5.alloc (.cells #[.int .i64 0,.int .i64 0,.bool false,.int .u64 0,.int .u64 0,.int .u64 0,.int .u64 0,.slice none 0 0] 77)).heap[w5.heap.size]?=some (.cells (resC 0 0 false 0) 77 (0,0)):=heap_alloc_new w5 _
  go_wp2_with (refine wpList_store_row rfl 77 (.tmp 8) (.tmp 34) rfl w5.heap.size (resC 2 0 false 0) rfl rfl 77 _ hold5 (by kernel_rfl) rfl (by simp[resC,Value.oneCell']) ?_)
  go_meet
  obtain⟨H',hA,_⟩:=HS.out.left (ale_stay _) HL.out
  exact⟨_,_,rfl,Lib.hid (hA.behind (ale_stay _) (resC 0 0 false 0))⟩
 case rest=>
 obtain⟨r10,H10,rfl,HS10⟩:=hcut
 clear HS;have HS:=HS10;clear HS10
 go_upto_region 11 with fail
 have q4:wc.cell? ⟨r4,0,none⟩=some (.int .i64 0):=(HS.out.2.2.2 (r4,(resC 0 0 false 0)) (by simp)).2.cell 0
 have q5:wc.cell? ⟨r5,0,none⟩=some (.int .i64 0):=(HS.out.2.2.2 (r5,(resC 0 0 false 0)) (by simp)).2.cell 0
 have q6:wc.cell? ⟨r6,0,none⟩=some (.int .i64 0):=(HS.out.2.2.2 (r6,(resC 0 3 false 0)) (by simp)).2.cell 0
 have q7:wc.cell? ⟨r7,0,none⟩=some (.int .i64 2):=(HS.out.2.2.2 (r7,(resC 2 0 false 0)) (by simp)).2.cell 0
 have q8:wc.cell? ⟨r8,0,none⟩=some (.int .i64 4):=(HS.out.2.2.2 (r8,(resC 4 0 false 0)) (by simp)).2.cell 0
 have q9:wc.cell? ⟨r9,0,none⟩=some (.int .i64 0):=(HS.out.2.2.2 (r9,(resC 0 0 false 0)) (by simp)).2.cell 0
 have q10:wc.cell? ⟨r10,0,none⟩=some (.int .i64 2):=(HS.out.2.2.2 (r10,(resC 2 0 false 0)) (by simp)).2.cell 0
 have q3:wc.cell? ⟨r6,1,none⟩=some (.int .i64 3):=(HS.out.2.2.2 (r6,(resC 0 3 false 0)) (by simp)).2.cell 1
 go_wp2_with fail
 go_ret
 exact⟨rfl,HS.out.2.1⟩
end Go.Proofs.YtilcnjbpmoijmaaGreat.D
