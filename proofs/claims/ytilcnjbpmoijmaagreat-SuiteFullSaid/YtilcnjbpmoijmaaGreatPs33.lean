/- Parts of a proof: what its theorem reaches, words cut short. No condition of its own. -/
import Derived.Test.YtilcnjbpmoijmaaGreatPs32
set_option maxRecDepth 100000
set_option maxHeartbeats 16000000
set_option linter.unusedVariables false
set_option linter.unusedSimpArgs false
namespace Go.Proofs.YtilcnjbpmoijmaaGreat.D
open Go.RowKit Go.Lib
section
variable {sb sz : Nat} {m : Int -> Option Nat} {xs : List (Option Nat)} {G : Ft}
def Aft(w wc w1 w':World):Prop:=(∀j,j<w1.heap.size->(j<w.heap.size\/wc.heap.size<=j)->w'.heap[j]?=w1.heap[j]?)/\w1.heap.size<=w'.heap.size
theorem Aft.low{w wc w1 w2 w3:World}(h:Aft w wc w1 w2)(hb:Below w2.heap.size w2 w3):Aft w wc w1 w3:=⟨fun j h1 h2=>(hb.block j (Nat.lt_of_lt_of_le h1 h.2)).trans (h.1 j h1 h2),Nat.le_trans h.2 hb.size⟩
theorem Aft.row{w wc w1 w2:World}{b:Nat}{cs:Array Value}(h:Aft w wc w1 w2)(h0:w.heap.size<=b)(h1:b<wc.heap.size):Aft w wc w1 (w2.setRow b cs):=⟨fun j g1 g2=>(setRow_other _ _ _ _ (fun e=>by omega)).trans (h.1 j g1 g2),by rw[setRow_size];exact h.2⟩
theorem Aft.refl(w wc w1:World):Aft w wc w1 w1:=⟨fun _ _ _=>rfl,Nat.le_refl _⟩
def InP(F:Ft)(P:World->World->Prop)(w w':World):Prop:=∃wc w1,Below w.heap.size w wc/\P wc w1/\Touch F wc w1/\Aft w wc w1 w'/\Touch F w w'
theorem suin_any{k v n er:Int}{x:Nat}{F:Ft}{P:World->World->Prop}(w:World)(hF:∀j,F j->j<w.heap.size)
 (hA:∀wc cq,Below w.heap.size w wc->Calls Tryz.prog 68 #[.pointer (some ⟨x,0,none⟩),.int .i64 v,.int .u64 n,.pointer cq] wc fun e w'=>e=.returned (.int .i64 er)/\P wc w'/\Touch F wc w') :
 Calls Tryz.prog 109 #[.pointer (some ⟨sb,0,none⟩),.pointer (some ⟨x,0,none⟩),.agg (actC 2 k 0 0 v n 0 0)] w fun e w'=>e=.returned (.agg (resC er 0 false 0))/\InP F P w w':=by
 obtain⟨cs,hcs⟩:∃q',actC 2 k 0 0 v n 0 0=q':=⟨_,rfl⟩
 rw[hcs]
 obtain⟨wa,b0,b1,hwa,A⟩:∃wa b0 b1,(w.alloc (.cells cs 81)).alloc (.cells (resC 0 0 false 0) 77)=wa/\ActAt w wa b0 b1 cs:=⟨_,_,_,rfl,act_at w cs⟩
 have HA:=Lib.hid A
 have HC:=Lib.hid hA
 have HF:=Lib.hid hF
 have HCS:=Lib.hid hcs
 have e0:=A.e0
 have e1:=A.e1
 unfold resC at hwa
 clear A hA hcs hF
 go_enter Tryz.func109,Tryz.ntmps109
 go_upto_region 1 with fail
 rw[<-e1,<-e0]
 have E0:=Lib.hid (And.intro e0 e1)
 clear hwa e0 e1
 have k4:∀w',Blk w' b0 81 cs->w'.cell? ⟨b0,10,none⟩=some (.int .i64 v):=fun w' h=>by rw[h.cell 10,<-HCS.out];rfl
 have k5:∀w',Blk w' b0 81 cs->w'.cell? ⟨b0,11,none⟩=some (.int .u64 n):=fun w' h=>by rw[h.cell 11,<-HCS.out];rfl
 have k12:∀w',Blk w' b0 81 cs->w'.cell? ⟨b0,18,none⟩=some (.slice none 0 0):=fun w' h=>by rw[h.cell 18,<-HCS.out];rfl
 have K4:=Lib.hid k4
 have K5:=Lib.hid k5
 have K12:=Lib.hid k12
 clear k4 k5 k12
 have CKN:=Lib.hid (fun w=>K.knew_any (.slice none 0 0) [] w (RdE.nil_ _) (by simp[K.Byt]))
 have S0:Blk wa.drew b0 81 cs:=HA.out.ba
 have FBq:=Lib.hid (fun(w':World) (hS':Blk w' b0 81 cs)=>(And.intro (K4.out w' hS') (And.intro (K5.out w' hS') (K12.out w' hS'))))
 refine plA (fun w'=>Blk w' b0 81 cs) (plr 0 7 (ple 7 (ple 8 (ple 9 (ple 10 []))))) (S0) ?_
 iterate 7 refine plR ?_
 refine plD fun K hK=>?_
 go_simp
 refine(CKN.out wa.drew).mono ?_
 rintro e wc ⟨cg,r,v',rfl,_,_,_,_,hbc⟩
 have hbc':Below wa.heap.size wa wc:=(Below.refl _ _).drew.trans hbc
 have SC:=HA.out.ba.keep hbc'
 have HBC:=Lib.hid hbc'
 refine hK _ _ (SC) ?_
 clear hK K
 refine plD fun K hK=>?_
 go_simp
 refine(HC.out wc (some ⟨cg,0,none⟩) (HA.out.bel.trans (HBC.out.mono HA.out.bel.size))).mono ?_
 rintro e w1 ⟨rfl,hP,hT⟩
 have SD:Blk w1 b0 81 cs:=(hT.block b0 SC.lt (fun e=>by have:=HF.out b0 e;have:=E0.out;omega)).trans SC
 have HP:=Lib.hid hP
 have HT:=Lib.hid hT
 refine hK _ _ (SD) ?_
 clear hK K
 refine plD fun K hK=>?_
 go_simp
 refine(fail_any er w1).mono ?_
 rintro e w3 ⟨rfl,hb3⟩
 unfold resV
 have SE:=SD.keep hb3
 have HB3:=Lib.hid hb3
 refine hK _ _ (SE) ?_
 clear hK K
 refine plD fun K hK=>?_
 have hB1:w3.heap[b1]?=some (.cells (resC 0 0 false 0) 77 (0,0)):=(HB3.out.block b1 (Nat.lt_of_lt_of_le (HA.out.bb.keep HBC.out).lt HT.out.size)).trans ((HT.out.block b1 (HA.out.bb.keep HBC.out).lt (fun e=>by have:=HF.out b1 e;have:=E0.out;omega)).trans (HA.out.bb.keep HBC.out))
 have SF:Blk (w3.setRow b1 (resC er 0 false 0)) b0 81 cs:=(setRow_other _ _ _ _ (fun e=>by have:=E0.out;omega)).trans SE
 refine wp_store_row 77 (.tmp 6) (.tmp 16) rfl b1 (resC er 0 false 0) rfl rfl 77 _ hB1 (by kernel_rfl) rfl (by simp[resC,Value.oneCell']) ?_
 refine hK _ _ (SF) ?_
 clear hK K
 refine wpPlan_nil ?_
 go_wp2_with fail
 refine bodyPost_ret (v:=.agg (resC er 0 false 0)) (results_cell_row (p:=6) (ty:=77) (by kernel_rfl) _ _ b1 77 (resC er 0 false 0) (0,0) _ rfl (setRow_heap _ _ _ _ _ _ hB1) Tryz.underlying77 rfl (by kernel_rfl)) rfl ?_
 have hzb:=E0.out
 have hbw:=HA.out.bel.trans (HBC.out.mono HA.out.bel.size)
 have hlt:=(HA.out.bb.keep HBC.out).lt
 exact⟨rfl,wc,w1,hbw,HP.out,HT.out,((Aft.refl w wc w1).low HB3.out).row (by omega) hlt,touch_row (tbl (btl hbw HT.out) HB3.out) (.inr (by omega))⟩
end
end Go.Proofs.YtilcnjbpmoijmaaGreat.D
