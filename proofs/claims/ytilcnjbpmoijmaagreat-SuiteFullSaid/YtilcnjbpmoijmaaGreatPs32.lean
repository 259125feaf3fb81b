/- Parts of a proof: what its theorem reaches, words cut short. No condition of its own. -/
import Derived.Test.YtilcnjbpmoijmaaGreatPs10
import Derived.Test.YtilcnjbpmoijmaaGreatPs31
set_option maxRecDepth 100000
set_option maxHeartbeats 16000000
set_option linter.unusedVariables false
set_option linter.unusedSimpArgs false
namespace Go.Proofs.YtilcnjbpmoijmaaGreat.D
open Go.RowKit Go.Lib
def actC(kd h sk sz v n num den:Int):Array Value:=#[.int .u8 kd,.int .u32 h,.int .u32 0,.int .u8 sk,.int .i64 0,.int .i64 0,.int .i64 0,.bool false,.int .i64 0,.int .i64 sz,.int .i64 v,.int .u64 n,.int .u64 num,.int .u64 den,.slice none 0 0,.slice none 0 0,.int .i64 0,.int .i64 0,.slice none 0 0]
def resC(er val:Int)(vag:Bool)(led:Int):Array Value:=#[.int .i64 er,.int .i64 val,.bool vag,.int .u64 led,.int .u64 0,.int .u64 0,.int .u64 0,.slice none 0 0]
structure ActAt(w wa:World)(b0 b1:Nat)(cs:Array Value):Prop where
 ba:Blk wa b0 81 cs
 bb:Blk wa b1 77 (resC 0 0 false 0)
 e0:b0=w.heap.size
 e1:b1=w.heap.size+1
 sz:wa.heap.size=w.heap.size+2
 bel:Below w.heap.size w wa
theorem act_at(w:World)(cs:Array Value):ActAt w ((w.alloc (.cells cs 81)).alloc (.cells (resC 0 0 false 0) 77)) w.heap.size (w.heap.size+1) cs:=by
 have h:=Blk.new (w.alloc (.cells cs 81)) 77 (resC 0 0 false 0)
 rw[World.size_alloc] at h
 exact⟨(Blk.new w _ _).alloc _,h,rfl,rfl,by rw[World.size_alloc,World.size_alloc],((Below.refl _ _).alloc (Nat.le_refl _) _).alloc (by rw[World.size_alloc];omega) _⟩
section
variable {sb sz : Nat} {m : Int -> Option Nat} {xs : List (Option Nat)} {G : Ft}
theorem su_row{w:World}{b:Nat}{cs:Array Value}(h:SuAt sb sz m xs G w)(hn:¬G b):SuAt sb sz m xs G (w.setRow b cs):=(su_stay sb sz m xs).stay h (fun k hk=>setRow_other _ _ _ _ (fun e=>hn (e▸hk))) (by rw[setRow_size];exact Nat.le_refl _)
theorem ks_row{q x b:Nat}{L:K.LL}{F:Ft}{w:World}{cs:Array Value}(h:KsAt q L x F w)(hn:¬F b):KsAt q L x F (w.setRow b cs):=h.stay (fun k hk=>setRow_other _ _ _ _ (fun e=>hn (e▸hk))) (by rw[setRow_size];exact Nat.le_refl _)
theorem touch_row{F:Ft}{w w1:World}{b:Nat}{cs:Array Value}(h:Touch F w w1)(hb:F b\/w.heap.size<=b):Touch F w (w1.setRow b cs):=⟨h.os,h.tape,h.output,by rw[setRow_size];exact h.size,fun k hk hf=>(setRow_other _ _ _ _ (fun e=>by subst e;rcases hb with hb|hb;exact hf hb;omega)).trans (h.block k hk hf)⟩
def CrR(sb sz:Nat)(m:Int->Option Nat)(xs:List (Option Nat))(G:Ft)(k:Int)(q:Nat)(w:World)(hi:Nat)(w':World):Prop:=
 ∃i xs' G' x F,SuAt sb (sz+1) (upM m k (some i)) xs' G' w'/\xs'[i]?=some (some x)/\xs'.length<=xs.length+1/\KsAt q [] x F w'/\(∀j,G' j->G j\/hi<=j)/\(∀j,F j->hi<=j/\¬G' j)/\Touch G w w'
theorem create_yes{k:Int}{q:Nat}(h8:8<=q)(hq:q<=4096)(k0:0<=k)(k1:k<=4294967295)(w:World)(h:SuAt sb sz m xs G w)(hm:m k=none)(hs:sz<64)(hx:xs.length<=900)(px:Value)(v n num den:Int) :
 Calls Tryz.prog 108 #[.pointer (some ⟨sb,0,none⟩),px,.agg (actC 1 k 4 q v n num den)] w fun e w'=>e=.returned (.agg (resC 0 0 false 0))/\CrR sb sz m xs G k q w w.heap.size w':=by
 obtain⟨cs,hcs⟩:∃q',actC 1 k 4 q v n num den=q':=⟨_,rfl⟩
 rw[hcs]
 obtain⟨wa,b0,b1,hwa,A⟩:∃wa b0 b1,(w.alloc (.cells cs 81)).alloc (.cells (resC 0 0 false 0) 77)=wa/\ActAt w wa b0 b1 cs:=⟨_,_,_,rfl,act_at w cs⟩
 have SA:=(su_stay sb sz m xs).keep h A.bel
 have CF:=Lib.hid (su_free k0 k1 wa SA)
 have GL:=Lib.hid ((su_stay sb sz m xs).low h)
 have HD:decide (m k=none/\sz<64)=true:=decide_eq_true ⟨hm,hs⟩
 rw[HD] at CF
 have CM:=Lib.hid (ks_make h8 hq wa)
 have CN:=Lib.hid (fun x w1 (hb:Below wa.heap.size wa w1)=>su_name (x:=x) k0 k1 w1 ((su_stay sb sz m xs).keep SA hb) hm (by omega) hx)
 have HA:=Lib.hid A
 have c0:=A.ba.cell 1
 have c3:=A.ba.cell 3
 have c4:=A.ba.cell 4
 have c5:=A.ba.cell 5
 have c6:=A.ba.cell 6
 have c7:=A.ba.cell 7
 have c8:=A.ba.cell 8
 have c9:=A.ba.cell 9
 rw[<-hcs] at c0 c3 c4 c5 c6 c7 c8 c9
 unfold actC at c0 c3 c4 c5 c6 c7 c8 c9
 simp only[List.getElem?_toArray,List.getElem?_cons_zero,List.getElem?_cons_succ] at c0 c3 c4 c5 c6 c7 c8 c9
 have e0:=A.e0
 have e1:=A.e1
 unfold resC at hwa
 clear A SA h hm HD hcs
 go_enter Tryz.func108,Tryz.ntmps108
 go_upto_region 1 with fail
 rw[<-e1,<-e0]
 have E0:=Lib.hid (And.intro e0 e1)
 clear hwa e0 e1
 go_wp2_with fail
 refine(CF.out).mono ?_
 rintro e w1 ⟨rfl,hw⟩
 subst hw
 go_wp2_with fail
 refine(CM.out).mono ?_
 rintro e w1 ⟨x,rfl,hF,hb1⟩
 have HF:=Lib.hid hF
 have HB1:=Lib.hid hb1
 have C2:=Lib.hid (CN.out x w1 hb1)
 have c0':w1.cell? ⟨b0,1,none⟩=some (.int .u32 k):=(hb1.cell (p:=⟨b0,1,none⟩) HA.out.ba.lt).trans c0
 clear hF hb1 CM CN CF c0 c3 c4 c5 c6 c7 c8 c9
 go_wp2_with fail
 refine(C2.out).mono ?_
 rintro e w2 ⟨rfl,hN⟩
 have HN:=Lib.hid hN
 clear hN C2 c0'
 go_wp2_with fail
 refine(fail_any 0 w2).mono ?_
 rintro e w3 ⟨rfl,hb3⟩
 have HB3:=Lib.hid hb3
 unfold resV
 clear hb3
 have hnb:¬G b1:=fun e=>by have:=GL.out b1 e;have:=E0.out;omega
 have B1:Hid (Blk w3 b1 77 (resC 0 0 false 0)):=by
  have hw1:=HA.out.bb.keep HB1.out
  obtain⟨i,xs',G',_,_,_,_,ht⟩:=HN.out
  exact Lib.hid ((HB3.out.block b1 (Nat.lt_of_lt_of_le hw1.lt ht.size)).trans ((ht.block b1 hw1.lt hnb).trans hw1))
 have hB1:w3.heap[b1]?=some (.cells (resC 0 0 false 0) 77 (0,0)):=B1.out
 go_wp2_with (refine wpList_store_row rfl 77 (.tmp 6) (.tmp 29) rfl b1 (resC 0 0 false 0) rfl rfl 77 _ hB1 (by kernel_rfl) rfl (by simp[resC,Value.oneCell']) ?_)
 refine bodyPost_ret (v:=.agg (resC 0 0 false 0)) (results_cell_row (p:=6) (ty:=77) (by kernel_rfl) _ _ b1 77 (resC 0 0 false 0) (0,0) _ rfl (setRow_heap _ _ _ _ _ _ hB1) Tryz.underlying77 rfl (by kernel_rfl)) rfl ?_
 refine⟨rfl,?_⟩
 obtain⟨i,xs',G',h1,h2,h3,h4,ht⟩:=HN.out
 obtain⟨F,hK,hF⟩:=HF.out
 have hz:=HA.out.sz
 have hzb:=E0.out
 have hz1:=HB1.out.size
 have hFG:∀j,F j->¬G' j:=fun j e1 e2=>by
  have a1:=hF j e1
  have a2:=hK.low j e1
  rcases h4 j e2 with e3|e3
  ·have:=GL.out j e3;omega
  ·omega
 have hK2:=(hK.far ht (fun j e1 e2=>by have:=hF j e1;have:=GL.out j e2;omega)).keep HB3.out
 have hS2:=(su_stay _ _ _ _).keep h1 HB3.out
 have hGb:¬G' b1:=fun e=>by
  rcases h4 b1 e with e3|e3
  ·exact hnb e3
  ·have:=HA.out.bb.lt;omega
 have hFb:¬F b1:=fun e=>by have:=hF b1 e;have:=HA.out.bb.lt;omega
 refine⟨i,xs',G',x,F,su_row hS2 hGb,h2,h3,ks_row hK2 hFb,fun j e=>(h4 j e).imp id (fun e=>by omega),fun j e=>⟨by have:=hF j e;omega,hFG j e⟩,touch_row ?_ (.inr (by omega))⟩
 exact tbl ((Touch.of_below (F:=G) (HA.out.bel.trans (HB1.out.mono HA.out.bel.size)) (Nat.le_refl _)).trans ht (fun j e=>.inl e)) HB3.out
end
open Go.RowKit Go.Lib
section
variable {sb sz : Nat} {m : Int -> Option Nat} {xs : List (Option Nat)} {G : Ft}
theorem create_no{k:Int}(k0:0<=k)(k1:k<=4294967295)(w:World)(h:SuAt sb sz m xs G w)(hm:¬(m k=none/\sz<64))(px:Value)(sk q v n num den:Int) :
 Calls Tryz.prog 108 #[.pointer (some ⟨sb,0,none⟩),px,.agg (actC 1 k sk q v n num den)] w fun e w'=>e=.returned (.agg (resC 2 0 false 0))/\Below w.heap.size w w':=by
 obtain⟨cs,hcs⟩:∃q',actC 1 k sk q v n num den=q':=⟨_,rfl⟩
 rw[hcs]
 obtain⟨wa,b0,b1,hwa,A⟩:∃wa b0 b1,(w.alloc (.cells cs 81)).alloc (.cells (resC 0 0 false 0) 77)=wa/\ActAt w wa b0 b1 cs:=⟨_,_,_,rfl,act_at w cs⟩
 have CF:=Lib.hid (su_free k0 k1 wa ((su_stay sb sz m xs).keep h A.bel))
 have HD:decide (m k=none/\sz<64)=false:=decide_eq_false hm
 rw[HD] at CF
 have HA:=Lib.hid A
 have c0:=A.ba.cell 1
 rw[<-hcs] at c0
 unfold actC at c0
 simp only[List.getElem?_toArray,List.getElem?_cons_zero,List.getElem?_cons_succ] at c0
 have e0:=A.e0
 have e1:=A.e1
 unfold resC at hwa
 clear A h hm HD hcs
 go_enter Tryz.func108,Tryz.ntmps108
 go_upto_region 1 with fail
 rw[<-e1,<-e0]
 have E0:=Lib.hid (And.intro e0 e1)
 clear hwa e0 e1
 go_wp2_with fail
 refine(CF.out).mono ?_
 rintro e w1 ⟨rfl,hw⟩
 subst hw
 clear CF
 go_wp2_with fail
 refine(fail_any 2 _).mono ?_
 rintro e w3 ⟨rfl,hb3⟩
 unfold resV
 have hB1:w3.heap[b1]?=some (.cells (resC 0 0 false 0) 77 (0,0)):=HA.out.bb.keep hb3
 have HB3:=Lib.hid hb3
 clear hb3 c0
 go_wp2_with (refine wpList_store_row rfl 77 (.tmp 6) (.tmp 14) rfl b1 (resC 2 0 false 0) rfl rfl 77 _ hB1 (by kernel_rfl) rfl (by simp[resC,Value.oneCell']) ?_)
 refine bodyPost_ret (v:=.agg (resC 2 0 false 0)) (results_cell_row (p:=6) (ty:=77) (by kernel_rfl) _ _ b1 77 (resC 2 0 false 0) (0,0) _ rfl (setRow_heap _ _ _ _ _ _ hB1) Tryz.underlying77 rfl (by kernel_rfl)) rfl ?_
 have hzb:=E0.out
 exact⟨rfl,below_setRow (HA.out.bel.trans (HB3.out.mono HA.out.bel.size)) (by omega) _⟩
theorem query_any{k:Int}{x:Nat}{v led num den:Int}(w:World)(hq:∀w1,Below w.heap.size w w1->Calls Tryz.prog 180 #[.pointer (some ⟨x,0,none⟩),.int .u64 num,.int .u64 den] w1 fun e w'=>e=.returned (.tuple #[.agg #[.int .i64 v,.bool false,.int .u64 led],.int .i64 0])/\Below w1.heap.size w1 w') :
 Calls Tryz.prog 111 #[.pointer (some ⟨sb,0,none⟩),.pointer (some ⟨x,0,none⟩),.agg (actC 4 k 0 0 0 0 num den)] w fun e w'=>e=.returned (.agg (resC 0 v false led))/\Below w.heap.size w w':=by
 obtain⟨cs,hcs⟩:∃q',actC 4 k 0 0 0 0 num den=q':=⟨_,rfl⟩
 rw[hcs]
 obtain⟨wa,b0,b1,hwa,A⟩:∃wa b0 b1,(w.alloc (.cells cs 81)).alloc (.cells (resC 0 0 false 0) 77)=wa/\ActAt w wa b0 b1 cs:=⟨_,_,_,rfl,act_at w cs⟩
 have CQ:=Lib.hid (hq wa A.bel)
 have HA:=Lib.hid A
 have c6:=A.ba.cell 12
 have c7:=A.ba.cell 13
 rw[<-hcs] at c6 c7
 unfold actC at c6 c7
 simp only[List.getElem?_toArray,List.getElem?_cons_zero,List.getElem?_cons_succ] at c6 c7
 have e0:=A.e0
 have e1:=A.e1
 unfold resC at hwa
 clear A hq hcs
 go_enter Tryz.func111,Tryz.ntmps111
 go_upto_region 1 with fail
 rw[<-e1,<-e0]
 have E0:=Lib.hid (And.intro e0 e1)
 clear hwa e0 e1
 go_wp2_with fail
 refine(CQ.out).mono ?_
 rintro e w1 ⟨rfl,hb1⟩
 have HB1:=Lib.hid hb1
 clear hb1 CQ c6 c7
 go_upto_region 2 with fail
 obtain⟨w2,hw2⟩:∃q,w1.alloc (.cells #[.int .i64 v,.bool false,.int .u64 led] 75)=q:=⟨_,rfl⟩
 obtain⟨z,hz⟩:∃z,w1.heap.size=z:=⟨_,rfl⟩
 have hb2:Below w1.heap.size w1 w2:=by rw[<-hw2];(repeat' (first|(with_reducible exact Below.refl _ _)|(with_reducible refine Below.alloc ?_ ?_ _)|(with_reducible refine Below.drew ?_)|(with_reducible refine below_drewN ?_ _)|(with_reducible refine Below.setCell ?_ ?_ _)|(with_reducible refine below_of (by assumption) ?_ ?_)|go_size))
 have C0:Blk w2 z 75 #[.int .i64 v,.bool false,.int .u64 led]:=by rw[<-hw2,<-hz];exact Blk.new _ _ _
 have k0:=C0.cell 0
 have k1:=C0.cell 1
 have k2:=C0.cell 2
 simp only[List.getElem?_toArray,List.getElem?_cons_zero,List.getElem?_cons_succ] at k0 k1 k2
 rw[hw2,hz]
 have hB1:w2.heap[b1]?=some (.cells (resC 0 0 false 0) 77 (0,0)):=(HA.out.bb.keep HB1.out).keep hb2
 have HB2:=Lib.hid (HA.out.bel.trans ((HB1.out.trans (hb2.mono HB1.out.size)).mono HA.out.bel.size))
 clear hw2 hz hb2 C0 HB1
 go_wp2_with (refine wpList_store_row rfl 77 (.tmp 6) (.tmp 20) rfl b1 (resC 0 v false led) rfl rfl 77 _ hB1 (by kernel_rfl) rfl (by simp[resC,Value.oneCell']) ?_)
 refine bodyPost_ret (v:=.agg (resC 0 v false led)) (results_cell_row (p:=6) (ty:=77) (by kernel_rfl) _ _ b1 77 (resC 0 v false led) (0,0) _ rfl (setRow_heap _ _ _ _ _ _ hB1) Tryz.underlying77 rfl (by kernel_rfl)) rfl ?_
 have hzb:=E0.out
 exact⟨rfl,below_setRow HB2.out (by omega) _⟩
end
end Go.Proofs.YtilcnjbpmoijmaaGreat.D
