/- Parts of a proof: what its theorem reaches, words cut short. No condition of its own. -/
import Derived.Test.YtkiebccnpheloaaGreatPv08
set_option maxRecDepth 100000
set_option maxHeartbeats 16000000
set_option linter.unusedVariables false
set_option linter.unusedSimpArgs false
namespace Go.Proofs.YtkiebccnpheloaaGreat
open Go.RowKit Go.Lib
def Dg(w:World)(g:Nat)(F:Nat->Prop)(d:Int)(L W:List Mn)(lo hi n:Int):Prop:=
 ∃lv wv,Blk w g 247 #[.int .i64 d,lv,wv,.int .i64 lo,.int .i64 hi,.int .u64 n]/\OwnM 0 w lv L/\OwnM 0 w wv W/\F g/\(∀k,lv.ownBlock=some k->F k)/\(∀k,wv.ownBlock=some k->F k) /\
  (∀k,wv.ownBlock=some k->lv.ownBlock≠some k)/\(∀k,F k->k<w.heap.size)
theorem Dg.stay{w w':World}{g:Nat}{F:Nat->Prop}{d lo hi n:Int}{L W:List Mn}(h:Dg w g F d L W lo hi n)(hk:∀k,F k->w'.heap[k]?=w.heap[k]?)(hz:w.heap.size<=w'.heap.size):Dg w' g F d L W lo hi n:=by
 obtain⟨lv,wv,hb,hl,hw,hg,h1,h2,h3,h4⟩:=h
 exact⟨lv,wv,(hk g hg).trans hb,hl.stay fun k e=>hk k (h1 k e),hw.stay fun k e=>hk k (h2 k e),hg,h1,h2,h3,fun k hf=>Nat.lt_of_lt_of_le (h4 k hf) hz⟩
theorem Dg.keep{w w':World}{g:Nat}{F:Nat->Prop}{d lo hi n:Int}{L W:List Mn}(h:Dg w g F d L W lo hi n)(hb:Below w.heap.size w w'):Dg w' g F d L W lo hi n:=by
 have h4:=h
 obtain⟨lv,wv,_,_,_,_,_,_,_,h4⟩:=h4
 exact h.stay (fun k hk=>hb.block k (h4 k hk)) hb.size
theorem rd_row2{w:World}{a b:Value}{L W:List Mn}{t:Nat}(h1:RdM (w.alloc (.cells #[a,b] t)) a L)(h2:RdM (w.alloc (.cells #[a,b] t)) b W):RdRow (w.alloc (.cells #[a,b] t)) w.heap.size [L,W]:=by
 intro i hi
 have:i=0\/i=1:=by simp at hi;omega
 rcases this with rfl|rfl
 ·exact⟨a,by simp[World.cell?_alloc_new],h1⟩
 ·exact⟨b,by simp[World.cell?_alloc_new],h2⟩
structure PrS(g:Nat)(d:Int)(B:Option Addr)(n c:Nat)(t:Int)(w w':World):Prop where
 touch:Touch (fun k=>k=g) w w'
 c0:w'.cell? ⟨g,0,none⟩=some (.int .i64 d)
 c2:w'.cell? ⟨g,2,none⟩=some (.slice B n c)
 c5:w'.cell? ⟨g,5,none⟩=some (.int .u64 t)
theorem PrS.set_{g:Nat}{d:Int}{B:Option Addr}{n c:Nat}{t:Int}{w w':World}(h:PrS g d B n c t w w')(v:Value):PrS g d B n c t w (w'.setCell ⟨g,1,none⟩ v):=
 ⟨h.touch.setCell (.inl rfl) v,(World.cell?_setCell_other _ _ _ _ (by simp)).trans h.c0,(World.cell?_setCell_other _ _ _ _ (by simp)).trans h.c2,(World.cell?_setCell_other _ _ _ _ (by simp)).trans h.c5⟩
theorem press_any(g:Nat)(F:Nat->Prop)(d lo hi:Int)(L W:List Mn)(w:World)(h:Dg w g F d L W lo hi (tot (L++W)))(ho:okL (L++W))(hne:L++W≠[])(hlen:L.length+W.length<=100000000)(ht:tot (L++W)<=281474976710656)(d0:0<=d)(d1:d<=1000) :
 Calls Tryz.prog 166 #[.pointer (some ⟨g,0,none⟩)] w fun e w'=>e=.returned (.tuple #[])/\∃F':Nat->Prop,(∀k,F' k->F k\/w.heap.size<=k)/\Dg w' g F' d (prs d (L++W)) [] lo hi (tot (L++W))/\Touch F w w':=by
 obtain⟨lv,wv,hb,hl,hw,hg,h1,h2,h3,h4⟩:=h
 have c0:=hb.cell 0
 have c1:=hb.cell 1
 have c2:=hb.cell 2
 have c5:=hb.cell 5
 have f1:=hb.frozen 1
 have f2:=hb.frozen 2
 simp only[List.getElem?_toArray,List.getElem?_cons_succ,List.getElem?_cons_zero] at c0 c1 c2 c5
 have hlt:=hb.lt
 have HB:=Lib.hid hb
 have HL:=Lib.hid hl
 have HW:=Lib.hid hw
 obtain⟨A,ca,rfl,na,ma,fa⟩:=hl.form
 obtain⟨B,cb,rfl,nb,mb,fb⟩:=hw.form
 have HG:=Lib.hid (And.intro hg (And.intro h1 (And.intro h2 (And.intro h3 h4))))
 have HC0:=Lib.hid c0
 have HC1:=Lib.hid c1
 have HC2:=Lib.hid c2
 have HC5:=Lib.hid c5
 have HO:=Lib.hid ho
 have HNE:0<L.length+W.length:=by
  rcases Nat.eq_zero_or_pos (L.length+W.length) with h0|h0
  ·exact absurd (List.eq_nil_of_length_eq_zero (by rw[List.length_append];exact h0)) hne
  ·exact h0
 have hp:∀W0:Prop,(0<W.length->W0)->(¬0<W.length->0<L.length->W0)->W0:=fun W0 a b=>by
  by_cases h:0<W.length
  ·exact a h
  ·exact b h (by omega)
 clear hb hl hw fa fb ho hg h1 h2 h3 h4 hne hp
 by_cases hW:0<W.length
 all_goals
  try (have hL:0<L.length:=by omega)
  go_enter Tryz.func166,Tryz.ntmps166
  go_upto_region 1 with fail
  have HRD1:=Lib.hid HL.out.rd
  have HRD2:=Lib.hid HW.out.rd
  have HSB:∀w',Below w.heap.size w w'->PrS g d B W.length cb (tot (L++W)) w w':=fun w' hb=>⟨Touch.of_below hb (Nat.le_refl _),(hb.cell (p:=⟨g,0,none⟩) hlt).trans HC0.out,(hb.cell (p:=⟨g,2,none⟩) hlt).trans HC2.out,(hb.cell (p:=⟨g,5,none⟩) hlt).trans HC5.out⟩
  refine wp_region_planT (PrS g d B W.length cb (tot (L++W)) w) 27 [(0,true),(1,true),(2,true),(3,true),(4,true),(5,true),(6,true),(7,true),(8,true),(9,true),(10,true),(11,true),(12,true),(14,true),(15,true),(16,true),(17,true),(13,false),(18,false),(19,false),(20,false),(21,false),(22,true),(23,true),(24,false),(25,true),(26,true)] (by kernel_rfl) (by kernel_rfl) (HSB _ (Below.refl _ _).drew) ?_
  iterate 17
   refine wpPlanT_read (by rfl) (by rfl) (fun R hR=>?_)
   apply Exists.intro
   refine⟨fun w' hS'=>?_,?_⟩
   ·have k0:=hS'.c0
    have k2:=hS'.c2
    have k5:=hS'.c5
    go_simp
    exact⟨rfl,rfl⟩
   go_simp
   refine hR _ ?_
   clear hR R
  refine wpPlanT_do (by rfl) (by rfl) (fun K hK=>?_)
  go_simp
  refine hK _ _ (HSB _ (Below.refl _ _).drew) ?_
  clear hK K
  refine wpPlanT_do (by rfl) (by rfl) (fun K hK=>?_)
  go_simp
  refine hK _ _ (HSB _ (((Below.refl _ _).drew).alloc (by go_size) _)) ?_
  clear hK K
  refine wpPlanT_do (by rfl) (by rfl) (fun K hK=>?_)
  go_simp
  have hrow:RdRow (w.drew.alloc (.cells #[.slice A L.length ca,.slice B W.length cb] 149)) w.heap.size [L,W]:=rd_row2 (HRD1.out.keep (((Below.refl _ _).drew).alloc (by go_size) _)) (HRD2.out.keep (((Below.refl _ _).drew).alloc (by go_size) _))
  refine(concat_M w.heap.size [L,W] _ (by go_size) hrow (by simp) (by simp;omega)).mono ?_
  rintro e w1 ⟨v1,rfl,o1,hb1⟩
  have hbw1:Below w.heap.size w w1:=(((Below.refl _ _).drew).alloc (by go_size) _).trans (hb1.mono (by go_size))
  have hz1:=hbw1.size
  rw[show([L,W]:List (List Mn)).flatten=L++W by simp] at o1
  have O1:=Lib.hid o1
  clear o1
  refine hK _ _ (HSB _ hbw1) ?_
  clear hK K
  refine wpPlanT_do (by rfl) (by rfl) (fun K hK=>?_)
  go_simp
  refine(sorted_any _ (L++W) v1 _ (Nat.le_refl _) (by rw[List.length_append];omega) O1.out.rd).mono ?_
  rintro e w2 ⟨v2,rfl,o2,hb2⟩
  have hbw2:Below w.heap.size w w2:=hbw1.trans (hb2.mono hz1)
  have hz2:=hbw2.size
  have O2:=Lib.hid o2
  clear o2
  refine hK _ _ (HSB _ hbw2) ?_
  clear hK K
  refine wpPlanT_do (by rfl) (by rfl) (fun K hK=>?_)
  go_simp
  have hpr:=pressed_any d v2 (srt (L++W)) w2 O2.out (by rw[srt_length,List.length_append];exact HNE) (HO.out.srt) (rises_srt _) (by rw[srt_length,List.length_append];omega) (by rw[tot_srt];exact ht) d0 d1
  rw[tot_srt] at hpr
  refine hpr.mono ?_
  rintro e w3 ⟨v3,rfl,o3,hb3⟩
  have hbw3:Below w.heap.size w w3:=hbw2.trans (hb3.mono hz2)
  have hz3:=hbw3.size
  have O3:=Lib.hid o3
  clear o3 hpr
  refine hK _ _ (HSB _ hbw3) ?_
  clear hK K
  iterate 2
   refine wpPlanT_read (by rfl) (by rfl) (fun R hR=>?_)
   apply Exists.intro
   refine⟨fun w' hS'=>?_,?_⟩
   ·have k0:=hS'.c0
    have k2:=hS'.c2
    have k5:=hS'.c5
    go_simp
    exact⟨rfl,rfl⟩
   go_simp
   refine hR _ ?_
   clear hR R
  refine wpPlanT_do (by rfl) (by rfl) (fun K hK=>?_)
  obtain⟨A3,c3,rfl,n3,m3,f3⟩:=O3.out.form
  clear f3
  have k1:=(hbw3.frozen (p:=⟨g,1,none⟩) hlt).trans f1
  have k3:=(hbw3.cell (p:=⟨g,1,none⟩) hlt).trans HC1.out
  go_simp
  refine hK _ _ ((HSB _ hbw3).set_ _) ?_
  clear hK K
  iterate 2
   refine wpPlanT_read (by rfl) (by rfl) (fun R hR=>?_)
   apply Exists.intro
   refine⟨fun w' hS'=>?_,?_⟩
   ·have k0:=hS'.c0
    have k2:=hS'.c2
    have k5:=hS'.c5
    go_simp
    exact⟨rfl,rfl⟩
   go_simp
   refine hR _ ?_
   clear hR R
  refine wpPlanT_nil ?_
  simp only[List.drop_succ_cons,List.drop_zero]
  have k2:=(hbw3.frozen (p:=⟨g,2,none⟩) hlt).trans f2
  have k4:=(hbw3.cell (p:=⟨g,2,none⟩) hlt).trans HC2.out
  go_wp2_with fail
  refine calm_normal ?_
  go_wp2_with fail
  refine bodyPost_end (v:=.tuple #[]) (by simp[results,Tryz.results166,go_sem, *];try rfl) rfl ?_
  refine⟨rfl,fun k=>k=g\/(Value.slice A3 (prs d (L++W)).length c3).ownBlock=some k,?_,?_,?_⟩
  ·rintro k (rfl|hk)
   ·exact .inl HG.out.1
   ·exact .inr (by have:=(O3.out.lt k hk).1;omega)
  ·obtain⟨hg,h1,h2,h3,h4⟩:=HG.out
   have hgo:∀k,(Value.slice A3 (prs d (L++W)).length c3).ownBlock=some k->w.heap.size<=k/\k<w3.heap.size:=fun k hk=>by have:=O3.out.lt k hk;omega
   have hgn:∀i,(Value.slice A3 (prs d (L++W)).length c3).ownBlock≠some (⟨g,i,none⟩:Addr).block:=fun i hk=>by have:=hgo g hk;omega
   refine⟨_,_,((HB.out.keep hbw3).set_ 1 _).set_ 2 _,((O3.out.more (Nat.zero_le _)).far (hgn 1) _).far (hgn 2) _,OwnM.nil_ _ _,.inl rfl,fun k hk=>.inr hk,fun k hk=>(by cases hk),fun k hk=>(by cases hk),fun k hk=>?_⟩
   simp only[World.size_setCell]
   rcases hk with rfl|hk
   ·omega
   ·have:=hgo k hk;omega
  ·exact((Touch.of_below hbw3 (Nat.le_refl _)).setCell (.inl HG.out.1) _).setCell (.inl HG.out.1) _
open Go.RowKit Go.Lib
theorem total_any{g:Nat}{F:Nat->Prop}{d lo hi n:Int}{L W:List Mn}(w:World)(h:Dg w g F d L W lo hi n) :
 Calls Tryz.prog 125 #[.pointer (some ⟨g,0,none⟩)] w fun e w'=>e=.returned (.int .u64 n)/\w=w':=by
 obtain⟨lv,wv,hb,_⟩:=h
 have c5:=hb.cell 5
 simp only[List.getElem?_toArray,List.getElem?_cons_succ,List.getElem?_cons_zero] at c5
 go_enter Tryz.func125,Tryz.ntmps125
 go_wp2_with fail
 refine bodyPost_ret (by simp[results,Tryz.results125,go_sem, *];try rfl) rfl ?_
 exact⟨rfl,rfl⟩
theorem Blk.notOwn{w:World}{g t b:Nat}{cs:Array Value}{v:Value}{l:List Mn}(h:Blk w g t cs)(ho:OwnM b w v l)(ht:t≠231):v.ownBlock≠some g:=by
 intro e
 rcases ho.2 with h2|⟨g',cap,cur,rfl,e2,e3,r⟩
 ·rw[h2.1] at e;cases e
 ·cases e
  unfold Blk at h
  rw[h] at e3
  cases e3
  exact ht rfl
theorem Dg.cells{w w':World}{g:Nat}{F:Nat->Prop}{d d' lo hi n lo' hi' n':Int}{L W:List Mn}{lv wv:Value}(hb:Blk w g 247 #[.int .i64 d,lv,wv,.int .i64 lo,.int .i64 hi,.int .u64 n])(hl:OwnM 0 w lv L)(hw:OwnM 0 w wv W)
 (hF:F g/\(∀k,lv.ownBlock=some k->F k)/\(∀k,wv.ownBlock=some k->F k)/\(∀k,wv.ownBlock=some k->lv.ownBlock≠some k)/\(∀k,F k->k<w.heap.size))
 (ht:Touch (fun k=>k=g) w w') (hb':Blk w' g 247 #[.int .i64 d',lv,wv,.int .i64 lo',.int .i64 hi',.int .u64 n']):Dg w' g F d' L W lo' hi' n':=by
 obtain⟨hg,h1,h2,h3,h4⟩:=hF
 have nl:=hb.notOwn hl (by decide)
 have nw:=hb.notOwn hw (by decide)
 exact⟨lv,wv,hb',hl.stay fun k e=>ht.block k (h4 k (h1 k e)) (fun h=>nl (by rw[e,h])),hw.stay fun k e=>ht.block k (h4 k (h2 k e)) (fun h=>nw (by rw[e,h])),hg,h1,h2,h3,fun k hf=>Nat.lt_of_lt_of_le (h4 k hf) ht.size⟩
structure EnS(g:Nat)(hi:Int)(w w':World):Prop where
 c4:w'.cell? ⟨g,4,none⟩=some (.int .i64 hi)
theorem ends_any{g:Nat}{F:Nat->Prop}{d lo hi n:Int}{L W:List Mn}(a b:Int)(w:World)(h:Dg w g F d L W lo hi n)(_hlo:-9223372036854775808<=lo/\lo<=9223372036854775807)(_hhi:-9223372036854775808<=hi/\hi<=9223372036854775807)(_ha:-9223372036854775808<=a/\a<=9223372036854775807)(_hb':-9223372036854775808<=b/\b<=9223372036854775807)(hn0:0<=n/\n<=18446744073709551615) :
 Calls Tryz.prog 167 #[.pointer (some ⟨g,0,none⟩),.int .i64 a,.int .i64 b] w fun e w'=>e=.returned (.tuple #[])/\Dg w' g F d L W (if n=0 then a else min lo a) (if n=0 then b else max hi b) n/\Touch (fun k=>k=g) w w':=by
 obtain⟨lv,wv,hb,hl,hw,hg,h1,h2,h3,h4⟩:=h
 have c3:=hb.cell 3
 have c4:=hb.cell 4
 have c5:=hb.cell 5
 have f3:=hb.frozen 3
 have f4:=hb.frozen 4
 have hlt:=hb.lt
 simp only[List.getElem?_toArray,List.getElem?_cons_succ,List.getElem?_cons_zero] at c3 c4 c5
 have HB:=Lib.hid hb
 have HL:=Lib.hid hl
 have HW:=Lib.hid hw
 have HG:=Lib.hid (And.intro hg (And.intro h1 (And.intro h2 (And.intro h3 h4))))
 clear hb hl hw hg h1 h2 h3 h4
 clear c3 c4 f3 f4
 by_cases hn:n=0
 ·subst hn
  go_enter Tryz.func167,Tryz.ntmps167
  have c3:=HB.out.cell 3
  have c4:=HB.out.cell 4
  have f3:=HB.out.frozen 3
  have f4:=HB.out.frozen 4
  simp only[List.getElem?_toArray,List.getElem?_cons_succ,List.getElem?_cons_zero] at c3 c4
  go_wp2_with fail
  have HB2:=Lib.hid ((HB.out.set_ 3 (.int .i64 a)).set_ 4 (.int .i64 b))
  have T2:Touch (fun k=>k=g) w ((w.setCell ⟨g,3,none⟩ (.int .i64 a)).setCell ⟨g,4,none⟩ (.int .i64 b)):=((Touch.refl (fun k=>k=g) w).setCell (p:=⟨g,3,none⟩) (.inl rfl) _).setCell (p:=⟨g,4,none⟩) (.inl rfl) _
  generalize (w.setCell ⟨g,3,none⟩ (.int .i64 a)).setCell ⟨g,4,none⟩ (.int .i64 b)=w2 at *
  clear c3 c4 f3 f4 c5
  have c3:=HB2.out.cell 3
  have c4:=HB2.out.cell 4
  have f3:=HB2.out.frozen 3
  have f4:=HB2.out.frozen 4
  simp only[List.getElem?_toArray,List.getElem?_cons_succ,List.getElem?_cons_zero,List.setIfInBounds_toArray,List.set_cons_succ,List.set_cons_zero] at c3 c4
  refine wp_region_planT (EnS g b w) 19 [(0,true),(1,true),(2,true),(3,true),(4,true),(6,true),(8,true),(9,true),(10,true),(11,true),(12,true),(13,true),(5,false),(7,true),(14,true),(15,true),(16,false),(17,true),(18,true)] (by kernel_rfl) (by kernel_rfl) (⟨c4⟩) ?_
  iterate 12
   refine wpPlanT_read (by rfl) (by rfl) (fun R hR=>?_)
   apply Exists.intro
   refine⟨fun w' hS'=>?_,?_⟩
   ·have k4:=hS'.c4
    go_simp
    exact⟨rfl,rfl⟩
   go_simp
   refine hR _ ?_
   clear hR R
  refine wpPlanT_do (by rfl) (by rfl) (fun K hK=>?_)
  go_simp
  refine hK _ _ (⟨c4⟩) ?_
  clear hK K
  iterate 3
   refine wpPlanT_read (by rfl) (by rfl) (fun R hR=>?_)
   apply Exists.intro
   refine⟨fun w' hS'=>?_,?_⟩
   ·have k4:=hS'.c4
    go_simp
    exact⟨rfl,rfl⟩
   go_simp
   refine hR _ ?_
   clear hR R
  refine wpPlanT_do (by rfl) (by rfl) (fun K hK=>?_)
  go_simp
  refine hK _ _ (⟨(World.cell?_setCell_other _ _ _ _ (by simp)).trans c4⟩) ?_
  clear hK K
  iterate 2
   refine wpPlanT_read (by rfl) (by rfl) (fun R hR=>?_)
   apply Exists.intro
   refine⟨fun w' hS'=>?_,?_⟩
   ·have k4:=hS'.c4
    go_simp
    exact⟨rfl,rfl⟩
   go_simp
   refine hR _ ?_
   clear hR R
  refine wpPlanT_nil ?_
  simp only[List.drop_succ_cons,List.drop_zero]
  go_wp2_with fail
  refine calm_normal ?_
  go_wp2_with fail
  refine bodyPost_end (v:=.tuple #[]) (by simp[results,Tryz.results167,go_sem, *];try rfl) rfl ?_
  have T3:=((T2.setCell (p:=⟨g,3,none⟩) (.inl rfl) (.int .i64 a)).setCell (p:=⟨g,4,none⟩) (.inl rfl) (.int .i64 b)).drew
  exact⟨rfl,Dg.cells HB.out HL.out HW.out HG.out T3 ((HB2.out.set_ 3 _).set_ 4 _),T3⟩
 ·go_enter Tryz.func167,Tryz.ntmps167
  have c3:=HB.out.cell 3
  have c4:=HB.out.cell 4
  have f3:=HB.out.frozen 3
  have f4:=HB.out.frozen 4
  simp only[List.getElem?_toArray,List.getElem?_cons_succ,List.getElem?_cons_zero] at c3 c4
  go_upto_region 2 with fail
  refine wp_region_planT (EnS g hi w) 19 [(0,true),(1,true),(2,true),(3,true),(4,true),(6,true),(8,true),(9,true),(10,true),(11,true),(12,true),(13,true),(5,false),(7,true),(14,true),(15,true),(16,false),(17,true),(18,true)] (by kernel_rfl) (by kernel_rfl) (⟨c4⟩) ?_
  iterate 12
   refine wpPlanT_read (by rfl) (by rfl) (fun R hR=>?_)
   apply Exists.intro
   refine⟨fun w' hS'=>?_,?_⟩
   ·have k4:=hS'.c4
    go_simp
    exact⟨rfl,rfl⟩
   go_simp
   refine hR _ ?_
   clear hR R
  refine wpPlanT_do (by rfl) (by rfl) (fun K hK=>?_)
  go_simp
  refine hK _ _ (⟨c4⟩) ?_
  clear hK K
  iterate 3
   refine wpPlanT_read (by rfl) (by rfl) (fun R hR=>?_)
   apply Exists.intro
   refine⟨fun w' hS'=>?_,?_⟩
   ·have k4:=hS'.c4
    go_simp
    exact⟨rfl,rfl⟩
   go_simp
   refine hR _ ?_
   clear hR R
  refine wpPlanT_do (by rfl) (by rfl) (fun K hK=>?_)
  go_simp
  refine hK _ _ (⟨(World.cell?_setCell_other _ _ _ _ (by simp)).trans c4⟩) ?_
  clear hK K
  iterate 2
   refine wpPlanT_read (by rfl) (by rfl) (fun R hR=>?_)
   apply Exists.intro
   refine⟨fun w' hS'=>?_,?_⟩
   ·have k4:=hS'.c4
    go_simp
    exact⟨rfl,rfl⟩
   go_simp
   refine hR _ ?_
   clear hR R
  refine wpPlanT_nil ?_
  simp only[List.drop_succ_cons,List.drop_zero]
  go_wp2_with fail
  refine calm_normal ?_
  go_wp2_with fail
  refine bodyPost_end (v:=.tuple #[]) (by simp[results,Tryz.results167,go_sem, *];try rfl) rfl ?_
  have T3:=(((Touch.refl (fun k=>k=g) w).setCell (p:=⟨g,3,none⟩) (.inl rfl) (.int .i64 (min lo a))).setCell (p:=⟨g,4,none⟩) (.inl rfl) (.int .i64 (max hi b))).drew
  exact⟨rfl,Dg.cells HB.out HL.out HW.out HG.out T3 ((HB.out.set_ 3 _).set_ 4 _),T3⟩
theorem add_any{g:Nat}{F:Nat->Prop}{d lo hi:Int}{L W:List Mn}(a k:Int)(w:World)(h:Dg w g F d L W lo hi (tot (L++W)))(ho:okL (L++W))(hlo:-9223372036854775808<=lo/\lo<=9223372036854775807)(hhi:-9223372036854775808<=hi/\hi<=9223372036854775807)(ha:-9223372036854775808<=a/\a<=9223372036854775807)(hk:0<=k/\k<=18446744073709551615)
 (hlen:L.length+W.length<100000000) (ht:tot (L++W)<=281474976710656) (d0:0<=d) (d1:d<=1000) :
 Calls Tryz.prog 133 #[.pointer (some ⟨g,0,none⟩),.int .i64 a,.int .u64 k] w fun e w'=>
  if k=0 then e=.returned (.int .i64 4)/\Below w.heap.size w w' else if 281474976710656 - tot (L++W)<k then e=.returned (.int .i64 6)/\Below w.heap.size w w' else
  e=.returned (.int .i64 0)/\∃F':Nat->Prop,(∀k,F' k->F k\/w.heap.size<=k) /\
   Dg w' g F' d (addL d L W (a,k)) (addW d W (a,k)) (if tot (L++W)=0 then a else min lo a) (if tot (L++W)=0 then a else max hi a) (tot (L++W)+k)/\Touch F w w':=by
 have t0:=ho.tot_nonneg
 have HD:=Lib.hid h
 obtain⟨lv,wv,hb,hl,hw,hg,h1,h2,h3,h4⟩:=h
 have c5:=hb.cell 5
 simp only[List.getElem?_toArray,List.getElem?_cons_succ,List.getElem?_cons_zero] at c5
 clear hb hl hw hg h1 h2 h3 h4
 by_cases hk0:k=0
 ·subst hk0
  go_enter Tryz.func133,Tryz.ntmps133
  go_wp2_with fail
  refine bodyPost_ret (by simp[results,Tryz.results133,go_sem, *];try rfl) rfl ?_
  exact⟨rfl,by(repeat' (first|(with_reducible exact Below.refl _ _)|(with_reducible refine Below.alloc ?_ ?_ _)|(with_reducible refine Below.drew ?_)|(with_reducible refine below_drewN ?_ _)|(with_reducible refine Below.setCell ?_ ?_ _)|(with_reducible refine below_of (by assumption) ?_ ?_)|go_size))⟩
 ·simp only[if_neg hk0]
  by_cases hk1:281474976710656 - tot (L++W)<k
  ·simp only[if_pos hk1]
   go_enter Tryz.func133,Tryz.ntmps133
   go_wp2_with fail
   refine bodyPost_ret (by simp[results,Tryz.results133,go_sem, *];try rfl) rfl ?_
   exact⟨rfl,by(repeat' (first|(with_reducible exact Below.refl _ _)|(with_reducible refine Below.alloc ?_ ?_ _)|(with_reducible refine Below.drew ?_)|(with_reducible refine below_drewN ?_ _)|(with_reducible refine Below.setCell ?_ ?_ _)|(with_reducible refine below_of (by assumption) ?_ ?_)|go_size))⟩
  ·simp only[if_neg hk1]
   have EN:=Lib.hid (ends_any a a w HD.out hlo hhi ha ha (by omega))
   generalize (if tot (L++W)=0 then a else min lo a)=lo1 at EN |-
   generalize (if tot (L++W)=0 then a else max hi a)=hi1 at EN |-
   go_enter Tryz.func133,Tryz.ntmps133
   go_upto_region 6 with(first|(go_at_call 167;refine EN.out.mono ?_;rintro e w1 ⟨rfl,⟨lv1,wv1,b1,l1,x1,hF⟩,T1⟩;obtain⟨B,cb,rfl,nb,mb,fb⟩:=x1.form;have q5:=b1.cell 5;have q2:=b1.cell 2;have r5:=b1.frozen 5;have r2:=b1.frozen 2;simp only[List.getElem?_toArray,List.getElem?_cons_succ,List.getElem?_cons_zero] at q5 q2;have B1:=Lib.hid b1;have L1:=Lib.hid l1;have X1:=Lib.hid x1;have HF1:=Lib.hid hF;clear b1 l1 x1 hF fb;go_simp))
   go_upto_region 7 with fail
   have T2:=T1.setCell (p:=⟨g,5,none⟩) (.inl rfl) (.int .u64 (tot (L++W)+k))
   have hz2:=T2.size
   have NL1:=B1.out.notOwn L1.out (by decide)
   have NW1:=B1.out.notOwn X1.out (by decide)
   have B2:=Lib.hid (B1.out.set_ 5 (.int .u64 (tot (L++W)+k)))
   have L2:=Lib.hid (L1.out.far (p:=⟨g,5,none⟩) NL1 (.int .u64 (tot (L++W)+k)))
   have X2:=Lib.hid (X1.out.far (p:=⟨g,5,none⟩) NW1 (.int .u64 (tot (L++W)+k)))
   have HF2:Hid (∀k1,F k1->k1<(w1.setCell ⟨g,5,none⟩ (.int .u64 (tot (L++W)+k))).heap.size):=fun k1 hf=>(by rw[World.size_setCell];exact HF1.out.2.2.2.2 k1 hf)
   generalize w1.setCell ⟨g,5,none⟩ (.int .u64 (tot (L++W)+k))=w2 at *
   clear q5 q2 r5 r2
   have q0:=B2.out.cell 0
   have q2:=B2.out.cell 2
   have r2:=B2.out.frozen 2
   simp only[List.getElem?_toArray,List.getElem?_cons_succ,List.getElem?_cons_zero,List.setIfInBounds_toArray,List.set_cons_succ,List.set_cons_zero] at q0 q2
   have hlt2:=B2.out.lt
   go_upto_block 0 with(first|(at_builtin;refine append_M rfl (.tmp 34) (.tmp 38) rfl 0 (.slice B W.length cb) W rfl (X2.out.alloc _) _ [(a,k)] rfl (RdM.one _ (a,k)) (by simp only[List.length_singleton];omega) (Nat.zero_le _) ?_;intro v1 w3 o3 g3 a3;have b3:=(g3.block g (by rw[World.size_alloc];omega) (fun e=>NW1 e.symm)).trans (B2.out.alloc (.cells #[.int .i64 a,.int .u64 k] 231));obtain⟨A3,c3,rfl,n3,m3,f3⟩:=o3.form;have s2:=Blk.cell b3 2;have s0:=Blk.cell b3 0;have u2:=Blk.frozen b3 2;simp only[List.getElem?_toArray,List.getElem?_cons_succ,List.getElem?_cons_zero,List.setIfInBounds_toArray,List.set_cons_succ,List.set_cons_zero] at s0 s2;have B3:Hid (Blk w3 g _ _):=Lib.hid b3;have O3:=Lib.hid o3;clear b3 o3 f3;go_simp))
   have KF:Hid (∃F':Nat->Prop,(∀k,F' k->F k\/w.heap.size<=k)/\Dg (w3.setCell ⟨g,2,none⟩ (.slice A3 (W.length+1) c3)) g F' d L (W++[(a,k)]) lo1 hi1 (tot (L++(W++[(a,k)])))/\Touch F w (w3.setCell ⟨g,2,none⟩ (.slice A3 (W.length+1) c3))):=by
    obtain⟨p1,p2,p3,p4,p5⟩:=HF1.out
    have hlen3:(W++[(a,k)]).length=W.length+1:=by simp
    have O3':=O3.out
    rw[hlen3] at O3' a3
    have T3:Touch F w w3:=((T2.mono (fun i (hi:i=g)=>hi▸p1)).alloc (.cells #[.int .i64 a,.int .u64 k] 231)).grown g3 (fun k1 hk1=>.inl (p3 k1 hk1))
    have T4:=T3.setCell (p:=⟨g,2,none⟩) (.inl p1) (.slice A3 (W.length+1) c3)
    have own3:∀k1,(Value.slice A3 (W.length+1) c3).ownBlock=some k1->F k1\/k1=w2.heap.size+1:=fun k1 e=>by
     rcases a3 with e3|e3
     ·exact .inl (p3 k1 (by rw[<-e3];exact e))
     ·rw[e3] at e;simp only[World.size_alloc,Option.some.injEq] at e;exact .inr e.symm
    have sz3:w2.heap.size+1<=w3.heap.size:=by have:=g3.size;rw[World.size_alloc] at this;exact this
    have ng3:(Value.slice A3 (W.length+1) c3).ownBlock≠some g:=fun e=>by
     rcases a3 with e3|e3
     ·exact NW1 (by rw[<-e3];exact e)
     ·rw[e3] at e;simp only[World.size_alloc,Option.some.injEq] at e;omega
    have L3:OwnM 0 w3 lv1 L:=(L2.out.alloc (.cells #[.int .i64 a,.int .u64 k] 231)).stay fun k1 e=>g3.block k1 (by rw[World.size_alloc];have:=HF2.out k1 (p2 k1 e);omega) (fun e2=>p4 k1 e2.symm e)
    have ht3:tot (L++W)+k=tot (L++(W++[(a,k)])):=by simp only[tot_append,tot];omega
    have B3':=B3.out
    rw[ht3] at B3'
    refine⟨fun k1=>F k1\/(Value.slice A3 (W.length+1) c3).ownBlock=some k1,?_,⟨lv1,_,B3'.set_ 2 _,L3.far (p:=⟨g,2,none⟩) (fun e=>B3.out.notOwn L3 (by decide) e) _,?_,.inl p1,fun k1 e=>.inl (p2 k1 e),fun k1 e=>.inr e,?_,?_⟩,T4⟩
    ·rintro k1 (hf|e)
     ·exact .inl hf
     ·rcases own3 k1 e with hf|hf
      ·exact .inl hf
      ·exact .inr (by have:=T2.size;omega)
    ·have:=O3'.far (p:=⟨g,2,none⟩) ng3 (.slice A3 (W.length+1) c3)
     exact this
    ·intro k1 e e2
     rcases a3 with e3|e3
     ·exact p4 k1 (by rw[<-e3];exact e) e2
     ·rw[e3] at e;simp only[World.size_alloc,Option.some.injEq] at e
      have:=HF2.out k1 (p2 k1 e2);omega
    ·intro k1 hk1
     rw[World.size_setCell]
     rcases hk1 with hf|e
     ·have:=HF2.out k1 hf;omega
     ·exact(O3'.lt k1 e).2
   have B4:=B3.out.set_ 2 (.slice A3 (W.length+1) c3)
   have v0:=B4.cell 0
   have v2:=B4.cell 2
   simp only[List.getElem?_toArray,List.getElem?_cons_succ,List.getElem?_cons_zero,List.setIfInBounds_toArray,List.set_cons_succ,List.set_cons_zero] at v0 v2
   clear B4 s0 s2 u2 NL1 NW1 q0 q2 r2 g3 a3
   generalize w3.setCell ⟨g,2,none⟩ (.slice A3 (W.length+1) c3)=w4 at *
   clear B3 O3 B2 L2 X2 HF2 T2 B1 L1 X1 HF1 T1 HD EN c5
   have hok:okL (L++(W++[(a,k)])):=by
    rw[<-List.append_assoc]
    exact ho.append (fun m hm=>by simp only[List.mem_singleton] at hm;subst hm;exact⟨ha.1,ha.2,by show 0<k;omega⟩)
   have HOK:=Lib.hid hok
   have HT:Hid (tot (L++(W++[(a,k)]))=tot (L++W)+k):=by show _=_;simp only[tot_append,tot];omega
   clear hok
   by_cases hd:d<=(W.length:Int)+1
   ·have EL:Hid (addL d L W (a,k)=prs d (L++(W++[(a,k)]))/\addW d W (a,k)=[]):=by unfold addL addW;rw[if_pos hd,if_pos hd];exact⟨rfl,rfl⟩
    obtain⟨F1,f1,f2,f3⟩:=KF.out
    have hlen4:L.length+(W++[(a,k)]).length<=100000000:=by simp only[List.length_append,List.length_singleton];omega
    have ht4:tot (L++(W++[(a,k)]))<=281474976710656:=by rw[HT.out];omega
    have PC:=Lib.hid (fun nq=>press_any g F1 d lo1 hi1 L (W++[(a,k)]) (w4.drewN nq) (f2.keep (below_drewN (Below.refl _ _) nq)) HOK.out (by simp) hlen4 ht4 d0 d1)
    have T5:=Lib.hid f3
    have F5:=Lib.hid f1
    clear f1 f2 f3 hlen4 ht4 KF
    go_quiet (fail)
    go_wp2_with fail
    refine(PC.out _).mono ?_
    rintro e w5 ⟨rfl,F2,g1,g2,g3⟩
    have G1:=Lib.hid g1
    have G2:=Lib.hid g2
    have G3:=Lib.hid g3
    have hs5:=T5.out.size
    clear g1 g2 g3
    go_wp2_with fail
    refine bodyPost_ret (by simp[results,Tryz.results133,go_sem, *];try rfl) rfl ?_
    refine⟨rfl,F2,?_,?_,?_⟩
    ·intro k1 h1
     rcases G1.out k1 h1 with h2|h2
     ·exact F5.out k1 h2
     ·exact .inr (by rw[size_drewN] at h2;omega)
    ·rw[EL.out.1,EL.out.2,<-HT.out]
     exact G2.out
    ·exact(T5.out.drewN _).trans G3.out (fun i hi=>F5.out i hi)
   ·have EL:Hid (addL d L W (a,k)=L/\addW d W (a,k)=W++[(a,k)]):=by unfold addL addW;rw[if_neg hd,if_neg hd];exact⟨rfl,rfl⟩
    obtain⟨F1,f1,f2,f3⟩:=KF.out
    have D5:=Lib.hid f2
    have T5:=Lib.hid f3
    have F5:=Lib.hid f1
    clear f1 f2 f3 KF
    go_quiet (fail)
    go_wp2_with fail
    refine bodyPost_ret (by simp[results,Tryz.results133,go_sem, *];try rfl) rfl ?_
    refine⟨rfl,F1,F5.out,?_,T5.out.drewN _⟩
    rw[EL.out.1,EL.out.2,<-HT.out]
    exact D5.out.keep (below_drewN (Below.refl _ _) _)
open Go.RowKit Go.Lib
theorem Dg.lt{w:World}{g:Nat}{F:Nat->Prop}{d lo hi n:Int}{L W:List Mn}(h:Dg w g F d L W lo hi n):g<w.heap.size:=by
 obtain⟨lv,wv,hb,_⟩:=h
 exact hb.lt
theorem Dg.low{w:World}{g:Nat}{F:Nat->Prop}{d lo hi n:Int}{L W:List Mn}(h:Dg w g F d L W lo hi n):∀k,F k->k<w.heap.size:=by
 obtain⟨lv,wv,_,_,_,_,_,_,_,h4⟩:=h
 exact h4
theorem fineness_any{g:Nat}{F:Nat->Prop}{d lo hi n:Int}{L W:List Mn}(w:World)(h:Dg w g F d L W lo hi n) :
 Calls Tryz.prog 72 #[.pointer (some ⟨g,0,none⟩)] w fun e w'=>e=.returned (.int .i64 d)/\w=w':=by
 obtain⟨lv,wv,hb,_⟩:=h
 have c5:=hb.cell 0
 simp only[List.getElem?_toArray,List.getElem?_cons_zero] at c5
 go_enter Tryz.func72,Tryz.ntmps72
 go_wp2_with fail
 refine bodyPost_ret (by simp[results,Tryz.results72,go_sem, *];try rfl) rfl ?_
 exact⟨rfl,rfl⟩
theorem ends_none{g:Nat}{F:Nat->Prop}{d lo hi:Int}{L W:List Mn}(w:World)(h:Dg w g F d L W lo hi 0) :
 Calls Tryz.prog 152 #[.pointer (some ⟨g,0,none⟩)] w fun e w'=>e=.returned (.tuple #[.int .i64 0,.int .i64 0,.int .i64 8])/\Below w.heap.size w w':=by
 obtain⟨lv,wv,hb,_⟩:=h
 have c5:=hb.cell 5
 simp only[List.getElem?_toArray,List.getElem?_cons_succ,List.getElem?_cons_zero] at c5
 clear hb
 go_enter Tryz.func152,Tryz.ntmps152
 go_wp2_with fail
 refine bodyPost_ret (by simp[results,Tryz.results152,go_sem, *];try rfl) rfl ?_
 exact⟨rfl,by(repeat' (first|(with_reducible exact Below.refl _ _)|(with_reducible refine Below.alloc ?_ ?_ _)|(with_reducible refine Below.drew ?_)|(with_reducible refine below_drewN ?_ _)|(with_reducible refine Below.setCell ?_ ?_ _)|(with_reducible refine below_of (by assumption) ?_ ?_)|go_size))⟩
theorem ends_some{g:Nat}{F:Nat->Prop}{d lo hi n:Int}{L W:List Mn}(w:World)(h:Dg w g F d L W lo hi n)(hn:0<n) :
 Calls Tryz.prog 152 #[.pointer (some ⟨g,0,none⟩)] w fun e w'=>e=.returned (.tuple #[.int .i64 lo,.int .i64 hi,.int .i64 0])/\Below w.heap.size w w':=by
 obtain⟨lv,wv,hb,_⟩:=h
 have c5:=hb.cell 5
 have c3:=hb.cell 3
 have c4:=hb.cell 4
 simp only[List.getElem?_toArray,List.getElem?_cons_succ,List.getElem?_cons_zero] at c3 c4 c5
 have h0:(n == 0)=false:=by simp;omega
 clear hb
 go_enter Tryz.func152,Tryz.ntmps152
 go_wp2_with fail
 go_quiet (fail)
 go_wp2_with fail
 refine bodyPost_ret (by simp[results,Tryz.results152,go_sem, *];try rfl) rfl ?_
 exact⟨rfl,by(repeat' (first|(with_reducible exact Below.refl _ _)|(with_reducible refine Below.alloc ?_ ?_ _)|(with_reducible refine Below.drew ?_)|(with_reducible refine below_drewN ?_ _)|(with_reducible refine Below.setCell ?_ ?_ _)|(with_reducible refine below_of (by assumption) ?_ ?_)|go_size))⟩
theorem list_any{g:Nat}{F:Nat->Prop}{d lo hi n:Int}{L W:List Mn}(w:World)(h:Dg w g F d L W lo hi n)(hl:L.length<=1099511627776) :
 Calls Tryz.prog 154 #[.pointer (some ⟨g,0,none⟩)] w fun e w'=>∃v,e=.returned v/\OwnM w.heap.size w' v L/\Below w.heap.size w w':=by
 obtain⟨lv,wv,hb,ho,_⟩:=h
 have c1:=hb.cell 1
 simp only[List.getElem?_toArray,List.getElem?_cons_succ,List.getElem?_cons_zero] at c1
 have HO:=Lib.hid ho
 clear hb ho
 go_enter Tryz.func154,Tryz.ntmps154
 go_wp2_with fail
 refine(clone_M lv L _ HO.out.rd hl).mono ?_
 rintro e w1 ⟨v,rfl,o,hb1⟩
 have O:=Lib.hid o
 clear o
 go_wp2_with fail
 refine bodyPost_ret (by simp[results,Tryz.results154,go_sem, *];try rfl) rfl ?_
 exact⟨_,rfl,O.out,hb1⟩
theorem waits_any{g:Nat}{F:Nat->Prop}{d lo hi n:Int}{L W:List Mn}(w:World)(h:Dg w g F d L W lo hi n)(hl:W.length<=1099511627776) :
 Calls Tryz.prog 156 #[.pointer (some ⟨g,0,none⟩)] w fun e w'=>∃v,e=.returned v/\OwnM w.heap.size w' v W/\Below w.heap.size w w':=by
 obtain⟨lv,wv,hb,_,ho,_⟩:=h
 have c1:=hb.cell 2
 simp only[List.getElem?_toArray,List.getElem?_cons_succ,List.getElem?_cons_zero] at c1
 have HO:=Lib.hid ho
 clear hb ho
 go_enter Tryz.func156,Tryz.ntmps156
 go_wp2_with fail
 refine(clone_M wv W _ HO.out.rd hl).mono ?_
 rintro e w1 ⟨v,rfl,o,hb1⟩
 have O:=Lib.hid o
 clear o
 go_wp2_with fail
 refine bodyPost_ret (by simp[results,Tryz.results156,go_sem, *];try rfl) rfl ?_
 exact⟨_,rfl,O.out,hb1⟩
theorem new_yes(d:Int)(w:World)(h0:10<=d)(h1:d<=1000) :
 Calls Tryz.prog 230 #[.int .i64 d] w fun e w'=>∃g,e=.returned (.tuple #[.pointer (some ⟨g,0,none⟩),.int .i64 0])/\w.heap.size<=g/\Dg w' g (fun k=>k=g) d [] [] 0 0 0/\Below w.heap.size w w':=by
 go_enter Tryz.func230,Tryz.ntmps230
 go_wp2_with fail
 refine bodyPost_ret (by simp[results,Tryz.results230,go_sem, *];try rfl) rfl ?_
 refine⟨_,rfl,?_,⟨.slice none 0 0,.slice none 0 0,?_,OwnM.nil_ _ _,OwnM.nil_ _ _,rfl,(fun k e=>by cases e),(fun k e=>by cases e),(fun k e=>by cases e),(fun k e=>by subst e;simp)⟩,?_⟩
 ·simp
 ·exact Blk.new _ _ _
 ·(repeat' (first|(with_reducible exact Below.refl _ _)|(with_reducible refine Below.alloc ?_ ?_ _)|(with_reducible refine Below.drew ?_)|(with_reducible refine below_drewN ?_ _)|(with_reducible refine Below.setCell ?_ ?_ _)|(with_reducible refine below_of (by assumption) ?_ ?_)|go_size))
open Go.RowKit Go.Lib
end Go.Proofs.YtkiebccnpheloaaGreat
