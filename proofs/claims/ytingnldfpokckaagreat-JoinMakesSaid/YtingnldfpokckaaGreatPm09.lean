/- Parts of a proof: what its theorem reaches, words cut short. No condition of its own. -/
import Derived.Test.YtingnldfpokckaaGreatPm08
set_option maxRecDepth 100000
set_option maxHeartbeats 16000000
set_option linter.unusedVariables false
set_option linter.unusedSimpArgs false
namespace Go.Proofs.YtingnldfpokckaaGreat
open Go.RowKit Go.Lib
theorem pressed_any(d:Int)(v:Value)(l:List Mn)(w:World)(h:RdM w v l)(h0:0<l.length)(ho:okL l)(hr:Rises l)(hlen:l.length<=1000000000)(ht:tot l<=281474976710656)(d0:0<=d)(d1:d<=1000) :
 Calls Tryz.prog 143 #[.int .i64 d,.int .u64 (tot l),v] w fun e w'=>∃v,e=.returned v/\OwnM w.heap.size w' v (press d (tot l) l)/\Below w.heap.size w w':=by
 obtain⟨A,c,rfl,hn,hc,hp⟩:=h.form
 obtain⟨g,off,rfl,hg,e0,e1⟩:=hp.at_ h0
 simp only[Nat.zero_mul,Nat.add_zero] at e0 e1
 have HP:=Lib.hid hp
 have ST:=Lib.hid (PrAt.start d h0 ho hr)
 have cut:=RdM.cut1 h0 hn hc hp
 have i1:(1:Int)<=(l.length:Int):=by omega
 clear hp h
 go_enter Tryz.func143,Tryz.ntmps143
 go_upto_block 0 with fail
 generalize (if c=1 then some (⟨g,off,none⟩:Addr) else some ⟨g,off+2,none⟩)=bb at cut |-
 have cf:=cut.form
 obtain⟨A',c',hv',hn',hc',hp'⟩:=cf
 simp only[Value.slice.injEq] at hv'
 obtain⟨rfl,hl',rfl⟩:=hv'
 have HQ:=Lib.hid hp'
 have HL:=Lib.hid hl'
 clear cut hp' hn' hc' hl'
 go_wp2_with fail
 go_loopg [7,8,18] (l.length - 1) (fun q o dn i wr=>∃(j:Nat) (acc:List Mn) (now:Mn),q=l.length - 1 - j/\j<=l.length - 1/\i=.int .i64 j/\dn=.int .u64 (tot acc)/\PrAt d (tot l) l (j+1) acc now /\
  OwnM (w.heap.size+1) wr o acc/\Blk wr w.heap.size 141 #[.int .i64 now.1,.int .u64 now.2]/\Below w.heap.size w wr)
 case atStart=>exact⟨0,[],l[0],rfl,by omega,rfl,rfl,ST.out,OwnM.nil_ _ _,Blk.new _ _ _,by(repeat' (first|(with_reducible exact Below.refl _ _)|(with_reducible refine Below.alloc ?_ ?_ _)|(with_reducible refine Below.drew ?_)|(with_reducible refine below_drewN ?_ _)|(with_reducible refine Below.setCell ?_ ?_ _)|(with_reducible refine below_of (by assumption) ?_ ?_)|go_size))⟩
 case round=>
  obtain⟨j,acc,now,hk,hj,rfl,rfl,hpr,hown,hblk,hb⟩:=hrel
  have HK:=Lib.hid hk
  have HO:=Lib.hid hown
  have HB:=Lib.hid hblk
  have hbl:=hblk.lt
  have hz:=hb.size
  have n0:=hblk.cell 0
  have n1:=hblk.cell 1
  have f0:=hblk.frozen 0
  have f1:=hblk.frozen 1
  simp only[List.getElem?_toArray,List.getElem?_cons_succ,List.getElem?_cons_zero] at n0 n1
  clear hk hown hblk
  by_cases hlt:j<l.length - 1
  ·have hlt1:j+1<l.length:=by omega
   obtain⟨p1,p2,p3,p4,p5⟩:=hpr.facts hlt1
   have hlt2:j<(l.drop 1).length:=by rw[List.length_drop];exact hlt
   obtain⟨g1,o1,rfl,hg1,x0,x1⟩:=HQ.out.at_ hlt2
   have hdrop:(l.drop 1)[j]=l[j+1]:=by rw[List.getElem_drop];congr 1;omega
   rw[hdrop] at x0 x1
   clear hdrop
   replace x0:=(hb.cell (p:=⟨_,_,none⟩) hg1).trans x0
   replace x1:=(hb.cell (p:=⟨_,_,none⟩) hg1).trans x1
   obtain⟨x,hx⟩:∃x,l[j+1]=x:=⟨_,rfl⟩
   rw[hx] at x0 x1 p3 p4 p5
   have q1:=p2.2.2
   have q2:=p3.2.2
   have MB:MayB d (tot l) (tot acc) (now.2+x.2):=⟨d0,d1,ht,p1,by omega,p5⟩
   have HPr:=Lib.hid hpr
   have HX:=Lib.hid hx
   clear hpr hx
   have m0:(wr.alloc (.cells #[.int .i64 x.1,.int .u64 x.2] 141)).cell? ⟨wr.heap.size,0,none⟩=some (.int .i64 x.1):=by simp[World.cell?_alloc_new]
   have m1:(wr.alloc (.cells #[.int .i64 x.1,.int .u64 x.2] 141)).cell? ⟨wr.heap.size,1,none⟩=some (.int .u64 x.2):=by simp[World.cell?_alloc_new]
   have M0:=Lib.hid m0
   have M1:=Lib.hid m1
   have BA:=Lib.hid (HB.out.alloc (.cells #[.int .i64 x.1,.int .u64 x.2] 141))
   have OA:=Lib.hid (HO.out.alloc (.cells #[.int .i64 x.1,.int .u64 x.2] 141))
   clear m0 m1
   go_upto_region 7 with fail
   go_wp2_with fail
   refine(may_any d (tot l) (tot acc) (now.2+x.2) _ MB).mono ?_
   rintro e w3 ⟨rfl,hb3⟩
   have hz3:=hb3.size
   simp only[World.size_alloc] at hz3
   have B3:=Lib.hid (BA.out.keep hb3)
   have O3:=Lib.hid (OA.out.keep hb3)
   have c0:=B3.out.cell 0
   have c1:=B3.out.cell 1
   have f0':=B3.out.frozen 0
   have f1':=B3.out.frozen 1
   simp only[List.getElem?_toArray,List.getElem?_cons_succ,List.getElem?_cons_zero] at c0 c1
   have c2:=(hb3.cell (p:=⟨wr.heap.size,0,none⟩) (by simp)).trans M0.out
   have c3:=(hb3.cell (p:=⟨wr.heap.size,1,none⟩) (by simp)).trans M1.out
   have hbw:Below w.heap.size w w3:=(hb.alloc hz _).trans (hb3.mono (by simp;omega))
   have hne:w.heap.size<wr.heap.size:=hbl
   clear n0 n1 f0 f1 x0 x1
   by_cases hmay:mayI d (tot l) (tot acc) (now.2+x.2)=true
   ·rw[hmay]
    have HP2:=Lib.hid (HPr.out.merge hlt1 (by rw[HX.out];exact hmay))
    clear hmay
    go_wp2_with fail
    refine(avg_any now.1 now.2 x.1 x.2 _ p2.1 p4 p3.2.1 (by omega) q2 (by omega)).mono ?_
    rintro e w4 ⟨rfl,hb4⟩
    have hz4:=hb4.size
    have d0':=(hb4.cell (p:=⟨w.heap.size,0,none⟩) (by show w.heap.size<w3.heap.size;omega)).trans c0
    have d1':=(hb4.cell (p:=⟨w.heap.size,1,none⟩) (by show w.heap.size<w3.heap.size;omega)).trans c1
    have d2:=(hb4.cell (p:=⟨wr.heap.size,1,none⟩) (by show wr.heap.size<w3.heap.size;omega)).trans c3
    have d3:=(hb4.frozen (p:=⟨w.heap.size,0,none⟩) (by show w.heap.size<w3.heap.size;omega)).trans f0'
    have d4:=(hb4.frozen (p:=⟨w.heap.size,1,none⟩) (by show w.heap.size<w3.heap.size;omega)).trans f1'
    have B4:=Lib.hid (((B3.out.keep hb4).set_ 0 (.int .i64 (lerpI now.1 x.1 x.2 (now.2+x.2)))).set_ 1 (.int .u64 (now.2+x.2)))
    have O4:=Lib.hid (((O3.out.keep hb4).far (p:=⟨w.heap.size,0,none⟩) (fun e=>by have h9:w.heap.size+1<=w.heap.size:=(O3.out.lt _ e).1;omega) (.int .i64 (lerpI now.1 x.1 x.2 (now.2+x.2)))).far (p:=⟨w.heap.size,1,none⟩) (fun e=>by have h9:w.heap.size+1<=w.heap.size:=(O3.out.lt _ e).1;omega) (.int .u64 (now.2+x.2)))
    go_wp2_with fail
    go_roundg (l.length - 1 - (j+1))
    case measure=>have:=HK.out;omega
    case rel=>exact⟨j+1,acc,_,rfl,by omega,by go_num,rfl,HP2.out,O4.out,by rw[HX.out];exact B4.out,by(repeat' (first|(with_reducible exact Below.refl _ _)|(with_reducible refine Below.alloc ?_ ?_ _)|(with_reducible refine Below.drew ?_)|(with_reducible refine below_drewN ?_ _)|(with_reducible refine Below.setCell ?_ ?_ _)|(with_reducible refine below_of (by assumption) ?_ ?_)|go_size))⟩
   ·have hmay':mayI d (tot l) (tot acc) (now.2+x.2)=false:=by simpa using hmay
    rw[hmay']
    have HP2:=Lib.hid (HPr.out.push hlt1 (by rw[HX.out];exact hmay'))
    have HT:Hid (tot (acc++[now])=tot acc+now.2):=by show _=_;rw[tot_append];simp[tot]
    have hal:acc.length<=1000000000:=by have:=HPr.out.len;omega
    clear hmay hmay'
    go_wp2_with (first
     | (at_builtin
        refine append_M rfl (.tmp 50) (.tmp 52) rfl (w.heap.size+1) u7 acc rfl (O3.out.alloc _) _ [now] rfl (RdM.one _ now) (by simp only[List.length_singleton];omega) (by go_size) ?_
        intro v4 w4 o4 g4 a4
        have hb4:Below w.heap.size w w4:=(hbw.alloc (by omega) _).grown g4 (by go_size) (fun k hk=>by have:=(O3.out.lt k hk).1;omega)
        have hz4:=g4.size
        simp only[World.size_alloc] at hz4
        have O4:=Lib.hid o4
        have hk4:∀k,k<w3.heap.size->u7.ownBlock≠some k->w4.heap[k]?=w3.heap[k]?:=fun k h1 h2=>(g4.block k (by simp;omega) (fun e=>h2 e.symm)).trans (Below.heap_alloc _ _ _ h1)
        have B4:=Lib.hid (show Blk w4 w.heap.size 141 #[.int .i64 now.1,.int .u64 now.2] from(hk4 _ (by omega) (fun e=>by have:=(O3.out.lt _ e).1;omega)).trans B3.out)
        have c6:=(World.cell?_of_block (a:=⟨wr.heap.size,0,none⟩) (hk4 wr.heap.size (by omega) (fun e=>by have:=(HO.out.lt _ e).2;omega))).trans c2
        have c7:=(World.cell?_of_block (a:=⟨wr.heap.size,1,none⟩) (hk4 wr.heap.size (by omega) (fun e=>by have:=(HO.out.lt _ e).2;omega))).trans c3
        have c4:=B4.out.cell 0
        have c5:=B4.out.cell 1
        have f4:=B4.out.frozen 0
        have f5:=B4.out.frozen 1
        simp only[List.getElem?_toArray,List.getElem?_cons_succ,List.getElem?_cons_zero] at c4 c5
        clear o4 g4 a4 hk4))
    go_roundg (l.length - 1 - (j+1))
    case measure=>have:=HK.out;omega
    case rel=>
     refine⟨j+1,acc++[now],x,rfl,by omega,by go_num,by rw[HT.out],by rw[<-HX.out];exact HP2.out,?_,?_,by(repeat' (first|(with_reducible exact Below.refl _ _)|(with_reducible refine Below.alloc ?_ ?_ _)|(with_reducible refine Below.drew ?_)|(with_reducible refine below_drewN ?_ _)|(with_reducible refine Below.setCell ?_ ?_ _)|(with_reducible refine below_of (by assumption) ?_ ?_)|go_size))⟩
     ·exact(O4.out.far (p:=⟨w.heap.size,0,none⟩) (fun e=>by have h9:w.heap.size+1<=w.heap.size:=(O4.out.lt _ e).1;omega) _).far (p:=⟨w.heap.size,1,none⟩) (fun e=>by have h9:w.heap.size+1<=w.heap.size:=(O4.out.lt _ e).1;omega) _
     ·exact(B4.out.set_ 0 (.int .i64 x.1)).set_ 1 (.int .u64 x.2)
  ·have hjl:j=l.length - 1:=by omega
   have HF:Hid (press d (tot l) l=acc++[now]):=by
    show _=_
    rw[show j+1=l.length by omega] at hpr
    exact hpr.fin
   have hal:acc.length<=1000000000:=by have:=hpr.len;omega
   clear hpr hjl
   go_wp2_with (first
    | (at_builtin
       refine append_M rfl (.tmp 60) (.tmp 62) rfl (w.heap.size+1) u7 acc rfl (HO.out.alloc _) _ [now] rfl (RdM.one _ now) (by simp only[List.length_singleton];omega) (by go_size) ?_
       intro v4 w4 o4 g4 a4
       have hb4:Below w.heap.size w w4:=(hb.alloc (by omega) _).grown g4 (by go_size) (fun k hk=>by have:=(HO.out.lt k hk).1;omega)
       have O4:=Lib.hid o4
       clear o4 g4 a4))
   go_ret
   exact⟨_,rfl,by rw[HF.out];exact O4.out.more (by omega),hb4⟩
open Go.RowKit Go.Lib
def Dg(w:World)(g:Nat)(F:Nat->Prop)(d:Int)(L W:List Mn)(lo hi n:Int):Prop:=
 ∃lv wv,Blk w g 130 #[.int .i64 d,lv,wv,.int .i64 lo,.int .i64 hi,.int .u64 n]/\OwnM 0 w lv L/\OwnM 0 w wv W/\F g/\(∀k,lv.ownBlock=some k->F k)/\(∀k,wv.ownBlock=some k->F k) /\
  (∀k,wv.ownBlock=some k->lv.ownBlock≠some k)/\(∀k,F k->k<w.heap.size)
theorem Dg.stay{w w':World}{g:Nat}{F:Nat->Prop}{d lo hi n:Int}{L W:List Mn}(h:Dg w g F d L W lo hi n)(hk:∀k,F k->w'.heap[k]?=w.heap[k]?)(hz:w.heap.size<=w'.heap.size):Dg w' g F d L W lo hi n:=by
 obtain⟨lv,wv,hb,hl,hw,hg,h1,h2,h3,h4⟩:=h
 exact⟨lv,wv,(hk g hg).trans hb,hl.stay fun k e=>hk k (h1 k e),hw.stay fun k e=>hk k (h2 k e),hg,h1,h2,h3,fun k hf=>Nat.lt_of_lt_of_le (h4 k hf) hz⟩
theorem Dg.keep{w w':World}{g:Nat}{F:Nat->Prop}{d lo hi n:Int}{L W:List Mn}(h:Dg w g F d L W lo hi n)(hb:Below w.heap.size w w'):Dg w' g F d L W lo hi n:=by
 have h4:=h
 obtain⟨lv,wv,_,_,_,_,_,_,_,h4⟩:=h4
 exact h.stay (fun k hk=>hb.block k (h4 k hk)) hb.size
theorem rd_row2{w:World}{a b:Value}{L W:List Mn}{t:Nat}(h1:RdM (w.alloc (.cells #[a,b] t)) a L)(h2:RdM (w.alloc (.cells #[a,b] t)) b W):RdRow (w.alloc (.cells #[a,b] t)) w.heap.size [L,W]:=by
 intro i hi
 have:i=0\/i=1:=by simp at hi;omega
 rcases this with rfl|rfl
 ·exact⟨a,by simp[World.cell?_alloc_new],h1⟩
 ·exact⟨b,by simp[World.cell?_alloc_new],h2⟩
structure PrS(g:Nat)(d:Int)(B:Option Addr)(n c:Nat)(t:Int)(w w':World):Prop where
 touch:Touch (fun k=>k=g) w w'
 c0:w'.cell? ⟨g,0,none⟩=some (.int .i64 d)
 c2:w'.cell? ⟨g,2,none⟩=some (.slice B n c)
 c5:w'.cell? ⟨g,5,none⟩=some (.int .u64 t)
theorem PrS.set_{g:Nat}{d:Int}{B:Option Addr}{n c:Nat}{t:Int}{w w':World}(h:PrS g d B n c t w w')(v:Value):PrS g d B n c t w (w'.setCell ⟨g,1,none⟩ v):=
 ⟨h.touch.setCell (.inl rfl) v,(World.cell?_setCell_other _ _ _ _ (by simp)).trans h.c0,(World.cell?_setCell_other _ _ _ _ (by simp)).trans h.c2,(World.cell?_setCell_other _ _ _ _ (by simp)).trans h.c5⟩
theorem press_any(g:Nat)(F:Nat->Prop)(d lo hi:Int)(L W:List Mn)(w:World)(h:Dg w g F d L W lo hi (tot (L++W)))(ho:okL (L++W))(hne:L++W≠[])(hlen:L.length+W.length<=100000000)(ht:tot (L++W)<=281474976710656)(d0:0<=d)(d1:d<=1000) :
 Calls Tryz.prog 71 #[.pointer (some ⟨g,0,none⟩)] w fun e w'=>e=.returned (.tuple #[])/\∃F':Nat->Prop,(∀k,F' k->F k\/w.heap.size<=k)/\Dg w' g F' d (prs d (L++W)) [] lo hi (tot (L++W))/\Touch F w w':=by
 obtain⟨lv,wv,hb,hl,hw,hg,h1,h2,h3,h4⟩:=h
 have c0:=hb.cell 0
 have c1:=hb.cell 1
 have c2:=hb.cell 2
 have c5:=hb.cell 5
 have f1:=hb.frozen 1
 have f2:=hb.frozen 2
 simp only[List.getElem?_toArray,List.getElem?_cons_succ,List.getElem?_cons_zero] at c0 c1 c2 c5
 have hlt:=hb.lt
 have HB:=Lib.hid hb
 have HL:=Lib.hid hl
 have HW:=Lib.hid hw
 obtain⟨A,ca,rfl,na,ma,fa⟩:=hl.form
 obtain⟨B,cb,rfl,nb,mb,fb⟩:=hw.form
 have HG:=Lib.hid (And.intro hg (And.intro h1 (And.intro h2 (And.intro h3 h4))))
 have HC0:=Lib.hid c0
 have HC1:=Lib.hid c1
 have HC2:=Lib.hid c2
 have HC5:=Lib.hid c5
 have HO:=Lib.hid ho
 have HNE:0<L.length+W.length:=by
  rcases Nat.eq_zero_or_pos (L.length+W.length) with h0|h0
  ·exact absurd (List.eq_nil_of_length_eq_zero (by rw[List.length_append];exact h0)) hne
  ·exact h0
 have hp:∀W0:Prop,(0<W.length->W0)->(¬0<W.length->0<L.length->W0)->W0:=fun W0 a b=>by
  by_cases h:0<W.length
  ·exact a h
  ·exact b h (by omega)
 clear hb hl hw fa fb ho hg h1 h2 h3 h4 hne hp
 by_cases hW:0<W.length
 all_goals
  try (have hL:0<L.length:=by omega)
  go_enter Tryz.func71,Tryz.ntmps71
  go_upto_region 1 with fail
  have HRD1:=Lib.hid HL.out.rd
  have HRD2:=Lib.hid HW.out.rd
  have HSB:∀w',Below w.heap.size w w'->PrS g d B W.length cb (tot (L++W)) w w':=fun w' hb=>⟨Touch.of_below hb (Nat.le_refl _),(hb.cell (p:=⟨g,0,none⟩) hlt).trans HC0.out,(hb.cell (p:=⟨g,2,none⟩) hlt).trans HC2.out,(hb.cell (p:=⟨g,5,none⟩) hlt).trans HC5.out⟩
  refine wp_region_planT (PrS g d B W.length cb (tot (L++W)) w) 27 [(0,true),(1,true),(2,true),(3,true),(4,true),(5,true),(6,true),(7,true),(8,true),(9,true),(10,true),(11,true),(12,true),(14,true),(15,true),(16,true),(17,true),(13,false),(18,false),(19,false),(20,false),(21,false),(22,true),(23,true),(24,false),(25,true),(26,true)] (by kernel_rfl) (by kernel_rfl) (HSB _ (Below.refl _ _).drew) ?_
  iterate 17
   refine wpPlanT_read (by rfl) (by rfl) (fun R hR=>?_)
   apply Exists.intro
   refine⟨fun w' hS'=>?_,?_⟩
   ·have k0:=hS'.c0
    have k2:=hS'.c2
    have k5:=hS'.c5
    go_simp
    exact⟨rfl,rfl⟩
   go_simp
   refine hR _ ?_
   clear hR R
  refine wpPlanT_do (by rfl) (by rfl) (fun K hK=>?_)
  go_simp
  refine hK _ _ (HSB _ (Below.refl _ _).drew) ?_
  clear hK K
  refine wpPlanT_do (by rfl) (by rfl) (fun K hK=>?_)
  go_simp
  refine hK _ _ (HSB _ (((Below.refl _ _).drew).alloc (by go_size) _)) ?_
  clear hK K
  refine wpPlanT_do (by rfl) (by rfl) (fun K hK=>?_)
  go_simp
  have hrow:RdRow (w.drew.alloc (.cells #[.slice A L.length ca,.slice B W.length cb] 90)) w.heap.size [L,W]:=rd_row2 (HRD1.out.keep (((Below.refl _ _).drew).alloc (by go_size) _)) (HRD2.out.keep (((Below.refl _ _).drew).alloc (by go_size) _))
  refine(concat_M w.heap.size [L,W] _ (by go_size) hrow (by simp) (by simp;omega)).mono ?_
  rintro e w1 ⟨v1,rfl,o1,hb1⟩
  have hbw1:Below w.heap.size w w1:=(((Below.refl _ _).drew).alloc (by go_size) _).trans (hb1.mono (by go_size))
  have hz1:=hbw1.size
  rw[show([L,W]:List (List Mn)).flatten=L++W by simp] at o1
  have O1:=Lib.hid o1
  clear o1
  refine hK _ _ (HSB _ hbw1) ?_
  clear hK K
  refine wpPlanT_do (by rfl) (by rfl) (fun K hK=>?_)
  go_simp
  refine(sorted_any _ (L++W) v1 _ (Nat.le_refl _) (by rw[List.length_append];omega) O1.out.rd).mono ?_
  rintro e w2 ⟨v2,rfl,o2,hb2⟩
  have hbw2:Below w.heap.size w w2:=hbw1.trans (hb2.mono hz1)
  have hz2:=hbw2.size
  have O2:=Lib.hid o2
  clear o2
  refine hK _ _ (HSB _ hbw2) ?_
  clear hK K
  refine wpPlanT_do (by rfl) (by rfl) (fun K hK=>?_)
  go_simp
  have hpr:=pressed_any d v2 (srt (L++W)) w2 O2.out (by rw[srt_length,List.length_append];exact HNE) (HO.out.srt) (rises_srt _) (by rw[srt_length,List.length_append];omega) (by rw[tot_srt];exact ht) d0 d1
  rw[tot_srt] at hpr
  refine hpr.mono ?_
  rintro e w3 ⟨v3,rfl,o3,hb3⟩
  have hbw3:Below w.heap.size w w3:=hbw2.trans (hb3.mono hz2)
  have hz3:=hbw3.size
  have O3:=Lib.hid o3
  clear o3 hpr
  refine hK _ _ (HSB _ hbw3) ?_
  clear hK K
  iterate 2
   refine wpPlanT_read (by rfl) (by rfl) (fun R hR=>?_)
   apply Exists.intro
   refine⟨fun w' hS'=>?_,?_⟩
   ·have k0:=hS'.c0
    have k2:=hS'.c2
    have k5:=hS'.c5
    go_simp
    exact⟨rfl,rfl⟩
   go_simp
   refine hR _ ?_
   clear hR R
  refine wpPlanT_do (by rfl) (by rfl) (fun K hK=>?_)
  obtain⟨A3,c3,rfl,n3,m3,f3⟩:=O3.out.form
  clear f3
  have k1:=(hbw3.frozen (p:=⟨g,1,none⟩) hlt).trans f1
  have k3:=(hbw3.cell (p:=⟨g,1,none⟩) hlt).trans HC1.out
  go_simp
  refine hK _ _ ((HSB _ hbw3).set_ _) ?_
  clear hK K
  iterate 2
   refine wpPlanT_read (by rfl) (by rfl) (fun R hR=>?_)
   apply Exists.intro
   refine⟨fun w' hS'=>?_,?_⟩
   ·have k0:=hS'.c0
    have k2:=hS'.c2
    have k5:=hS'.c5
    go_simp
    exact⟨rfl,rfl⟩
   go_simp
   refine hR _ ?_
   clear hR R
  refine wpPlanT_nil ?_
  simp only[List.drop_succ_cons,List.drop_zero]
  have k2:=(hbw3.frozen (p:=⟨g,2,none⟩) hlt).trans f2
  have k4:=(hbw3.cell (p:=⟨g,2,none⟩) hlt).trans HC2.out
  go_wp2_with fail
  refine calm_normal ?_
  go_wp2_with fail
  refine bodyPost_end (v:=.tuple #[]) (by simp[results,Tryz.results71,go_sem, *];try rfl) rfl ?_
  refine⟨rfl,fun k=>k=g\/(Value.slice A3 (prs d (L++W)).length c3).ownBlock=some k,?_,?_,?_⟩
  ·rintro k (rfl|hk)
   ·exact .inl HG.out.1
   ·exact .inr (by have:=(O3.out.lt k hk).1;omega)
  ·obtain⟨hg,h1,h2,h3,h4⟩:=HG.out
   have hgo:∀k,(Value.slice A3 (prs d (L++W)).length c3).ownBlock=some k->w.heap.size<=k/\k<w3.heap.size:=fun k hk=>by have:=O3.out.lt k hk;omega
   have hgn:∀i,(Value.slice A3 (prs d (L++W)).length c3).ownBlock≠some (⟨g,i,none⟩:Addr).block:=fun i hk=>by have:=hgo g hk;omega
   refine⟨_,_,((HB.out.keep hbw3).set_ 1 _).set_ 2 _,((O3.out.more (Nat.zero_le _)).far (hgn 1) _).far (hgn 2) _,OwnM.nil_ _ _,.inl rfl,fun k hk=>.inr hk,fun k hk=>(by cases hk),fun k hk=>(by cases hk),fun k hk=>?_⟩
   simp only[World.size_setCell]
   rcases hk with rfl|hk
   ·omega
   ·have:=hgo k hk;omega
  ·exact((Touch.of_below hbw3 (Nat.le_refl _)).setCell (.inl HG.out.1) _).setCell (.inl HG.out.1) _
open Go.RowKit Go.Lib
theorem total_any{g:Nat}{F:Nat->Prop}{d lo hi n:Int}{L W:List Mn}(w:World)(h:Dg w g F d L W lo hi n) :
 Calls Tryz.prog 56 #[.pointer (some ⟨g,0,none⟩)] w fun e w'=>e=.returned (.int .u64 n)/\w=w':=by
 obtain⟨lv,wv,hb,_⟩:=h
 have c5:=hb.cell 5
 simp only[List.getElem?_toArray,List.getElem?_cons_succ,List.getElem?_cons_zero] at c5
 go_enter Tryz.func56,Tryz.ntmps56
 go_wp2_with fail
 refine bodyPost_ret (by simp[results,Tryz.results56,go_sem, *];try rfl) rfl ?_
 exact⟨rfl,rfl⟩
theorem Blk.notOwn{w:World}{g t b:Nat}{cs:Array Value}{v:Value}{l:List Mn}(h:Blk w g t cs)(ho:OwnM b w v l)(ht:t≠141):v.ownBlock≠some g:=by
 intro e
 rcases ho.2 with h2|⟨g',cap,cur,rfl,e2,e3,r⟩
 ·rw[h2.1] at e;cases e
 ·cases e
  unfold Blk at h
  rw[h] at e3
  cases e3
  exact ht rfl
theorem Dg.cells{w w':World}{g:Nat}{F:Nat->Prop}{d d' lo hi n lo' hi' n':Int}{L W:List Mn}{lv wv:Value}(hb:Blk w g 130 #[.int .i64 d,lv,wv,.int .i64 lo,.int .i64 hi,.int .u64 n])(hl:OwnM 0 w lv L)(hw:OwnM 0 w wv W)
 (hF:F g/\(∀k,lv.ownBlock=some k->F k)/\(∀k,wv.ownBlock=some k->F k)/\(∀k,wv.ownBlock=some k->lv.ownBlock≠some k)/\(∀k,F k->k<w.heap.size))
 (ht:Touch (fun k=>k=g) w w') (hb':Blk w' g 130 #[.int .i64 d',lv,wv,.int .i64 lo',.int .i64 hi',.int .u64 n']):Dg w' g F d' L W lo' hi' n':=by
 obtain⟨hg,h1,h2,h3,h4⟩:=hF
 have nl:=hb.notOwn hl (by decide)
 have nw:=hb.notOwn hw (by decide)
 exact⟨lv,wv,hb',hl.stay fun k e=>ht.block k (h4 k (h1 k e)) (fun h=>nl (by rw[e,h])),hw.stay fun k e=>ht.block k (h4 k (h2 k e)) (fun h=>nw (by rw[e,h])),hg,h1,h2,h3,fun k hf=>Nat.lt_of_lt_of_le (h4 k hf) ht.size⟩
structure EnS(g:Nat)(hi:Int)(w w':World):Prop where
 c4:w'.cell? ⟨g,4,none⟩=some (.int .i64 hi)
theorem ends_any{g:Nat}{F:Nat->Prop}{d lo hi n:Int}{L W:List Mn}(a b:Int)(w:World)(h:Dg w g F d L W lo hi n)(_hlo:-9223372036854775808<=lo/\lo<=9223372036854775807)(_hhi:-9223372036854775808<=hi/\hi<=9223372036854775807)(_ha:-9223372036854775808<=a/\a<=9223372036854775807)(_hb':-9223372036854775808<=b/\b<=9223372036854775807)(hn0:0<=n/\n<=18446744073709551615) :
 Calls Tryz.prog 72 #[.pointer (some ⟨g,0,none⟩),.int .i64 a,.int .i64 b] w fun e w'=>e=.returned (.tuple #[])/\Dg w' g F d L W (if n=0 then a else min lo a) (if n=0 then b else max hi b) n/\Touch (fun k=>k=g) w w':=by
 obtain⟨lv,wv,hb,hl,hw,hg,h1,h2,h3,h4⟩:=h
 have c3:=hb.cell 3
 have c4:=hb.cell 4
 have c5:=hb.cell 5
 have f3:=hb.frozen 3
 have f4:=hb.frozen 4
 have hlt:=hb.lt
 simp only[List.getElem?_toArray,List.getElem?_cons_succ,List.getElem?_cons_zero] at c3 c4 c5
 have HB:=Lib.hid hb
 have HL:=Lib.hid hl
 have HW:=Lib.hid hw
 have HG:=Lib.hid (And.intro hg (And.intro h1 (And.intro h2 (And.intro h3 h4))))
 clear hb hl hw hg h1 h2 h3 h4
 clear c3 c4 f3 f4
 by_cases hn:n=0
 ·subst hn
  go_enter Tryz.func72,Tryz.ntmps72
  have c3:=HB.out.cell 3
  have c4:=HB.out.cell 4
  have f3:=HB.out.frozen 3
  have f4:=HB.out.frozen 4
  simp only[List.getElem?_toArray,List.getElem?_cons_succ,List.getElem?_cons_zero] at c3 c4
  go_wp2_with fail
  have HB2:=Lib.hid ((HB.out.set_ 3 (.int .i64 a)).set_ 4 (.int .i64 b))
  have T2:Touch (fun k=>k=g) w ((w.setCell ⟨g,3,none⟩ (.int .i64 a)).setCell ⟨g,4,none⟩ (.int .i64 b)):=((Touch.refl (fun k=>k=g) w).setCell (p:=⟨g,3,none⟩) (.inl rfl) _).setCell (p:=⟨g,4,none⟩) (.inl rfl) _
  generalize (w.setCell ⟨g,3,none⟩ (.int .i64 a)).setCell ⟨g,4,none⟩ (.int .i64 b)=w2 at *
  clear c3 c4 f3 f4 c5
  have c3:=HB2.out.cell 3
  have c4:=HB2.out.cell 4
  have f3:=HB2.out.frozen 3
  have f4:=HB2.out.frozen 4
  simp only[List.getElem?_toArray,List.getElem?_cons_succ,List.getElem?_cons_zero,List.setIfInBounds_toArray,List.set_cons_succ,List.set_cons_zero] at c3 c4
  refine wp_region_planT (EnS g b w) 19 [(0,true),(1,true),(2,true),(3,true),(4,true),(6,true),(8,true),(9,true),(10,true),(11,true),(12,true),(13,true),(5,false),(7,true),(14,true),(15,true),(16,false),(17,true),(18,true)] (by kernel_rfl) (by kernel_rfl) (⟨c4⟩) ?_
  iterate 12
   refine wpPlanT_read (by rfl) (by rfl) (fun R hR=>?_)
   apply Exists.intro
   refine⟨fun w' hS'=>?_,?_⟩
   ·have k4:=hS'.c4
    go_simp
    exact⟨rfl,rfl⟩
   go_simp
   refine hR _ ?_
   clear hR R
  refine wpPlanT_do (by rfl) (by rfl) (fun K hK=>?_)
  go_simp
  refine hK _ _ (⟨c4⟩) ?_
  clear hK K
  iterate 3
   refine wpPlanT_read (by rfl) (by rfl) (fun R hR=>?_)
   apply Exists.intro
   refine⟨fun w' hS'=>?_,?_⟩
   ·have k4:=hS'.c4
    go_simp
    exact⟨rfl,rfl⟩
   go_simp
   refine hR _ ?_
   clear hR R
  refine wpPlanT_do (by rfl) (by rfl) (fun K hK=>?_)
  go_simp
  refine hK _ _ (⟨(World.cell?_setCell_other _ _ _ _ (by simp)).trans c4⟩) ?_
  clear hK K
  iterate 2
   refine wpPlanT_read (by rfl) (by rfl) (fun R hR=>?_)
   apply Exists.intro
   refine⟨fun w' hS'=>?_,?_⟩
   ·have k4:=hS'.c4
    go_simp
    exact⟨rfl,rfl⟩
   go_simp
   refine hR _ ?_
   clear hR R
  refine wpPlanT_nil ?_
  simp only[List.drop_succ_cons,List.drop_zero]
  go_wp2_with fail
  refine calm_normal ?_
  go_wp2_with fail
  refine bodyPost_end (v:=.tuple #[]) (by simp[results,Tryz.results72,go_sem, *];try rfl) rfl ?_
  have T3:=((T2.setCell (p:=⟨g,3,none⟩) (.inl rfl) (.int .i64 a)).setCell (p:=⟨g,4,none⟩) (.inl rfl) (.int .i64 b)).drew
  exact⟨rfl,Dg.cells HB.out HL.out HW.out HG.out T3 ((HB2.out.set_ 3 _).set_ 4 _),T3⟩
 ·go_enter Tryz.func72,Tryz.ntmps72
  have c3:=HB.out.cell 3
  have c4:=HB.out.cell 4
  have f3:=HB.out.frozen 3
  have f4:=HB.out.frozen 4
  simp only[List.getElem?_toArray,List.getElem?_cons_succ,List.getElem?_cons_zero] at c3 c4
  go_upto_region 2 with fail
  refine wp_region_planT (EnS g hi w) 19 [(0,true),(1,true),(2,true),(3,true),(4,true),(6,true),(8,true),(9,true),(10,true),(11,true),(12,true),(13,true),(5,false),(7,true),(14,true),(15,true),(16,false),(17,true),(18,true)] (by kernel_rfl) (by kernel_rfl) (⟨c4⟩) ?_
  iterate 12
   refine wpPlanT_read (by rfl) (by rfl) (fun R hR=>?_)
   apply Exists.intro
   refine⟨fun w' hS'=>?_,?_⟩
   ·have k4:=hS'.c4
    go_simp
    exact⟨rfl,rfl⟩
   go_simp
   refine hR _ ?_
   clear hR R
  refine wpPlanT_do (by rfl) (by rfl) (fun K hK=>?_)
  go_simp
  refine hK _ _ (⟨c4⟩) ?_
  clear hK K
  iterate 3
   refine wpPlanT_read (by rfl) (by rfl) (fun R hR=>?_)
   apply Exists.intro
   refine⟨fun w' hS'=>?_,?_⟩
   ·have k4:=hS'.c4
    go_simp
    exact⟨rfl,rfl⟩
   go_simp
   refine hR _ ?_
   clear hR R
  refine wpPlanT_do (by rfl) (by rfl) (fun K hK=>?_)
  go_simp
  refine hK _ _ (⟨(World.cell?_setCell_other _ _ _ _ (by simp)).trans c4⟩) ?_
  clear hK K
  iterate 2
   refine wpPlanT_read (by rfl) (by rfl) (fun R hR=>?_)
   apply Exists.intro
   refine⟨fun w' hS'=>?_,?_⟩
   ·have k4:=hS'.c4
    go_simp
    exact⟨rfl,rfl⟩
   go_simp
   refine hR _ ?_
   clear hR R
  refine wpPlanT_nil ?_
  simp only[List.drop_succ_cons,List.drop_zero]
  go_wp2_with fail
  refine calm_normal ?_
  go_wp2_with fail
  refine bodyPost_end (v:=.tuple #[]) (by simp[results,Tryz.results72,go_sem, *];try rfl) rfl ?_
  have T3:=(((Touch.refl (fun k=>k=g) w).setCell (p:=⟨g,3,none⟩) (.inl rfl) (.int .i64 (min lo a))).setCell (p:=⟨g,4,none⟩) (.inl rfl) (.int .i64 (max hi b))).drew
  exact⟨rfl,Dg.cells HB.out HL.out HW.out HG.out T3 ((HB.out.set_ 3 _).set_ 4 _),T3⟩
end Go.Proofs.YtingnldfpokckaaGreat
