/- Parts of a proof: what its theorem reaches, words cut short. No condition of its own. -/
import Derived.Test.YtingnldfpokckaaGreatPm42
import Derived.Deep.SlicePairs
set_option maxRecDepth 100000
set_option maxHeartbeats 16000000
set_option linter.unusedVariables false
set_option linter.unusedSimpArgs false
namespace Go.Proofs.YtingnldfpokckaaGreat.K
open Go.RowKit
theorem take_idle{F G:Nat->Prop}{g h k n m led led2 a b:Nat}{lv lv2:Value}{vs vs2:List Sv}{L M:LL}(w:World)(hs:Kst F w g k n led lv vs L)(ht:Kst G w h k m led2 lv2 vs2 M)
 (hok:PkOk (L,led,a)) (hom:PkOk (M,led2,b)) (hn:n=wt L) (hm:m=wt M) (hnm:n+m<=281474976710656) (hcn:cnt L+cnt M<=900000) (h2:2<=k) (hk:k<=1000000) (hfn:fullN k (takeL L M)=none) :
 Calls Tryz.prog 33 #[.pointer (some ⟨g,0,none⟩),.pointer (some ⟨h,0,none⟩),.pointer none] w fun e w'=>e=.returned (.int .i64 0)/\∃F' lv' vs',Kst F' w' g k (n+m) (min (led+led2) 4611686018427387904) lv' vs' (takeL L M)/\(∀x,F' x->F x\/w.heap.size<=x)/\(∀x,F x->F' x)/\Touch F w w':=by
 have HOKA:=Lib.hid (pkOk_take hok hom (by omega) hcn)
 have HT:=Lib.hid ht
 have HS:=Lib.hid hs
 have HFN:=Lib.hid hfn
 have HSR:=Lib.hid hok.srt
 have hledb:led<=4611686018427387904:=hok.led
 have hled2:led2<=4611686018427387904:=hom.led
 have hlenL:L.length<=49:=hok.len
 have hlenM:M.length<=49:=hom.len
 have c0:=hs.cell0
 have C2:=Lib.hid hs.cell2
 have c2:=hs.cell2
 have C3:=Lib.hid hs.cell3
 have d0:=ht.cell0
 have d2:=ht.cell2
 have D2:=Lib.hid ht.cell2
 have D3:=Lib.hid ht.cell3
 have hgw:=hs.blk.lt
 have hhw:=ht.blk.lt
 have hov:¬(m:Int) > 281474976710656 - (n:Int):=by omega
 have hcM:cnt M<=1000000000:=by omega
 clear hs ht hok hom hn hm hfn
 go_enter Tryz.func33,Tryz.ntmps33
 go_wp2_with fail
 go_quiet (fail)
 go_wp2_with fail
 go_quiet (fail)
 go_upto_region 7 with fail
 clear c0 c2 d0 d2
 refine wp_region_plan (fun w'=>Below w.heap.size w w') [(0,true),(2,true),(3,true),(4,true),(5,true),(6,true),(7,true),(8,true),(9,true),(1,false),(10,true),(11,true),(12,true)] (by kernel_rfl) (by kernel_rfl) (by(repeat' (first|(with_reducible exact Below.refl _ _)|(with_reducible refine Below.alloc ?_ ?_ _)|(with_reducible refine Below.drew ?_)|(with_reducible refine below_drewN ?_ _)|(with_reducible refine Below.setCell ?_ ?_ _)|(with_reducible refine below_of (by assumption) ?_ ?_)|go_size))) ?_
 iterate 9
  refine wpPlan_read (by rfl) (by rfl) (fun R hR=>?_)
  apply Exists.intro
  refine⟨fun w' hS'=>?_,?_⟩
  ·have d2:=(hS'.cell (p:=⟨h,2,none⟩) hhw).trans D2.out
   have d3:=(hS'.cell (p:=⟨h,3,none⟩) hhw).trans D3.out
   go_simp
   exact⟨rfl,rfl⟩
  go_simp
  refine hR _ ?_
  clear hR R
 refine wpPlan_do (by rfl) (by rfl) (fun K hK=>?_)
 go_simp
 refine(levels_any _ (HT.out.keep (by(repeat' (first|(with_reducible exact Below.refl _ _)|(with_reducible refine Below.alloc ?_ ?_ _)|(with_reducible refine Below.drew ?_)|(with_reducible refine below_drewN ?_ _)|(with_reducible refine Below.setCell ?_ ?_ _)|(with_reducible refine below_of (by assumption) ?_ ?_)|go_size)))) (by omega) hcM).mono ?_
 rintro e w1 ⟨lw,ws,rfl,hlo,hb1⟩
 have HLO:=Lib.hid hlo
 have HB1:Below w.heap.size w w1:=Below.trans (by(repeat' (first|(with_reducible exact Below.refl _ _)|(with_reducible refine Below.alloc ?_ ?_ _)|(with_reducible refine Below.drew ?_)|(with_reducible refine below_drewN ?_ _)|(with_reducible refine Below.setCell ?_ ?_ _)|(with_reducible refine below_of (by assumption) ?_ ?_)|go_size))) hb1
 clear hlo hb1
 refine hK _ _ (HB1) ?_
 clear hK K
 iterate 3
  refine wpPlan_read (by rfl) (by rfl) (fun R hR=>?_)
  apply Exists.intro
  refine⟨fun w' hS'=>?_,?_⟩
  ·have d2:=(hS'.cell (p:=⟨h,2,none⟩) hhw).trans D2.out
   have d3:=(hS'.cell (p:=⟨h,3,none⟩) hhw).trans D3.out
   go_simp
   exact⟨rfl,rfl⟩
  go_simp
  refine hR _ ?_
  clear hR R
 refine wpPlan_nil ?_
 have HL1:Hid (LLO w.heap.size w1 lw ws M):=Lib.hid (by have h1:=HLO.out;simpa only[size_drewN] using h1)
 have HS1:=Lib.hid (HS.out.keep HB1)
 have k2:=HS1.out.cell2
 have f2:=HS1.out.blk.frozen 2
 go_upto_region 9 with fail
 have hst2:=HS1.out.put2 (.int .u64 (n+m:Nat))
 rw[Int.natCast_add] at hst2
 have HS2:=Lib.hid hst2
 have HT2:Hid (Touch F w (w1.setCell ⟨g,2,none⟩ (.int .u64 ((n:Int)+(m:Int))))):=Lib.hid ((Touch.of_below HB1 (Nat.le_refl _)).setCell (.inl HS1.out.fg) _)
 have HA1:Hid (AsideL F w1 lw ws M):=Lib.hid (AsideL.of_own HL1.out fun kk e=>HS.out.low kk e)
 have HA2:Hid (AsideL F (w1.setCell ⟨g,2,none⟩ (.int .u64 ((n:Int)+(m:Int)))) lw ws M):=Lib.hid (HA1.out.next (fun kk _ h1=>Below.heap_setCell w1 ⟨g,2,none⟩ _ kk (fun e=>h1 (by rw[e];exact HS1.out.fg))) (by simp) (fun kk e=>.inl e))
 obtain⟨w2,hw2⟩:∃x,w1.setCell ⟨g,2,none⟩ (.int .u64 ((n:Int)+(m:Int)))=x:=⟨_,rfl⟩
 rw[hw2] at HS2 HT2 HA2 |-
 clear hw2 hst2 k2 f2 HS1 HL1 HLO HA1 HB1
 have k3:w2.cell? ⟨g,3,none⟩=some (.int .u64 led):=HS2.out.cell3
 have f3:=HS2.out.blk.frozen 3
 go_upto_region 10 with fail
 have hst3:Kst F (w2.setCell ⟨g,3,none⟩ (.int .u64 (min (led+led2) 4611686018427387904:Nat))) g k (n+m) (min (led+led2) 4611686018427387904) lv vs L:=by
  have:=HS2.out.put3 (.int .u64 (min (led+led2) 4611686018427387904:Nat))
  rw[<-Int.natCast_add] at this
  exact this
 have HMI:Hid (min ((led:Int)+(led2:Int)) 4611686018427387904=((min (led+led2) 4611686018427387904:Nat):Int)):=Lib.hid (by omega)
 rw[HMI.out]
 have HT3:Hid (Touch F w (w2.setCell ⟨g,3,none⟩ (.int .u64 (min (led+led2) 4611686018427387904:Nat)))):=Lib.hid (HT2.out.setCell (.inl HS2.out.fg) _)
 have HA3:Hid (AsideL F (w2.setCell ⟨g,3,none⟩ (.int .u64 (min (led+led2) 4611686018427387904:Nat))) lw ws M):=Lib.hid (HA2.out.next (fun kk _ h1=>Below.heap_setCell w2 ⟨g,3,none⟩ _ kk (fun e=>h1 (by rw[e];exact HS2.out.fg))) (by simp) (fun kk e=>.inl e))
 have HS3:=Lib.hid hst3
 obtain⟨w3,hw3⟩:∃x,w2.setCell ⟨g,3,none⟩ (.int .u64 (min (led+led2) 4611686018427387904:Nat))=x:=⟨_,rfl⟩
 rw[hw3] at HS3 HT3 HA3 |-
 clear hw3 hst3 k3 f3 HS2 HT2 HA2 HMI
 have hz3:=HT3.out.size
 obtain⟨A0,c0,elw,_,_,_⟩:=HA3.out.now.row.form
 rw[HA3.out.now.len] at elw
 subst elw
 obtain⟨ld,hld⟩:∃ld,min (led+led2) 4611686018427387904=ld:=⟨_,rfl⟩
 rw[hld] at HS3 HOKA |-
 have HLDE:=Lib.hid hld
 clear hld hov
 go_wp2_with fail
 go_loopg [10,11,66] M.length (fun q _ _ i wr=>∃(j:Nat) (F1:Nat->Prop) (lv1:Value) (vs1:List Sv),q=M.length - j/\j<=M.length/\i=.int .i64 (j:Int)/\Hid (TkAt F w g k (n+m) ld L M (.slice A0 M.length c0) ws j F1 wr lv1 vs1))
 case atStart=>exact⟨0,F,lv,vs,by omega,by omega,rfl,Lib.hid ⟨HS3.out,HA3.out,fun _ h=>.inl h,fun _ h=>h,HT3.out⟩⟩
 case round=>
  obtain⟨j,F1,lv1,vs1,hq,hj,rfl,HA⟩:=hrel
  have HQ:=Lib.hid hq
  clear hq
  have hsz:=HA.out.touch.size
  by_cases hjl:j<M.length
  ·obtain⟨gl,off,sA,sc,eA,hgl,hvs,c2,_⟩:=HA.out.al.now.at_ hjl
   subst eA
   have hlenN:(takeN M j L).length<=49:=by rw[takeN_length];omega
   have hlj:(lvl M j).length<=900000:=by have:=lvl_le_cnt M j;omega
   have hlN:(lvl (takeN M j L) j).length<=900000:=by have:=lvl_le_cnt (takeN M j L) j;have h1:=takeN_cnt M L j (by omega);have h2:=cnt_take_le M j;omega
   have HPU:=Lib.hid (put_any j (svV (sA,(lvl M j).length,sc)) (lvl M j) wr HA.out.st (HA.out.al.one hvs) (takeN_srt HSR.out j j) (by omega) (by omega) (by omega) (by omega))
   obtain⟨x,hx⟩:∃x,(lvl M j).length=x:=⟨_,rfl⟩
   rw[hx] at c2 HPU
   clear hvs hx
   go_wp2_with fail
   refine(HPU.out).mono ?_
   rintro e w5 ⟨rfl,F2,lv2',vs2',q1,q2,q3,q4⟩
   have Q1:=Lib.hid q1
   have Q2:=Lib.hid q2
   have Q3:=Lib.hid q3
   have Q4:=Lib.hid q4
   clear q1 q2 q3 q4 HPU c2
   go_wp2_with fail
   go_roundg (M.length - (j+1))
   case measure=>have:=HQ.out;omega
   case rel=>
    refine⟨j+1,F2,lv2',vs2',rfl,by omega,by go_num,Lib.hid ⟨Q3.out,?_,?_,?_,?_⟩⟩
    ·exact HA.out.al.next (fun kk h1 h2=>Q4.out.block kk h1 h2) Q4.out.size Q1.out
    ·intro kk hk1
     rcases Q1.out kk hk1 with h1|h1
     ·exact HA.out.sub kk h1
     ·exact .inr (by omega)
    ·exact fun kk hk1=>Q2.out kk (HA.out.sup kk hk1)
    ·exact HA.out.touch.trans Q4.out fun i hi=>HA.out.sub i hi
  ·obtain rfl:j=M.length:=by omega
   have HP:=Lib.hid (pack_idle (.func (.func 77) #[.pointer none] #[]) wr HA.out.st h2 hk (by have:=HOKA.out.len;exact Nat.le_trans this (by decide)) (by have:=HOKA.out.cnt;exact Nat.le_trans this (by decide)) HFN.out)
   go_wp2_with fail
   refine(HP.out).mono ?_
   rintro e w2 ⟨rfl,hw⟩
   subst hw
   clear HP
   go_wp2_with fail
   refine bodyPost_ret (by simp[results,Tryz.results33,go_sem, *];try rfl) rfl ?_
   rw[HLDE.out]
   exact⟨rfl,F1,lv1,vs1,HA.out.st,HA.out.sub,HA.out.sup,HA.out.touch⟩
end Go.Proofs.YtingnldfpokckaaGreat.K
namespace Go.Proofs.YtingnldfpokckaaGreat.D
open Go.RowKit Go.Lib Go.Shelf
theorem CnAt.stay{q:Value}{B:List Int}{a:Nat}{H:Ft}{w w':World}(h:CnAt q B a H w)(hk:∀k,H k->w'.heap[k]?=w.heap[k]?)(hz:w.heap.size<=w'.heap.size):CnAt q B a H w':=by
 rcases h with h|⟨cg,r,cv,e,h1,h2,h3,h4,h5⟩
 ·exact .inl h
 ·exact .inr ⟨cg,r,cv,e,h1.stay (hk _ h2) (hk _ h3) (fun k e=>hk k (h4 k e)) hz,h2,h3,h4,fun k h=>Nat.lt_of_lt_of_le (h5 k h) hz⟩
theorem CnAt.low{q:Value}{B:List Int}{a:Nat}{H:Ft}{w:World}(h:CnAt q B a H w):∀k,H k->k<w.heap.size:=by
 rcases h with⟨_,_,_,h⟩|⟨cg,r,cv,e,h1,h2,h3,h4,h5⟩
 ·exact fun k hk=>absurd hk (h k)
 ·exact h5
theorem CnAt.keep{q:Value}{B:List Int}{a:Nat}{H:Ft}{w w':World}(h:CnAt q B a H w)(hb:Below w.heap.size w w'):CnAt q B a H w':=h.stay (fun k hk=>hb.block k (h.low k hk)) hb.size
theorem CnAt.far{q:Value}{B:List Int}{a:Nat}{F H:Ft}{w w':World}(h:CnAt q B a H w)(ht:Touch F w w')(hd:∀k,H k->¬F k):CnAt q B a H w':=h.stay (fun k hk=>ht.block k (h.low k hk) (hd k hk)) ht.size
theorem CnAt.nil_(w:World):CnAt (.pointer none) [] 0 (fun _=>False) w:=.inl ⟨rfl,rfl,rfl,fun _ h=>h⟩
theorem mutc_same{P C:Ft->World->Prop}(S:Stay P){F H:Ft}{er:Int}{w w':World}{e:Ending}(h:P F w)(he:e=.returned (.int .i64 er))(hb:Below w.heap.size w w')(hc:C H w'):MutC P C F H er w e w':=
 ⟨he,S.more (S.keep h hb) (fun _ h=>.inl h) (gr_lt (S.low h) hb.size),hc,Touch.of_below hb (Nat.le_refl _)⟩
theorem mutc_of{P C:Ft->World->Prop}{F H:Ft}{er:Int}{w w':World}{e:Ending}(h:MutP P F er w e w')(hc:C H w'):MutC P C F H er w e w':=⟨h.1,h.2.1,hc,h.2.2.mono fun _ h=>.inl h⟩
section
variable {G H F' : Ft} {w w' : World} {p q n cg r led a o p2 led2 : Nat} {cv lv cq : Value} {B : List Int} {s0 : K.KS} {vs : List K.Sv} {L M : K.LL} {G2 : Ft}
theorem kpack_c(hp:K.PkAt G w p q n cg r cv B s0 F' w' lv vs (K.packA q B s0))(hn:n=K.wt s0.1)(hG:∀k,G k->k<w.heap.size)(h1:H cg)(h2:H r)(h3:∀k,cv.ownBlock=some k->H k)(h4:∀k,H k->k<w.heap.size) :
 MutC (fun G w=>K.KAt G w p q (K.packA q B s0).1 (K.packA q B s0).2.1) (CnAt (ptrV cg) B (K.packA q B s0).2.2) G H 0 w (.returned (.int .i64 0)) w':=by
 have ht:Touch (fun k=>G k\/H k) w w':=hp.touch.mono fun x hx=>hx.imp id fun e=>by rw[show x=r from e];exact h2
 refine⟨rfl,(k_stay p q _ _).gr (w:=w) ⟨lv,vs,?_⟩ hp.sub hG hp.touch.size,.inr ⟨cg,r,cv,rfl,hp.co,h1,h2,h3,fun k h=>Nat.lt_of_lt_of_le (h4 k h) hp.touch.size⟩,ht⟩
 rw[K.packA_wt,<-hn];exact hp.st
theorem k_take(h:K.KAt G w p q L led)(hf:K.Fit q L led)(h2:K.KAt G2 w p2 q M led2)(hf2:K.Fit q M led2)(hc:CnAt cq B a H w)(hq:cq=.pointer none->K.fullN q (K.takeL L M)=none)(hd:∀k,H k->¬G k)(h8:8<=q)(hk:q<=4096) :
 Calls Tryz.prog 33 #[.pointer (some ⟨p,0,none⟩),.pointer (some ⟨p2,0,none⟩),cq] w (MutC (fun G w=>K.KAt G w p q (K.takeS q B (M,led2) (L,led,a)).1 (K.takeS q B (M,led2) (L,led,a)).2.1) (CnAt cq B (K.takeS q B (M,led2) (L,led,a)).2.2) G H (K.takeE L M) w):=by
 have hG:=(k_stay p q L led).low h
 have h':=h
 obtain⟨lv,vs,hs⟩:=h
 obtain⟨lv2,vs2,ht⟩:=h2
 have hcnt:=hf.cnt (by omega) hk
 have hcnt2:=hf2.cnt (by omega) hk
 unfold K.takeS
 by_cases h6:281474976710656<K.wt L+K.wt M
 ·have e:K.takeE L M=6:=by unfold K.takeE;rw[if_pos h6]
  rw[e,if_neg (by decide)]
  refine(K.take_over _ w hs ht hf.ok.wtL hf2.ok.wtL h6).mono ?_
  rintro _ w' ⟨rfl,z,rfl⟩
  have hb:Below w.heap.size w (w.drewN z):=below_drewN (Below.refl _ _) _
  exact mutc_same (k_stay p q _ _) h' rfl hb (hc.keep hb)
 ·have e:K.takeE L M=0:=by unfold K.takeE;rw[if_neg h6]
  rw[e,if_pos rfl]
  rcases hc with⟨rfl,rfl,rfl,hH⟩|⟨cg,r,cv,rfl,h1,h2,h3,h4,h5⟩
  ·have hfn:=hq rfl
   refine(K.take_idle (a:=0) (b:=0) w hs ht hf.pk hf2.pk rfl rfl (by omega) (by omega) (by omega) (by omega) hfn).mono ?_
   rintro _ w' ⟨rfl,F',lv',vs',q1,q2,q3,q4⟩
   rw[K.packA_none hfn]
   refine⟨rfl,(k_stay p q _ _).gr (w:=w) ⟨lv',vs',?_⟩ q2 hG q4.size,.inl ⟨rfl,rfl,rfl,hH⟩,q4.mono fun _ h=>.inl h⟩
   rw[K.takeL_wt];exact q1
  ·refine(K.take_yes w hs ht h1 ⟨hd _ h2,hd _ h3,fun k e=>⟨hd _ (h4 k e),h5 _ (h4 k e)⟩,h5 _ h2,h5 _ h3⟩ hf.pk (hf2.pk (a:=0)) rfl rfl (by omega) (by omega) (by omega) (by omega)).mono ?_
   rintro _ w' ⟨rfl,F',lv',vs',hp,_⟩
   exact kpack_c hp (K.takeL_wt _ _).symm hG h2 h3 h4 h5
end
end Go.Proofs.YtingnldfpokckaaGreat.D
namespace Go.Proofs.YtingnldfpokckaaGreat
section
open Go.RowKit Go.Lib
theorem take_yes{g gt:Nat}{F Ft:Nat->Prop}{d:Int}{s t:St}{k kt:Nat}(w:World)(h:DgS w g F d s)(ht:DgS w gt Ft d t)(hx:(gt=g/\Ft=F/\t=s)\/(∀k,F k->¬Ft k))(ft:Fit d s k)(ft':Fit d t kt)(hk:k+kt<=100000000)
 (hcap:tot (t.L++t.W)<=281474976710656 - tot (s.L++s.W)) (hne:0<tot (t.L++t.W)) :
 Calls Tryz.prog 32 #[.pointer (some ⟨g,0,none⟩),.pointer (some ⟨gt,0,none⟩)] w fun e w'=>e=.returned (.int .i64 0)/\∃F':Nat->Prop,(∀k,F' k->F k\/w.heap.size<=k)/\DgS w' g F' d (s.take d t)/\Touch F w w':=by
 have H:=Lib.hid h
 have HT:=Lib.hid ht
 have s0:=ft.ok.n_nonneg
 have s1:=ft.t
 have d0:=ft.d0
 have d1:=ft.d1
 have hls:=ft.ok.len
 have hlt:=ft'.ok.len
 have HB1:=Lib.hid (And.intro (And.intro ft.ok.lo0 ft.ok.lo1) (And.intro ft.ok.hi0 ft.ok.hi1))
 have HB2:=Lib.hid (And.intro (And.intro ft'.ok.lo0 ft'.ok.lo1) (And.intro ft'.ok.hi0 ft'.ok.hi1))
 have HOK:Hid (okL (s.L++(s.W++(t.L++t.W)))):=by show okL _;rw[<-List.append_assoc];exact ft.ok.ok.append ft'.ok.ok
 have HTT:Hid (tot (s.L++(s.W++(t.L++t.W)))=tot (s.L++s.W)+tot (t.L++t.W)):=by show _=_;rw[<-List.append_assoc,tot_append]
 have HST:Hid (s.take d t=⟨prs d (s.L++(s.W++(t.L++t.W))),[],if tot (s.L++s.W)=0 then t.lo else min s.lo t.lo,if tot (s.L++s.W)=0 then t.hi else max s.hi t.hi⟩):=by show s.take d t=_;unfold St.take;rw[if_neg (by omega)]
 have HX:=Lib.hid hx
 obtain⟨slv,swv,sb,_⟩:=id h
 obtain⟨tlv,twv,tb,_⟩:=id ht
 have hg:=sb.lt
 have hgt:=tb.lt
 have x0:=sb.cell 0
 have x5:=sb.cell 5
 have y0:=tb.cell 0
 have y3:=tb.cell 3
 have y4:=tb.cell 4
 have y5:=tb.cell 5
 simp only[List.getElem?_toArray,List.getElem?_cons_succ,List.getElem?_cons_zero] at x0 x5 y0 y3 y4 y5
 have Y3:=Lib.hid y3
 have Y4:=Lib.hid y4
 have hdd:(d != d)=false:=by simp
 have htz:(tot (t.L++t.W) == 0)=false:=beq_eq_false_iff_ne.2 (by omega)
 have hcb:decide (281474976710656 - tot (s.L++s.W)<tot (t.L++t.W))=false:=decide_eq_false (by omega)
 have EW:=Lib.hid (IntWalk.u64_in (281474976710656 - tot (s.L++s.W)) (by omega))
 clear h ht hx sb tb y3 y4 ft ft'
 go_enter Tryz.func32,Tryz.ntmps32
 go_wp2_with fail
 go_quiet (fail)
 go_wp2_with fail
 have ew:=EW.out
 go_quiet (fail)
 clear ew
 go_upto_region 10 with fail
 refine wp_region_planT (fun w'=>Below w.heap.size w w') 9 [(0,true),(1,true),(2,true),(3,true),(4,true),(5,true),(6,true),(7,true),(8,true)] (by kernel_rfl) (by kernel_rfl) ((below_drewN (Below.refl _ _) _).drew) ?_
 iterate 9
  refine wpPlanT_read (by rfl) (by rfl) (fun R hR=>?_)
  apply Exists.intro
  refine⟨fun w' hS'=>?_,?_⟩
  ·have k3:=(hS'.cell (p:=⟨gt,3,none⟩) hgt).trans Y3.out
   have k4:=(hS'.cell (p:=⟨gt,4,none⟩) hgt).trans Y4.out
   go_simp
   exact⟨rfl,rfl⟩
  go_simp
  refine hR _ ?_
  clear hR R
 refine wpPlanT_nil ?_
 simp only[List.drop_succ_cons,List.drop_zero]
 go_wp2_with fail
 refine(ends_any t.lo t.hi _ (Dg.keep H.out (below_drewN (Below.refl _ _) _).drew) HB1.out.1 HB1.out.2 HB2.out.1 HB2.out.2 ⟨s0,by omega⟩).mono ?_
 rintro e w1 ⟨rfl,X1,T1⟩
 have T1':Hid (Touch (fun k=>k=g) w w1):=Lib.hid ((Touch.of_below (F:=fun k=>k=g) (below_drewN (Below.refl w.heap.size w) _).drew (Nat.le_refl _)).trans T1 (fun i hi=>.inl hi))
 have TD1:Hid (∃lo2 hi2:Int,Dg w1 gt Ft d t.L t.W lo2 hi2 (tot (t.L++t.W))):=by
  rcases HX.out with⟨rfl,rfl,rfl⟩|hd
  ·exact⟨_,_,X1⟩
  ·exact⟨t.lo,t.hi,Dg.stay HT.out (fun k hk=>T1'.out.block k (Dg.low HT.out k hk) (fun e=>hd g (Dg.mem H.out) (e▸hk))) T1'.out.size⟩
 have HX1:=Lib.hid X1
 have hz1:=T1'.out.size
 clear X1 T1 x0 x5 y0 y5 hcb hdd htz
 go_wp2_with fail
 refine calm_normal ?_
 obtain⟨lo2,hi2,tlv,twv,tb,tol,tow,tF⟩:=TD1.out
 obtain⟨A,ca,rfl,na,ma,fa⟩:=tol.form
 obtain⟨B,cb,rfl,nb,mb,fb⟩:=tow.form
 have hgt1:=tb.lt
 have t1:=tb.cell 1
 have t2:=tb.cell 2
 have t5:=tb.cell 5
 simp only[List.getElem?_toArray,List.getElem?_cons_succ,List.getElem?_cons_zero] at t1 t2 t5
 have Q1:=Lib.hid t1
 have Q2:=Lib.hid t2
 have Q5:=Lib.hid t5
 have TL:=Lib.hid tol.rd
 have TW:=Lib.hid tow.rd
 have hgg1:g<w1.heap.size:=Dg.lt HX1.out
 clear tb tol tow tF fa fb t1 t2 t5 TD1
 go_wp2_with fail
 refine wp_region_plan (fun w'=>Below w1.heap.size w1 w') [(0,true),(1,true),(2,true),(3,true),(4,true),(5,true),(6,true),(7,true),(8,false),(9,false),(10,true)] (by kernel_rfl) (by kernel_rfl) ((Below.refl _ _).drew) ?_
 iterate 8
  refine wpPlan_read (by rfl) (by rfl) (fun R hR=>?_)
  apply Exists.intro
  refine⟨fun w' hS'=>?_,?_⟩
  ·have k1:=(hS'.cell (p:=⟨gt,1,none⟩) hgt1).trans Q1.out
   have k2:=(hS'.cell (p:=⟨gt,2,none⟩) hgt1).trans Q2.out
   go_simp
   exact⟨rfl,rfl⟩
  go_simp
  refine hR _ ?_
  clear hR R
 refine wpPlan_do (by rfl) (by rfl) (fun K hK=>?_)
 go_simp
 refine hK _ _ (((Below.refl _ _).drew).alloc (by go_size) _) ?_
 clear hK K
 refine wpPlan_do (by rfl) (by rfl) (fun K hK=>?_)
 go_simp
 have hrow:RdRow (w1.drew.alloc (.cells #[.slice A t.L.length ca,.slice B t.W.length cb] 90)) w1.heap.size [t.L,t.W]:=rd_row2 (TL.out.keep (((Below.refl _ _).drew).alloc (by go_size) _)) (TW.out.keep (((Below.refl _ _).drew).alloc (by go_size) _))
 refine(concat_M w1.heap.size [t.L,t.W] _ (by go_size) hrow (by simp) (by simp;omega)).mono ?_
 rintro e w3 ⟨v3,rfl,o3,hb3⟩
 have hbw3:Below w1.heap.size w1 w3:=(((Below.refl _ _).drew).alloc (by go_size) _).trans (hb3.mono (by go_size))
 have hz3:=hbw3.size
 rw[show([t.L,t.W]:List (List Mn)).flatten=t.L++t.W by simp] at o3
 have O3:=Lib.hid o3
 clear o3
 refine hK _ _ (hbw3) ?_
 clear hK K
 iterate 1
  refine wpPlan_read (by rfl) (by rfl) (fun R hR=>?_)
  apply Exists.intro
  refine⟨fun w' hS'=>?_,?_⟩
  ·have k1:=(hS'.cell (p:=⟨gt,1,none⟩) hgt1).trans Q1.out
   have k2:=(hS'.cell (p:=⟨gt,2,none⟩) hgt1).trans Q2.out
   go_simp
   exact⟨rfl,rfl⟩
  go_simp
  refine hR _ ?_
  clear hR R
 refine wpPlan_nil ?_
 obtain⟨A9,c9,rfl,n9,m9,f9⟩:=O3.out.form
 clear f9
 have X3:=Lib.hid (Dg.keep HX1.out hbw3)
 have r5:=(hbw3.cell (p:=⟨gt,5,none⟩) hgt1).trans Q5.out
 obtain⟨lv3,wv3,b3,l3,x3,hF3⟩:=X3.out
 obtain⟨B3,cb3,rfl,nb3,mb3,fb3⟩:=x3.form
 have z5:=b3.cell 5
 have u5:=b3.frozen 5
 simp only[List.getElem?_toArray,List.getElem?_cons_succ,List.getElem?_cons_zero] at z5
 have NL1:=b3.notOwn l3 (by decide)
 have NW1:=b3.notOwn x3 (by decide)
 have BB3:=Lib.hid b3
 have L3:=Lib.hid l3
 have W3:=Lib.hid x3
 have HF:=Lib.hid hF3
 have EW2:=Lib.hid (IntWalk.u64_in (tot (s.L++s.W)+tot (t.L++t.W)) (by omega))
 clear b3 l3 x3 hF3 fb3
 go_wp2_with fail
 refine wp_region_planT (fun w'=>Below w3.heap.size w3 w') 11 [(0,true),(1,true),(2,true),(3,true),(4,true),(5,true),(6,true),(7,true),(8,true),(9,true),(10,true)] (by kernel_rfl) (by kernel_rfl) ((Below.refl _ _).drew) ?_
 iterate 11
  refine wpPlanT_read (by rfl) (by rfl) (fun R hR=>?_)
  apply Exists.intro
  refine⟨fun w' hS'=>?_,?_⟩
  ·have k5:=(hS'.cell (p:=⟨g,5,none⟩) (by show g<_;omega)).trans z5
   have j5:=(hS'.cell (p:=⟨gt,5,none⟩) (by show gt<_;omega)).trans r5
   have ew:=EW2.out
   go_simp
   exact⟨rfl,rfl⟩
  go_simp
  refine hR _ ?_
  clear hR R
 refine wpPlanT_nil ?_
 simp only[List.drop_succ_cons,List.drop_zero]
 go_wp2_with fail
 refine calm_normal ?_
 have O3':Hid (OwnM (w1.drew.alloc (.cells #[.slice A t.L.length ca,.slice B t.W.length cb] 90)).heap.size w3 (.slice A9 (t.L.length+t.W.length) c9) (t.L++t.W)):=by have:=O3.out;rw[List.length_append] at this;exact this
 go_upto_region 13 with fail
 have T3:Hid (Touch (fun k=>k=g) w (w3.setCell ⟨g,5,none⟩ (.int .u64 (tot (s.L++s.W)+tot (t.L++t.W)))).drew):=Lib.hid ((touch_of (hbw3) T1'.out).setCell (p:=⟨g,5,none⟩) (.inl rfl) (.int .u64 (tot (s.L++s.W)+tot (t.L++t.W)))).drew
 have hz9:(w3.setCell ⟨g,5,none⟩ (.int .u64 (tot (s.L++s.W)+tot (t.L++t.W)))).drew.heap.size=w3.heap.size:=by show(w3.setCell _ _).heap.size=_;exact World.size_setCell ..
 have hz4:w3.heap.size<=(w3.setCell ⟨g,5,none⟩ (.int .u64 (tot (s.L++s.W)+tot (t.L++t.W)))).drew.heap.size:=by rw[hz9];exact Nat.le_refl _
 have B4:Hid (Blk (w3.setCell ⟨g,5,none⟩ (.int .u64 (tot (s.L++s.W)+tot (t.L++t.W)))).drew g _ _):=Lib.hid (BB3.out.set_ 5 (.int .u64 (tot (s.L++s.W)+tot (t.L++t.W))))
 have L4:Hid (OwnM 0 (w3.setCell ⟨g,5,none⟩ (.int .u64 (tot (s.L++s.W)+tot (t.L++t.W)))).drew lv3 s.L):=Lib.hid (L3.out.far (p:=⟨g,5,none⟩) NL1 _)
 have X4:Hid (OwnM 0 (w3.setCell ⟨g,5,none⟩ (.int .u64 (tot (s.L++s.W)+tot (t.L++t.W)))).drew (.slice B3 s.W.length cb3) s.W):=Lib.hid (W3.out.far (p:=⟨g,5,none⟩) NW1 _)
 have M4:Hid (OwnM w1.heap.size (w3.setCell ⟨g,5,none⟩ (.int .u64 (tot (s.L++s.W)+tot (t.L++t.W)))).drew (.slice A9 (t.L.length+t.W.length) c9) (t.L++t.W)):=Lib.hid ((O3'.out.more (by go_size)).far (p:=⟨g,5,none⟩) (fun e=>by have h9:=(O3'.out.lt _ e).1;simp only[World.size_alloc,World.size_drew] at h9;have h8:w1.heap.size<=g:=(by show _<=(⟨g,5,none⟩:Addr).block;omega);omega) _)
 have HF4:Hid (∀k1,F k1->k1<(w3.setCell ⟨g,5,none⟩ (.int .u64 (tot (s.L++s.W)+tot (t.L++t.W)))).drew.heap.size):=fun k1 hf=>(by rw[hz9];exact HF.out.2.2.2.2 k1 hf)
 have HZ9:=Lib.hid hz9
 clear hz9 z5 u5 r5
 generalize (w3.setCell ⟨g,5,none⟩ (.int .u64 (tot (s.L++s.W)+tot (t.L++t.W)))).drew=w4 at *
 have q2:=B4.out.cell 2
 have r2:=B4.out.frozen 2
 simp only[List.getElem?_toArray,List.getElem?_cons_succ,List.getElem?_cons_zero,List.setIfInBounds_toArray,List.set_cons_succ,List.set_cons_zero] at q2
 have hlen9:(t.L++t.W).length=t.L.length+t.W.length:=List.length_append ..
 have HL9:=Lib.hid hlen9
 clear hlen9
 have hcapl:s.W.length+(t.L++t.W).length<=1099511627776:=by rw[HL9.out];omega
 go_upto_region 14 with(first|(at_builtin;go_must (refine append_M rfl (.tmp 74) (.tmp 75) rfl 0 (.slice B3 s.W.length cb3) s.W rfl X4.out (.slice A9 (t.L.length+t.W.length) c9) (t.L++t.W) rfl M4.out.rd hcapl (Nat.zero_le _) ?_);intro v5 w5 o5 g5 a5;have b5:=(g5.block g B4.out.lt (fun e=>NW1 e.symm)).trans B4.out;obtain⟨A5,c5,rfl,n5,m5,f5⟩:=o5.form;have s2:=Blk.cell b5 2;have u2:=Blk.frozen b5 2;simp only[List.getElem?_toArray,List.getElem?_cons_succ,List.getElem?_cons_zero,List.setIfInBounds_toArray,List.set_cons_succ,List.set_cons_zero] at s2;have B5:Hid (Blk w5 g _ _):=Lib.hid b5;have O5:=Lib.hid o5;clear b5 o5 f5 q2 r2;go_simp))
 have KF:Hid (∃(F':Nat->Prop),(∀k,F' k->F k\/w.heap.size<=k)/\Dg (w5.setCell ⟨g,2,none⟩ (.slice A5 (s.W.length+(t.L.length+t.W.length)) c5)) g F' d s.L (s.W++(t.L++t.W)) (if tot (s.L++s.W)=0 then t.lo else min s.lo t.lo) (if tot (s.L++s.W)=0 then t.hi else max s.hi t.hi) (tot (s.L++(s.W++(t.L++t.W))))/\Touch F w (w5.setCell ⟨g,2,none⟩ (.slice A5 (s.W.length+(t.L.length+t.W.length)) c5))):=by
  obtain⟨p1,p2,p3,p4,p5⟩:=HF.out
  have hlen3:(s.W++(t.L++t.W)).length=s.W.length+(t.L.length+t.W.length):=by simp
  have O5':=O5.out
  rw[hlen3] at O5' a5
  have T5:Touch F w w5:=(T3.out.mono (fun i (hi:i=g)=>hi▸p1)).grown g5 (fun k1 hk1=>.inl (p3 k1 hk1))
  have T6:=T5.setCell (p:=⟨g,2,none⟩) (.inl p1) (.slice A5 (s.W.length+(t.L.length+t.W.length)) c5)
  have own3:∀k1,(Value.slice A5 (s.W.length+(t.L.length+t.W.length)) c5).ownBlock=some k1->F k1\/k1=w4.heap.size:=fun k1 e=>by
   rcases a5 with e3|e3
   ·exact .inl (p3 k1 (by rw[<-e3];exact e))
   ·rw[e3] at e;simp only[Option.some.injEq] at e;exact .inr e.symm
  have sz3:w4.heap.size<=w5.heap.size:=g5.size
  have hg4:=B4.out.lt
  have ng3:(Value.slice A5 (s.W.length+(t.L.length+t.W.length)) c5).ownBlock≠some g:=fun e=>by
   rcases a5 with e3|e3
   ·exact NW1 (by rw[<-e3];exact e)
   ·rw[e3] at e;simp only[Option.some.injEq] at e;omega
  have L5:OwnM 0 w5 lv3 s.L:=L4.out.stay fun k1 e=>g5.block k1 (HF4.out k1 (p2 k1 e)) (fun e2=>p4 k1 e2.symm e)
  have B5':=B5.out
  rw[<-HTT.out] at B5'
  refine⟨fun k1=>F k1\/(Value.slice A5 (s.W.length+(t.L.length+t.W.length)) c5).ownBlock=some k1,?_,⟨lv3,_,B5'.set_ 2 _,L5.far (p:=⟨g,2,none⟩) (fun e=>B5.out.notOwn L5 (by decide) e) _,O5'.far (p:=⟨g,2,none⟩) ng3 (.slice A5 (s.W.length+(t.L.length+t.W.length)) c5),.inl p1,fun k1 e=>.inl (p2 k1 e),fun k1 e=>.inr e,?_,?_⟩,T6⟩
  ·rintro k1 (hf|e)
   ·exact .inl hf
   ·rcases own3 k1 e with hf|hf
    ·exact .inl hf
    ·exact .inr (by have:=T3.out.size;omega)
  ·intro k1 e e2
   rcases a5 with e3|e3
   ·exact p4 k1 (by rw[<-e3];exact e) e2
   ·rw[e3] at e;simp only[Option.some.injEq] at e
    have:=HF4.out k1 (p2 k1 e2);omega
  ·intro k1 hk1
   rw[World.size_setCell]
   rcases hk1 with hf|e
   ·have:=HF4.out k1 hf;omega
   ·exact(O5'.lt k1 e).2
 clear B5 O5 s2 u2 g5 a5
 generalize w5.setCell ⟨g,2,none⟩ (.slice A5 (s.W.length+(t.L.length+t.W.length)) c5)=w6 at *
 obtain⟨F1,f1,f2,f3⟩:=KF.out
 have hlen6:s.L.length+(s.W++(t.L++t.W)).length<=100000000:=by simp only[List.length_append];omega
 have ht6:tot (s.L++(s.W++(t.L++t.W)))<=281474976710656:=by rw[HTT.out];omega
 have hne6:s.L++(s.W++(t.L++t.W))≠[]:=fun e=>by have:=HTT.out;rw[e] at this;simp only[tot] at this;omega
 have PC:=Lib.hid (press_any g F1 d _ _ s.L (s.W++(t.L++t.W)) w6 f2 HOK.out hne6 hlen6 ht6 (by omega) d1)
 have T6:=Lib.hid f3
 have F6:=Lib.hid f1
 clear f1 f2 f3 hlen6 ht6 hne6 KF
 go_wp2_with fail
 refine(PC.out).mono ?_
 rintro e w7 ⟨rfl,F2,g1,g2,g3⟩
 have G1:=Lib.hid g1
 have G2:=Lib.hid g2
 have G3:=Lib.hid g3
 have hs6:=T6.out.size
 clear g1 g2 g3
 go_wp2_with fail
 refine bodyPost_ret (by simp[results,Tryz.results32,go_sem, *];try rfl) rfl ?_
 refine⟨rfl,F2,?_,?_,T6.out.trans G3.out (fun i hi=>F6.out i hi)⟩
 ·intro k1 h1
  rcases G1.out k1 h1 with h2|h2
  ·exact F6.out k1 h2
  ·exact .inr (by omega)
 ·rw[HST.out]
  unfold DgS
  simp only[List.append_nil,prs_tot]
  exact G2.out
end
section
open Go.RowKit Go.Lib
def takeE(s t:St):Int:=if 281474976710656 - tot (s.L++s.W)<tot (t.L++t.W) then 6 else 0
theorem take_no{g gt:Nat}{F Ft:Nat->Prop}{d:Int}{s t:St}{k kt:Nat}(w:World)(h:DgS w g F d s)(ht:DgS w gt Ft d t)(ft:Fit d s k)(_ft':Fit d t kt)
 (hc:281474976710656 - tot (s.L++s.W)<tot (t.L++t.W)\/tot (t.L++t.W)=0) :
 Calls Tryz.prog 32 #[.pointer (some ⟨g,0,none⟩),.pointer (some ⟨gt,0,none⟩)] w fun e w'=>e=.returned (.int .i64 (takeE s t))/\Below w.heap.size w w':=by
 obtain⟨slv,swv,sb,_⟩:=h
 obtain⟨tlv,twv,tb,_⟩:=ht
 have x0:=sb.cell 0
 have x5:=sb.cell 5
 have y0:=tb.cell 0
 have y5:=tb.cell 5
 simp only[List.getElem?_toArray,List.getElem?_cons_zero,List.getElem?_cons_succ] at x0 y0 x5 y5
 have hdd:(d != d)=false:=by simp
 have s0:=ft.ok.n_nonneg
 have s1:=ft.t
 have EW:=Lib.hid (IntWalk.u64_in (281474976710656 - tot (s.L++s.W)) (by omega))
 clear sb tb ft _ft'
 by_cases h6:281474976710656 - tot (s.L++s.W)<tot (t.L++t.W)
 ·have hE:Hid (takeE s t=6):=if_pos h6
  have hcb:decide (281474976710656 - tot (s.L++s.W)<tot (t.L++t.W))=true:=decide_eq_true h6
  clear hc
  go_enter Tryz.func32,Tryz.ntmps32
  go_wp2_with fail
  go_quiet (fail)
  go_wp2_with fail
  have ew:=EW.out
  go_quiet (fail)
  clear ew
  go_wp2_with fail
  go_ret
  exact⟨ret_int hE.out.symm,by(repeat' (first|(with_reducible exact Below.refl _ _)|(with_reducible refine Below.alloc ?_ ?_ _)|(with_reducible refine Below.drew ?_)|(with_reducible refine below_drewN ?_ _)|(with_reducible refine Below.setCell ?_ ?_ _)|(with_reducible refine below_of (by assumption) ?_ ?_)|go_size))⟩
 ·have hE:Hid (takeE s t=0):=if_neg h6
  have h0:tot (t.L++t.W)=0:=by omega
  have hcb:decide (281474976710656 - tot (s.L++s.W)<0)=false:=decide_eq_false (by omega)
  rw[h0] at y5
  clear hc h0 h6
  go_enter Tryz.func32,Tryz.ntmps32
  go_wp2_with fail
  go_quiet (fail)
  go_wp2_with fail
  have ew:=EW.out
  go_quiet (fail)
  clear ew
  go_wp2_with fail
  go_ret
  exact⟨ret_int hE.out.symm,by(repeat' (first|(with_reducible exact Below.refl _ _)|(with_reducible refine Below.alloc ?_ ?_ _)|(with_reducible refine Below.drew ?_)|(with_reducible refine below_drewN ?_ _)|(with_reducible refine Below.setCell ?_ ?_ _)|(with_reducible refine below_of (by assumption) ?_ ?_)|go_size))⟩
end
open Go.RowKit Go.Lib
open Go.RowKit Go.Lib
open Go.RowKit Go.Lib
open Go.RowKit Go.Lib
open Go.RowKit Go.Lib
open Go.RowKit
end Go.Proofs.YtingnldfpokckaaGreat
namespace Go.Proofs.YtingnldfpokckaaGreat.K
open Go.RowKit
open Go.RowKit
open Go.RowKit
open Go.RowKit
open Go.RowKit
open Go.RowKit
open Go.RowKit
theorem fit_right{K led:Nat}{L:LL}(h:Fit K L led)(h8:8<=K)(hk:K<=4096)(he:L.length=0->led=0):RightP K L led:=
 ⟨by omega,by omega,h.ok.lenL,h.ok.led,he,h.ok.top,fun j hj=>by rw[Int.toNat_natCast];exact⟨fullN_none h.none j hj,h.ok.srt j⟩,h.ok.wtL⟩
end Go.Proofs.YtingnldfpokckaaGreat.K
