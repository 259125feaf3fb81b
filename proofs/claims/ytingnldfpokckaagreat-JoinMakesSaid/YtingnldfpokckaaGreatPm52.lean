/- Parts of a proof: what its theorem reaches, words cut short. No condition of its own. -/
import Derived.Test.YtingnldfpokckaaGreatPm51
set_option maxRecDepth 100000
set_option maxHeartbeats 16000000
set_option linter.unusedVariables false
set_option linter.unusedSimpArgs false
namespace Go.Proofs.YtingnldfpokckaaGreat.K
open Go.RowKit
theorem add_idle{F:Nat->Prop}{g k n led a c:Nat}{lv:Value}{vs:List Sv}{L:LL}{cq:Option Addr}(v:Int)(w:World)(hs:Kst F w g k n led lv vs L)(hok:PkOk (L,led,a))
 (hn:n=wt L) (hc0:0<c) (hc:n+c<=281474976710656) (hcn:cnt L<=900000) (h2:2<=k) (hk:k<=1000000) (hfn:fullN k (addL L v c)=none) :
 Calls Tryz.prog 45 #[.pointer (some ⟨g,0,none⟩),.int .i64 v,.int .u64 c,.pointer cq] w fun e w'=>e=.returned (.int .i64 0)/\∃F' lv' vs',Kst F' w' g k (n+c) led lv' vs' (addL L v c)/\(∀x,F' x->F x\/w.heap.size<=x)/\(∀x,F x->F' x)/\Touch F w w':=by
 have HA0:Hid (AdAt F w g k (n+c) led v c L 0 F (w.setCell ⟨g,2,none⟩ (.int .u64 (n+c:Nat))) lv vs L):=Lib.hid ⟨hs.put2 _,by simp[addL],hok.srt,hok.len,Nat.le_refl _,fun _ h=>.inl h,fun _ h=>h,Touch.setCell (Touch.refl _ _) (.inl hs.fg) _⟩
 have k2:=hs.cell2
 have f2:=hs.blk.frozen 2
 have HFN:=Lib.hid hfn
 have HOK:=Lib.hid hok
 have HOKA:=Lib.hid (pkOk_add hok v c (by omega) hcn)
 clear hs hok hn hfn
 have hc1:¬(c:Int)=0:=by omega
 have hc2:¬(c:Int) > 281474976710656 - (n:Int):=by omega
 go_enter Tryz.func45,Tryz.ntmps45
 go_wp2_with fail
 go_loopg [9] 64 (fun q i wr=>∃(j:Nat) (F1:Nat->Prop) (lv1:Value) (vs1:List Sv) (L1:LL),q=64 - j/\j<=49/\i=.int .i64 (j:Int)/\Hid (AdAt F w g k (n+c) led v c L j F1 wr lv1 vs1 L1))
 case atStart=>
  have HA1:=HA0.out
  rw[Int.natCast_add] at HA1
  exact⟨0,F,lv,vs,L,rfl,by omega,rfl,Lib.hid HA1⟩
 case round=>
  obtain⟨j,F1,lv1,vs1,L1,hq,hj,rfl,HA⟩:=hrel
  have HQ:=Lib.hid hq
  clear hq
  obtain⟨m,hm⟩:∃m,c / 2 ^ j=m:=⟨_,rfl⟩
  have hmc:m<=c:=by rw[<-hm];exact Nat.div_le_self ..
  have hmi:(c:Int) / 2 ^ j=(m:Int):=by
   rw[<-hm,Int.natCast_ediv,Int.natCast_pow];rfl
  have HM:=Lib.hid hm
  have HMI:=Lib.hid hmi
  clear hmi
  have hsz:=HA.out.touch.size
  by_cases hm0:m=0
  ·have hm0':¬(m:Int) > 0:=by omega
   have hEQ:L1=addL L v c:=by rw[HA.out.eq,HM.out,hm0,putB_zero]
   subst hEQ
   have HP:=Lib.hid (pack_idle (.func (.func 77) #[.pointer cq] #[]) wr HA.out.st h2 hk (by have:=HOKA.out.len;exact Nat.le_trans this (by decide)) (by have:=HOKA.out.cnt;exact Nat.le_trans this (by decide)) HFN.out)
   go_wp2_with (first|(have hmi:=HMI.out;rw[hmi]))
   refine(HP.out).mono ?_
   rintro e w2 ⟨rfl,hw⟩
   subst hw
   clear HP
   go_wp2_with fail
   refine bodyPost_ret (by simp[results,Tryz.results45,go_sem, *];try rfl) rfl ?_
   exact⟨rfl,F1,lv1,vs1,HA.out.st,HA.out.sub,HA.out.sup,HA.out.touch⟩
  ·have hm0':(m:Int) > 0:=by omega
   have hj48:j<=48:=by
    rcases Nat.lt_or_ge j 49 with h1|h1
    ·omega
    ·have h3:2 ^ 49<=2 ^ j:=Nat.pow_le_pow_right (by decide) h1
     have h4:c / 2 ^ j=0:=Nat.div_eq_of_lt (by omega)
     have:=HM.out;omega
   have hmd:c / 2 ^ (j+1)=m / 2:=by rw[Nat.pow_succ,<-Nat.div_div_eq_div_mul,HM.out]
   have HPB:Hid (putB (64 - j) j m L1 v=putB (64 - (j+1)) (j+1) (m / 2) (if m % 2=1 then putL L1 j [v] else L1) v):=Lib.hid (by
    rw[show 64 - j=(64 - (j+1))+1 by omega,putB,if_neg hm0])
   have HMD:=Lib.hid hmd
   have HAN:=Lib.hid (and_one m (by omega))
   clear hmd
   have hj49:j+1<=49:=by omega
   by_cases hm1:m % 2=1
   ·have hm1':((m % 2:Nat):Int)=1:=by omega
    have HPU:=Lib.hid (put_any j (.slice (some ⟨wr.heap.size,0,none⟩) 1 1) [v] (wr.alloc (.cells #[.int .i64 v] 2)) (HA.out.st.keep ((Below.refl _ _).alloc (Nat.le_refl _) _)) (Aside.of_own (OwnE.one (E:=i64E) wr v _ rfl _ rfl) fun kk e h1=>by
     have e:=Option.some.inj (show some wr.heap.size=some kk from e)
     have:=HA.out.st.low kk h1;omega) (HA.out.srt j) (by omega) (by have:=HA.out.len;omega) (by have:=lvl_le_cnt L1 j;have:=HA.out.cnt;omega) (by simp))
    have hmi:=HMI.out
    have han:bits .and .u64 (m:Int) 1=1:=by rw[HAN.out];exact hm1'
    go_wp2_with fail
    refine(HPU.out).mono ?_
    rintro e w2 ⟨rfl,F2,lv2,vs2,q1,q2,q3,q4⟩
    have Q1:=Lib.hid q1
    have Q2:=Lib.hid q2
    have Q3:=Lib.hid q3
    have Q4:=Lib.hid q4
    have hasz:(wr.alloc (.cells #[.int .i64 v] 2)).heap.size=wr.heap.size+1:=by simp
    rw[hasz] at q1
    have Q1:=Lib.hid q1
    clear q1 q2 q3 q4 HPU hasz
    go_wp2_with fail
    go_roundg (64 - (j+1))
    case measure=>have:=HQ.out;omega
    case rel=>
     refine⟨j+1,F2,lv2,vs2,putL L1 j [v],rfl,by omega,by go_num,Lib.hid ⟨Q3.out,?_,putL_srt HA.out.srt j [v],?_,?_,?_,?_,?_⟩⟩
     ·rw[HA.out.eq,HM.out,HMD.out,HPB.out,if_pos hm1]
     ·rw[putL_length];have:=HA.out.len;omega
     ·rw[cnt_put];have:=HA.out.cnt;simp;omega
     ·intro kk hk1
      rcases Q1.out kk hk1 with h1|h1
      ·exact HA.out.sub kk h1
      ·exact .inr (by omega)
     ·exact fun kk hk1=>Q2.out kk (HA.out.sup kk hk1)
     ·exact(HA.out.touch.alloc _).trans Q4.out fun i hi=>HA.out.sub i hi
   ·have hm1':((m % 2:Nat):Int)=0:=by omega
    have hmi:=HMI.out
    have han:bits .and .u64 (m:Int) 1=0:=by rw[HAN.out];exact hm1'
    go_wp2_with fail
    go_roundg (64 - (j+1))
    case measure=>have:=HQ.out;omega
    case rel=>
     refine⟨j+1,F1,lv1,vs1,L1,rfl,by omega,by go_num,Lib.hid ⟨HA.out.st,?_,HA.out.srt,HA.out.len,?_,HA.out.sub,HA.out.sup,HA.out.touch⟩⟩
     ·rw[HA.out.eq,HM.out,HMD.out,HPB.out,if_neg hm1]
     ·have:=HA.out.cnt;omega
end Go.Proofs.YtingnldfpokckaaGreat.K
namespace Go.Proofs.YtingnldfpokckaaGreat.D
open Go.RowKit Go.Lib Go.Shelf
def amK:Spk:=.k 8
def amH:Spk:=.h 1 2000 3 0 11 true
def amC:Js:=⟨0,[],St.zero,[[3]],0⟩
theorem amH_ok:SpOk amH:=⟨by decide,by decide,by decide,by decide,by decide,by decide +kernel,by decide +kernel,by decide⟩
theorem amK_ok:SpOk amK:=by unfold amK SpOk;decide
theorem am_add:K.addL [] 3 1=[[3]]:=by decide +kernel
theorem am_new:KOk 8 [] 0:=new_ok (sp:=.k 8) amK_ok
theorem am_fit:K.Fit 8 [[3]] 0:=by
 have h:=K.pkOk_add am_new.fit.ok 3 1 (by decide +kernel) (by decide +kernel)
 rw[am_add] at h
 exact⟨h,by decide +kernel⟩
theorem amC_ok:JsOk amK amC:=by
 refine(show KOk 8 [[3]] 0 from⟨am_fit,by decide,by decide,(fun h=>by cases h),(fun j x hx=>?_)⟩)
 rcases j with _|j
 ·obtain rfl:x=3:=by simpa[K.lvl] using hx
  decide
 ·simp[K.lvl] at hx
theorem am_txt:jtxt amK amC=[8,0,1,1,6]:=by decide +kernel
theorem am_by:byL (envB amK.kdN (jtxt amK amC)):=by
 have h:(envB amK.kdN (jtxt amK amC)).all (fun x=>decide (0<=x) && decide (x<=255))=true:=by decide +kernel
 intro x hx
 have:=List.all_eq_true.1 h x hx
 simpa using this
theorem am_tot:jtot amK amC=1:=by decide +kernel
theorem am_hl:(jtxt amH amH.new).length=46:=by decide +kernel
theorem am_h5:(jtxt amH amH.new).take 5=[1,208,15,3,1]:=by decide +kernel
theorem am_add_any{x:Nat}{F:Ft}(w:World)(h:JsAt amK amK.new x F w) :
 Calls Tryz.prog 16 #[.pointer (some ⟨x,0,none⟩),.int .i64 3,.int .u64 1,.pointer none] w fun e w'=>e=.returned (.int .i64 0)/\JsAt amK amC x (Gr F w w') w'/\Touch F w w':=by
 obtain⟨p,G,hB,hI,hFx,hGx,hGF,hF⟩:=h
 have low:=(in_stay amK _ p).low hI
 obtain⟨lv,vs,hs⟩:=hI
 have e0:amK.new.L=[]:=rfl
 rw[e0] at hs
 refine(jadd4_any (Q:=fun v' w'=>v'=.int .i64 0/\JsAt amK amC x (Gr F w w') w'/\Touch F w w') hB ?_).mono ?_
 ·refine(K.add_idle (a:=0) (c:=1) 3 w hs am_new.fit.ok rfl (by decide) (by decide +kernel) (by decide +kernel) (by decide) (by decide) (by rw[am_add];exact am_fit.none)).mono ?_
  rintro e w' ⟨rfl,F',lv',vs',q1,q2,q3,q4⟩
  rw[am_add] at q1
  have hi:InAt amK amC p (Gr G w w') w':=(k_stay p 8 _ _).gr (w:=w) ⟨lv',vs',q1⟩ q2 low q4.size
  obtain⟨h1,h2⟩:=js_turn (H:=fun _=>False) hB hFx hGx hGF hF hi (q4.mono fun _ h=>.inl h) (fun _ h=>h.elim)
  exact⟨_,rfl,rfl,h1,h2.mono fun k h=>h.elim id False.elim⟩
 ·rintro e w' ⟨v',rfl,rfl,h1,h2⟩
  exact⟨rfl,h1,h2⟩
theorem am_read(u:Value)(w:World)(h:RdI .u8 w u (jtxt amK amC)):Calls Tryz.prog 49 #[.int .u8 amK.kdN,u] w fun e w'=>∃x,e=.returned (.tuple #[.pointer (some ⟨x,0,none⟩),.int .i64 0])/\JsAt amK amC x (Gr (fun _=>False) w w') w'/\Below w.heap.size w w':=by
 have hs:∀y w1,(∃F,JsAt amK amC y F w1/\∀k,F k->w.heap.size<=k)->Calls Tryz.prog 19 #[.pointer (some ⟨y,0,none⟩)] w1 fun e w'=>∃v,e=.returned v/\OwnB w1.heap.size w' v (jtxt amK amC)/\Below w1.heap.size w1 w':=fun y w1 ⟨F,h,_⟩=>js_text w1 h amC_ok
 have hk:∀y w1 w',(∃F,JsAt amK amC y F w1/\∀k,F k->w.heap.size<=k)->Below w1.heap.size w1 w'->(∃F,JsAt amK amC y F w'/\∀k,F k->w.heap.size<=k):=fun y w1 w' ⟨F,h,h2⟩ hb=>⟨F,(js_stay amK _ y).keep h hb,h2⟩
 refine(jread4_any u _ w h (by rw[am_txt];decide) (fun y v1 w1 hb hy hB hr=>?_) hs hk).mono (fun e w' ⟨x,h1,h2,h3⟩=>⟨x,h1,js_fresh h2,h3⟩)
 refine(readKll_any hB (Q:=fun p w'=>∃x G,p=ptrV x/\InAt amK amC x G w'/\∀k,G k->w1.heap.size<=k) ?_).mono (fun e w' h=>placed_js h (fun x=>rfl) hB.lt hy)
 refine(K.kread_own v1 w1 hr (KOk.right amC_ok) (KOk.bd amC_ok)).mono ?_
 rintro e w' ⟨x,F,rfl,h1,h2,h3⟩
 exact⟨x,rfl,⟨x,F,rfl,h1,h2⟩,h3⟩
theorem alive27_any(w:World):Calls Tryz.prog 5 #[] w fun e w'=>e=.returned (.bool true)/\Below w.heap.size w w':=by
 have C0:=Lib.hid (js_make w amK_ok)
 have C1:=fun W=>Lib.hid (js_make W amH_ok)
 unfold amK Spk.v specV at C0
 unfold amH Spk.v specV at C1
 have hs1:strOfNums (jtxt amK amC)=⟨#[8,0,1,1,6]⟩:=by rw[am_txt];rfl
 have hs2:strOfNums ((jtxt amH amH.new).take 5)=⟨#[1,208,15,3,1]⟩:=by rw[am_h5];rfl
 have HS:=Lib.hid (And.intro hs1 hs2)
 clear hs1 hs2
 go_enter Tryz.func5,Tryz.ntmps5
 go_wp2_with fail
 refine(C0.out).mono ?_
 rintro e w1 ⟨x,rfl,hx,hb1⟩
 have HX1:Hid (JsAt amK amK.new x (Gr (fun _=>False) w w1) w1):=Lib.hid hx
 have HB1:=Lib.hid hb1
 clear hx hb1 C0
 go_wp2_with fail
 refine((C1 w1).out).mono ?_
 rintro e w2 ⟨y,rfl,hy,hb2⟩
 have HY2:Hid (JsAt amH amH.new y (Gr (fun _=>False) w1 w2) w2):=Lib.hid hy
 have HX2:=Lib.hid ((js_stay amK _ x).keep HX1.out hb2)
 have HB2:=Lib.hid (HB1.out.trans (hb2.mono HB1.out.size))
 have C3:=Lib.hid (am_add_any w2 HX2.out)
 clear hy hb2 HX1 C1
 go_wp2_with fail
 refine(C3.out).mono ?_
 rintro e w3 ⟨rfl,hx,ht⟩
 have HX3:=Lib.hid hx
 have HY3:=Lib.hid ((js_stay amH _ y).far HY2.out ht (fun k h1 h2=>by
  rcases h1 with h1|h1
  ·exact h1
  ·rcases h2 with h2|h2
   ·exact h2
   ·omega))
 have HB3:Hid (Below w.heap.size w w3):=Lib.hid (HB2.out.trans (ht.below (fun k h=>h.elim False.elim And.left) HB2.out.size))
 have C4:=Lib.hid (js_wrap2 w3 HX3.out amC_ok (by rw[am_txt];decide))
 clear hx ht HX2 HY2 C3
 go_wp2_with fail
 refine(C4.out).mono ?_
 rintro e w4 ⟨v4,rfl,o4,hb4⟩
 have HB4:=Lib.hid (HB3.out.trans (hb4.mono HB3.out.size))
 have HX4:=Lib.hid ((js_stay amK _ x).keep HX3.out hb4)
 have HY4:=Lib.hid ((js_stay amH _ y).keep HY3.out hb4)
 have C5:=Lib.hid (js_open2 (sp:=amK) (c:=amC) 100 v4 w4 (rdB_E.2 o4.rd) am_by (by rw[am_txt];decide) (by rw[am_txt];decide) (by rw[am_txt];decide) (by decide) am_read)
 clear o4 hb4 C4 HX3 HY3
 go_wp2_with fail
 refine(C5.out).mono ?_
 rintro e w5 ⟨z,rfl,hz,hb5⟩
 have HB5:=Lib.hid (HB4.out.trans (hb5.mono HB4.out.size))
 have HX5:=Lib.hid ((js_stay amK _ x).keep HX4.out hb5)
 have HY5:=Lib.hid ((js_stay amH _ y).keep HY4.out hb5)
 have HZ5:=Lib.hid hz
 have C6:=Lib.hid (js_text w5 HY5.out (new_ok amH_ok))
 clear hz hb5 C5 HX4 HY4
 go_wp2_with fail
 refine(C6.out).mono ?_
 rintro e w6 ⟨v6,rfl,o6,hb6⟩
 have HB6:=Lib.hid (HB5.out.trans (hb6.mono HB5.out.size))
 have HX6:=Lib.hid ((js_stay amK _ x).keep HX5.out hb6)
 have HZ6:=Lib.hid ((js_stay amK _ z).keep HZ5.out hb6)
 have O6:=Lib.hid o6
 have C7:=Lib.hid (js_text w6 HX6.out amC_ok)
 obtain⟨A6,c6,hv6,hc6,_,_⟩:=(OwnI.rd o6).form
 rw[am_hl] at hv6 hc6
 subst hv6
 clear o6 hb6 C6 HX5 HZ5
 go_wp2_with fail
 refine(C7.out).mono ?_
 rintro e w7 ⟨v7,rfl,o7,hb7⟩
 have cv:=conv_B (OwnI.rd o7)
 rw[HS.out.1] at cv
 have HB7:=Lib.hid (HB6.out.trans (hb7.mono HB6.out.size))
 have O67:=Lib.hid (OwnI.keep O6.out hb7)
 have C8:=Lib.hid (js_total w7 ((js_stay amK _ z).keep HZ6.out hb7) amC_ok)
 rw[am_tot] at C8
 clear o7 hb7 C7
 have R6:RdI .u8 w7 (.slice A6 5 c6) ((jtxt amH amH.new).take 5):=by
  obtain⟨A',c',e,_,h3,hf⟩:=(rdB_E.1 (OwnI.rd O67.out)).form
  injection e with e1 e2 e3
  subst e1;subst e3
  have hl:((jtxt amH amH.new).take 5).length=5:=by rw[List.length_take,am_hl];rfl
  have h4:=RdE.of_form (c:=c6) (by rw[hl];omega) h3 (hf.take 5)
  rw[hl] at h4
  exact rdB_E.2 h4
 have cv2:=conv_B R6
 rw[HS.out.2] at cv2
 have h5:(5:Int)<=(c6:Int):=by omega
 clear R6
 go_wp2_with fail
 refine(C8.out).mono ?_
 rintro e w8 ⟨rfl,rfl⟩
 go_wp2_with fail
 go_ret
 exact⟨rfl,HB7.out⟩
open Go.RowKit Go.Lib Go.Shelf
theorem rjs_made{sp:Spk}{p y i:Nat}{G:Ft}{cs:Array Value}{w w1:World}(hy:Blk w1 y 87 cs)(hI:RInAt sp sp.new p G w1)(hGy:¬G y)(hy0:w.heap.size<=y)(hG:∀k,G k->w.heap.size<=k)(hb:Below w.heap.size w w1)(hi:cs.setIfInBounds i (ptrV p)=(sp.cs++sp.four p).toArray) :
 RJsAt sp sp.new y (Gr (fun _=>False) w (w1.setCell ⟨y,i,none⟩ (ptrV p))) (w1.setCell ⟨y,i,none⟩ (ptrV p))/\Below w.heap.size w (w1.setCell ⟨y,i,none⟩ (ptrV p)):=by
 have B:=hy.set_ i (ptrV p)
 rw[hi] at B
 have I:=(rin_stay sp sp.new p).far (G:=fun k=>k=y) hI (Touch.setCell (F:=fun k=>k=y) (Touch.refl _ w1) (p:=⟨y,i,none⟩) (.inl rfl) (ptrV p)) (fun k hk e=>hGy (by rw[<-show k=y from e];exact hk))
 refine⟨⟨p,G,B,I,.inr ⟨hy0,B.lt⟩,hGy,fun k hk=>.inr ⟨hG k hk,(rin_stay sp sp.new p).low I k hk⟩,fun k hk=>hk.elim False.elim (fun h=>h.2)⟩,hb.setCell (p:=⟨y,i,none⟩) hy0 _⟩
theorem rjmake1_any{lo hi dg u m:Nat}{gr:Bool}(w:World)(ok:HdOk lo hi dg u m) :
 Calls Tryz.prog 11 #[(.h lo hi dg u m gr:Spk).v] w fun e w'=>∃x,e=.returned (.pointer (some ⟨x,0,none⟩))/\RJsAt (.h lo hi dg u m gr) (.h lo hi dg u m gr:Spk).new x (Gr (fun _=>False) w w') w'/\Below w.heap.size w w':=by
 have HOK:=Lib.hid ok
 clear ok
 show Calls Tryz.prog 11 #[.agg #[.int .u8 1,.int .i64 lo,.int .i64 hi,.int .i64 dg,.bool gr,.int .i64 0,.int .i64 0]] w _
 obtain⟨b,hbb⟩:∃b,w.heap.size=b:=⟨_,rfl⟩
 obtain⟨wa,hwa⟩:∃z,w.alloc (.cells #[.int .u8 1,.int .i64 lo,.int .i64 hi,.int .i64 dg,.bool gr,.int .i64 0,.int .i64 0] 25)=z:=⟨_,rfl⟩
 have ha:Below w.heap.size w wa:=by rw[<-hwa];(repeat' (first|(with_reducible exact Below.refl _ _)|(with_reducible refine Below.alloc ?_ ?_ _)|(with_reducible refine Below.drew ?_)|(with_reducible refine below_drewN ?_ _)|(with_reducible refine Below.setCell ?_ ?_ _)|(with_reducible refine below_of (by assumption) ?_ ?_)|go_size))
 have B0:Hid (Blk wa b 25 #[.int .u8 1,.int .i64 lo,.int .i64 hi,.int .i64 dg,.bool gr,.int .i64 0,.int .i64 0]):=by rw[<-hwa,<-hbb];exact Lib.hid (Blk.new _ _ _)
 have hz:wa.heap.size=b+1:=by rw[<-hwa,<-hbb,World.size_alloc]
 have s0:=B0.out.cell 0
 have s1:=B0.out.cell 1
 have s2:=B0.out.cell 2
 have s3:=B0.out.cell 3
 have s4:=B0.out.cell 4
 have s5:=B0.out.cell 5
 have s6:=B0.out.cell 6
 simp only[List.getElem?_toArray,List.getElem?_cons_zero,List.getElem?_cons_succ] at s0 s1 s2 s3 s4 s5 s6
 have HBB:=Lib.hid hbb
 go_enter Tryz.func11,Tryz.ntmps11
 go_upto_region 1 with fail
 have HZ:=Lib.hid hz
 clear hwa hbb hz
 obtain⟨wb,hwb⟩:∃z,wa.alloc (.cells #[.int .u8 1,.int .i64 lo,.int .i64 hi,.int .i64 dg,.bool gr,.int .i64 0,.int .i64 0,.pointer none,.pointer none,.pointer none,.pointer none] 87)=z:=⟨_,rfl⟩
 have hab:Below wa.heap.size wa wb:=by rw[<-hwb];(repeat' (first|(with_reducible exact Below.refl _ _)|(with_reducible refine Below.alloc ?_ ?_ _)|(with_reducible refine Below.drew ?_)|(with_reducible refine below_drewN ?_ _)|(with_reducible refine Below.setCell ?_ ?_ _)|(with_reducible refine below_of (by assumption) ?_ ?_)|go_size))
 have hb:Below w.heap.size w wb:=ha.trans (hab.mono ha.size)
 have Y0:Hid (Blk wb (b+1) 87 #[.int .u8 1,.int .i64 lo,.int .i64 hi,.int .i64 dg,.bool gr,.int .i64 0,.int .i64 0,.pointer none,.pointer none,.pointer none,.pointer none]):=by rw[<-hwb,<-HZ.out];exact Lib.hid (Blk.new _ _ _)
 have B1:Hid (Blk wb b 25 #[.int .u8 1,.int .i64 lo,.int .i64 hi,.int .i64 dg,.bool gr,.int .i64 0,.int .i64 0]):=Lib.hid (B0.out.keep hab)
 have hzb:wb.heap.size=b+2:=by rw[<-hwb,World.size_alloc,HZ.out]
 go_upto_region 2 with fail
 try rw[hwb]
 try rw[HZ.out]
 clear hwb hab s0 s1 s2 s3 s4 s5 s6
 have HZB:=Lib.hid hzb
 clear hzb
 have s0:=B1.out.cell 0
 have s1:=B1.out.cell 1
 have s2:=B1.out.cell 2
 have s3:=B1.out.cell 3
 have s4:=B1.out.cell 4
 have s5:=B1.out.cell 5
 have s6:=B1.out.cell 6
 simp only[List.getElem?_toArray,List.getElem?_cons_zero,List.getElem?_cons_succ] at s0 s1 s2 s3 s4 s5 s6
 have hby:w.heap.size<=b+1:=by have:=HBB.out;omega
 go_wp2_with fail
 refine(rhd_new gr wb HOK.out).mono ?_
 rintro e w1 ⟨p,rfl,hI,hb1⟩
 have Y1:=Lib.hid (Y0.out.keep hb1)
 have f0:=Y1.out.cell 7
 have f1:=Y1.out.frozen 7
 simp only[List.getElem?_toArray,List.getElem?_cons_zero,List.getElem?_cons_succ] at f0
 have HBT:=Lib.hid (hb.trans (hb1.mono hb.size))
 have HI:=Lib.hid hI
 have hzz:=hb.size
 clear hI hb1
 go_wp2_with fail
 go_ret
 have hzb:=HZB.out
 obtain⟨r1,r2⟩:=rjs_made (sp:=.h lo hi dg u m gr) (i:=7) Y1.out HI.out (fun h=>h.elim False.elim (fun h=>by have:=h.1;omega)) hby (fun j h=>h.elim False.elim (fun h=>by have:=h.1;omega)) HBT.out rfl
 exact⟨_,rfl,r1,r2⟩
theorem rjmake2_any{a m:Nat}(w:World)(ok:SpOk (.d a m)) :
 Calls Tryz.prog 11 #[(.d a m:Spk).v] w fun e w'=>∃x,e=.returned (.pointer (some ⟨x,0,none⟩))/\RJsAt (.d a m) (.d a m:Spk).new x (Gr (fun _=>False) w w') w'/\Below w.heap.size w w':=by
 have HOK:=Lib.hid ok
 clear ok
 show Calls Tryz.prog 11 #[.agg #[.int .u8 2,.int .i64 0,.int .i64 0,.int .i64 0,.bool false,.int .i64 a,.int .i64 m]] w _
 obtain⟨b,hbb⟩:∃b,w.heap.size=b:=⟨_,rfl⟩
 obtain⟨wa,hwa⟩:∃z,w.alloc (.cells #[.int .u8 2,.int .i64 0,.int .i64 0,.int .i64 0,.bool false,.int .i64 a,.int .i64 m] 25)=z:=⟨_,rfl⟩
 have ha:Below w.heap.size w wa:=by rw[<-hwa];(repeat' (first|(with_reducible exact Below.refl _ _)|(with_reducible refine Below.alloc ?_ ?_ _)|(with_reducible refine Below.drew ?_)|(with_reducible refine below_drewN ?_ _)|(with_reducible refine Below.setCell ?_ ?_ _)|(with_reducible refine below_of (by assumption) ?_ ?_)|go_size))
 have B0:Hid (Blk wa b 25 #[.int .u8 2,.int .i64 0,.int .i64 0,.int .i64 0,.bool false,.int .i64 a,.int .i64 m]):=by rw[<-hwa,<-hbb];exact Lib.hid (Blk.new _ _ _)
 have hz:wa.heap.size=b+1:=by rw[<-hwa,<-hbb,World.size_alloc]
 have s0:=B0.out.cell 0
 have s1:=B0.out.cell 1
 have s2:=B0.out.cell 2
 have s3:=B0.out.cell 3
 have s4:=B0.out.cell 4
 have s5:=B0.out.cell 5
 have s6:=B0.out.cell 6
 simp only[List.getElem?_toArray,List.getElem?_cons_zero,List.getElem?_cons_succ] at s0 s1 s2 s3 s4 s5 s6
 have HBB:=Lib.hid hbb
 go_enter Tryz.func11,Tryz.ntmps11
 go_upto_region 1 with fail
 have HZ:=Lib.hid hz
 clear hwa hbb hz
 obtain⟨wb,hwb⟩:∃z,wa.alloc (.cells #[.int .u8 2,.int .i64 0,.int .i64 0,.int .i64 0,.bool false,.int .i64 a,.int .i64 m,.pointer none,.pointer none,.pointer none,.pointer none] 87)=z:=⟨_,rfl⟩
 have hab:Below wa.heap.size wa wb:=by rw[<-hwb];(repeat' (first|(with_reducible exact Below.refl _ _)|(with_reducible refine Below.alloc ?_ ?_ _)|(with_reducible refine Below.drew ?_)|(with_reducible refine below_drewN ?_ _)|(with_reducible refine Below.setCell ?_ ?_ _)|(with_reducible refine below_of (by assumption) ?_ ?_)|go_size))
 have hb:Below w.heap.size w wb:=ha.trans (hab.mono ha.size)
 have Y0:Hid (Blk wb (b+1) 87 #[.int .u8 2,.int .i64 0,.int .i64 0,.int .i64 0,.bool false,.int .i64 a,.int .i64 m,.pointer none,.pointer none,.pointer none,.pointer none]):=by rw[<-hwb,<-HZ.out];exact Lib.hid (Blk.new _ _ _)
 have B1:Hid (Blk wb b 25 #[.int .u8 2,.int .i64 0,.int .i64 0,.int .i64 0,.bool false,.int .i64 a,.int .i64 m]):=Lib.hid (B0.out.keep hab)
 have hzb:wb.heap.size=b+2:=by rw[<-hwb,World.size_alloc,HZ.out]
 go_upto_region 2 with fail
 try rw[hwb]
 try rw[HZ.out]
 clear hwb hab s0 s1 s2 s3 s4 s5 s6
 have HZB:=Lib.hid hzb
 clear hzb
 have s0:=B1.out.cell 0
 have s1:=B1.out.cell 1
 have s2:=B1.out.cell 2
 have s3:=B1.out.cell 3
 have s4:=B1.out.cell 4
 have s5:=B1.out.cell 5
 have s6:=B1.out.cell 6
 simp only[List.getElem?_toArray,List.getElem?_cons_zero,List.getElem?_cons_succ] at s0 s1 s2 s3 s4 s5 s6
 have hby:w.heap.size<=b+1:=by have:=HBB.out;omega
 go_wp2_with fail
 refine(rdd_new a m wb HOK.out.1 HOK.out.2.1 HOK.out.2.2.1 HOK.out.2.2.2).mono ?_
 rintro e w1 ⟨p,rfl,hI,hb1⟩
 have Y1:=Lib.hid (Y0.out.keep hb1)
 have f0:=Y1.out.cell 8
 have f1:=Y1.out.frozen 8
 simp only[List.getElem?_toArray,List.getElem?_cons_zero,List.getElem?_cons_succ] at f0
 have HBT:=Lib.hid (hb.trans (hb1.mono hb.size))
 have HI:=Lib.hid hI
 have hzz:=hb.size
 clear hI hb1
 go_wp2_with fail
 go_ret
 have hzb:=HZB.out
 obtain⟨r1,r2⟩:=rjs_made (sp:=.d a m) (i:=8) Y1.out HI.out (fun h=>h.elim False.elim (fun h=>by have:=h.1;omega)) hby (fun j h=>h.elim False.elim (fun h=>by have:=h.1;omega)) HBT.out rfl
 exact⟨_,rfl,r1,r2⟩
theorem rjmake3_any{d:Nat}(w:World)(ok:SpOk (.t d)) :
 Calls Tryz.prog 11 #[(.t d:Spk).v] w fun e w'=>∃x,e=.returned (.pointer (some ⟨x,0,none⟩))/\RJsAt (.t d) (.t d:Spk).new x (Gr (fun _=>False) w w') w'/\Below w.heap.size w w':=by
 have HOK:=Lib.hid ok
 clear ok
 show Calls Tryz.prog 11 #[.agg #[.int .u8 3,.int .i64 0,.int .i64 0,.int .i64 0,.bool false,.int .i64 0,.int .i64 d]] w _
 obtain⟨b,hbb⟩:∃b,w.heap.size=b:=⟨_,rfl⟩
 obtain⟨wa,hwa⟩:∃z,w.alloc (.cells #[.int .u8 3,.int .i64 0,.int .i64 0,.int .i64 0,.bool false,.int .i64 0,.int .i64 d] 25)=z:=⟨_,rfl⟩
 have ha:Below w.heap.size w wa:=by rw[<-hwa];(repeat' (first|(with_reducible exact Below.refl _ _)|(with_reducible refine Below.alloc ?_ ?_ _)|(with_reducible refine Below.drew ?_)|(with_reducible refine below_drewN ?_ _)|(with_reducible refine Below.setCell ?_ ?_ _)|(with_reducible refine below_of (by assumption) ?_ ?_)|go_size))
 have B0:Hid (Blk wa b 25 #[.int .u8 3,.int .i64 0,.int .i64 0,.int .i64 0,.bool false,.int .i64 0,.int .i64 d]):=by rw[<-hwa,<-hbb];exact Lib.hid (Blk.new _ _ _)
 have hz:wa.heap.size=b+1:=by rw[<-hwa,<-hbb,World.size_alloc]
 have s0:=B0.out.cell 0
 have s1:=B0.out.cell 1
 have s2:=B0.out.cell 2
 have s3:=B0.out.cell 3
 have s4:=B0.out.cell 4
 have s5:=B0.out.cell 5
 have s6:=B0.out.cell 6
 simp only[List.getElem?_toArray,List.getElem?_cons_zero,List.getElem?_cons_succ] at s0 s1 s2 s3 s4 s5 s6
 have HBB:=Lib.hid hbb
 go_enter Tryz.func11,Tryz.ntmps11
 go_upto_region 1 with fail
 have HZ:=Lib.hid hz
 clear hwa hbb hz
 obtain⟨wb,hwb⟩:∃z,wa.alloc (.cells #[.int .u8 3,.int .i64 0,.int .i64 0,.int .i64 0,.bool false,.int .i64 0,.int .i64 d,.pointer none,.pointer none,.pointer none,.pointer none] 87)=z:=⟨_,rfl⟩
 have hab:Below wa.heap.size wa wb:=by rw[<-hwb];(repeat' (first|(with_reducible exact Below.refl _ _)|(with_reducible refine Below.alloc ?_ ?_ _)|(with_reducible refine Below.drew ?_)|(with_reducible refine below_drewN ?_ _)|(with_reducible refine Below.setCell ?_ ?_ _)|(with_reducible refine below_of (by assumption) ?_ ?_)|go_size))
 have hb:Below w.heap.size w wb:=ha.trans (hab.mono ha.size)
 have Y0:Hid (Blk wb (b+1) 87 #[.int .u8 3,.int .i64 0,.int .i64 0,.int .i64 0,.bool false,.int .i64 0,.int .i64 d,.pointer none,.pointer none,.pointer none,.pointer none]):=by rw[<-hwb,<-HZ.out];exact Lib.hid (Blk.new _ _ _)
 have B1:Hid (Blk wb b 25 #[.int .u8 3,.int .i64 0,.int .i64 0,.int .i64 0,.bool false,.int .i64 0,.int .i64 d]):=Lib.hid (B0.out.keep hab)
 have hzb:wb.heap.size=b+2:=by rw[<-hwb,World.size_alloc,HZ.out]
 go_upto_region 2 with fail
 try rw[hwb]
 try rw[HZ.out]
 clear hwb hab s0 s1 s2 s3 s4 s5 s6
 have HZB:=Lib.hid hzb
 clear hzb
 have s0:=B1.out.cell 0
 have s1:=B1.out.cell 1
 have s2:=B1.out.cell 2
 have s3:=B1.out.cell 3
 have s4:=B1.out.cell 4
 have s5:=B1.out.cell 5
 have s6:=B1.out.cell 6
 simp only[List.getElem?_toArray,List.getElem?_cons_zero,List.getElem?_cons_succ] at s0 s1 s2 s3 s4 s5 s6
 have hby:w.heap.size<=b+1:=by have:=HBB.out;omega
 obtain⟨w1,hw1⟩:∃z,wb.alloc (.cells #[.int .i64 d,.slice none 0 0,.slice none 0 0,.int .i64 0,.int .i64 0] 92)=z:=⟨_,rfl⟩
 have hb1:Below wb.heap.size wb w1:=by rw[<-hw1];(repeat' (first|(with_reducible exact Below.refl _ _)|(with_reducible refine Below.alloc ?_ ?_ _)|(with_reducible refine Below.drew ?_)|(with_reducible refine below_drewN ?_ _)|(with_reducible refine Below.setCell ?_ ?_ _)|(with_reducible refine below_of (by assumption) ?_ ?_)|go_size))
 have P0:Hid (Blk w1 (b+2) 92 #[.int .i64 d,.slice none 0 0,.slice none 0 0,.int .i64 0,.int .i64 0]):=by rw[<-hw1,<-HZB.out];exact Lib.hid (Blk.new _ _ _)
 have Y1:=Lib.hid (Y0.out.keep hb1)
 have f0:=Y1.out.cell 9
 have f1:=Y1.out.frozen 9
 simp only[List.getElem?_toArray,List.getElem?_cons_zero,List.getElem?_cons_succ] at f0
 have HBT:=Lib.hid (hb.trans (hb1.mono hb.size))
 have hzz:=hb.size
 clear hb1
 go_wp2_with fail
 try rw[hw1]
 try rw[HZB.out]
 go_ret
 have hzb:=HZB.out
 obtain⟨r1,r2⟩:=rjs_made (sp:=.t d) (i:=9) (p:=b+2) (G:=fun j=>j=b+2) Y1.out (⟨_,_,P0.out,OwnM.nil_ _ _,OwnM.nil_ _ _,rfl,fun j e=>by simp[Value.ownBlock] at e,fun j e=>by simp[Value.ownBlock] at e,fun j e=>by simp[Value.ownBlock] at e,fun j e=>by rw[show j=b+2 from e];exact P0.out.lt⟩) (by omega) hby (fun j h=>by rw[show j=b+2 from h];omega) HBT.out rfl
 exact⟨_,rfl,r1,r2⟩
theorem rjmake4_any{q:Nat}(w:World)(ok:SpOk (.k q)) :
 Calls Tryz.prog 11 #[(.k q:Spk).v] w fun e w'=>∃x,e=.returned (.pointer (some ⟨x,0,none⟩))/\RJsAt (.k q) (.k q:Spk).new x (Gr (fun _=>False) w w') w'/\Below w.heap.size w w':=by
 have HOK:=Lib.hid ok
 clear ok
 show Calls Tryz.prog 11 #[.agg #[.int .u8 4,.int .i64 0,.int .i64 0,.int .i64 0,.bool false,.int .i64 0,.int .i64 q]] w _
 obtain⟨b,hbb⟩:∃b,w.heap.size=b:=⟨_,rfl⟩
 obtain⟨wa,hwa⟩:∃z,w.alloc (.cells #[.int .u8 4,.int .i64 0,.int .i64 0,.int .i64 0,.bool false,.int .i64 0,.int .i64 q] 25)=z:=⟨_,rfl⟩
 have ha:Below w.heap.size w wa:=by rw[<-hwa];(repeat' (first|(with_reducible exact Below.refl _ _)|(with_reducible refine Below.alloc ?_ ?_ _)|(with_reducible refine Below.drew ?_)|(with_reducible refine below_drewN ?_ _)|(with_reducible refine Below.setCell ?_ ?_ _)|(with_reducible refine below_of (by assumption) ?_ ?_)|go_size))
 have B0:Hid (Blk wa b 25 #[.int .u8 4,.int .i64 0,.int .i64 0,.int .i64 0,.bool false,.int .i64 0,.int .i64 q]):=by rw[<-hwa,<-hbb];exact Lib.hid (Blk.new _ _ _)
 have hz:wa.heap.size=b+1:=by rw[<-hwa,<-hbb,World.size_alloc]
 have s0:=B0.out.cell 0
 have s1:=B0.out.cell 1
 have s2:=B0.out.cell 2
 have s3:=B0.out.cell 3
 have s4:=B0.out.cell 4
 have s5:=B0.out.cell 5
 have s6:=B0.out.cell 6
 simp only[List.getElem?_toArray,List.getElem?_cons_zero,List.getElem?_cons_succ] at s0 s1 s2 s3 s4 s5 s6
 have HBB:=Lib.hid hbb
 go_enter Tryz.func11,Tryz.ntmps11
 go_upto_region 1 with fail
 have HZ:=Lib.hid hz
 clear hwa hbb hz
 obtain⟨wb,hwb⟩:∃z,wa.alloc (.cells #[.int .u8 4,.int .i64 0,.int .i64 0,.int .i64 0,.bool false,.int .i64 0,.int .i64 q,.pointer none,.pointer none,.pointer none,.pointer none] 87)=z:=⟨_,rfl⟩
 have hab:Below wa.heap.size wa wb:=by rw[<-hwb];(repeat' (first|(with_reducible exact Below.refl _ _)|(with_reducible refine Below.alloc ?_ ?_ _)|(with_reducible refine Below.drew ?_)|(with_reducible refine below_drewN ?_ _)|(with_reducible refine Below.setCell ?_ ?_ _)|(with_reducible refine below_of (by assumption) ?_ ?_)|go_size))
 have hb:Below w.heap.size w wb:=ha.trans (hab.mono ha.size)
 have Y0:Hid (Blk wb (b+1) 87 #[.int .u8 4,.int .i64 0,.int .i64 0,.int .i64 0,.bool false,.int .i64 0,.int .i64 q,.pointer none,.pointer none,.pointer none,.pointer none]):=by rw[<-hwb,<-HZ.out];exact Lib.hid (Blk.new _ _ _)
 have B1:Hid (Blk wb b 25 #[.int .u8 4,.int .i64 0,.int .i64 0,.int .i64 0,.bool false,.int .i64 0,.int .i64 q]):=Lib.hid (B0.out.keep hab)
 have hzb:wb.heap.size=b+2:=by rw[<-hwb,World.size_alloc,HZ.out]
 go_upto_region 2 with fail
 try rw[hwb]
 try rw[HZ.out]
 clear hwb hab s0 s1 s2 s3 s4 s5 s6
 have HZB:=Lib.hid hzb
 clear hzb
 have s0:=B1.out.cell 0
 have s1:=B1.out.cell 1
 have s2:=B1.out.cell 2
 have s3:=B1.out.cell 3
 have s4:=B1.out.cell 4
 have s5:=B1.out.cell 5
 have s6:=B1.out.cell 6
 simp only[List.getElem?_toArray,List.getElem?_cons_zero,List.getElem?_cons_succ] at s0 s1 s2 s3 s4 s5 s6
 have hby:w.heap.size<=b+1:=by have:=HBB.out;omega
 obtain⟨w1,hw1⟩:∃z,wb.alloc (.cells #[.int .i64 q,.slice none 0 0,.int .u64 0] 95)=z:=⟨_,rfl⟩
 have hb1:Below wb.heap.size wb w1:=by rw[<-hw1];(repeat' (first|(with_reducible exact Below.refl _ _)|(with_reducible refine Below.alloc ?_ ?_ _)|(with_reducible refine Below.drew ?_)|(with_reducible refine below_drewN ?_ _)|(with_reducible refine Below.setCell ?_ ?_ _)|(with_reducible refine below_of (by assumption) ?_ ?_)|go_size))
 have P0:Hid (Blk w1 (b+2) 95 #[.int .i64 q,.slice none 0 0,.int .u64 0]):=by rw[<-hw1,<-HZB.out];exact Lib.hid (Blk.new _ _ _)
 have Y1:=Lib.hid (Y0.out.keep hb1)
 have f0:=Y1.out.cell 10
 have f1:=Y1.out.frozen 10
 simp only[List.getElem?_toArray,List.getElem?_cons_zero,List.getElem?_cons_succ] at f0
 have HBT:=Lib.hid (hb.trans (hb1.mono hb.size))
 have hzz:=hb.size
 clear hb1
 go_wp2_with fail
 try rw[hw1]
 try rw[HZB.out]
 go_ret
 have hzb:=HZB.out
 obtain⟨r1,r2⟩:=rjs_made (sp:=.k q) (i:=10) (p:=b+2) (G:=fun j=>j=b+2) Y1.out (⟨_,_,K.stG_new P0.out⟩) (by omega) hby (fun j h=>by rw[show j=b+2 from h];omega) HBT.out rfl
 exact⟨_,rfl,r1,r2⟩
theorem rjs_make{sp:Spk}(w:World)(ok:SpOk sp):Calls Tryz.prog 11 #[sp.v] w fun e w'=>∃x,e=.returned (.pointer (some ⟨x,0,none⟩))/\RJsAt sp sp.new x (Gr (fun _=>False) w w') w'/\Below w.heap.size w w':=by
 cases sp with
 | h lo hi dg u m gr=>exact rjmake1_any w ok
 | d a m=>exact rjmake2_any w ok
 | t d=>exact rjmake3_any w ok
 | k q=>exact rjmake4_any w ok
end Go.Proofs.YtingnldfpokckaaGreat.D
