/- Parts of a proof: what its theorem reaches, words cut short. No condition of its own. -/
import Derived.Test.YtilcnjbpmoijmaaGreatPs29
import Derived.Laws.BytesArg
set_option maxRecDepth 100000
set_option maxHeartbeats 16000000
set_option linter.unusedVariables false
set_option linter.unusedSimpArgs false
namespace Go.Proofs.YtilcnjbpmoijmaaGreat.K
section
open Go.RowKit Go.Lib
theorem pack_idle{F:Nat->Prop}{g k n led:Nat}{lv:Value}{vs:List Sv}{L:LL}(toss:Value)(w:World)(hs:Kst F w g k n led lv vs L)(h2:2<=k)(hk:k<=1000000)(hL:L.length<=1000)(hl:cnt L<=1000000000)(hf:fullN k L=none) :
 Calls Tryz.prog 141 #[.pointer (some ⟨g,0,none⟩),toss] w fun e w'=>e=.returned (.tuple #[])/\w=w':=by
 have HFU:=Lib.hid (full_any w hs h2 hk hL hl)
 have e1:fullI k L=-1:=by unfold fullI;rw[hf]
 rw[e1] at HFU
 clear hs hf e1
 go_enter Tryz.func141,Tryz.ntmps141
 go_wp2_with fail
 refine(HFU.out).mono ?_
 rintro e w1 ⟨rfl,rfl⟩
 go_wp2_with fail
 go_loopg [4] 0 (fun _ t4 wr=>t4=.int .i64 (-1)/\w=wr)
 case atStart=>exact⟨rfl,rfl⟩
 case round=>
  obtain⟨rfl,rfl⟩:=hrel
  go_wp2_with fail
  go_end0
  exact⟨rfl,rfl⟩
end
open Go.RowKit
theorem add_idle{F:Nat->Prop}{g k n led a c:Nat}{lv:Value}{vs:List Sv}{L:LL}{cq:Option Addr}(v:Int)(w:World)(hs:Kst F w g k n led lv vs L)(hok:PkOk (L,led,a))
 (hn:n=wt L) (hc0:0<c) (hc:n+c<=281474976710656) (hcn:cnt L<=900000) (h2:2<=k) (hk:k<=1000000) (hfn:fullN k (addL L v c)=none) :
 Calls Tryz.prog 124 #[.pointer (some ⟨g,0,none⟩),.int .i64 v,.int .u64 c,.pointer cq] w fun e w'=>e=.returned (.int .i64 0)/\∃F' lv' vs',Kst F' w' g k (n+c) led lv' vs' (addL L v c)/\(∀x,F' x->F x\/w.heap.size<=x)/\(∀x,F x->F' x)/\Touch F w w':=by
 have HA0:Hid (AdAt F w g k (n+c) led v c L 0 F (w.setCell ⟨g,2,none⟩ (.int .u64 (n+c:Nat))) lv vs L):=Lib.hid ⟨hs.put2 _,by simp[addL],hok.srt,hok.len,Nat.le_refl _,fun _ h=>.inl h,fun _ h=>h,Touch.setCell (Touch.refl _ _) (.inl hs.fg) _⟩
 have k2:=hs.cell2
 have f2:=hs.blk.frozen 2
 have HFN:=Lib.hid hfn
 have HOK:=Lib.hid hok
 have HOKA:=Lib.hid (pkOk_add hok v c (by omega) hcn)
 clear hs hok hn hfn
 have hc1:¬(c:Int)=0:=by omega
 have hc2:¬(c:Int) > 281474976710656 - (n:Int):=by omega
 go_enter Tryz.func124,Tryz.ntmps124
 go_wp2_with fail
 go_loopg [9] 64 (fun q i wr=>∃(j:Nat) (F1:Nat->Prop) (lv1:Value) (vs1:List Sv) (L1:LL),q=64 - j/\j<=49/\i=.int .i64 (j:Int)/\Hid (AdAt F w g k (n+c) led v c L j F1 wr lv1 vs1 L1))
 case atStart=>
  have HA1:=HA0.out
  rw[Int.natCast_add] at HA1
  exact⟨0,F,lv,vs,L,rfl,by omega,rfl,Lib.hid HA1⟩
 case round=>
  obtain⟨j,F1,lv1,vs1,L1,hq,hj,rfl,HA⟩:=hrel
  have HQ:=Lib.hid hq
  clear hq
  obtain⟨m,hm⟩:∃m,c / 2 ^ j=m:=⟨_,rfl⟩
  have hmc:m<=c:=by rw[<-hm];exact Nat.div_le_self ..
  have hmi:(c:Int) / 2 ^ j=(m:Int):=by
   rw[<-hm,Int.natCast_ediv,Int.natCast_pow];rfl
  have HM:=Lib.hid hm
  have HMI:=Lib.hid hmi
  clear hmi
  have hsz:=HA.out.touch.size
  by_cases hm0:m=0
  ·have hm0':¬(m:Int) > 0:=by omega
   have hEQ:L1=addL L v c:=by rw[HA.out.eq,HM.out,hm0,putB_zero]
   subst hEQ
   have HP:=Lib.hid (pack_idle (.func (.func 142) #[.pointer cq] #[]) wr HA.out.st h2 hk (by have:=HOKA.out.len;exact Nat.le_trans this (by decide)) (by have:=HOKA.out.cnt;exact Nat.le_trans this (by decide)) HFN.out)
   go_wp2_with (first|(have hmi:=HMI.out;rw[hmi]))
   refine(HP.out).mono ?_
   rintro e w2 ⟨rfl,hw⟩
   subst hw
   clear HP
   go_wp2_with fail
   refine bodyPost_ret (by simp[results,Tryz.results124,go_sem, *];try rfl) rfl ?_
   exact⟨rfl,F1,lv1,vs1,HA.out.st,HA.out.sub,HA.out.sup,HA.out.touch⟩
  ·have hm0':(m:Int) > 0:=by omega
   have hj48:j<=48:=by
    rcases Nat.lt_or_ge j 49 with h1|h1
    ·omega
    ·have h3:2 ^ 49<=2 ^ j:=Nat.pow_le_pow_right (by decide) h1
     have h4:c / 2 ^ j=0:=Nat.div_eq_of_lt (by omega)
     have:=HM.out;omega
   have hmd:c / 2 ^ (j+1)=m / 2:=by rw[Nat.pow_succ,<-Nat.div_div_eq_div_mul,HM.out]
   have HPB:Hid (putB (64 - j) j m L1 v=putB (64 - (j+1)) (j+1) (m / 2) (if m % 2=1 then putL L1 j [v] else L1) v):=Lib.hid (by
    rw[show 64 - j=(64 - (j+1))+1 by omega,putB,if_neg hm0])
   have HMD:=Lib.hid hmd
   have HAN:=Lib.hid (and_one m (by omega))
   clear hmd
   have hj49:j+1<=49:=by omega
   by_cases hm1:m % 2=1
   ·have hm1':((m % 2:Nat):Int)=1:=by omega
    have HPU:=Lib.hid (put_any j (.slice (some ⟨wr.heap.size,0,none⟩) 1 1) [v] (wr.alloc (.cells #[.int .i64 v] 2)) (HA.out.st.keep ((Below.refl _ _).alloc (Nat.le_refl _) _)) (Aside.of_own (OwnE.one (E:=i64E) wr v _ rfl _ rfl) fun kk e h1=>by
     have e:=Option.some.inj (show some wr.heap.size=some kk from e)
     have:=HA.out.st.low kk h1;omega) (HA.out.srt j) (by omega) (by have:=HA.out.len;omega) (by have:=lvl_le_cnt L1 j;have:=HA.out.cnt;omega) (by simp))
    have hmi:=HMI.out
    have han:bits .and .u64 (m:Int) 1=1:=by rw[HAN.out];exact hm1'
    go_wp2_with fail
    refine(HPU.out).mono ?_
    rintro e w2 ⟨rfl,F2,lv2,vs2,q1,q2,q3,q4⟩
    have Q1:=Lib.hid q1
    have Q2:=Lib.hid q2
    have Q3:=Lib.hid q3
    have Q4:=Lib.hid q4
    have hasz:(wr.alloc (.cells #[.int .i64 v] 2)).heap.size=wr.heap.size+1:=by simp
    rw[hasz] at q1
    have Q1:=Lib.hid q1
    clear q1 q2 q3 q4 HPU hasz
    go_wp2_with fail
    go_roundg (64 - (j+1))
    case measure=>have:=HQ.out;omega
    case rel=>
     refine⟨j+1,F2,lv2,vs2,putL L1 j [v],rfl,by omega,by go_num,Lib.hid ⟨Q3.out,?_,putL_srt HA.out.srt j [v],?_,?_,?_,?_,?_⟩⟩
     ·rw[HA.out.eq,HM.out,HMD.out,HPB.out,if_pos hm1]
     ·rw[putL_length];have:=HA.out.len;omega
     ·rw[cnt_put];have:=HA.out.cnt;simp;omega
     ·intro kk hk1
      rcases Q1.out kk hk1 with h1|h1
      ·exact HA.out.sub kk h1
      ·exact .inr (by omega)
     ·exact fun kk hk1=>Q2.out kk (HA.out.sup kk hk1)
     ·exact(HA.out.touch.alloc _).trans Q4.out fun i hi=>HA.out.sub i hi
   ·have hm1':((m % 2:Nat):Int)=0:=by omega
    have hmi:=HMI.out
    have han:bits .and .u64 (m:Int) 1=0:=by rw[HAN.out];exact hm1'
    go_wp2_with fail
    go_roundg (64 - (j+1))
    case measure=>have:=HQ.out;omega
    case rel=>
     refine⟨j+1,F1,lv1,vs1,L1,rfl,by omega,by go_num,Lib.hid ⟨HA.out.st,?_,HA.out.srt,HA.out.len,?_,HA.out.sub,HA.out.sup,HA.out.touch⟩⟩
     ·rw[HA.out.eq,HM.out,HMD.out,HPB.out,if_neg hm1]
     ·have:=HA.out.cnt;omega
end Go.Proofs.YtilcnjbpmoijmaaGreat.K
