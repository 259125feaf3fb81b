/- Parts of a proof: what its theorem reaches, words cut short. No condition of its own. -/
import Derived.Test.YtilcnjbpmoijmaaGreatPs28
import Derived.Test.YtilcnjbpmoijmaaGreatPs14
import Derived.Laws.OwnMore
set_option maxRecDepth 100000
set_option maxHeartbeats 16000000
set_option linter.unusedVariables false
set_option linter.unusedSimpArgs false
namespace Go.Proofs.YtilcnjbpmoijmaaGreat.K
open Go.RowKit
def atR(L:LL)(led:Nat)(num den:Int):Int × Int × Int:=if (rankI num den (wt L)).2=0 then(atV L (rankI num den (wt L)).1.toNat,led,0) else(0,0,(rankI num den (wt L)).2)
structure FindAt(S:List Int)(p:Int->Bool)(lo hi:Nat):Prop where
 le:lo<=hi
 lt:hi<S.length
 no:∀i (h:i<S.length),i<lo->p S[i]=false
 yes:p S[hi]=true
theorem FindAt.up{S:List Int}{p:Int->Bool}{lo hi:Nat}(h:FindAt S p lo hi)(hm:∀a b,a<=b->p a=true->p b=true)(hs:Srt S)(hlt:lo<hi)(hp:p (S[(lo+hi) / 2]'(by have:=h.lt;omega))=false):FindAt S p ((lo+hi) / 2+1) hi:=by
 refine⟨by omega,h.lt,fun i hi2 h2=>?_,h.yes⟩
 rcases Nat.lt_or_ge i ((lo+hi) / 2) with h3|h3
 ·cases hb:p S[i] with
  | false=>rfl
  | true=>
   have h4:=List.pairwise_iff_getElem.1 hs i ((lo+hi) / 2) hi2 (by have:=h.lt;omega) h3
   rw[hm _ _ h4 hb] at hp;cases hp
 ·have e:i=(lo+hi) / 2:=by omega
  subst e;exact hp
theorem FindAt.down{S:List Int}{p:Int->Bool}{lo hi:Nat}(h:FindAt S p lo hi)(hlt:lo<hi)(hp:p (S[(lo+hi) / 2]'(by have:=h.lt;omega))=true):FindAt S p lo ((lo+hi) / 2):=
 ⟨by omega,by have:=h.lt;omega,h.no,hp⟩
theorem FindAt.isAt{L:LL}{S:List Int}{r lo:Nat}(h:FindAt S (fun x=>decide (r<=uptoL L x)) lo lo)(hp:S.Perm (allV L))(hs:Srt S):IsAt L r (S[lo]'h.lt):=by
 refine⟨hp.mem_iff.1 (List.getElem_mem h.lt),by have:=h.yes;simpa using this,fun x hx hr=>?_⟩
 obtain⟨i,hi,rfl⟩:=List.getElem_of_mem (hp.mem_iff.2 hx)
 rcases Nat.lt_or_ge i lo with h1|h1
 ·have:=h.no i hi h1
  simp only[decide_eq_false_iff_not] at this
  exact absurd hr this
 ·rcases Nat.eq_or_lt_of_le h1 with h2|h2
  ·subst h2;exact Int.le_refl _
  ·exact List.pairwise_iff_getElem.1 hs lo i h.lt hi h2
theorem at_any{F:Nat->Prop}{g k n led a:Nat}{lv:Value}{vs:List Sv}{L:LL}(num den:Int)(w:World)(hs:Kst F w g k n led lv vs L)(hok:PkOk (L,led,a))(hn:n=wt L)
 (a0:0<=num) (a1:num<18446744073709551616) (d0:0<=den) (d1:den<18446744073709551616) :
 Calls Tryz.prog 313 #[.pointer (some ⟨g,0,none⟩),.int .u64 num,.int .u64 den] w fun e w'=>e=.returned (.tuple #[.int .i64 (atR L led num den).1,.int .u64 (atR L led num den).2.1,.int .i64 (atR L led num den).2.2])/\Below w.heap.size w w':=by
 have hwt:=hok.wtL
 have c2:=hs.cell2
 have HS:=Lib.hid hs
 have HOK:=Lib.hid hok
 have hgw:=hs.blk.lt
 have HRK:=Lib.hid (rank_any num den n w a0 a1 d0 d1 (by omega) (by omega))
 have HBD:=Lib.hid (fun h=>rankI_bd (num:=num) (den:=den) (n:=n) a0 d0 (by omega) h)
 have HAR:Hid (atR L led num den=if (rankI num den n).2=0 then(atV L (rankI num den n).1.toNat,(led:Int),0) else(0,0,(rankI num den n).2)):=Lib.hid (by rw[hn];rfl)
 obtain⟨r,hr⟩:∃r,(rankI num den n).1=r:=⟨_,rfl⟩
 obtain⟨x,hx⟩:∃x,(rankI num den n).2=x:=⟨_,rfl⟩
 rw[hr,hx] at HRK HBD HAR
 rw[HAR.out]
 have HNW:=Lib.hid hn
 clear hs hok hr hx HAR hn
 by_cases hx0:x=0
 ·subst hx0
  rw[if_pos rfl]
  obtain⟨r1,r2⟩:=HBD.out rfl
  obtain⟨q,rfl⟩:∃q:Nat,r=q:=⟨r.toNat,by omega⟩
  have hlenL:=HOK.out.lenL
  have hcnt:=HOK.out.cntL
  obtain⟨A,c,elv,hc1,hc2,_⟩:=HS.out.form
  subst elv
  rw[Int.toNat_natCast]
  go_enter Tryz.func313,Tryz.ntmps313
  go_wp2_with fail
  refine(HRK.out).mono ?_
  rintro e w1 ⟨rfl,hb1⟩
  have k1:=(HS.out.keep hb1).cell1
  have HB1:=Lib.hid hb1
  have HCC:=Lib.hid (concat_i64 _ L w1 (HS.out.keep hb1).llr (by omega) (by omega))
  clear hb1 c2
  go_wp2_with fail
  refine(HCC.out).mono ?_
  rintro e w2 ⟨va,rfl,oa,hb2⟩
  have HB2:=Lib.hid (HB1.out.trans (hb2.mono HB1.out.size))
  have HZ2:=Lib.hid hb2.size
  have HSO:=Lib.hid (sort_own va _ _ w2 oa (by rw[allV_length];omega))
  obtain⟨S,hS⟩:∃S,((allV L).mergeSort fun x y=>decide (x<=y))=S:=⟨_,rfl⟩
  have HSR:Hid (Srt S):=Lib.hid (by rw[<-hS];exact sort_srt _)
  have HPM:Hid (S.Perm (allV L)):=Lib.hid (by rw[<-hS];exact List.mergeSort_perm _ _)
  have HSL:Hid (S.length=cnt L):=Lib.hid (by rw[HPM.out.length_eq,allV_length])
  have HVO:=Lib.hid (fun k e=>(oa.lt k e).1)
  rw[hS] at HSO
  obtain⟨A5,c5,rfl,_,_,_⟩:=oa.form
  rw[allV_length] at HSO HVO |-
  clear hb2 oa hS k1 HCC
  go_wp2_with fail
  refine(HSO.out).mono ?_
  rintro e w3 ⟨rfl,o3,t3⟩
  have HB3:Hid (Below w.heap.size w w3):=Lib.hid (HB2.out.trans (t3.below (fun i hi=>by have:=HVO.out i hi;have:=HB1.out.size;omega) HB2.out.size))
  have hst3:=HS.out.keep HB3.out
  have HS3:=Lib.hid hst3
  obtain⟨_,_,e3,h31,h32,f3⟩:=o3.form
  injection e3 with e31 e32 e33
  subst e31;subst e33
  have F3:=Lib.hid f3
  have HBT:=Lib.hid (fun v d=>between_any v (w3.drewN d) (hst3.keep (below_drewN (Below.refl _ _) d)) HOK.out)
  have K3:=Lib.hid hst3.cell3
  have hSne:0<S.length:=by
   rcases Nat.eq_zero_or_pos S.length with h0|h0
   ·exfalso
    have h1:allV L=[]:=List.eq_nil_of_length_eq_zero (by rw[<-HPM.out.length_eq];exact h0)
    have h2:wt L=0:=wtF_pos 1 L h1
    have:=HNW.out;omega
   ·exact h0
  have hfin:FindAt S (fun x=>decide (q<=uptoL L x)) 0 (S.length - 1):=by
   refine⟨Nat.zero_le _,by omega,fun i _ hi=>absurd hi (by omega),?_⟩
   have h1:uptoL L (S[S.length - 1]'(by omega))=wt L:=uptoL_all fun x hx=>by
    obtain⟨i,hi,rfl⟩:=List.getElem_of_mem (HPM.out.mem_iff.2 hx)
    rcases Nat.eq_or_lt_of_le (show i<=S.length - 1 by omega) with h2|h2
    ·have e:i=S.length - 1:=h2
     subst e;exact Int.le_refl _
    ·exact List.pairwise_iff_getElem.1 HSR.out i (S.length - 1) hi (by omega) h2
   simp only[decide_eq_true_eq,h1]
   have:=HNW.out;omega
  have HFI:=Lib.hid hfin
  have HUB:=Lib.hid (fun v=>(show uptoL L v<=281474976710656 from Nat.le_trans (cF_le (fun x=>decide (x<=v)) 1 L) hwt))
  have HMO:Hid (∀a b:Int,a<=b->decide (q<=uptoL L a)=true->decide (q<=uptoL L b)=true):=Lib.hid fun a b h1 h2=>by
   have:=uptoL_mono L h1
   simp only[decide_eq_true_eq] at *;omega
  obtain⟨N,hN⟩:∃N,cnt L=N:=⟨_,rfl⟩
  rw[hN] at HSL hcnt |-
  have hSN:=HSL.out
  rw[hSN] at HFI
  have hN0:0<N:=by omega
  clear hfin o3 t3 e32 f3 hst3 hN HSO
  go_wp2_with fail
  go_loopg [12,13,14,15,16] (N - 1) (fun m i j _ _ _ wr=>∃(lo hi d:Nat),m=hi - lo/\i=.int .i64 (lo:Int)/\j=.int .i64 (hi:Int)/\wr=w3.drewN d/\Hid (FindAt S (fun x=>decide (q<=uptoL L x)) lo hi))
  case atStart=>exact⟨0,N - 1,0,by omega,rfl,by go_num,rfl,HFI⟩
  case round=>
   obtain⟨lo,hi,d,hm,rfl,rfl,rfl,HF⟩:=hrel
   have HM:=Lib.hid hm
   have h1:=HF.out.le
   have h2:=HF.out.lt
   clear hm
   by_cases hlt:lo<hi
   ·have hmid:(lo+hi) / 2<S.length:=by omega
    obtain⟨ga,oa,eA,hga,ka⟩:=F3.out.i64 hmid
    subst eA
    have HUP:=Lib.hid (HF.out.up HMO.out HSR.out hlt)
    have HDN:=Lib.hid (HF.out.down hlt)
    obtain⟨y,hy⟩:∃y,S[(lo+hi) / 2]=y:=⟨_,rfl⟩
    rw[hy] at ka HUP HDN
    have HBY:=Lib.hid (HBT.out y d)
    have hub:=HUB.out y
    obtain⟨m,hm⟩:∃m,(lo+hi) / 2=m:=⟨_,rfl⟩
    rw[hm] at ka HUP HDN hmid
    have hmi:((lo:Int)+(hi:Int)) / 2=(m:Int):=by omega
    have hm1:lo<=m:=by omega
    have hm2:m<hi:=by omega
    have ka2:(w3.drewN d).cell? ⟨ga,oa+m,none⟩=_:=ka
    have HUE:Hid (uptoL L y=uptoL L y):=Lib.hid rfl
    obtain⟨u,hu⟩:∃u,uptoL L y=u:=⟨_,rfl⟩
    rw[hu] at HBY HUP HDN hub
    clear hy ka hu HUE hm
    by_cases hqu:q<=u
    ·have hqi:(u:Int)>=(q:Int):=by omega
     have HN:=Lib.hid (HDN.out (decide_eq_true hqu))
     go_wp2_with fail
     refine(HBY.out).mono ?_
     rintro e w4 ⟨rfl,d4,rfl⟩
     go_wp2_with fail
     go_roundg (m - lo)
     case measure=>have:=HM.out;omega
     case rel=>exact⟨lo,m,_,rfl,rfl,rfl,by first|rfl|exact drewN_add _ _ _,HN⟩
    ·have hqi:¬(u:Int)>=(q:Int):=by omega
     have HN:=Lib.hid (HUP.out (decide_eq_false hqu))
     go_wp2_with fail
     refine(HBY.out).mono ?_
     rintro e w4 ⟨rfl,d4,rfl⟩
     go_wp2_with fail
     go_roundg (hi - (m+1))
     case measure=>have:=HM.out;omega
     case rel=>exact⟨m+1,hi,_,rfl,by go_num,rfl,by first|rfl|exact drewN_add _ _ _,HN⟩
   ·obtain rfl:lo=hi:=by omega
    have HAT:=Lib.hid (atV_is (HF.out.isAt HPM.out HSR.out))
    obtain⟨ga,oa,eA,hga,ka⟩:=F3.out.i64 h2
    subst eA
    obtain⟨y,hy⟩:∃y,S[lo]=y:=⟨_,rfl⟩
    rw[hy] at ka HAT
    have kb2:=K3.out
    have hlN:lo<N:=by omega
    have hlNi:(lo:Int)<(N:Int):=by omega
    clear hy
    go_wp2_with fail
    go_quiet (fail)
    go_wp2_with fail
    refine bodyPost_ret (by simp[results,Tryz.results313,go_sem, *];try rfl) rfl ?_
    exact⟨by rw[HAT.out],by have:=HB3.out;(repeat' (first|(with_reducible exact Below.refl _ _)|(with_reducible refine Below.alloc ?_ ?_ _)|(with_reducible refine Below.drew ?_)|(with_reducible refine below_drewN ?_ _)|(with_reducible refine Below.setCell ?_ ?_ _)|(with_reducible refine below_of (by assumption) ?_ ?_)|go_size))⟩
 ·rw[if_neg hx0]
  have hx1:(x == 0)=false:=by simpa using hx0
  go_enter Tryz.func313,Tryz.ntmps313
  go_wp2_with fail
  refine(HRK.out).mono ?_
  rintro e w1 ⟨rfl,hb1⟩
  go_wp2_with fail
  refine bodyPost_ret (by simp[results,Tryz.results313,go_sem, *];try rfl) rfl ?_
  exact⟨rfl,hb1⟩
open Go.RowKit
def KAt(F:Nat->Prop)(w:World)(g k:Nat)(L:LL)(led:Nat):Prop:=∃lv vs,Kst F w g k (wt L) led lv vs L
theorem KAt.stay{F:Nat->Prop}{w w':World}{g k led:Nat}{L:LL}(h:KAt F w g k L led)(hk:∀x,F x->w'.heap[x]?=w.heap[x]?)(hz:w.heap.size<=w'.heap.size):KAt F w' g k L led:=by
 obtain⟨lv,vs,h⟩:=h
 exact⟨lv,vs,h.stay hk hz⟩
open Go.RowKit
theorem new_any(k:Nat)(w:World)(h8:8<=k)(hk:k<=4096) :
 Calls Tryz.prog 209 #[.int .i64 k] w fun e w'=>e=.returned (.tuple #[.pointer (some ⟨w.heap.size,0,none⟩),.int .i64 0])/\w'=w.alloc (.cells #[.int .i64 k,.slice none 0 0,.int .u64 0,.int .u64 0] 201):=by
 have h1:¬(k:Int)<8:=by omega
 have h2:¬(k:Int) > 4096:=by omega
 go_enter Tryz.func209,Tryz.ntmps209
 go_wp2_with fail
 go_ret2
 exact⟨rfl,rfl⟩
theorem stG_new{t:TypeId}{a:Value}{rest:List Value}{w:World}{g:Nat}(h:Blk w g t (a::.slice none 0 0::rest).toArray):StG t a rest (fun x=>x=g) w g (.slice none 0 0) [] []:=
 ⟨h,⟨OwnE.nil_ _ _,rfl,fun i hi=>absurd hi (by simp),fun i hi=>absurd hi (by simp),fun i j hi=>absurd hi (by simp),fun k e=>by simp[Value.ownBlock] at e,fun i hi=>absurd hi (by simp)⟩,rfl,by simp[Value.ownBlock],fun i hi=>absurd hi (by simp),fun k hk=>by rw[show k=g from hk];exact h.lt⟩
theorem kAt_new(k:Nat)(w:World):KAt (fun x=>x=w.heap.size) (w.alloc (.cells #[.int .i64 k,.slice none 0 0,.int .u64 0,.int .u64 0] 201)) w.heap.size k [] 0:=⟨_,_,stG_new (Blk.new w _ _)⟩
open Go.RowKit
open Go.RowKit
open Go.RowKit
open Go.RowKit
end Go.Proofs.YtilcnjbpmoijmaaGreat.K
