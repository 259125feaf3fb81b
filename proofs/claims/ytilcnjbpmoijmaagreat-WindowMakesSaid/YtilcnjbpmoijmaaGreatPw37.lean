/- Parts of a proof. No condition. -/
import Derived.Test.YtilcnjbpmoijmaaGreatPw35
import Derived.Laws.OwnMore
set_option maxRecDepth 100000
set_option maxHeartbeats 16000000
set_option linter.unusedVariables false
set_option linter.unusedSimpArgs false
namespace Go.Proofs.YtilcnjbpmoijmaaGreat.K
open Tryz
open Go.RowKit
variable{j n:Nat}{L:LL}
def yw(n:Nat):List Sv:=List.replicate n (none,0,0)
theorem PL(w:World)(n:Nat)(hn:n<=1000000):dL Dk w.heap.size (w.alloc (.cells (madeCells #[.slice none 0 0] n) 182)) (.slice (some ⟨w.heap.size,0,none⟩) n n) (yw n):=by
 have hl:(yw n).length=n:=by simp[yw]
 have hc:cellsE Dk (yw n)=List.replicate n (Value.slice none 0 0):=by
  unfold yw
  induction n with
  | zero=>rfl
  | succ n ih=>rw[List.replicate_succ,gJ,ih ae (by simp[yw]),List.replicate_succ];rfl
 have hk:Dk.k=1:=rfl;refine⟨by rw[hc,b_,hl,hk,Nat.mul_one],.inr ⟨w.heap.size,n,madeCells #[.slice none 0 0] n,by rw[hl],aS _,heap_alloc_new _ _,ae,by unfold maxLen;omega,by rw[size_madeCells,hk,Nat.mul_one],?_⟩⟩
 rw[hc,toList_madeCells_one,hl,hk,Nat.mul_one,List.take_replicate,Nat.min_self]
theorem ag7{F:Nat->Prop}{w:World}{g k led gl H:Nat}(hb:dK w g 201 #[.int .i64 k,.slice (some ⟨gl,0,none⟩) H H,.int .u64 n,.int .u64 led])(hr:dL Dk 0 w (.slice (some ⟨gl,0,none⟩) H H) (yw H))(hg:g≠gl)(hF:∀x,F x<->(x=g\/x=gl)) :
 xB F w g k n led (.slice (some ⟨gl,0,none⟩) H H) (yw H) (List.replicate H []):=by
 have hno:∀i (hi:i<(yw H).length),jr ((yw H)[i])=.slice none 0 0:=fun i hi=>by
  have:(yw H)[i]=(none,0,0):=List.getElem_replicate hi;rw[this];rfl
 have hlv:∀i,lvl (List.replicate H ([]:List Int)) i=[]:=fun i=>by
  unfold lvl;simp only[List.getD];rw[List.getElem?_replicate]
  split<;>rfl
 have hgl:=(hr.lt gl rfl).2;refine⟨hb,⟨hr,by simp[yw],fun i hi=>by rw[hno i hi,hlv];exact dL.nil_ _ _,fun i hi k e=>by rw[hno i hi] at e;simp[Value.ownBlock] at e,fun i j hi hj hij k e=>by rw[hno i hi] at e;simp[Value.ownBlock] at e,fun k e=>?_,fun i hi k e=>by rw[hno i hi] at e;simp[Value.ownBlock] at e⟩,(hF g).2 (.inl rfl),fun e=>hg (Option.some.inj (show some gl=some g from e)).symm,fun i hi e=>by rw[hno i hi] at e;simp[Value.ownBlock] at e,fun x hx=>?_⟩
 ·exact(hF k).2 (.inr (Option.some.inj (show some gl=some k from e)).symm)
 ·rcases(hF x).1 hx with rfl|rfl
  ·exact hb.lt
  ·exact hgl
def qH(L:LL)(j:Nat):LL:=L.take j++List.replicate (L.length - j) []
theorem tK(h:j<=L.length):(qH L j).length=L.length:=by unfold qH;simp;omega
theorem Ua(L:LL):qH L 0=List.replicate L.length []:=by unfold qH;simp
theorem Yn(L:LL):qH L L.length=L:=by unfold qH;simp
theorem Yo(h:j<L.length):(qH L j).set j (lvl L j)=qH L (j+1):=by
 unfold qH;rw[bg h,<-nZ h,show L.length - j=(L.length - (j+1))+1 by omega,List.replicate_succ,List.set_append_right _ _ (by rw[bG];omega),bG,Nat.min_eq_left ae,Nat.sub_self,List.set_cons_zero,aX]
 rfl
theorem bq1(hn:n<=281474976710656):((281474976710656 - (n:Int)) / 2 ^ j)=(((281474976710656 - n) / 2 ^ j:Nat):Int):=by
 rw[Int.natCast_ediv,Int.natCast_pow,Int.ofNat_sub hn];rfl
theorem bg9{x:Nat}:¬(281474976710656 - n) / 2 ^ j<x<->x * 2 ^ j<=281474976710656 - n:=by
 rw[Nat.not_lt,Nat.le_div_iff_mul_le (Nat.two_pow_pos j)]
structure bh0(w:World)(g k led:Nat)(L:LL)(j:Nat)(F:Nat->Prop)(wr:World)(lv:Value)(vs:List Sv):Prop where
 st:xB F wr g k (su 1 (L.take j)) led lv vs (qH L j)
 new:∀x,F x->w.heap.size<=x
 below:Below w.heap.size w wr
 good:∀h,h<j->(lvl L h).length<=room k L.length h/\r_ (lvl L h)
 wt:su 1 (L.take j)<=281474976710656
theorem Hu(k:Int)(v:Value)(L:LL)(led:Nat)(w:World)(h:YS w v L)(k0:-9223372036854775808<=k)(k1:k<=9223372036854775807)(Pv:led<18446744073709551616)(hsm:∀j,(lvl L j).length<=1000000000) :
 aH 341 #[.int .i64 k,v,.int .u64 led] w fun e w'=>((∃g,e=.returned (.tuple #[.pointer (some ⟨g,0,none⟩),.int .i64 0])/\iw k L led/\∃F,MR F w' g k.toNat L led/\∀x,F x->w.heap.size<=x)\/(e=.returned (.tuple #[.pointer none,.int .i64 1])/\¬iw k L led))/\Below w.heap.size w w':=by
 obtain⟨i1,hi0,hiz,his,hib⟩:=info_parts slI;have JI:=aI hi0;have JZ:=aI hiz;have JSZ:=aI his;have JBY:=aI hib;clear hi0 hiz his hib;obtain⟨A,c,rfl,hc1,hc2⟩:=h.form;have HL:=aI h;have HSM:=aI hsm;clear h hsm
 by_cases hk:k<8\/4096<k
 ·have HN:Hid (¬iw k L led):=aI fun h=>by have:=h.k4;have:=h.k8;omega
  go_enter func341,ntmps341
  go_wp2_with fail;refine(Fv k w hk).mono ?_
  rintro e w1 ⟨rfl,hw1⟩;subst hw1
  go_wp2_with fail;refine bodyPost_ret (by simp[results,Tryz.results341,go_sem, *];try rfl) rfl ?_
  exact⟨.inr ⟨rfl,HN.o⟩,aO _ _⟩
 obtain⟨K,rfl⟩:∃K:Nat,k=K:=⟨k.toNat,ae⟩
 have hK8:8<=K:=ae
 have hK4:K<=4096:=ae
 clear hk;have hba:Below w.heap.size w (w.alloc (.cells #[.int .i64 K,.slice none 0 0,.int .u64 0,.int .u64 0] 201)):=(aO _ _).alloc (aS _) _
 by_cases h49:L.length > 49
 ·have HN:Hid (¬iw K L led):=aI fun h=>by have:=h.hlen;omega
  have bz7:(L.length:Int) > 49:=ae
  go_enter func341,ntmps341
  go_wp2_with fail;refine(new_any K w hK8 hK4).mono ?_
  rintro e w1 ⟨rfl,hw1⟩;subst hw1
  go_wp2_with fail;refine bodyPost_ret (by simp[results,Tryz.results341,go_sem, *];try rfl) rfl ?_
  exact⟨.inr ⟨rfl,HN.o⟩,hba⟩
 have bz7:¬(L.length:Int) > 49:=ae
 by_cases hle:led > 4611686018427387904
 ·have HN:Hid (¬iw K L led):=aI fun h=>by have:=h.Pv;omega
  have bo6:(led:Int) > 4611686018427387904:=ae
  go_enter func341,ntmps341
  go_wp2_with fail;refine(new_any K w hK8 hK4).mono ?_
  rintro e w1 ⟨rfl,hw1⟩;subst hw1
  go_wp2_with fail;refine bodyPost_ret (by simp[results,Tryz.results341,go_sem, *];try rfl) rfl ?_
  exact⟨.inr ⟨rfl,HN.o⟩,hba⟩
 have bo6:¬(led:Int) > 4611686018427387904:=ae
 by_cases he:L.length=0/\0<led
 ·have HN:Hid (¬iw K L led):=aI fun h=>by have:=h.emp he.1;omega
  obtain⟨he1,he2⟩:=he;have he3:(led:Int) > 0:=ae
  rw[he1]
  go_enter func341,ntmps341
  go_wp2_with fail;refine(new_any K w hK8 hK4).mono ?_
  rintro e w1 ⟨rfl,hw1⟩;subst hw1
  go_wp2_with fail;refine bodyPost_ret (by simp[results,Tryz.results341,go_sem, *];try rfl) rfl ?_
  exact⟨.inr ⟨rfl,HN.o⟩,hba⟩
 by_cases ht:0<L.length/\lvl L (L.length - 1)=[]
 ·have HN:Hid (¬iw K L led):=aI fun h=>h.top ht.1 ht.2
  obtain⟨gl,off,sT,tc,eA,hgl,kT,_⟩:=HL.o.at_ (j:=L.length - 1) (by omega)
  subst eA;rw[ht.2] at kT;obtain⟨n1,hn1⟩:=aF (L.length - 1);have bz8:(L.length:Int) - 1=(n1:Int):=ae
  have bh2:(n1:Int)<(L.length:Int):=ae
  have hL0:¬(L.length:Int)=0:=ae
  have hLn:¬L=[]:=fun e=>by rw[e] at bh2;simp at bh2;omega
  have hL1:(L.length:Int) > 0:=ae
  rw[hn1] at kT;have kT2:=(hba.cell (p:=⟨gl,off+n1,none⟩) hgl).trans kT;have KT2:=aI kT2;have HBA:=aI hba;clear ht he hn1 kT kT2 hba
  go_enter func341,ntmps341
  go_wp2_with fail;refine(new_any K w hK8 hK4).mono ?_
  rintro e w1 ⟨rfl,hw1⟩;rw[<-hw1] at KT2 HBA;have kt:=KT2.o;clear hw1
  go_wp2_with fail;refine bodyPost_ret (by simp[results,Tryz.results341,go_sem, *];try rfl) rfl ?_
  exact⟨.inr ⟨rfl,HN.o⟩,HBA.o⟩
 have bq2:Hid (0<L.length->lvl L (L.length - 1)≠[]):=aI fun h1 h2=>ht ⟨h1,h2⟩
 have bq3:Hid (L.length=0->led=0):=aI fun h1=>by omega
 have HMK:=aI (fun W=>ni 114 182 i1 _ underlying114 JI.o JZ.o .i64 .i64 L.length L.length (aS _) (by rw[JBY.o];omega) ae W)
 have hmk:=HMK.o;rw[JSZ.o,Nat.mul_one] at hmk;have bz9:=aI hmk;have ca4:=bz9.o;clear HMK hmk ht he hba;have HLI:Hid (∀j,su 1 (L.take j)<=wt L):=aI fun j=>Du L j
 go_enter func341,ntmps341
 go_wp2_with fail;refine(new_any K w hK8 hK4).mono ?_
 rintro e w1 ⟨rfl,hw1⟩;have hbl:dK w1 w.heap.size 201 #[.int .i64 K,.slice none 0 0,.int .u64 0,.int .u64 0]:=by rw[hw1];exact dK.new w _ _
 have hb1:Below w.heap.size w w1:=by rw[hw1];exact(aO _ _).alloc (aS _) _
 have hz1:w1.heap.size=w.heap.size+1:=by rw[hw1];simp
 have WY:=aI hbl;have HB1:=aI hb1;have HZ1:=aI hz1;obtain⟨g,hg⟩:=aF (w.heap.size);have HG:=aI hg;rw[hg] at WY HZ1 |-;clear hw1 hbl hb1 hz1 hg
 go_upto_region 3 with fail
 go_cut [50] (fun x wx=>x=.bool false/\w1=wx)
 case first=>
  by_cases hL0:L.length=0
  ·have hd0:=bq3.o hL0
   have hLe:L=[]:=bz hL0;subst hd0;subst hLe;clear hL0
   go_wp2_with fail
   go_meet
   exact⟨rfl,rfl⟩
  ·obtain⟨gl,off,sT,tc,eA,hgl,kT,_⟩:=HL.o.at_ (j:=L.length - 1) (by omega)
   subst eA;have hx0:¬(lvl L (L.length - 1)).length=0:=fun e=>bq2.o ae (bz e)
   obtain⟨x1,hx1⟩:=aF ((lvl L (L.length - 1)).length);rw[hx1] at kT hx0;obtain⟨n1,hn1⟩:=aF (L.length - 1);rw[hn1] at kT;have bz8:(L.length:Int) - 1=(n1:Int):=ae
   have bh2:(n1:Int)<(L.length:Int):=ae
   have ci8:¬(L.length:Int)=0:=ae
   have hLn:¬L=[]:=fun e=>hL0 (by rw[e];rfl)
   have ci9:(L.length:Int) > 0:=ae
   have cj0:¬(x1:Int)=0:=ae
   have hz1:decide ((49:Int)<(L.length:Int))=false:=decide_eq_false ae
   have hz2:decide ((4611686018427387904:Int)<(led:Int))=false:=decide_eq_false ae
   have hz3:((x1:Int) == 0)=false:=by simpa using hx0
   have HZZ:Hid ((decide ((49:Int)<(L.length:Int)) || decide ((4611686018427387904:Int)<(led:Int)) || ((x1:Int) == 0))=false):=aI (by rw[hz1,hz2,hz3];rfl)
   clear hz1 hz2 hz3;have kt:=(HB1.o.cell (p:=⟨gl,off+n1,none⟩) hgl).trans kT;clear kT hx1 hn1
   go_wp2_with fail
   go_meet
   exact⟨by first|rfl|rw[HZZ.o],rfl⟩
 case rest=>
 obtain⟨rfl,rfl⟩:=hcut;have b1:=WY.o.cell 1;have b3:=WY.o.cell 3;have fz1:=WY.o.frozen 1;have fz3:=WY.o.frozen 3;simp only[aK,aN,aJ] at b1 b3;have hgw:=WY.o.lt
 go_upto_region 6 with fail;have bq4:g≠w1.heap.size:=ae
 have hbx:=((WY.o.dQ 1 (.slice (some ⟨w1.heap.size,0,none⟩) L.length L.length)).dQ 3 (.int .u64 led)).alloc (.cells (madeCells #[.slice none 0 0] L.length) 182);obtain⟨wz,hwz⟩:∃x,(w1.setCell ⟨g,1,none⟩ (.slice (some ⟨w1.heap.size,0,none⟩) L.length L.length)).setCell ⟨g,3,none⟩ (.int .u64 led)=x:=⟨_,rfl⟩;have hzz:wz.heap.size=w1.heap.size:=by rw[<-hwz];simp
 have hbz:Below w.heap.size w wz:=by
  rw[<-hwz];refine dI (dI HB1.o ?_ _) ?_ _
  ·show w.heap.size<=g;rw[HG.o];exact aS _
  ·show w.heap.size<=g;rw[HG.o];exact aS _
 have hown:=PL wz L.length ae
 rw[hzz] at hown;have hr2:=hown.more (df _);have hb3:Below w.heap.size w (wz.alloc (.cells (madeCells #[.slice none 0 0] L.length) 182)):=hbz.alloc (by have:=HG.o;have:=HZ1.o;omega) _
 rw[hwz] at hbx;rw[hwz];have hst:=ag7 (F:=fun x=>x=g\/x=w1.heap.size) (n:=0) (led:=led) hbx hr2 bq4 (fun x=>Iff.rfl)
 have bq5:Hid (bh0 w g K led L 0 (fun x=>x=g\/x=w1.heap.size) (wz.alloc (.cells (madeCells #[.slice none 0 0] L.length) 182)) (.slice (some ⟨w1.heap.size,0,none⟩) L.length L.length) (yw L.length)):=aI ⟨by rw[Ua];exact hst,fun x hx=>by have:=HG.o;have:=HZ1.o;omega,hb3,fun h hh=>absurd hh ae,df _⟩
 have HB3:=aI hb3;obtain⟨w3,hw3⟩:∃x,wz.alloc (.cells (madeCells #[.slice none 0 0] L.length) 182)=x:=⟨_,rfl⟩;rw[hw3] at bq5 |-;clear hown hbx hbz bq4 hr2 hb3 hst hw3 hwz hzz ca4 b1 b3 fz1 fz3 HB3 HB1 WY HZ1
 go_wp2_with fail
 go_loopg [11,12,62] L.length (fun q _ _ i wr=>∃(j:Nat) (F:Nat->Prop) (lv:Value) (vs:List Sv),q=L.length - j/\j<=L.length/\i=.int .i64 (j:Int)/\Hid (bh0 w g K led L j F wr lv vs))
 case atStart=>exact⟨0,_,_,_,ae,ae,rfl,bq5⟩
 case round=>
  obtain⟨j,F,lv,vs,hq,hj,rfl,HA⟩:=hrel;have HQ:=aI hq;clear hq
  by_cases hjl:j<L.length
  ·have cj1:(j:Int)<(L.length:Int):=ae
   obtain⟨gi,off,sA,sc,eA,hgi,c2,rA⟩:=(HL.o.keep HA.o.below).at_ hjl;subst eA;have HRA:=aI rA;have hsf:(qH L j).length=L.length:=tK ae
   have XRO:=aI (OD j wr HA.o.st ae  ae  ae  ae)
   rw[hsf] at XRO;have hrb:=room_le (k:=K) (len:=L.length) (h:=j) ae
   have XIS:=aI (LP _ (lvl L j) wr rA (HSM.o j));have hlb:=HSM.o j;have HTS:=aI (xC hjl);have n2:=HA.o.st.cell2;have hwb:=HA.o.wt;have HNR:Hid (¬(lvl L j).length<=room K L.length j->¬iw K L led):=aI fun h1 h2=>by
    have:=(h2.gW j hjl).1;rw[di] at this;exact h1 this
   have HNS:Hid (¬r_ (lvl L j)->¬iw K L led):=aI fun h1 h2=>h1 (h2.gW j hjl).2
   have HNW:Hid (281474976710656<su 1 (L.take j)+(lvl L j).length * 2 ^ j->¬iw K L led):=aI fun h1 h2=>by
    have h3:=h2.hwt;have h4:=HLI.o (j+1);rw[HTS.o] at h4;omega
   have HSH:=aI (bq1 (n:=su 1 (L.take j)) (j:=j) hwb);have HGS:=aI (bg9 (x:=(lvl L j).length) (n:=su 1 (L.take j)) (j:=j));obtain⟨rm,hrm⟩:=aF (room K L.length j);obtain⟨y,hy⟩:=aF ((lvl L j).length);obtain⟨n,hn⟩:=aF (su 1 (L.take j));rw[hrm] at XRO hrb HNR;rw[hy] at c2 XIS HTS HNR HNW HGS hlb HRA;rw[hn] at hwb n2 HTS HNW HSH HGS;obtain⟨dv,hdv⟩:=aF ((281474976710656 - n) / 2 ^ j);rw[hdv] at HSH HGS;have cj3:dv<=281474976710656:=by rw[<-hdv];exact bJ (Nat.div_le_self _ _) ae
   have HRM:=aI hrm;have HYE:=aI hy;have YJ:=aI hn;have hsh:=HSH.o;clear hrm hy hn hdv hsf rA
   by_cases hgt:y > rm
   ·have HN:=aI (HNR.o ae)
    have ca5:(y:Int) > (rm:Int):=ae
    go_wp2_with fail;refine(XRO.o).mono ?_
    rintro e w5 ⟨rfl,hw5⟩;subst hw5
    go_wp2_with fail;refine bodyPost_ret (by simp[results,Tryz.results341,go_sem, *];try rfl) rfl ?_
    exact⟨.inr ⟨rfl,HN.o⟩,HA.o.below⟩
   ·have ca5:¬(y:Int) > (rm:Int):=ae
    go_wp2_with fail;refine(XRO.o).mono ?_
    rintro e w5 ⟨rfl,hw5⟩;subst hw5
    go_wp2_with fail;refine(XIS.o).mono ?_
    rintro e w5 ⟨rfl,q5,hw5⟩;have hb5:Below wr.heap.size wr w5:=by rw[hw5];exact below_drewN (aO _ _) _
    have lL:=aI hb5;have La:Hid (Below w.heap.size w w5):=aI (HA.o.below.trans (hb5.mono HA.o.below.size));have m2:=(HA.o.st.keep hb5).cell2;rw[YJ.o] at m2;clear hw5 hb5 n2 c2
    by_cases hsr:¬r_ (lvl L j)
    ·have HN:=aI (HNS.o hsr)
     rw[decide_eq_false hsr]
     go_wp2_with fail;refine bodyPost_ret (by simp[results,Tryz.results341,go_sem, *];try rfl) rfl ?_
     exact⟨.inr ⟨rfl,HN.o⟩,La.o⟩
    ·have YR:Hid (r_ (lvl L j)):=aI (Classical.not_not.1 hsr)
     rw[decide_eq_true YR.o]
     by_cases hov:dv<y
     ·have HN:=aI (HNW.o (by
       rcases bV 281474976710656 (n+y * 2 ^ j) with h1|h1
       ·exact h1
       ·exact absurd hov (HGS.o.2 ae)))
      have ca6:(y:Int) > (dv:Int):=ae
      go_wp2_with fail;refine bodyPost_ret (by simp[results,Tryz.results341,go_sem, *];try rfl) rfl ?_
      exact⟨.inr ⟨rfl,HN.o⟩,La.o⟩
     ·have hfit:=HGS.o.1 hov
      have ca6:¬(y:Int) > (dv:Int):=ae
      have hst5:=HA.o.st.keep lL.o;have hjs:j<(qH L j).length:=by rw[tK ae];exact hjl
      obtain⟨gl,cc,sA0,sc0,Am,hgl,ae4,Pn,hvs,c3,f3,_,_⟩:=hst5.at_ hjs;have hsf:(qH L j).length=L.length:=tK ae
      rw[hsf] at Am;subst Am;have ca7:=aI hst5;have K1:=aI hst5.cell1;have C3:=aI c3;have F3:=aI f3;have HJS:=aI hjs;have hg5:=hst5.blk.lt;have HR5:=aI (HRA.o.keep lL.o);clear hst5 hjs hsf c3 f3 hvs
      go_upto_region 11 with fail;clear m2;have mW:=aI (fun(w':World) (hS':w'.heap[g]?=w5.heap[g]?)=>((cZ (a:=⟨g,1,none⟩) hS').trans K1.o))
      refine jh (fun w'=>w'.heap[g]?=w5.heap[g]?) (dV 0 6 (fJ 6 (dV 7 1 (fJ 8 [])))) (rfl) ?_
      iterate 6 refine eQ ?_
      refine fO fun K hK=>?_
      go_simp;refine(Bv _ (lvl L j) _ (HR5.o.keep (aO _ _).drew) (by rw[HYE.o];omega)).mono ?_
      rintro e w7 ⟨⟨A7,n7,c7⟩,rfl,o7,b7⟩;obtain⟨_,_,es,_,_,_⟩:=o7.form;injection es with _ es2 _;rw[HYE.o] at es2;have es3:=es2.symm;subst es3;have AZ:Hid (Below w5.heap.size w5 w7):=aI (((aO w5.heap.size w5).drew).trans b7);have O7:=aI o7;clear o7 b7;simp only[jr];refine hK _ _ (AZ.o.block g hg5) ?_
      clear hK K;refine eQ ?_
      refine fO fun K hK=>?_
      have c9:=(cZ (a:=⟨gl,j,none⟩) (AZ.o.block gl hgl)).trans C3.o;have f9:=(World.frozen?_of_block (a:=⟨gl,j,none⟩) (AZ.o.block gl hgl)).trans F3.o
      go_simp;refine hK _ _ ((bM w7 ⟨gl,j,none⟩ _ g ae4.symm).trans (AZ.o.block g hg5)) ?_
      clear hK K;refine dJ ?_
      clear c9 f9;have gW:=qQ.level (s':=(A7,y,c7)) (l':=lvl L j) (j:=j) (w1:=w7) ca7.o HJS.o rfl (O7.o.more (df _)) (fun kk h1 _=>AZ.o.block kk h1) AZ.o.size (.inr fun kk e=>(O7.o.lt kk e).1)
      rw[Yo hjl] at gW;have bq6:∀kk,(jr (A7,y,c7)).ownBlock=some kk->w5.heap.size<=kk:=fun kk e=>(O7.o.lt kk e).1
      have hb8:Below w.heap.size w (w7.setCell ⟨gl,j,none⟩ (jr (A7,y,c7))):=dI (La.o.trans (AZ.o.mono La.o.size)) (HA.o.new gl Pn) _;have tJ:=aI gW;have Ir:=aI hb8;have ca9:=aI bq6;obtain⟨w8,hw8⟩:∃x,w7.setCell ⟨gl,j,none⟩ (jr (A7,y,c7))=x:=⟨_,rfl⟩;rw[hw8] at tJ Ir;show Exit.then _ _ Exit.normal _ (w7.setCell ⟨gl,j,none⟩ (jr (A7,y,c7)))
      rw[hw8];clear gW bq6 hb8 hw8;have k2:=tJ.o.cell2;have f2:=tJ.o.blk.frozen 2;rw[YJ.o] at k2;have HFG:=aI tJ.o.fg;have HPW:=aI (bz3 (c:=y) (h:=j) ae)
      obtain⟨m,hm⟩:=aF (y * 2 ^ j);rw[hm] at HPW HTS hfit;clear hm
      go_upto_region 12 with fail;have mW:=aI (fun(w':World) (hS':Below w8.heap.size w8 w')=>(aP (HPW.o) ((hS'.cell (p:=⟨g,2,none⟩) tJ.o.blk.lt).trans k2)))
      refine KO (fun w'=>Below w8.heap.size w8 w') 12 (KI 0 10 (plp 10 1 (KI 11 1 (KJ 12 [])))) ((aO _ _).drew) ?_
      iterate 10 refine uF ?_
      refine Rl ?_
      refine uF ?_
      refine KN fun K hK=>?_
      have k9:(w8.drew).cell? ⟨g,2,none⟩=_:=k2;have f9:(w8.drew).frozen? ⟨g,2,none⟩=false:=f2
      go_simp;refine hK _ _ ?_
      clear hK K;refine ja ?_
      have HVV:IntKind.u64.wrap ((n:Int)+IntKind.u64.wrap (IntKind.u64.wrap (y:Int) * 2 ^ j))=((n+m:Nat):Int):=by
       have e0:IntKind.u64.wrap (y:Int)=(y:Int):=by rw[dD];omega
       rw[e0,HPW.o,dD];omega
      rw[HVV];have TS:xB _ ((w8.setCell ⟨g,2,none⟩ (.int .u64 (n+m:Nat))).drew) g K (n+m) led _ _ (qH L (j+1)):=(tJ.o.be1 _).keep (aO _ _).drew;have KZ:Below w.heap.size w ((w8.setCell ⟨g,2,none⟩ (.int .u64 (n+m:Nat))).drew):=(dI Ir.o (by show w.heap.size<=g;rw[HG.o];exact aS _) _).drew
      obtain⟨w9,Vo⟩:∃x,(w8.setCell ⟨g,2,none⟩ (.int .u64 (n+m:Nat))).drew=x:=⟨_,rfl⟩;rw[Vo] at TS KZ |-;rw[<-HTS.o] at TS;have bq7:=HRM.o;have hxl:(lvl L j).length<=room K L.length j:=by rw[HYE.o,bq7];omega
      have bq8:∀x,(F x\/(jr (A7,y,c7)).ownBlock=some x)->w.heap.size<=x:=fun x hx=>hx.elim (fun h1=>HA.o.new x h1) (fun h1=>bJ La.o.size (ca9.o x h1))
      have cb4:Hid (bh0 w g K led L (j+1) (fun k=>F k\/(jr (A7,y,c7)).ownBlock=some k) w9 _ _):=aI ⟨TS,bq8,KZ,fun h hh=>by
       rcases bV h j with h1|h1
       ·exact HA.o.good h h1
       ·obtain rfl:h=j:=ae
        exact⟨hxl,YR.o⟩,by rw[HTS.o];omega⟩
      clear TS KZ HVV bq7 hxl bq8;clear Vo k2 f2 k9 f9
      go_wp2_with fail
      go_roundg (L.length - (j+1))
      case measure=>have:=HQ.o;omega
      case rel=>exact⟨j+1,_,_,_,rfl,ae,ai,cb4⟩
  ·obtain rfl:j=L.length:=ae
   have hst:=HA.o.st;rw[Yn,List.take_length] at hst;have hwt:=HA.o.wt;rw[List.take_length] at hwt;have HY:Hid (iw K L led):=aI ⟨by omega,ae,ae,ae,bq3.o,bq2.o,fun h hh=>by rw[di];exact HA.o.good h hh,hwt⟩
   have HK:Hid (MR F wr g K L led):=aI ⟨lv,vs,hst⟩;clear hst hwt
   go_wp2_with fail;refine bodyPost_ret (by simp[results,Tryz.results341,go_sem, *];try rfl) rfl ?_
   exact⟨.inl ⟨g,rfl,HY.o,F,by rw[di];exact HK.o,HA.o.new⟩,HA.o.below⟩
end Go.Proofs.YtilcnjbpmoijmaaGreat.K
