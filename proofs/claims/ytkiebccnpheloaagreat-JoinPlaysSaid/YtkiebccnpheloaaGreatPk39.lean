/- Parts of a proof: what its theorem reaches, words cut short. No condition of its own. -/
import Derived.Test.YtkiebccnpheloaaGreatPk37
import Derived.Laws.OwnMore
set_option maxRecDepth 100000
set_option maxHeartbeats 16000000
set_option linter.unusedVariables false
set_option linter.unusedSimpArgs false
namespace Go.Proofs.YtkiebccnpheloaaGreat.K
open Go.RowKit
def wL(n:Nat):List Sv:=List.replicate n (none,0,0)
theorem LG(w:World)(n:Nat)(hn:n<=1000000):dI wI w.heap.size (w.alloc (.cells (madeCells #[.slice none 0 0] n) 236)) (.slice (some ⟨w.heap.size,0,none⟩) n n) (wL n):=by
 have hl:(wL n).length=n:=by simp[wL]
 have hc:cellsE wI (wL n)=List.replicate n (Value.slice none 0 0):=by
  unfold wL
  induction n with
  | zero=>rfl
  | succ n ih=>rw[List.replicate_succ,iC,ih ae (by simp[wL]),List.replicate_succ];rfl
 have hk:wI.k=1:=rfl;refine⟨by rw[hc,List.length_replicate,hl,hk,Nat.mul_one],.inr ⟨w.heap.size,n,madeCells #[.slice none 0 0] n,by rw[hl],aK _,heap_alloc_new _ _,ae,by unfold maxLen;omega,by rw[size_madeCells,hk,Nat.mul_one],?_⟩⟩
 rw[hc,toList_madeCells_one,hl,hk,Nat.mul_one,List.take_replicate,Nat.min_self]
theorem YN{F:Nat->Prop}{w:World}{g k n led gl H:Nat}(hb:dH w g 249 #[.int .i64 k,.slice (some ⟨gl,0,none⟩) H H,.int .u64 n,.int .u64 led])(hr:dI wI 0 w (.slice (some ⟨gl,0,none⟩) H H) (wL H))(hg:g≠gl)(hF:∀x,F x<->(x=g\/x=gl)) :
 rV F w g k n led (.slice (some ⟨gl,0,none⟩) H H) (wL H) (List.replicate H []):=by
 have hno:∀i (hi:i<(wL H).length),gX ((wL H)[i])=.slice none 0 0:=fun i hi=>by
  have:(wL H)[i]=(none,0,0):=List.getElem_replicate hi;rw[this];rfl
 have hlv:∀i,lvl (List.replicate H ([]:List Int)) i=[]:=fun i=>by
  unfold lvl;simp only[List.getD];rw[List.getElem?_replicate]
  split<;>rfl
 have hgl:=(hr.lt gl rfl).2;refine⟨hb,⟨hr,by simp[wL],fun i hi=>by rw[hno i hi,hlv];exact dI.nil_ _ _,fun i hi k e=>by rw[hno i hi] at e;simp[Value.ownBlock] at e,fun i j hi hj hij k e=>by rw[hno i hi] at e;simp[Value.ownBlock] at e,fun k e=>?_,fun i hi k e=>by rw[hno i hi] at e;simp[Value.ownBlock] at e⟩,(hF g).2 (.inl rfl),fun e=>hg (Option.some.inj (show some gl=some g from e)).symm,fun i hi e=>by rw[hno i hi] at e;simp[Value.ownBlock] at e,fun x hx=>?_⟩
 ·exact(hF k).2 (.inr (Option.some.inj (show some gl=some k from e)).symm)
 ·rcases(hF x).1 hx with rfl|rfl
  ·exact hb.lt
  ·exact hgl
def pI(L:LL)(j:Nat):LL:=L.take j++List.replicate (L.length - j) []
theorem rH{L:LL}{j:Nat}(h:j<=L.length):(pI L j).length=L.length:=by unfold pI;simp;omega
theorem PX(L:LL):pI L 0=List.replicate L.length []:=by unfold pI;simp
theorem U9(L:LL):pI L L.length=L:=by unfold pI;simp
theorem U_{L:LL}{j:Nat}(h:j<L.length):(pI L j).set j (lvl L j)=pI L (j+1):=by
 unfold pI;rw[aT h,<-jV h,show L.length - j=(L.length - (j+1))+1 by omega,List.replicate_succ,List.set_append_right _ _ (by rw[bg];omega),bg,Nat.min_eq_left ae,Nat.sub_self,List.set_cons_zero,aS]
 rfl
theorem ay7{n j:Nat}(hn:n<=281474976710656):((281474976710656 - (n:Int)) / 2 ^ j)=(((281474976710656 - n) / 2 ^ j:Nat):Int):=by
 rw[Int.natCast_ediv,Int.natCast_pow,Int.ofNat_sub hn];rfl
theorem aq3{x n j:Nat}:¬(281474976710656 - n) / 2 ^ j<x<->x * 2 ^ j<=281474976710656 - n:=by
 rw[Nat.not_lt,Nat.le_div_iff_mul_le (Nat.two_pow_pos j)]
structure aq4(w:World)(g k led:Nat)(L:LL)(j:Nat)(F:Nat->Prop)(wr:World)(lv:Value)(vs:List Sv):Prop where
 st:rV F wr g k (qO 1 (L.take j)) led lv vs (pI L j)
 new:∀x,F x->w.heap.size<=x
 below:Below w.heap.size w wr
 good:∀h,h<j->(lvl L h).length<=room k L.length h/\qA (lvl L h)
 wt:qO 1 (L.take j)<=281474976710656
theorem YO(k:Int)(v:Value)(L:LL)(led:Nat)(w:World)(h:VR w v L)(k0:-9223372036854775808<=k)(k1:k<=9223372036854775807)(IP:led<18446744073709551616)(hsm:∀j,(lvl L j).length<=1000000000) :
 Calls Tryz.prog 397 #[.int .i64 k,v,.int .u64 led] w fun e w'=>((∃g,e=.returned (.tuple #[.pointer (some ⟨g,0,none⟩),.int .i64 0])/\iw k L led/\∃F,GR F w' g k.toNat L led/\∀x,F x->w.heap.size<=x)\/(e=.returned (.tuple #[.pointer none,.int .i64 1])/\¬iw k L led))/\Below w.heap.size w w':=by
 obtain⟨i1,hi0,hiz,his,hib⟩:=info_parts slI;have JI:=aB hi0;have JZ:=aB hiz;have Ye:=aB his;have Yf:=aB hib;clear hi0 hiz his hib;obtain⟨A,c,rfl,hc1,hc2⟩:=h.form;have HL:=aB h;have HSM:=aB hsm;clear h hsm
 by_cases hk:k<8\/4096<k
 ·have HN:Hid (¬iw k L led):=aB fun h=>by have:=h.k4;have:=h.k8;omega
  go_enter Tryz.func397,Tryz.ntmps397
  go_wp2_with fail;refine(aq1 k w hk).mono ?_
  rintro e w1 ⟨rfl,hw1⟩;subst hw1
  go_wp2_with fail;refine bodyPost_ret (by simp[results,Tryz.results397,go_sem, *];try rfl) rfl ?_
  exact⟨.inr ⟨rfl,HN.out⟩,aH _ _⟩
 obtain⟨K,rfl⟩:∃K:Nat,k=K:=⟨k.toNat,ae⟩
 have hK8:8<=K:=ae
 have hK4:K<=4096:=ae
 clear hk;have hba:Below w.heap.size w (w.alloc (.cells #[.int .i64 K,.slice none 0 0,.int .u64 0,.int .u64 0] 249)):=(aH _ _).alloc (aK _) _
 by_cases h49:L.length > 49
 ·have HN:Hid (¬iw K L led):=aB fun h=>by have:=h.hlen;omega
  have bi2:(L.length:Int) > 49:=ae
  go_enter Tryz.func397,Tryz.ntmps397
  go_wp2_with fail;refine(new_any K w hK8 hK4).mono ?_
  rintro e w1 ⟨rfl,hw1⟩;subst hw1
  go_wp2_with fail;refine bodyPost_ret (by simp[results,Tryz.results397,go_sem, *];try rfl) rfl ?_
  exact⟨.inr ⟨rfl,HN.out⟩,hba⟩
 have bi2:¬(L.length:Int) > 49:=ae
 by_cases hle:led > 4611686018427387904
 ·have HN:Hid (¬iw K L led):=aB fun h=>by have:=h.IP;omega
  have ao8:(led:Int) > 4611686018427387904:=ae
  go_enter Tryz.func397,Tryz.ntmps397
  go_wp2_with fail;refine(new_any K w hK8 hK4).mono ?_
  rintro e w1 ⟨rfl,hw1⟩;subst hw1
  go_wp2_with fail;refine bodyPost_ret (by simp[results,Tryz.results397,go_sem, *];try rfl) rfl ?_
  exact⟨.inr ⟨rfl,HN.out⟩,hba⟩
 have ao8:¬(led:Int) > 4611686018427387904:=ae
 by_cases he:L.length=0/\0<led
 ·have HN:Hid (¬iw K L led):=aB fun h=>by have:=h.emp he.1;omega
  obtain⟨he1,he2⟩:=he;have he3:(led:Int) > 0:=ae
  rw[he1]
  go_enter Tryz.func397,Tryz.ntmps397
  go_wp2_with fail;refine(new_any K w hK8 hK4).mono ?_
  rintro e w1 ⟨rfl,hw1⟩;subst hw1
  go_wp2_with fail;refine bodyPost_ret (by simp[results,Tryz.results397,go_sem, *];try rfl) rfl ?_
  exact⟨.inr ⟨rfl,HN.out⟩,hba⟩
 by_cases ht:0<L.length/\lvl L (L.length - 1)=[]
 ·have HN:Hid (¬iw K L led):=aB fun h=>h.top ht.1 ht.2
  obtain⟨gl,off,sT,tc,eA,hgl,kT,_⟩:=HL.out.at_ (j:=L.length - 1) (by omega)
  subst eA;rw[ht.2] at kT;obtain⟨n1,hn1⟩:∃n1,L.length - 1=n1:=⟨_,rfl⟩;have bi3:(L.length:Int) - 1=(n1:Int):=ae
  have aq5:(n1:Int)<(L.length:Int):=ae
  have hL0:¬(L.length:Int)=0:=ae
  have hLn:¬L=[]:=fun e=>by rw[e] at aq5;simp at aq5;omega
  have hL1:(L.length:Int) > 0:=ae
  rw[hn1] at kT;have kT2:=(hba.cell (p:=⟨gl,off+n1,none⟩) hgl).trans kT;have KT2:=aB kT2;have HBA:=aB hba;clear ht he hn1 kT kT2 hba
  go_enter Tryz.func397,Tryz.ntmps397
  go_wp2_with fail;refine(new_any K w hK8 hK4).mono ?_
  rintro e w1 ⟨rfl,hw1⟩;rw[<-hw1] at KT2 HBA;have kt:=KT2.out;clear hw1
  go_wp2_with fail;refine bodyPost_ret (by simp[results,Tryz.results397,go_sem, *];try rfl) rfl ?_
  exact⟨.inr ⟨rfl,HN.out⟩,HBA.out⟩
 have ay8:Hid (0<L.length->lvl L (L.length - 1)≠[]):=aB fun h1 h2=>ht ⟨h1,h2⟩
 have ay9:Hid (L.length=0->led=0):=aB fun h1=>by omega
 have HMK:=aB (fun W=>pK 152 236 i1 _ Tryz.underlying152 JI.out JZ.out .i64 .i64 L.length L.length (aK _) (by rw[Yf.out];omega) ae W)
 have hmk:=HMK.out;rw[Ye.out,Nat.mul_one] at hmk;have bi4:=aB hmk;have bi5:=bi4.out;clear HMK hmk ht he hba;have HLI:Hid (∀j,qO 1 (L.take j)<=wt L):=aB fun j=>zQ L j
 go_enter Tryz.func397,Tryz.ntmps397
 go_wp2_with fail;refine(new_any K w hK8 hK4).mono ?_
 rintro e w1 ⟨rfl,hw1⟩;have hbl:dH w1 w.heap.size 249 #[.int .i64 K,.slice none 0 0,.int .u64 0,.int .u64 0]:=by rw[hw1];exact dH.new w _ _
 have hb1:Below w.heap.size w w1:=by rw[hw1];exact(aH _ _).alloc (aK _) _
 have hz1:w1.heap.size=w.heap.size+1:=by rw[hw1];simp
 have Xh:=aB hbl;have HB1:=aB hb1;have HZ1:=aB hz1;obtain⟨g,hg⟩:∃g,w.heap.size=g:=⟨_,rfl⟩;have HG:=aB hg;rw[hg] at Xh HZ1 |-;clear hw1 hbl hb1 hz1 hg
 go_upto_region 3 with fail
 go_cut [50] (fun x wx=>x=.bool false/\w1=wx)
 case first=>
  by_cases hL0:L.length=0
  ·have hd0:=ay9.out hL0
   have hLe:L=[]:=aW hL0;subst hd0;subst hLe;clear hL0
   go_wp2_with fail
   go_meet
   exact⟨rfl,rfl⟩
  ·obtain⟨gl,off,sT,tc,eA,hgl,kT,_⟩:=HL.out.at_ (j:=L.length - 1) (by omega)
   subst eA;have hx0:¬(lvl L (L.length - 1)).length=0:=fun e=>ay8.out ae (aW e)
   obtain⟨x1,hx1⟩:∃x1,(lvl L (L.length - 1)).length=x1:=⟨_,rfl⟩;rw[hx1] at kT hx0;obtain⟨n1,hn1⟩:∃n1,L.length - 1=n1:=⟨_,rfl⟩;rw[hn1] at kT;have bi3:(L.length:Int) - 1=(n1:Int):=ae
   have aq5:(n1:Int)<(L.length:Int):=ae
   have bn9:¬(L.length:Int)=0:=ae
   have hLn:¬L=[]:=fun e=>hL0 (by rw[e];rfl)
   have bo0:(L.length:Int) > 0:=ae
   have bo1:¬(x1:Int)=0:=ae
   have hz1:decide ((49:Int)<(L.length:Int))=false:=decide_eq_false ae
   have hz2:decide ((4611686018427387904:Int)<(led:Int))=false:=decide_eq_false ae
   have hz3:((x1:Int) == 0)=false:=by simpa using hx0
   have HZZ:Hid ((decide ((49:Int)<(L.length:Int)) || decide ((4611686018427387904:Int)<(led:Int)) || ((x1:Int) == 0))=false):=aB (by rw[hz1,hz2,hz3];rfl)
   clear hz1 hz2 hz3;have kt:=(HB1.out.cell (p:=⟨gl,off+n1,none⟩) hgl).trans kT;clear kT hx1 hn1
   go_wp2_with fail
   go_meet
   exact⟨by first|rfl|rw[HZZ.out],rfl⟩
 case rest=>
 obtain⟨rfl,rfl⟩:=hcut;have b1:=Xh.out.cell 1;have b3:=Xh.out.cell 3;have fz1:=Xh.out.frozen 1;have fz3:=Xh.out.frozen 3;simp only[aF,aG,aC] at b1 b3;have hgw:=Xh.out.lt
 go_upto_region 6 with fail;have az0:g≠w1.heap.size:=ae
 have hbx:=((Xh.out.dP 1 (.slice (some ⟨w1.heap.size,0,none⟩) L.length L.length)).dP 3 (.int .u64 led)).alloc (.cells (madeCells #[.slice none 0 0] L.length) 236);obtain⟨wz,hwz⟩:∃x,(w1.setCell ⟨g,1,none⟩ (.slice (some ⟨w1.heap.size,0,none⟩) L.length L.length)).setCell ⟨g,3,none⟩ (.int .u64 led)=x:=⟨_,rfl⟩;have hzz:wz.heap.size=w1.heap.size:=by rw[<-hwz];simp
 have hbz:Below w.heap.size w wz:=by
  rw[<-hwz];refine dA (dA HB1.out ?_ _) ?_ _
  ·show w.heap.size<=g;rw[HG.out];exact aK _
  ·show w.heap.size<=g;rw[HG.out];exact aK _
 have hown:=LG wz L.length ae
 rw[hzz] at hown;have hr2:=hown.more (bW _);have hb3:Below w.heap.size w (wz.alloc (.cells (madeCells #[.slice none 0 0] L.length) 236)):=hbz.alloc (by have:=HG.out;have:=HZ1.out;omega) _
 rw[hwz] at hbx;rw[hwz];have hst:=YN (F:=fun x=>x=g\/x=w1.heap.size) (n:=0) (led:=led) hbx hr2 az0 (fun x=>Iff.rfl)
 have az1:Hid (aq4 w g K led L 0 (fun x=>x=g\/x=w1.heap.size) (wz.alloc (.cells (madeCells #[.slice none 0 0] L.length) 236)) (.slice (some ⟨w1.heap.size,0,none⟩) L.length L.length) (wL L.length)):=aB ⟨by rw[PX];exact hst,fun x hx=>by have:=HG.out;have:=HZ1.out;omega,hb3,fun h hh=>absurd hh ae,bW _⟩
 have HB3:=aB hb3;obtain⟨w3,hw3⟩:∃x,wz.alloc (.cells (madeCells #[.slice none 0 0] L.length) 236)=x:=⟨_,rfl⟩;rw[hw3] at az1 |-;clear hown hbx hbz az0 hr2 hb3 hst hw3 hwz hzz bi5 b1 b3 fz1 fz3 HB3 HB1 Xh HZ1
 go_wp2_with fail
 go_loopg [11,12,62] L.length (fun q _ _ i wr=>∃(j:Nat) (F:Nat->Prop) (lv:Value) (vs:List Sv),q=L.length - j/\j<=L.length/\i=.int .i64 (j:Int)/\Hid (aq4 w g K led L j F wr lv vs))
 case atStart=>exact⟨0,_,_,_,ae,ae,rfl,az1⟩
 case round=>
  obtain⟨j,F,lv,vs,hq,hj,rfl,HA⟩:=hrel;have HQ:=aB hq;clear hq
  by_cases hjl:j<L.length
  ·have bo2:(j:Int)<(L.length:Int):=ae
   obtain⟨gi,off,sA,sc,eA,hgi,c2,rA⟩:=(HL.out.keep HA.out.below).at_ hjl;subst eA;have HRA:=aB rA;have hsf:(pI L j).length=L.length:=rH ae
   have XRO:=aB (KX j wr HA.out.st ae  ae  ae  ae)
   rw[hsf] at XRO;have hrb:=room_le (k:=K) (len:=L.length) (h:=j) ae
   have XIS:=aB (IW _ (lvl L j) wr rA (HSM.out j));have hlb:=HSM.out j;have VS:=aB (vF hjl);have n2:=HA.out.st.cell2;have hwb:=HA.out.wt;have HNR:Hid (¬(lvl L j).length<=room K L.length j->¬iw K L led):=aB fun h1 h2=>by
    have:=(h2.fJ j hjl).1;rw[bY] at this;exact h1 this
   have HNS:Hid (¬qA (lvl L j)->¬iw K L led):=aB fun h1 h2=>h1 (h2.fJ j hjl).2
   have HNW:Hid (281474976710656<qO 1 (L.take j)+(lvl L j).length * 2 ^ j->¬iw K L led):=aB fun h1 h2=>by
    have h3:=h2.hwt;have h4:=HLI.out (j+1);rw[VS.out] at h4;omega
   have HSH:=aB (ay7 (n:=qO 1 (L.take j)) (j:=j) hwb);have HGS:=aB (aq3 (x:=(lvl L j).length) (n:=qO 1 (L.take j)) (j:=j));obtain⟨rm,hrm⟩:∃rm,room K L.length j=rm:=⟨_,rfl⟩;obtain⟨y,hy⟩:∃y,(lvl L j).length=y:=⟨_,rfl⟩;obtain⟨n,hn⟩:∃n,qO 1 (L.take j)=n:=⟨_,rfl⟩;rw[hrm] at XRO hrb HNR;rw[hy] at c2 XIS VS HNR HNW HGS hlb HRA;rw[hn] at hwb n2 VS HNW HSH HGS;obtain⟨dv,hdv⟩:∃dv,(281474976710656 - n) / 2 ^ j=dv:=⟨_,rfl⟩;rw[hdv] at HSH HGS;have bo3:dv<=281474976710656:=by rw[<-hdv];exact bG (Nat.div_le_self _ _) ae
   have HRM:=aB hrm;have HYE:=aB hy;have HNE:=aB hn;have hsh:=HSH.out;clear hrm hy hn hdv hsf rA
   by_cases hgt:y > rm
   ·have HN:=aB (HNR.out ae)
    have bi6:(y:Int) > (rm:Int):=ae
    go_wp2_with fail;refine(XRO.out).mono ?_
    rintro e w5 ⟨rfl,hw5⟩;subst hw5
    go_wp2_with fail;refine bodyPost_ret (by simp[results,Tryz.results397,go_sem, *];try rfl) rfl ?_
    exact⟨.inr ⟨rfl,HN.out⟩,HA.out.below⟩
   ·have bi6:¬(y:Int) > (rm:Int):=ae
    go_wp2_with fail;refine(XRO.out).mono ?_
    rintro e w5 ⟨rfl,hw5⟩;subst hw5
    go_wp2_with fail;refine(XIS.out).mono ?_
    rintro e w5 ⟨rfl,q5,hw5⟩;have hb5:Below wr.heap.size wr w5:=by rw[hw5];exact below_drewN (aH _ _) _
    have RI:=aB hb5;have ZH:Hid (Below w.heap.size w w5):=aB (HA.out.below.trans (hb5.mono HA.out.below.size));have m2:=(HA.out.st.keep hb5).cell2;rw[HNE.out] at m2;clear hw5 hb5 n2 c2
    by_cases hsr:¬qA (lvl L j)
    ·have HN:=aB (HNS.out hsr)
     rw[decide_eq_false hsr]
     go_wp2_with fail;refine bodyPost_ret (by simp[results,Tryz.results397,go_sem, *];try rfl) rfl ?_
     exact⟨.inr ⟨rfl,HN.out⟩,ZH.out⟩
    ·have VQ:Hid (qA (lvl L j)):=aB (Classical.not_not.1 hsr)
     rw[decide_eq_true VQ.out]
     by_cases hov:dv<y
     ·have HN:=aB (HNW.out (by
       rcases bJ 281474976710656 (n+y * 2 ^ j) with h1|h1
       ·exact h1
       ·exact absurd hov (HGS.out.2 ae)))
      have bi7:(y:Int) > (dv:Int):=ae
      go_wp2_with fail;refine bodyPost_ret (by simp[results,Tryz.results397,go_sem, *];try rfl) rfl ?_
      exact⟨.inr ⟨rfl,HN.out⟩,ZH.out⟩
     ·have hfit:=HGS.out.1 hov
      have bi7:¬(y:Int) > (dv:Int):=ae
      have hst5:=HA.out.st.keep RI.out;have hjs:j<(pI L j).length:=by rw[rH ae];exact hjl
      obtain⟨gl,cc,sA0,sc0,p_,hgl,Py,wJ,hvs,c3,f3,_,_⟩:=hst5.at_ hjs;have hsf:(pI L j).length=L.length:=rH ae
      rw[hsf] at p_;subst p_;have bi8:=aB hst5;have K1:=aB hst5.cell1;have C3:=aB c3;have F3:=aB f3;have HJS:=aB hjs;have hg5:=hst5.blk.lt;have HR5:=aB (HRA.out.keep RI.out);clear hst5 hjs hsf c3 f3 hvs
      go_upto_region 11 with fail;clear m2;refine dD (fun w'=>w'.heap[g]?=w5.heap[g]?) [(0,true),(1,true),(2,true),(3,true),(4,true),(5,true),(6,false),(7,true),(8,false)] (by kernel_rfl) (by kernel_rfl) (rfl) ?_
      iterate 6
       refine dC ax  ax (fun R hR=>?_)
       apply aJ
       refine⟨fun w' hS'=>?_,?_⟩
       ·have k1:=(bM (a:=⟨g,1,none⟩) hS').trans K1.out
        go_simp;exact⟨rfl,rfl⟩
       go_simp;refine hR _ ?_;clear hR R
      refine dE ax  ax (fun K hK=>?_)
      go_simp;refine(y8 _ (lvl L j) _ (HR5.out.keep (aH _ _).drew) (by rw[HYE.out];omega)).mono ?_
      rintro e w7 ⟨⟨A7,n7,c7⟩,rfl,o7,b7⟩;obtain⟨_,_,es,_,_,_⟩:=o7.form;injection es with _ es2 _;rw[HYE.out] at es2;have es3:=es2.symm;subst es3;have yT:Hid (Below w5.heap.size w5 w7):=aB (((aH w5.heap.size w5).drew).trans b7);have O7:=aB o7;clear o7 b7;simp only[gX];refine hK _ _ (yT.out.block g hg5) ?_
      clear hK K
      iterate 1
       refine dC ax  ax (fun R hR=>?_)
       apply aJ
       refine⟨fun w' hS'=>?_,?_⟩
       ·have k1:=(bM (a:=⟨g,1,none⟩) hS').trans K1.out
        go_simp;exact⟨rfl,rfl⟩
       go_simp;refine hR _ ?_;clear hR R
      refine dE ax  ax (fun K hK=>?_)
      have c9:=(bM (a:=⟨gl,j,none⟩) (yT.out.block gl hgl)).trans C3.out;have f9:=(World.frozen?_of_block (a:=⟨gl,j,none⟩) (yT.out.block gl hgl)).trans F3.out
      go_simp;refine hK _ _ ((bF w7 ⟨gl,j,none⟩ _ g Py.symm).trans (yT.out.block g hg5)) ?_
      clear hK K;refine dF ?_
      clear c9 f9;have fJ:=mZ.level (s':=(A7,y,c7)) (l':=lvl L j) (j:=j) (w1:=w7) bi8.out HJS.out rfl (O7.out.more (bW _)) (fun kk h1 _=>yT.out.block kk h1) yT.out.size (.inr fun kk e=>(O7.out.lt kk e).1)
      rw[U_ hjl] at fJ;have az2:∀kk,(gX (A7,y,c7)).ownBlock=some kk->w5.heap.size<=kk:=fun kk e=>(O7.out.lt kk e).1
      have hb8:Below w.heap.size w (w7.setCell ⟨gl,j,none⟩ (gX (A7,y,c7))):=dA (ZH.out.trans (yT.out.mono ZH.out.size)) (HA.out.new gl wJ) _;have oI:=aB fJ;have zJ:=aB hb8;have bi9:=aB az2;obtain⟨w8,hw8⟩:∃x,w7.setCell ⟨gl,j,none⟩ (gX (A7,y,c7))=x:=⟨_,rfl⟩;rw[hw8] at oI zJ;show Exit.then _ _ Exit.normal _ (w7.setCell ⟨gl,j,none⟩ (gX (A7,y,c7)))
      rw[hw8];clear fJ az2 hb8 hw8;have k2:=oI.out.cell2;have f2:=oI.out.blk.frozen 2;rw[HNE.out] at k2;have HFG:=aB oI.out.fg;have HPW:=aB (bh8 (c:=y) (h:=j) ae)
      obtain⟨m,hm⟩:∃m,y * 2 ^ j=m:=⟨_,rfl⟩;rw[hm] at HPW VS hfit;clear hm
      go_upto_region 12 with fail;refine fM (fun w'=>Below w8.heap.size w8 w') 12 [(0,1),(1,1),(2,1),(3,1),(4,1),(5,1),(6,1),(7,1),(8,1),(9,1),(10,2),(11,1),(12,0)] (by kernel_rfl) (by kernel_rfl) ((aH _ _).drew) ?_
      iterate 10
       refine dX ax  ax (fun R hR=>?_)
       apply aJ
       refine⟨fun w' hS'=>?_,?_⟩
       ·have hw:=HPW.out
        have k2':=(hS'.cell (p:=⟨g,2,none⟩) oI.out.blk.lt).trans k2
        go_simp;exact⟨rfl,rfl⟩
       go_simp;refine hR _ ?_;clear hR R
      iterate 1
       refine kG ax  ax (fun R hR=>?_)
       apply aJ
       refine⟨fun w'=>?_,?_⟩
       ·go_simp
        exact⟨rfl,rfl⟩
       go_simp;refine hR _ ?_;clear hR R
      iterate 1
       refine dX ax  ax (fun R hR=>?_)
       apply aJ
       refine⟨fun w' hS'=>?_,?_⟩
       ·have hw:=HPW.out
        have k2':=(hS'.cell (p:=⟨g,2,none⟩) oI.out.blk.lt).trans k2
        go_simp;exact⟨rfl,rfl⟩
       go_simp;refine hR _ ?_;clear hR R
      refine iP ax  ax  ax (fun K hK=>?_)
      have k9:(w8.drew).cell? ⟨g,2,none⟩=_:=k2;have f9:(w8.drew).frozen? ⟨g,2,none⟩=false:=f2
      go_simp;refine hK _ _ ?_
      clear hK K;refine iQ ?_
      have HVV:IntKind.u64.wrap ((n:Int)+IntKind.u64.wrap (IntKind.u64.wrap (y:Int) * 2 ^ j))=((n+m:Nat):Int):=by
       have e0:IntKind.u64.wrap (y:Int)=(y:Int):=by rw[df];omega
       rw[e0,HPW.out,df];omega
      rw[HVV];have PK:rV _ ((w8.setCell ⟨g,2,none⟩ (.int .u64 (n+m:Nat))).drew) g K (n+m) led _ _ (pI L (j+1)):=(oI.out.Ph _).keep (aH _ _).drew;have hb9:Below w.heap.size w ((w8.setCell ⟨g,2,none⟩ (.int .u64 (n+m:Nat))).drew):=(dA zJ.out (by show w.heap.size<=g;rw[HG.out];exact aK _) _).drew
      obtain⟨w9,KN⟩:∃x,(w8.setCell ⟨g,2,none⟩ (.int .u64 (n+m:Nat))).drew=x:=⟨_,rfl⟩;rw[KN] at PK hb9 |-;rw[<-VS.out] at PK;have az3:=HRM.out;have hxl:(lvl L j).length<=room K L.length j:=by rw[HYE.out,az3];omega
      have az4:∀x,(F x\/(gX (A7,y,c7)).ownBlock=some x)->w.heap.size<=x:=fun x hx=>hx.elim (fun h1=>HA.out.new x h1) (fun h1=>bG ZH.out.size (bi9.out x h1))
      have bj0:Hid (aq4 w g K led L (j+1) (fun k=>F k\/(gX (A7,y,c7)).ownBlock=some k) w9 _ _):=aB ⟨PK,az4,hb9,fun h hh=>by
       rcases bJ h j with h1|h1
       ·exact HA.out.good h h1
       ·obtain rfl:h=j:=ae
        exact⟨hxl,VQ.out⟩,by rw[VS.out];omega⟩
      clear PK hb9 HVV az3 hxl az4;clear KN k2 f2 k9 f9
      go_wp2_with fail
      go_roundg (L.length - (j+1))
      case measure=>have:=HQ.out;omega
      case rel=>exact⟨j+1,_,_,_,rfl,ae,ai,bj0⟩
  ·obtain rfl:j=L.length:=ae
   have hst:=HA.out.st;rw[U9,List.take_length] at hst;have hwt:=HA.out.wt;rw[List.take_length] at hwt;have HY:Hid (iw K L led):=aB ⟨by omega,ae,ae,ae,ay9.out,ay8.out,fun h hh=>by rw[bY];exact HA.out.good h hh,hwt⟩
   have HK:Hid (GR F wr g K L led):=aB ⟨lv,vs,hst⟩;clear hst hwt
   go_wp2_with fail;refine bodyPost_ret (by simp[results,Tryz.results397,go_sem, *];try rfl) rfl ?_
   exact⟨.inl ⟨g,rfl,HY.out,F,by rw[bY];exact HK.out,HA.out.new⟩,HA.out.below⟩
end Go.Proofs.YtkiebccnpheloaaGreat.K
