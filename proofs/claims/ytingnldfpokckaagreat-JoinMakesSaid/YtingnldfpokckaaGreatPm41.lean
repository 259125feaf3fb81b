/- Parts of a proof: what its theorem reaches, words cut short. No condition of its own. -/
import Derived.Test.YtingnldfpokckaaGreatPm39
import Derived.Laws.OwnMore
set_option maxRecDepth 100000
set_option maxHeartbeats 16000000
set_option linter.unusedVariables false
set_option linter.unusedSimpArgs false
namespace Go.Proofs.YtingnldfpokckaaGreat.K
open Go.RowKit
def noSv(n:Nat):List Sv:=List.replicate n (none,0,0)
theorem own_noSv(w:World)(n:Nat)(hn:n<=1000000):OwnE slE w.heap.size (w.alloc (.cells (madeCells #[.slice none 0 0] n) 143)) (.slice (some ⟨w.heap.size,0,none⟩) n n) (noSv n):=by
 have hl:(noSv n).length=n:=by simp[noSv]
 have hc:cellsE slE (noSv n)=List.replicate n (Value.slice none 0 0):=by
  unfold noSv
  induction n with
  | zero=>rfl
  | succ n ih=>rw[List.replicate_succ,cellsE_cons,ih (by omega) (by simp[noSv]),List.replicate_succ];rfl
 have hk:slE.k=1:=rfl
 refine⟨by rw[hc,List.length_replicate,hl,hk,Nat.mul_one],.inr ⟨w.heap.size,n,madeCells #[.slice none 0 0] n,by rw[hl],Nat.le_refl _,heap_alloc_new _ _,by omega,by unfold maxLen;omega,by rw[size_madeCells,hk,Nat.mul_one],?_⟩⟩
 rw[hc,toList_madeCells_one,hl,hk,Nat.mul_one,List.take_replicate,Nat.min_self]
theorem kst_made{F:Nat->Prop}{w:World}{g k n led gl H:Nat}(hb:Blk w g 132 #[.int .i64 k,.slice (some ⟨gl,0,none⟩) H H,.int .u64 n,.int .u64 led])(hr:OwnE slE 0 w (.slice (some ⟨gl,0,none⟩) H H) (noSv H))(hg:g≠gl)(hF:∀x,F x<->(x=g\/x=gl)) :
 Kst F w g k n led (.slice (some ⟨gl,0,none⟩) H H) (noSv H) (List.replicate H []):=by
 have hno:∀i (hi:i<(noSv H).length),svV ((noSv H)[i])=.slice none 0 0:=fun i hi=>by
  have:(noSv H)[i]=(none,0,0):=List.getElem_replicate hi
  rw[this];rfl
 have hlv:∀i,lvl (List.replicate H ([]:List Int)) i=[]:=fun i=>by
  unfold lvl
  simp only[List.getD]
  rw[List.getElem?_replicate]
  split<;>rfl
 have hgl:=(hr.lt gl rfl).2
 refine⟨hb,⟨hr,by simp[noSv],fun i hi=>by rw[hno i hi,hlv];exact OwnE.nil_ _ _,fun i hi k e=>by rw[hno i hi] at e;simp[Value.ownBlock] at e,fun i j hi hj hij k e=>by rw[hno i hi] at e;simp[Value.ownBlock] at e,fun k e=>?_,fun i hi k e=>by rw[hno i hi] at e;simp[Value.ownBlock] at e⟩,(hF g).2 (.inl rfl),fun e=>hg (Option.some.inj (show some gl=some g from e)).symm,fun i hi e=>by rw[hno i hi] at e;simp[Value.ownBlock] at e,fun x hx=>?_⟩
 ·exact(hF k).2 (.inr (Option.some.inj (show some gl=some k from e)).symm)
 ·rcases(hF x).1 hx with rfl|rfl
  ·exact hb.lt
  ·exact hgl
def soFar(L:LL)(j:Nat):LL:=L.take j++List.replicate (L.length - j) []
theorem soFar_length{L:LL}{j:Nat}(h:j<=L.length):(soFar L j).length=L.length:=by unfold soFar;simp;omega
theorem soFar_zero(L:LL):soFar L 0=List.replicate L.length []:=by unfold soFar;simp
theorem soFar_all(L:LL):soFar L L.length=L:=by unfold soFar;simp
theorem soFar_set{L:LL}{j:Nat}(h:j<L.length):(soFar L j).set j (lvl L j)=soFar L (j+1):=by
 unfold soFar
 rw[List.take_succ_eq_append_getElem h,<-lvl_at h,show L.length - j=(L.length - (j+1))+1 by omega,List.replicate_succ,List.set_append_right _ _ (by rw[List.length_take];omega),List.length_take,Nat.min_eq_left (by omega),Nat.sub_self,List.set_cons_zero,List.append_assoc]
 rfl
theorem shr48{n j:Nat}(hn:n<=281474976710656):((281474976710656 - (n:Int)) / 2 ^ j)=(((281474976710656 - n) / 2 ^ j:Nat):Int):=by
 rw[Int.natCast_ediv,Int.natCast_pow,Int.ofNat_sub hn];rfl
theorem gt_shr{x n j:Nat}:¬(281474976710656 - n) / 2 ^ j<x<->x * 2 ^ j<=281474976710656 - n:=by
 rw[Nat.not_lt,Nat.le_div_iff_mul_le (Nat.two_pow_pos j)]
structure LdAt(w:World)(g k led:Nat)(L:LL)(j:Nat)(F:Nat->Prop)(wr:World)(lv:Value)(vs:List Sv):Prop where
 st:Kst F wr g k (wtF 1 (L.take j)) led lv vs (soFar L j)
 new:∀x,F x->w.heap.size<=x
 below:Below w.heap.size w wr
 good:∀h,h<j->(lvl L h).length<=room k L.length h/\Srt (lvl L h)
 wt:wtF 1 (L.take j)<=281474976710656
theorem load_any(k:Int)(v:Value)(L:LL)(led:Nat)(w:World)(h:LLR w v L)(k0:-9223372036854775808<=k)(k1:k<=9223372036854775807)(hled:led<18446744073709551616)(hsm:∀j,(lvl L j).length<=1000000000) :
 Calls Tryz.prog 289 #[.int .i64 k,v,.int .u64 led] w fun e w'=>((∃g,e=.returned (.tuple #[.pointer (some ⟨g,0,none⟩),.int .i64 0])/\RightP k L led/\∃F,KAt F w' g k.toNat L led/\∀x,F x->w.heap.size<=x)\/(e=.returned (.tuple #[.pointer none,.int .i64 1])/\¬RightP k L led))/\Below w.heap.size w w':=by
 obtain⟨i1,hi0,hiz,his,hib⟩:=info_parts slI
 have JI:=Lib.hid hi0
 have JZ:=Lib.hid hiz
 have JSZ:=Lib.hid his
 have JBY:=Lib.hid hib
 clear hi0 hiz his hib
 obtain⟨A,c,rfl,hc1,hc2⟩:=h.form
 have HL:=Lib.hid h
 have HSM:=Lib.hid hsm
 clear h hsm
 by_cases hk:k<8\/4096<k
 ·have HN:Hid (¬RightP k L led):=Lib.hid fun h=>by have:=h.k4;have:=h.k8;omega
  go_enter Tryz.func289,Tryz.ntmps289
  go_wp2_with fail
  refine(new_no k w hk).mono ?_
  rintro e w1 ⟨rfl,hw1⟩
  subst hw1
  go_wp2_with fail
  refine bodyPost_ret (by simp[results,Tryz.results289,go_sem, *];try rfl) rfl ?_
  exact⟨.inr ⟨rfl,HN.out⟩,Below.refl _ _⟩
 obtain⟨K,rfl⟩:∃K:Nat,k=K:=⟨k.toNat,by omega⟩
 have hK8:8<=K:=by omega
 have hK4:K<=4096:=by omega
 clear hk
 have hba:Below w.heap.size w (w.alloc (.cells #[.int .i64 K,.slice none 0 0,.int .u64 0,.int .u64 0] 132)):=(Below.refl _ _).alloc (Nat.le_refl _) _
 by_cases h49:L.length > 49
 ·have HN:Hid (¬RightP K L led):=Lib.hid fun h=>by have:=h.hlen;omega
  have h49':(L.length:Int) > 49:=by omega
  go_enter Tryz.func289,Tryz.ntmps289
  go_wp2_with fail
  refine(new_any K w hK8 hK4).mono ?_
  rintro e w1 ⟨rfl,hw1⟩
  subst hw1
  go_wp2_with fail
  refine bodyPost_ret (by simp[results,Tryz.results289,go_sem, *];try rfl) rfl ?_
  exact⟨.inr ⟨rfl,HN.out⟩,hba⟩
 have h49':¬(L.length:Int) > 49:=by omega
 by_cases hle:led > 4611686018427387904
 ·have HN:Hid (¬RightP K L led):=Lib.hid fun h=>by have:=h.hled;omega
  have hle':(led:Int) > 4611686018427387904:=by omega
  go_enter Tryz.func289,Tryz.ntmps289
  go_wp2_with fail
  refine(new_any K w hK8 hK4).mono ?_
  rintro e w1 ⟨rfl,hw1⟩
  subst hw1
  go_wp2_with fail
  refine bodyPost_ret (by simp[results,Tryz.results289,go_sem, *];try rfl) rfl ?_
  exact⟨.inr ⟨rfl,HN.out⟩,hba⟩
 have hle':¬(led:Int) > 4611686018427387904:=by omega
 by_cases he:L.length=0/\0<led
 ·have HN:Hid (¬RightP K L led):=Lib.hid fun h=>by have:=h.emp he.1;omega
  obtain⟨he1,he2⟩:=he
  have he3:(led:Int) > 0:=by omega
  rw[he1]
  go_enter Tryz.func289,Tryz.ntmps289
  go_wp2_with fail
  refine(new_any K w hK8 hK4).mono ?_
  rintro e w1 ⟨rfl,hw1⟩
  subst hw1
  go_wp2_with fail
  refine bodyPost_ret (by simp[results,Tryz.results289,go_sem, *];try rfl) rfl ?_
  exact⟨.inr ⟨rfl,HN.out⟩,hba⟩
 by_cases ht:0<L.length/\lvl L (L.length - 1)=[]
 ·have HN:Hid (¬RightP K L led):=Lib.hid fun h=>h.top ht.1 ht.2
  obtain⟨gl,off,sT,tc,eA,hgl,kT,_⟩:=HL.out.at_ (j:=L.length - 1) (by omega)
  subst eA
  rw[ht.2] at kT
  obtain⟨n1,hn1⟩:∃n1,L.length - 1=n1:=⟨_,rfl⟩
  have hn1i:(L.length:Int) - 1=(n1:Int):=by omega
  have hn1l:(n1:Int)<(L.length:Int):=by omega
  have hL0:¬(L.length:Int)=0:=by omega
  have hLn:¬L=[]:=fun e=>by rw[e] at hn1l;simp at hn1l;omega
  have hL1:(L.length:Int) > 0:=by omega
  rw[hn1] at kT
  have kT2:=(hba.cell (p:=⟨gl,off+n1,none⟩) hgl).trans kT
  have KT2:=Lib.hid kT2
  have HBA:=Lib.hid hba
  clear ht he hn1 kT kT2 hba
  go_enter Tryz.func289,Tryz.ntmps289
  go_wp2_with fail
  refine(new_any K w hK8 hK4).mono ?_
  rintro e w1 ⟨rfl,hw1⟩
  rw[<-hw1] at KT2 HBA
  have kt:=KT2.out
  clear hw1
  go_wp2_with fail
  refine bodyPost_ret (by simp[results,Tryz.results289,go_sem, *];try rfl) rfl ?_
  exact⟨.inr ⟨rfl,HN.out⟩,HBA.out⟩
 have HTOP:Hid (0<L.length->lvl L (L.length - 1)≠[]):=Lib.hid fun h1 h2=>ht ⟨h1,h2⟩
 have HEMP:Hid (L.length=0->led=0):=Lib.hid fun h1=>by omega
 have HMK:=Lib.hid (fun W=>run_make_rowN 93 143 i1 _ Tryz.underlying93 JI.out JZ.out .i64 .i64 L.length L.length (Nat.le_refl _) (by rw[JBY.out];omega) (by omega) W)
 have hmk:=HMK.out
 rw[JSZ.out,Nat.mul_one] at hmk
 have HMK2:=Lib.hid hmk
 have hmk2:=HMK2.out
 clear HMK hmk ht he hba
 have HLI:Hid (∀j,wtF 1 (L.take j)<=wt L):=Lib.hid fun j=>wtF_take_le L j
 go_enter Tryz.func289,Tryz.ntmps289
 go_wp2_with fail
 refine(new_any K w hK8 hK4).mono ?_
 rintro e w1 ⟨rfl,hw1⟩
 have hbl:Blk w1 w.heap.size 132 #[.int .i64 K,.slice none 0 0,.int .u64 0,.int .u64 0]:=by rw[hw1];exact Blk.new w _ _
 have hb1:Below w.heap.size w w1:=by rw[hw1];exact(Below.refl _ _).alloc (Nat.le_refl _) _
 have hz1:w1.heap.size=w.heap.size+1:=by rw[hw1];simp
 have HBL:=Lib.hid hbl
 have HB1:=Lib.hid hb1
 have HZ1:=Lib.hid hz1
 obtain⟨g,hg⟩:∃g,w.heap.size=g:=⟨_,rfl⟩
 have HG:=Lib.hid hg
 rw[hg] at HBL HZ1 |-
 clear hw1 hbl hb1 hz1 hg
 go_upto_region 3 with fail
 go_cut [50] (fun x wx=>x=.bool false/\w1=wx)
 case first=>
  by_cases hL0:L.length=0
  ·have hd0:=HEMP.out hL0
   have hLe:L=[]:=List.eq_nil_of_length_eq_zero hL0
   subst hd0
   subst hLe
   clear hL0
   go_wp2_with fail
   go_meet
   exact⟨rfl,rfl⟩
  ·obtain⟨gl,off,sT,tc,eA,hgl,kT,_⟩:=HL.out.at_ (j:=L.length - 1) (by omega)
   subst eA
   have hx0:¬(lvl L (L.length - 1)).length=0:=fun e=>HTOP.out (by omega) (List.eq_nil_of_length_eq_zero e)
   obtain⟨x1,hx1⟩:∃x1,(lvl L (L.length - 1)).length=x1:=⟨_,rfl⟩
   rw[hx1] at kT hx0
   obtain⟨n1,hn1⟩:∃n1,L.length - 1=n1:=⟨_,rfl⟩
   rw[hn1] at kT
   have hn1i:(L.length:Int) - 1=(n1:Int):=by omega
   have hn1l:(n1:Int)<(L.length:Int):=by omega
   have hL0i:¬(L.length:Int)=0:=by omega
   have hLn:¬L=[]:=fun e=>hL0 (by rw[e];rfl)
   have hL1i:(L.length:Int) > 0:=by omega
   have hx0i:¬(x1:Int)=0:=by omega
   have hz1:decide ((49:Int)<(L.length:Int))=false:=decide_eq_false (by omega)
   have hz2:decide ((4611686018427387904:Int)<(led:Int))=false:=decide_eq_false (by omega)
   have hz3:((x1:Int) == 0)=false:=by simpa using hx0
   have HZZ:Hid ((decide ((49:Int)<(L.length:Int)) || decide ((4611686018427387904:Int)<(led:Int)) || ((x1:Int) == 0))=false):=Lib.hid (by rw[hz1,hz2,hz3];rfl)
   clear hz1 hz2 hz3
   have kt:=(HB1.out.cell (p:=⟨gl,off+n1,none⟩) hgl).trans kT
   clear kT hx1 hn1
   go_wp2_with fail
   go_meet
   exact⟨by first|rfl|rw[HZZ.out],rfl⟩
 case rest=>
 obtain⟨rfl,rfl⟩:=hcut
 have b1:=HBL.out.cell 1
 have b3:=HBL.out.cell 3
 have fz1:=HBL.out.frozen 1
 have fz3:=HBL.out.frozen 3
 simp only[List.getElem?_toArray,List.getElem?_cons_succ,List.getElem?_cons_zero] at b1 b3
 have hgw:=HBL.out.lt
 go_upto_region 6 with fail
 have hgne:g≠w1.heap.size:=by omega
 have hbx:=((HBL.out.set_ 1 (.slice (some ⟨w1.heap.size,0,none⟩) L.length L.length)).set_ 3 (.int .u64 led)).alloc (.cells (madeCells #[.slice none 0 0] L.length) 143)
 obtain⟨wz,hwz⟩:∃x,(w1.setCell ⟨g,1,none⟩ (.slice (some ⟨w1.heap.size,0,none⟩) L.length L.length)).setCell ⟨g,3,none⟩ (.int .u64 led)=x:=⟨_,rfl⟩
 have hzz:wz.heap.size=w1.heap.size:=by rw[<-hwz];simp
 have hbz:Below w.heap.size w wz:=by
  rw[<-hwz]
  refine Below.setCell (Below.setCell HB1.out ?_ _) ?_ _
  ·show w.heap.size<=g;rw[HG.out];exact Nat.le_refl _
  ·show w.heap.size<=g;rw[HG.out];exact Nat.le_refl _
 have hown:=own_noSv wz L.length (by omega)
 rw[hzz] at hown
 have hr2:=hown.more (Nat.zero_le _)
 have hb3:Below w.heap.size w (wz.alloc (.cells (madeCells #[.slice none 0 0] L.length) 143)):=hbz.alloc (by have:=HG.out;have:=HZ1.out;omega) _
 rw[hwz] at hbx
 rw[hwz]
 have hst:=kst_made (F:=fun x=>x=g\/x=w1.heap.size) (n:=0) (led:=led) hbx hr2 hgne (fun x=>Iff.rfl)
 have HLD0:Hid (LdAt w g K led L 0 (fun x=>x=g\/x=w1.heap.size) (wz.alloc (.cells (madeCells #[.slice none 0 0] L.length) 143)) (.slice (some ⟨w1.heap.size,0,none⟩) L.length L.length) (noSv L.length)):=Lib.hid ⟨by rw[soFar_zero];exact hst,fun x hx=>by have:=HG.out;have:=HZ1.out;omega,hb3,fun h hh=>absurd hh (by omega),Nat.zero_le _⟩
 have HB3:=Lib.hid hb3
 obtain⟨w3,hw3⟩:∃x,wz.alloc (.cells (madeCells #[.slice none 0 0] L.length) 143)=x:=⟨_,rfl⟩
 rw[hw3] at HLD0 |-
 clear hown hbx hbz hgne hr2 hb3 hst hw3 hwz hzz hmk2 b1 b3 fz1 fz3 HB3 HB1 HBL HZ1
 go_wp2_with fail
 go_loopg [11,12,62] L.length (fun q _ _ i wr=>∃(j:Nat) (F:Nat->Prop) (lv:Value) (vs:List Sv),q=L.length - j/\j<=L.length/\i=.int .i64 (j:Int)/\Hid (LdAt w g K led L j F wr lv vs))
 case atStart=>exact⟨0,_,_,_,by omega,by omega,rfl,HLD0⟩
 case round=>
  obtain⟨j,F,lv,vs,hq,hj,rfl,HA⟩:=hrel
  have HQ:=Lib.hid hq
  clear hq
  by_cases hjl:j<L.length
  ·have hjli:(j:Int)<(L.length:Int):=by omega
   obtain⟨gi,off,sA,sc,eA,hgi,c2,rA⟩:=(HL.out.keep HA.out.below).at_ hjl
   subst eA
   have HRA:=Lib.hid rA
   have hsf:(soFar L j).length=L.length:=soFar_length (by omega)
   have XRO:=Lib.hid (room_any j wr HA.out.st (by omega) (by omega) (by omega) (by omega))
   rw[hsf] at XRO
   have hrb:=room_le (k:=K) (len:=L.length) (h:=j) (by omega)
   have XIS:=Lib.hid (issorted_any _ (lvl L j) wr rA (HSM.out j))
   have hlb:=HSM.out j
   have HTS:=Lib.hid (wtF_take_succ hjl)
   have n2:=HA.out.st.cell2
   have hwb:=HA.out.wt
   have HNR:Hid (¬(lvl L j).length<=room K L.length j->¬RightP K L led):=Lib.hid fun h1 h2=>by
    have:=(h2.lev j hjl).1
    rw[Int.toNat_natCast] at this
    exact h1 this
   have HNS:Hid (¬Srt (lvl L j)->¬RightP K L led):=Lib.hid fun h1 h2=>h1 (h2.lev j hjl).2
   have HNW:Hid (281474976710656<wtF 1 (L.take j)+(lvl L j).length * 2 ^ j->¬RightP K L led):=Lib.hid fun h1 h2=>by
    have h3:=h2.hwt
    have h4:=HLI.out (j+1)
    rw[HTS.out] at h4
    omega
   have HSH:=Lib.hid (shr48 (n:=wtF 1 (L.take j)) (j:=j) hwb)
   have HGS:=Lib.hid (gt_shr (x:=(lvl L j).length) (n:=wtF 1 (L.take j)) (j:=j))
   obtain⟨rm,hrm⟩:∃rm,room K L.length j=rm:=⟨_,rfl⟩
   obtain⟨y,hy⟩:∃y,(lvl L j).length=y:=⟨_,rfl⟩
   obtain⟨n,hn⟩:∃n,wtF 1 (L.take j)=n:=⟨_,rfl⟩
   rw[hrm] at XRO hrb HNR
   rw[hy] at c2 XIS HTS HNR HNW HGS hlb HRA
   rw[hn] at hwb n2 HTS HNW HSH HGS
   obtain⟨dv,hdv⟩:∃dv,(281474976710656 - n) / 2 ^ j=dv:=⟨_,rfl⟩
   rw[hdv] at HSH HGS
   have hdvb:dv<=281474976710656:=by rw[<-hdv];exact Nat.le_trans (Nat.div_le_self _ _) (by omega)
   have HRM:=Lib.hid hrm
   have HYE:=Lib.hid hy
   have HNE:=Lib.hid hn
   have hsh:=HSH.out
   clear hrm hy hn hdv hsf rA
   by_cases hgt:y > rm
   ·have HN:=Lib.hid (HNR.out (by omega))
    have hgt':(y:Int) > (rm:Int):=by omega
    go_wp2_with fail
    refine(XRO.out).mono ?_
    rintro e w5 ⟨rfl,hw5⟩
    subst hw5
    go_wp2_with fail
    refine bodyPost_ret (by simp[results,Tryz.results289,go_sem, *];try rfl) rfl ?_
    exact⟨.inr ⟨rfl,HN.out⟩,HA.out.below⟩
   ·have hgt':¬(y:Int) > (rm:Int):=by omega
    go_wp2_with fail
    refine(XRO.out).mono ?_
    rintro e w5 ⟨rfl,hw5⟩
    subst hw5
    go_wp2_with fail
    refine(XIS.out).mono ?_
    rintro e w5 ⟨rfl,q5,hw5⟩
    have hb5:Below wr.heap.size wr w5:=by rw[hw5];exact below_drewN (Below.refl _ _) _
    have HB5:=Lib.hid hb5
    have HBW:Hid (Below w.heap.size w w5):=Lib.hid (HA.out.below.trans (hb5.mono HA.out.below.size))
    have m2:=(HA.out.st.keep hb5).cell2
    rw[HNE.out] at m2
    clear hw5 hb5 n2 c2
    by_cases hsr:¬Srt (lvl L j)
    ·have HN:=Lib.hid (HNS.out hsr)
     rw[decide_eq_false hsr]
     go_wp2_with fail
     refine bodyPost_ret (by simp[results,Tryz.results289,go_sem, *];try rfl) rfl ?_
     exact⟨.inr ⟨rfl,HN.out⟩,HBW.out⟩
    ·have HSR:Hid (Srt (lvl L j)):=Lib.hid (Classical.not_not.1 hsr)
     rw[decide_eq_true HSR.out]
     by_cases hov:dv<y
     ·have HN:=Lib.hid (HNW.out (by
       rcases Nat.lt_or_ge 281474976710656 (n+y * 2 ^ j) with h1|h1
       ·exact h1
       ·exact absurd hov (HGS.out.2 (by omega))))
      have hovi:(y:Int) > (dv:Int):=by omega
      go_wp2_with fail
      refine bodyPost_ret (by simp[results,Tryz.results289,go_sem, *];try rfl) rfl ?_
      exact⟨.inr ⟨rfl,HN.out⟩,HBW.out⟩
     ·have hfit:=HGS.out.1 hov
      have hovi:¬(y:Int) > (dv:Int):=by omega
      have hst5:=HA.out.st.keep HB5.out
      have hjs:j<(soFar L j).length:=by rw[soFar_length (by omega)];exact hjl
      obtain⟨gl,cc,sA0,sc0,elv,hgl,hglg,hFgl,hvs,c3,f3,_,_⟩:=hst5.at_ hjs
      have hsf:(soFar L j).length=L.length:=soFar_length (by omega)
      rw[hsf] at elv
      subst elv
      have HST5:=Lib.hid hst5
      have K1:=Lib.hid hst5.cell1
      have C3:=Lib.hid c3
      have F3:=Lib.hid f3
      have HJS:=Lib.hid hjs
      have hg5:=hst5.blk.lt
      have HR5:=Lib.hid (HRA.out.keep HB5.out)
      clear hst5 hjs hsf c3 f3 hvs
      go_upto_region 11 with fail
      clear m2
      refine wp_region_plan (fun w'=>w'.heap[g]?=w5.heap[g]?) [(0,true),(1,true),(2,true),(3,true),(4,true),(5,true),(6,false),(7,true),(8,false)] (by kernel_rfl) (by kernel_rfl) (rfl) ?_
      iterate 6
       refine wpPlan_read (by rfl) (by rfl) (fun R hR=>?_)
       apply Exists.intro
       refine⟨fun w' hS'=>?_,?_⟩
       ·have k1:=(World.cell?_of_block (a:=⟨g,1,none⟩) hS').trans K1.out
        go_simp
        exact⟨rfl,rfl⟩
       go_simp
       refine hR _ ?_
       clear hR R
      refine wpPlan_do (by rfl) (by rfl) (fun K hK=>?_)
      go_simp
      refine(clone_i64 _ (lvl L j) _ (HR5.out.keep (Below.refl _ _).drew) (by rw[HYE.out];omega)).mono ?_
      rintro e w7 ⟨⟨A7,n7,c7⟩,rfl,o7,b7⟩
      obtain⟨_,_,es,_,_,_⟩:=o7.form
      injection es with _ es2 _
      rw[HYE.out] at es2
      have es3:=es2.symm
      subst es3
      have HB7:Hid (Below w5.heap.size w5 w7):=Lib.hid (((Below.refl w5.heap.size w5).drew).trans b7)
      have O7:=Lib.hid o7
      clear o7 b7
      simp only[svV]
      refine hK _ _ (HB7.out.block g hg5) ?_
      clear hK K
      iterate 1
       refine wpPlan_read (by rfl) (by rfl) (fun R hR=>?_)
       apply Exists.intro
       refine⟨fun w' hS'=>?_,?_⟩
       ·have k1:=(World.cell?_of_block (a:=⟨g,1,none⟩) hS').trans K1.out
        go_simp
        exact⟨rfl,rfl⟩
       go_simp
       refine hR _ ?_
       clear hR R
      refine wpPlan_do (by rfl) (by rfl) (fun K hK=>?_)
      have c9:=(World.cell?_of_block (a:=⟨gl,j,none⟩) (HB7.out.block gl hgl)).trans C3.out
      have f9:=(World.frozen?_of_block (a:=⟨gl,j,none⟩) (HB7.out.block gl hgl)).trans F3.out
      go_simp
      refine hK _ _ ((Below.heap_setCell w7 ⟨gl,j,none⟩ _ g hglg.symm).trans (HB7.out.block g hg5)) ?_
      clear hK K
      refine wpPlan_nil ?_
      clear c9 f9
      have lev:=StG.level (s':=(A7,y,c7)) (l':=lvl L j) (j:=j) (w1:=w7) HST5.out HJS.out rfl (O7.out.more (Nat.zero_le _)) (fun kk h1 _=>HB7.out.block kk h1) HB7.out.size (.inr fun kk e=>(O7.out.lt kk e).1)
      rw[soFar_set hjl] at lev
      have hnw7:∀kk,(svV (A7,y,c7)).ownBlock=some kk->w5.heap.size<=kk:=fun kk e=>(O7.out.lt kk e).1
      have hb8:Below w.heap.size w (w7.setCell ⟨gl,j,none⟩ (svV (A7,y,c7))):=Below.setCell (HBW.out.trans (HB7.out.mono HBW.out.size)) (HA.out.new gl hFgl) _
      have HLEV:=Lib.hid lev
      have HB8:=Lib.hid hb8
      have HNW7:=Lib.hid hnw7
      obtain⟨w8,hw8⟩:∃x,w7.setCell ⟨gl,j,none⟩ (svV (A7,y,c7))=x:=⟨_,rfl⟩
      rw[hw8] at HLEV HB8
      show Exit.then _ _ Exit.normal _ (w7.setCell ⟨gl,j,none⟩ (svV (A7,y,c7)))
      rw[hw8]
      clear lev hnw7 hb8 hw8
      have k2:=HLEV.out.cell2
      have f2:=HLEV.out.blk.frozen 2
      rw[HNE.out] at k2
      have HFG:=Lib.hid HLEV.out.fg
      have HPW:=Lib.hid (wt48 (c:=y) (h:=j) (by omega))
      obtain⟨m,hm⟩:∃m,y * 2 ^ j=m:=⟨_,rfl⟩
      rw[hm] at HPW HTS hfit
      clear hm
      go_upto_region 12 with fail
      refine wp_region_planS (fun w'=>Below w8.heap.size w8 w') 12 [(0,1),(1,1),(2,1),(3,1),(4,1),(5,1),(6,1),(7,1),(8,1),(9,1),(10,2),(11,1),(12,0)] (by kernel_rfl) (by kernel_rfl) ((Below.refl _ _).drew) ?_
      iterate 10
       refine wpPlanS_read (by rfl) (by rfl) (fun R hR=>?_)
       apply Exists.intro
       refine⟨fun w' hS'=>?_,?_⟩
       ·have hw:=HPW.out
        have k2':=(hS'.cell (p:=⟨g,2,none⟩) HLEV.out.blk.lt).trans k2
        go_simp
        exact⟨rfl,rfl⟩
       go_simp
       refine hR _ ?_
       clear hR R
      iterate 1
       refine wpPlanS_pure (by rfl) (by rfl) (fun R hR=>?_)
       apply Exists.intro
       refine⟨fun w'=>?_,?_⟩
       ·go_simp
        exact⟨rfl,rfl⟩
       go_simp
       refine hR _ ?_
       clear hR R
      iterate 1
       refine wpPlanS_read (by rfl) (by rfl) (fun R hR=>?_)
       apply Exists.intro
       refine⟨fun w' hS'=>?_,?_⟩
       ·have hw:=HPW.out
        have k2':=(hS'.cell (p:=⟨g,2,none⟩) HLEV.out.blk.lt).trans k2
        go_simp
        exact⟨rfl,rfl⟩
       go_simp
       refine hR _ ?_
       clear hR R
      refine wpPlanS_end (by rfl) (by rfl) (by rfl) (fun K hK=>?_)
      have k9:(w8.drew).cell? ⟨g,2,none⟩=_:=k2
      have f9:(w8.drew).frozen? ⟨g,2,none⟩=false:=f2
      go_simp
      refine hK _ _ ?_
      clear hK K
      refine wpPlanS_nil ?_
      have HVV:IntKind.u64.wrap ((n:Int)+IntKind.u64.wrap (IntKind.u64.wrap (y:Int) * 2 ^ j))=((n+m:Nat):Int):=by
       have e0:IntKind.u64.wrap (y:Int)=(y:Int):=by rw[IntKind.wrap_u64];omega
       rw[e0,HPW.out,IntKind.wrap_u64]
       omega
      rw[HVV]
      have hst9:Kst _ ((w8.setCell ⟨g,2,none⟩ (.int .u64 (n+m:Nat))).drew) g K (n+m) led _ _ (soFar L (j+1)):=(HLEV.out.put2 _).keep (Below.refl _ _).drew
      have hb9:Below w.heap.size w ((w8.setCell ⟨g,2,none⟩ (.int .u64 (n+m:Nat))).drew):=(Below.setCell HB8.out (by show w.heap.size<=g;rw[HG.out];exact Nat.le_refl _) _).drew
      obtain⟨w9,hw9⟩:∃x,(w8.setCell ⟨g,2,none⟩ (.int .u64 (n+m:Nat))).drew=x:=⟨_,rfl⟩
      rw[hw9] at hst9 hb9 |-
      rw[<-HTS.out] at hst9
      have HRMO:=HRM.out
      have hxl:(lvl L j).length<=room K L.length j:=by rw[HYE.out,HRMO];omega
      have hnw9:∀x,(F x\/(svV (A7,y,c7)).ownBlock=some x)->w.heap.size<=x:=fun x hx=>hx.elim (fun h1=>HA.out.new x h1) (fun h1=>Nat.le_trans HBW.out.size (HNW7.out x h1))
      have HLD9:Hid (LdAt w g K led L (j+1) (fun k=>F k\/(svV (A7,y,c7)).ownBlock=some k) w9 _ _):=Lib.hid ⟨hst9,hnw9,hb9,fun h hh=>by
       rcases Nat.lt_or_ge h j with h1|h1
       ·exact HA.out.good h h1
       ·obtain rfl:h=j:=by omega
        exact⟨hxl,HSR.out⟩,by rw[HTS.out];omega⟩
      clear hst9 hb9 HVV HRMO hxl hnw9
      clear hw9 k2 f2 k9 f9
      go_wp2_with fail
      go_roundg (L.length - (j+1))
      case measure=>have:=HQ.out;omega
      case rel=>exact⟨j+1,_,_,_,rfl,by omega,by go_num,HLD9⟩
  ·obtain rfl:j=L.length:=by omega
   have hst:=HA.out.st
   rw[soFar_all,List.take_length] at hst
   have hwt:=HA.out.wt
   rw[List.take_length] at hwt
   have HY:Hid (RightP K L led):=Lib.hid ⟨by omega,by omega,by omega,by omega,HEMP.out,HTOP.out,fun h hh=>by rw[Int.toNat_natCast];exact HA.out.good h hh,hwt⟩
   have HK:Hid (KAt F wr g K L led):=Lib.hid ⟨lv,vs,hst⟩
   clear hst hwt
   go_wp2_with fail
   refine bodyPost_ret (by simp[results,Tryz.results289,go_sem, *];try rfl) rfl ?_
   exact⟨.inl ⟨g,rfl,HY.out,F,by rw[Int.toNat_natCast];exact HK.out,HA.out.new⟩,HA.out.below⟩
end Go.Proofs.YtingnldfpokckaaGreat.K
