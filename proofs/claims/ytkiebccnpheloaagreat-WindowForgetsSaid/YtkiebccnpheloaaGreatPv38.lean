/- Parts of a proof: what its theorem reaches, words cut short. No condition of its own. -/
import Derived.Test.YtkiebccnpheloaaGreatPv37
import Derived.Test.YtkiebccnpheloaaGreatPv23
import Derived.Test.YtkiebccnpheloaaGreatPv33
set_option maxRecDepth 100000
set_option maxHeartbeats 16000000
set_option linter.unusedVariables false
set_option linter.unusedSimpArgs false
namespace Go.Proofs.YtkiebccnpheloaaGreat.K
open Go.RowKit
theorem wtF_take_succ{L:LL}{j:Nat}(h:j<L.length):wtF 1 (L.take (j+1))=wtF 1 (L.take j)+(lvl L j).length * 2 ^ j:=by
 rw[List.take_succ_eq_append_getElem h,wtF_append,List.length_take,Nat.min_eq_left (by omega),lvl_at h]
 simp[wtF]
theorem wtF_take_le(L:LL)(j:Nat):wtF 1 (L.take j)<=wt L:=by
 unfold wt
 conv=>rhs;rw[<-List.take_append_drop j L,wtF_append]
 omega
theorem pow49{j:Nat}(h:j<=49):2 ^ j<=562949953421312:=Nat.le_trans (Nat.pow_le_pow_right (by decide) h) (by decide)
theorem rtotal_any{F:Nat->Prop}{g k led:Nat}{lv:Value}{vs:List Sv}{L:LL}(w:World)(hs:Rst F w g k led lv vs L)(hw:wt L<=281474976710656)(hL:L.length<=49) :
 Calls Tryz.prog 130 #[.pointer (some ⟨g,0,none⟩)] w fun e w'=>e=.returned (.int .u64 (wt L:Nat))/\w=w':=by
 obtain⟨A,c,elv,hc1,hc2,_⟩:=hs.form
 have c1:=hs.cell1
 have HS:=Lib.hid hs
 have HTL:=Lib.hid (fun j=>Nat.le_trans (wtF_take_le L j) hw)
 have HC:=Lib.hid (show wtF 1 (L.take L.length)=wt L by rw[List.take_length];rfl)
 clear hs
 subst elv
 go_enter Tryz.func130,Tryz.ntmps130
 go_wp2_with fail
 go_loopg [3,4,5] L.length (fun q n p i wr=>(∃j:Nat,q=L.length - j/\j<=L.length/\n=.int .u64 ((wtF 1 (L.take j):Nat):Int)/\p=.int .u64 ((2 ^ j:Nat):Int)/\i=.int .i64 (j:Int))/\w=wr)
 case atStart=>exact⟨⟨0,by omega,by omega,rfl,rfl,rfl⟩,rfl⟩
 case round=>
  obtain⟨⟨j,hq,hj,rfl,rfl,rfl⟩,rfl⟩:=hrel
  have HQ:=Lib.hid hq
  clear hq
  have hpb:=pow49 (j:=j) (by omega)
  have HPE:Hid (2 ^ (j+1)=2 * 2 ^ j):=Lib.hid (by rw[Nat.pow_succ];omega)
  by_cases hjl:j<L.length
  ·obtain⟨gl,cc,sA,sc,elv,hgl,_,_,_,c2,_,_,_⟩:=HS.out.at_ hjl
   injection elv with elv e2 e3
   subst elv;subst e3
   have HT1:Hid (wtF 1 (L.take (j+1))=wtF 1 (L.take j)+(lvl L j).length * 2 ^ j):=Lib.hid (wtF_take_succ hjl)
   have hb:=HTL.out (j+1)
   obtain⟨t1,ht1⟩:∃t1,wtF 1 (L.take (j+1))=t1:=⟨_,rfl⟩
   obtain⟨t0,ht0⟩:∃t0,wtF 1 (L.take j)=t0:=⟨_,rfl⟩
   obtain⟨x,hx⟩:∃x,(lvl L j).length=x:=⟨_,rfl⟩
   obtain⟨p,hp⟩:∃p,2 ^ j=p:=⟨_,rfl⟩
   rw[hx] at c2
   rw[ht1] at hb
   rw[ht1,ht0,hx,hp] at HT1
   rw[hp] at hpb HPE
   rw[ht0,hp]
   have HT1E:=Lib.hid ht1
   obtain⟨m,hm⟩:∃m,x * p=m:=⟨_,rfl⟩
   rw[hm] at HT1
   have hmi:(x:Int) * (p:Int)=(m:Int):=by rw[<-hm];simp
   have hmb:m+t0=t1:=by have:=HT1.out;omega
   have HXB:x<=18446744073709551615:=by
    obtain⟨_,_,e,h1,h2,_⟩:=((HS.out.lev.each j (by rw[HS.out.lev.len];exact hjl))).form
    omega
   clear hx hp ht0 ht1 hm
   go_wp2_with fail
   go_roundg (L.length - (j+1))
   case measure=>have:=HQ.out;omega
   case rel=>exact⟨⟨j+1,rfl,by omega,by rw[HT1E.out];go_num,by rw[HPE.out];go_num,by go_num⟩,rfl⟩
  ·obtain rfl:j=L.length:=by omega
   rw[HC.out]
   go_wp2_with fail
   refine bodyPost_ret (by simp[results,Tryz.results130,go_sem, *];try rfl) rfl ?_
   exact⟨rfl,rfl⟩
section
variable {F : Nat -> Prop} {g k n led : Nat} {lv : Value} {vs : List Sv} {L : LL}
theorem size_any(w:World)(hs:Kst F w g k n led lv vs L) :
 Calls Tryz.prog 73 #[.pointer (some ⟨g,0,none⟩)] w fun e w'=>e=.returned (.int .i64 (k:Nat))/\w=w':=by
 have c0:=hs.cell0
 clear hs
 go_enter Tryz.func73,Tryz.ntmps73
 go_wp2_with fail
 refine bodyPost_ret (by simp[results,Tryz.results73,go_sem, *];try rfl) rfl ?_
 exact⟨rfl,rfl⟩
theorem total_any(w:World)(hs:Kst F w g k n led lv vs L) :
 Calls Tryz.prog 126 #[.pointer (some ⟨g,0,none⟩)] w fun e w'=>e=.returned (.int .u64 (n:Nat))/\w=w':=by
 have c0:=hs.cell2
 clear hs
 go_enter Tryz.func126,Tryz.ntmps126
 go_wp2_with fail
 refine bodyPost_ret (by simp[results,Tryz.results126,go_sem, *];try rfl) rfl ?_
 exact⟨rfl,rfl⟩
theorem ledger_any(w:World)(hs:Kst F w g k n led lv vs L) :
 Calls Tryz.prog 159 #[.pointer (some ⟨g,0,none⟩)] w fun e w'=>e=.returned (.int .u64 (led:Nat))/\w=w':=by
 have c0:=hs.cell3
 clear hs
 go_enter Tryz.func159,Tryz.ntmps159
 go_wp2_with fail
 refine bodyPost_ret (by simp[results,Tryz.results159,go_sem, *];try rfl) rfl ?_
 exact⟨rfl,rfl⟩
end
theorem RoFar.next{F F1:Nat->Prop}{w wr:World}{cg:Nat}{cv:Value}(h:RoFar F w cg cv)(hs:∀k,F1 k->F k\/w.heap.size<=k)(hz:w.heap.size<=wr.heap.size):RoFar F1 wr cg cv:=by
 have a2:=h.lg
 refine⟨fun e=>?_,fun k e=>⟨fun e2=>?_,?_⟩,by omega⟩
 ·rcases hs cg e with e|e
  ·exact h.fg e
  ·omega
 ·have:=h.fv k e
  rcases hs k e2 with e3|e3
  ·exact this.1 e3
  ·omega
 ·have:=(h.fv k e).2;omega
theorem RC.touch{F:Nat->Prop}{w w':World}{cg a:Nat}{cv:Value}{B:List Int}(h:RC w cg cv B a)(hf:RoFar F w cg cv)(ht:Touch F w w'):RC w' cg cv B a:=
 h.stay (ht.block cg hf.lg hf.fg) (fun k e=>ht.block k (hf.fv k e).2 (hf.fv k e).1) ht.size
theorem RkAt.back{F F1:Nat->Prop}{w wr w':World}{g k cg:Nat}{cv lv:Value}{B:List Int}{s0 s:KS}{F':Nat->Prop}{vs:List Sv}(h:RkAt F1 wr g k cg cv B s0 F' w' lv vs s)
 (h1:∀k,F1 k->F k\/w.heap.size<=k) (ht:Touch F w wr):RkAt F w g k cg cv B s0 F' w' lv vs s:=by
 have hz:=ht.size
 refine⟨h.st,h.co,h.ok,h.eq,fun kk e=>?_,?_⟩
 ·rcases h.sub kk e with e|e
  ·exact h1 kk e
  ·exact .inr (by omega)
 ·refine(ht.mono (G:=fun k=>F k\/k=cg) fun _ hi=>.inl hi).trans h.touch fun i hi=>?_
  rcases hi with hi|hi
  ·rcases h1 i hi with e|e
   ·exact .inl (.inl e)
   ·exact .inr e
  ·exact .inl (.inr hi)
structure RAdAt(F:Nat->Prop)(w:World)(g k led:Nat)(v:Int)(c:Nat)(L:LL)(j:Nat)(F1:Nat->Prop)(wr:World)(lv:Value)(vs:List Sv)(L1:LL):Prop where
 st:Rst F1 wr g k led lv vs L1
 eq:addL L v c=putB (64 - j) j (c / 2 ^ j) L1 v
 len:L1.length<=49
 cnt:cnt L1<=cnt L+j
 sub:∀k,F1 k->F k\/w.heap.size<=k
 touch:Touch F w wr
theorem radd_yes{F:Nat->Prop}{g k led cg a c:Nat}{cv lv:Value}{vs:List Sv}{B:List Int}{L:LL}(v:Int)(w:World)(hs:Rst F w g k led lv vs L)(hco:RC w cg cv B a)(hf:RoFar F w cg cv)(hok:PkOk (L,led,a))
 (hc0:0<c) (hc:wt L+c<=281474976710656) (hcn:cnt L<=900000) (h2:2<=k) (hk:k<=1000000) :
 Calls Tryz.prog 177 #[.pointer (some ⟨g,0,none⟩),.int .i64 v,.int .u64 c,.pointer (some ⟨cg,0,none⟩)] w fun e w'=>e=.returned (.int .i64 0)/\∃F' lv' vs',RkAt F w g k cg cv B (addL L v c,led,a) F' w' lv' vs' (packA k B (addL L v c,led,a)):=by
 have HA0:Hid (RAdAt F w g k led v c L 0 F w lv vs L):=Lib.hid ⟨hs,by simp[addL],hok.len,Nat.le_refl _,fun _ h=>.inl h,Touch.refl _ _⟩
 have HTO:=Lib.hid (rtotal_any w hs hok.wt hok.len)
 have HCO:=Lib.hid hco
 have HF:=Lib.hid hf
 have HOK:=Lib.hid hok
 have HOKA:=Lib.hid (pkOk_add hok v c (by omega) hcn)
 obtain⟨n,hn⟩:∃n,wt L=n:=⟨_,rfl⟩
 rw[hn] at hc HTO
 clear hs hco hf hok hn
 have hc1:¬(c:Int)=0:=by omega
 have hc2:¬(c:Int) > 281474976710656 - (n:Int):=by omega
 go_enter Tryz.func177,Tryz.ntmps177
 go_wp2_with fail
 refine(HTO.out).mono ?_
 rintro e w1 ⟨rfl,rfl⟩
 go_wp2_with fail
 go_loopg [9,10] 64 (fun q i m wr=>∃(j:Nat) (F1:Nat->Prop) (lv1:Value) (vs1:List Sv) (L1:LL),q=64 - j/\j<=49/\i=.int .i64 (j:Int)/\m=.int .u64 ((c / 2 ^ j:Nat):Int)/\Hid (RAdAt F w g k led v c L j F1 wr lv1 vs1 L1))
 case atStart=>exact⟨0,F,lv,vs,L,rfl,by omega,rfl,by simp,HA0⟩
 case round=>
  obtain⟨j,F1,lv1,vs1,L1,hq,hj,rfl,rfl,HA⟩:=hrel
  have HQ:=Lib.hid hq
  clear hq
  obtain⟨m,hm⟩:∃m,c / 2 ^ j=m:=⟨_,rfl⟩
  have hmc:m<=c:=by rw[<-hm];exact Nat.div_le_self ..
  rw[hm]
  have HM:=Lib.hid hm
  have hsz:=HA.out.touch.size
  by_cases hm0:m=0
  ·have hm0':¬(m:Int) > 0:=by omega
   have hEQ:L1=addL L v c:=by rw[HA.out.eq,HM.out,hm0,putB_zero]
   subst hEQ
   have HP:=Lib.hid (rpack_any (s0:=(addL L v c,led,a)) wr HA.out.st (HCO.out.touch HF.out HA.out.touch) (HF.out.next HA.out.sub hsz) HOKA.out h2 hk)
   clear hm
   go_wp2_with fail
   refine(HP.out).mono ?_
   rintro e w2 ⟨rfl,F2,lv2,vs2,q1⟩
   have Q1:=Lib.hid q1
   clear q1 HP
   go_wp2_with fail
   refine bodyPost_ret (by simp[results,Tryz.results177,go_sem, *];try rfl) rfl ?_
   exact⟨rfl,F2,lv2,vs2,Q1.out.back HA.out.sub HA.out.touch⟩
  ·have hm0':(m:Int) > 0:=by omega
   have hj48:j<=48:=by
    rcases Nat.lt_or_ge j 49 with h1|h1
    ·omega
    ·have h3:2 ^ 49<=2 ^ j:=Nat.pow_le_pow_right (by decide) h1
     have h4:c / 2 ^ j=0:=Nat.div_eq_of_lt (by omega)
     have:=HM.out;omega
   have hmd:c / 2 ^ (j+1)=m / 2:=by rw[Nat.pow_succ,<-Nat.div_div_eq_div_mul,HM.out]
   have HPB:Hid (putB (64 - j) j m L1 v=putB (64 - (j+1)) (j+1) (m / 2) (if m % 2=1 then putL L1 j [v] else L1) v):=Lib.hid (by
    rw[show 64 - j=(64 - (j+1))+1 by omega,putB,if_neg hm0])
   have HMD:=Lib.hid hmd
   clear hmd hm
   have hj49:j+1<=49:=by omega
   by_cases hm1:m % 2=1
   ·have hm1':(m:Int) % 2=1:=by omega
    have HPU:=Lib.hid (rput_any j v wr HA.out.st (by omega) (by have:=HA.out.len;omega) (by have:=lvl_le_cnt L1 j;have:=HA.out.cnt;omega))
    go_wp2_with fail
    refine(HPU.out).mono ?_
    rintro e w2 ⟨rfl,F2,lv2,vs2,q1,q2,q3,q4⟩
    have Q1:=Lib.hid q1
    have Q3:=Lib.hid q3
    have Q4:=Lib.hid q4
    clear q1 q2 q3 q4 HPU
    go_wp2_with fail
    go_roundg (64 - (j+1))
    case measure=>have:=HQ.out;omega
    case rel=>
     refine⟨j+1,F2,lv2,vs2,putL L1 j [v],rfl,by omega,by go_num,by rw[HMD.out];go_num,Lib.hid ⟨Q3.out,?_,?_,?_,?_,?_⟩⟩
     ·rw[HA.out.eq,HM.out,HMD.out,HPB.out,if_pos hm1]
     ·rw[putL_length];have:=HA.out.len;omega
     ·rw[cnt_put];have:=HA.out.cnt;simp;omega
     ·intro kk hk1
      rcases Q1.out kk hk1 with h1|h1
      ·exact HA.out.sub kk h1
      ·exact .inr (by omega)
     ·exact HA.out.touch.trans Q4.out fun i hi=>HA.out.sub i hi
   ·have hm1':¬(m:Int) % 2=1:=by omega
    go_wp2_with fail
    go_roundg (64 - (j+1))
    case measure=>have:=HQ.out;omega
    case rel=>
     refine⟨j+1,F1,lv1,vs1,L1,rfl,by omega,by go_num,by rw[HMD.out];go_num,Lib.hid ⟨HA.out.st,?_,HA.out.len,?_,HA.out.sub,HA.out.touch⟩⟩
     ·rw[HA.out.eq,HM.out,HMD.out,HPB.out,if_neg hm1]
     ·have:=HA.out.cnt;omega
theorem radd_zero(g:Nat)(v:Int)(q:Value)(w:World) :
 Calls Tryz.prog 177 #[.pointer (some ⟨g,0,none⟩),.int .i64 v,.int .u64 0,q] w fun e w'=>e=.returned (.int .i64 4)/\w=w':=by
 go_enter Tryz.func177,Tryz.ntmps177
 go_wp2_with fail
 refine bodyPost_ret (by simp[results,Tryz.results177,go_sem, *];try rfl) rfl ?_
 exact⟨rfl,rfl⟩
theorem radd_over{F:Nat->Prop}{g k led:Nat}{lv:Value}{vs:List Sv}{L:LL}(v:Int)(c:Nat)(q:Value)(w:World)(hs:Rst F w g k led lv vs L)(hw:wt L<=281474976710656)(hL:L.length<=49)(hc:281474976710656<wt L+c)(_hc2:c<18446744073709551616) :
 Calls Tryz.prog 177 #[.pointer (some ⟨g,0,none⟩),.int .i64 v,.int .u64 c,q] w fun e w'=>e=.returned (.int .i64 6)/\w=w':=by
 have HTO:=Lib.hid (rtotal_any w hs hw hL)
 obtain⟨n,hn⟩:∃n,wt L=n:=⟨_,rfl⟩
 rw[hn] at hc HTO hw
 have h1:¬(c:Int)=0:=by omega
 have h2:(c:Int) > 281474976710656 - (n:Int):=by omega
 clear hs hn
 go_enter Tryz.func177,Tryz.ntmps177
 go_wp2_with fail
 refine(HTO.out).mono ?_
 rintro e w1 ⟨rfl,rfl⟩
 go_wp2_with fail
 refine bodyPost_ret (by simp[results,Tryz.results177,go_sem, *];try rfl) rfl ?_
 exact⟨rfl,rfl⟩
open Go.RowKit
def LLR(w:World)(v:Value)(L:LL):Prop:=∃vs:List Sv,vs.length=L.length/\RdE slE w v vs/\∀i (h:i<vs.length),RdE i64E w (svV vs[i]) (lvl L i)
theorem StG.llr{t:TypeId}{a:Value}{rest:List Value}{F:Nat->Prop}{w:World}{g:Nat}{lv:Value}{vs:List Sv}{L:LL}(h:StG t a rest F w g lv vs L):LLR w lv L:=
 ⟨vs,h.lev.len,h.lev.row.rd,fun i hi=>(h.lev.each i hi).rd⟩
theorem LLR.form{w:World}{v:Value}{L:LL}(h:LLR w v L):∃A c,v=.slice A L.length c/\L.length<=c/\c<=9223372036854775807:=by
 obtain⟨vs,h1,h2,h3⟩:=h
 obtain⟨A,c,e,h4,h5,_⟩:=h2.form
 rw[h1] at e h4
 exact⟨A,c,e,h4,h5⟩
theorem LLR.at_{w:World}{A:Option Addr}{n c:Nat}{L:LL}(h:LLR w (.slice A n c) L){j:Nat}(hj:j<L.length) :
 ∃gl off sA sc,A=some ⟨gl,off,none⟩/\gl<w.heap.size/\w.cell? ⟨gl,off+j,none⟩=some (.slice sA (lvl L j).length sc)/\RdE i64E w (.slice sA (lvl L j).length sc) (lvl L j):=by
 obtain⟨vs,h1,h2,h3⟩:=h
 obtain⟨A',c',e,_,_,hf⟩:=h2.form
 injection e with e1 e2 e3
 subst e1
 obtain⟨gl,off,hA,hg,hc⟩:=hf.sl (j:=j) (by omega)
 have hr:=h3 j (by omega)
 obtain⟨s,hs⟩:∃s,vs[j]'(by omega)=s:=⟨_,rfl⟩
 rw[hs] at hr hc
 obtain⟨sA,sn,sc⟩:=s
 obtain⟨_,_,es,_,_,_⟩:=hr.form
 injection es with es1 es2 es3
 subst es2
 exact⟨gl,off,sA,sc,hA,hg,hc,hr⟩
structure LLO(base:Nat)(w:World)(v:Value)(vs:List Sv)(L:LL):Prop where
 row:OwnE slE base w v vs
 len:vs.length=L.length
 each:∀i (h:i<vs.length),OwnE i64E base w (svV vs[i]) (lvl L i)
theorem LLO.llr{base:Nat}{w:World}{v:Value}{vs:List Sv}{L:LL}(h:LLO base w v vs L):LLR w v L:=⟨vs,h.len,h.row.rd,fun i hi=>(h.each i hi).rd⟩
theorem LLO.nil_(base:Nat)(w:World):LLO base w (.slice none 0 0) [] []:=⟨OwnE.nil_ _ _,rfl,fun i hi=>absurd hi (by simp)⟩
theorem LLO.snoc{base:Nat}{w w1 w2:World}{v v2:Value}{vs:List Sv}{L:LL}{s:Sv}{l:List Int}(h:LLO base w v vs L)(hb:Below w.heap.size w w1)(hs:OwnE i64E base w1 (svV s) l)
 (ho:OwnE slE base w2 v2 (vs++[s])) (hg:w1.grownBy w2 v.ownBlock) (hd:∀i (hi:i<vs.length) k,(svV vs[i]).ownBlock=some k->v.ownBlock≠some k) (hsd:∀k,(svV s).ownBlock=some k->v.ownBlock≠some k):LLO base w2 v2 (vs++[s]) (L++[l]):=by
 refine⟨ho,by rw[List.length_append,List.length_append,h.len];rfl,fun i hi=>?_⟩
 rcases Nat.lt_or_ge i vs.length with h1|h1
 ·rw[List.getElem_append_left h1]
  have e:lvl (L++[l]) i=lvl L i:=by
   unfold lvl
   simp only[List.getD]
   rw[List.getElem?_append_left (by rw[<-h.len];exact h1)]
  rw[e]
  exact((h.each i h1).keep hb).stay fun k e2=>hg.block k (by have:=((h.each i h1).lt k e2).2;have:=hb.size;omega) (fun e3=>hd i h1 k e2 e3.symm)
 ·have hi':i=vs.length:=by rw[List.length_append] at hi;simp only[List.length_singleton] at hi;omega
  subst hi'
  have e:lvl (L++[l]) vs.length=l:=by
   unfold lvl
   simp only[List.getD]
   rw[h.len,List.getElem?_append_right (Nat.le_refl _)];simp
  rw[e]
  simp only[List.getElem_append_right (Nat.le_refl _),Nat.sub_self,List.getElem_cons_zero]
  exact hs.stay fun k e2=>hg.block k (hs.lt k e2).2 (fun e3=>hsd k e2 e3.symm)
theorem take_snoc{L:LL}{j:Nat}(h:j<L.length):L.take (j+1)=L.take j++[lvl L j]:=by rw[List.take_succ_eq_append_getElem h,lvl_at h]
theorem levels_any{F:Nat->Prop}{g k n led:Nat}{lv:Value}{vs:List Sv}{L:LL}(w:World)(hs:Kst F w g k n led lv vs L)(hL:L.length<=1000)(hl:cnt L<=1000000000) :
 Calls Tryz.prog 157 #[.pointer (some ⟨g,0,none⟩)] w fun e w'=>∃v' vs',e=.returned v'/\LLO w.heap.size w' v' vs' L/\Below w.heap.size w w':=by
 obtain⟨i1,hi0,hiz,his,hib⟩:=info_parts slI
 have JI:=Lib.hid hi0
 have JZ:=Lib.hid hiz
 have JSZ:=Lib.hid his
 have JBY:=Lib.hid hib
 clear hi0 hiz his hib
 obtain⟨A,c,elv,hc1,hc2,_⟩:=hs.form
 have c1:=hs.cell1
 have HS:=Lib.hid hs
 have HC:=Lib.hid (fun j=>Nat.le_trans (lvl_le_cnt L j) hl)
 clear hs
 subst elv
 go_enter Tryz.func157,Tryz.ntmps157
 go_wp2_with fail
 go_loopg [3,5,11] L.length (fun q o _ i wr=>∃(j:Nat) (vs1:List Sv),q=L.length - j/\j<=L.length/\i=.int .i64 (j:Int)/\Hid (LLO w.heap.size wr o vs1 (L.take j))/\Hid (∀s∈vs1,∀k,(svV s).ownBlock=some k->o.ownBlock≠some k)/\Hid (Below w.heap.size w wr))
 case atStart=>exact⟨0,[],by omega,by omega,rfl,Lib.hid (LLO.nil_ _ _),Lib.hid (fun i hi=>absurd hi (by simp)),Lib.hid (Below.refl _ _)⟩
 case round=>
  obtain⟨j,vs1,hq,hj,rfl,HO,HD,HB⟩:=hrel
  have HQ:=Lib.hid hq
  clear hq
  have hz:=HB.out.size
  by_cases hjl:j<L.length
  ·obtain⟨gl,cc,sA,sc,elv,hgl,_,_,_,c2,_,ol,_⟩:=HS.out.at_ hjl
   injection elv with elv e2 e3
   subst elv;subst e3
   have HCL:=Lib.hid (clone_i64 _ (lvl L j) wr (ol.rd.keep HB.out) (by have:=HC.out j;omega))
   have HTS:=Lib.hid (take_snoc hjl)
   have c3:=(HB.out.cell (p:=⟨gl,j,none⟩) hgl).trans c2
   obtain⟨x,hx⟩:∃x,lvl L j=x:=⟨_,rfl⟩
   rw[hx] at HTS HCL c3
   have hvl:vs1.length=j:=by rw[HO.out.len,List.length_take];omega
   obtain⟨A1,c1',rfl,_,_,_⟩:=HO.out.row.form
   rw[hvl] at HO HD |-
   clear hx ol c2
   go_wp2_with fail
   refine(HCL.out).mono ?_
   rintro e w1 ⟨s,rfl,os,b1⟩
   obtain⟨sA2,sn2,sc2⟩:=s
   obtain⟨_,_,es,_,_,_⟩:=os.form
   injection es with _ es2 _
   subst es2
   have OS:=Lib.hid os
   have B1:=Lib.hid b1
   have HR1:=Lib.hid (HO.out.row.keep b1)
   have hz1:=b1.size
   have hxl:vs1.length<=1000:=by omega
   simp only[svV]
   clear os b1 HCL c3
   go_wp2_with (at_builtin;refine wpList_append_E slE (ts:=152) i1 _ 24 Tryz.underlying152 JI.out JZ.out JSZ.out JBY.out rfl (by decide) (by decide) rfl (.tmp 15) (.tmp 18) rfl w.heap.size (.slice A1 j c1') vs1 rfl (HR1.out.alloc _) _ [(sA2,x.length,sc2)] rfl (RdE.one_at (E:=slE) w1 (sA2,x.length,sc2) _ rfl _ rfl _ rfl) (by simp;omega) (by simp;omega) ?_;intro v7 w7 o7 g7 a7;have O7:=Lib.hid o7;have G7:=Lib.hid g7;have A7:=Lib.hid a7;clear o7 g7 a7)
   have hd:∀s∈vs1,∀k,(svV s).ownBlock=some k->k<wr.heap.size:=fun s hs k e=>by
    obtain⟨i,hi,rfl⟩:=List.getElem_of_mem hs
    exact((HO.out.each i hi).lt k e).2
   have hbw:Below wr.heap.size wr (w1.alloc (.cells #[.slice sA2 x.length sc2] 236)):=B1.out.alloc hz1 _
   have hnew:∀k,(Value.slice A1 j c1').ownBlock=some k->w.heap.size<=k/\k<wr.heap.size:=fun k e=>HO.out.row.lt k e
   have hfr:∀k,(svV (sA2,x.length,sc2)).ownBlock=some k->wr.heap.size<=k/\k<w1.heap.size:=fun k e=>OS.out.lt k e
   have hlo:=LLO.snoc HO.out hbw (OS.out.alloc _ |>.more hz) O7.out G7.out (fun i hi k e=>HD.out _ (List.getElem_mem hi) k e) (fun k e e2=>by have:=hfr k e;have:=hnew k e2;omega)
   rw[<-HTS.out] at hlo
   have HLO:=Lib.hid hlo
   have HDD:Hid (∀s∈vs1++[(sA2,x.length,sc2)],∀k,(svV s).ownBlock=some k->v7.ownBlock≠some k):=Lib.hid fun s hs k e=>by
    have hasz:(w1.alloc (.cells #[.slice sA2 x.length sc2] 236)).heap.size=w1.heap.size+1:=by simp
    rcases List.mem_append.1 hs with h1|h1
    ·rcases A7.out with e2|e2
     ·rw[e2];exact HD.out s h1 k e
     ·rw[e2];intro e3
      have e3:=Option.some.inj e3
      have:=hd s h1 k e;omega
    ·obtain rfl:=List.mem_singleton.1 h1
     have h2:=hfr k e
     rcases A7.out with e2|e2
     ·rw[e2];intro e3
      have:=hnew k e3;omega
     ·rw[e2];intro e3
      have e3:=Option.some.inj e3
      omega
   have HBB:Hid (Below w.heap.size w w7):=Lib.hid ((HB.out.trans (hbw.mono hz)).grown G7.out (by simp;omega) (fun k hk=>(hnew k hk).1))
   clear hlo hd hbw hnew hfr
   go_wp2_with fail
   go_roundg (L.length - (j+1))
   case measure=>have:=HQ.out;omega
   case rel=>exact⟨j+1,_,rfl,by omega,by go_num,HLO,HDD,HBB⟩
  ·obtain rfl:j=L.length:=by omega
   go_wp2_with fail
   refine bodyPost_ret (by simp[results,Tryz.results157,go_sem, *];try rfl) rfl ?_
   have ho:=HO.out
   rw[List.take_length] at ho
   exact⟨_,_,rfl,ho,HB.out⟩
open Go.RowKit
open Go.RowKit
theorem PkOk.lenL{L:LL}{led a:Nat}(h:PkOk (L,led,a)):L.length<=49:=h.len
theorem PkOk.cntL{L:LL}{led a:Nat}(h:PkOk (L,led,a)):Go.Proofs.YtkiebccnpheloaaGreat.K.cnt L<=1000000:=h.cnt
theorem PkOk.wtL{L:LL}{led a:Nat}(h:PkOk (L,led,a)):Go.Proofs.YtkiebccnpheloaaGreat.K.wt L<=281474976710656:=h.wt
open Go.RowKit
open Go.RowKit
def allV(L:LL):List Int:=L.flatten
open Go.RowKit Go.Lib
open Go.RowKit
open Go.RowKit
open Go.RowKit
structure Fit(k:Nat)(L:LL)(led:Nat):Prop where
 ok:PkOk (L,led,0)
 none:fullN k L=none
theorem PkOk.coin{L:LL}{led a b:Nat}(h:PkOk (L,led,a)):PkOk (L,led,b):=⟨h.srt,h.top,h.wt,h.cnt,h.led⟩
theorem Fit.pk{k led a:Nat}{L:LL}(h:Fit k L led):PkOk (L,led,a):=h.ok.coin
theorem cnt_rooms:∀(L:LL) (k:Nat),(∀j,j<L.length->(lvl L j).length<=k)->cnt L<=L.length * k
 | [],k,_=>by simp[cnt]
 | l::L,k,h=>by
  have h0:=h 0 (by simp)
  have ih:=cnt_rooms L k fun j hj=>by
   have:=h (j+1) (by simpa using hj)
   simpa[lvl] using this
  rw[cnt_cons,List.length_cons,Nat.add_mul]
  simp only[lvl,List.getD_cons_zero] at h0
  omega
theorem Fit.cnt{k led:Nat}{L:LL}(h:Fit k L led)(h2:2<=k)(hk:k<=4096):Go.Proofs.YtkiebccnpheloaaGreat.K.cnt L<=200704:=by
 have h1:=cnt_rooms L k fun j hj=>Nat.le_trans (fullN_none h.none j hj) (room_le h2)
 have h3:L.length * k<=49 * 4096:=Nat.mul_le_mul h.ok.lenL hk
 omega
theorem Fit.nil_(k:Nat):Fit k [] 0:=⟨⟨fun j=>by simp[lvl],fun h=>absurd h (by simp),by decide,by decide,by decide⟩,rfl⟩
def addE(L:LL)(n:Nat):Int:=if n=0 then 4 else if 281474976710656<wt L+n then 6 else 0
def addS(k:Nat)(B:List Int)(v:Int)(n:Nat)(s:KS):KS:=if addE s.1 n=0 then packA k B (addL s.1 v n,s.2.1,s.2.2) else s
theorem packA_fit{k:Nat}{B:List Int}{s:KS}(h:PkOk s):Fit k (packA k B s).1 (packA k B s).2.1:=by
 have h1:=packA_keep (k:=k) (B:=B) (P:=PkOk) (fun s j h1 h2=>h1.step h2) h
 exact⟨PkOk.coin (a:=(packA k B s).2.2) h1,packA_done k B s⟩
theorem packA_wt{k:Nat}{B:List Int}(s:KS):wt (packA k B s).1=wt s.1:=by
 refine packA_keep (k:=k) (B:=B) (P:=fun t=>wt t.1=wt s.1) (fun t h h1 h2=>?_) rfl
 show wt (packS t.1 h (coinAt B t.2.2))=_
 rw[packS_wt (fullN_some h2).1];exact h1
theorem addE_zero{L:LL}{n:Nat}(h:addE L n=0):0<n/\wt L+n<=281474976710656:=by
 unfold addE at h
 by_cases h1:n=0
 ·rw[if_pos h1] at h;cases h
 ·rw[if_neg h1] at h
  by_cases h2:281474976710656<wt L+n
  ·rw[if_pos h2] at h;cases h
  ·omega
theorem addS_fit{k n:Nat}{B:List Int}{v:Int}{s:KS}(h:Fit k s.1 s.2.1)(h2:2<=k)(hk:k<=4096):Fit k (addS k B v n s).1 (addS k B v n s).2.1:=by
 unfold addS
 split
 ·rename_i h0
  exact packA_fit (pkOk_add h.pk v n (addE_zero h0).2 (by have:=h.cnt h2 hk;omega))
 ·exact h
theorem addS_wt{k n:Nat}{B:List Int}{v:Int}{s:KS}:wt (addS k B v n s).1=if addE s.1 n=0 then wt s.1+n else wt s.1:=by
 unfold addS
 split
 ·rename_i h0
  rw[packA_wt]
  exact addL_wt _ _ (by have:=addE_zero h0;omega)
 ·rfl
def KAt(F:Nat->Prop)(w:World)(g k:Nat)(L:LL)(led:Nat):Prop:=∃lv vs,Kst F w g k (wt L) led lv vs L
def RAt(F:Nat->Prop)(w:World)(g k:Nat)(L:LL)(led:Nat):Prop:=∃lv vs,Rst F w g k led lv vs L
theorem KAt.stay{F:Nat->Prop}{w w':World}{g k led:Nat}{L:LL}(h:KAt F w g k L led)(hk:∀x,F x->w'.heap[x]?=w.heap[x]?)(hz:w.heap.size<=w'.heap.size):KAt F w' g k L led:=by
 obtain⟨lv,vs,h⟩:=h
 exact⟨lv,vs,h.stay hk hz⟩
theorem RAt.stay{F:Nat->Prop}{w w':World}{g k led:Nat}{L:LL}(h:RAt F w g k L led)(hk:∀x,F x->w'.heap[x]?=w.heap[x]?)(hz:w.heap.size<=w'.heap.size):RAt F w' g k L led:=by
 obtain⟨lv,vs,h⟩:=h
 exact⟨lv,vs,h.stay hk hz⟩
end Go.Proofs.YtkiebccnpheloaaGreat.K
namespace Go.Proofs.YtkiebccnpheloaaGreat.D
open Go.RowKit Go.Lib Go.Shelf
inductive Spk where
 | h (lo hi dg u m:Nat) (gr:Bool)
 | d (a m:Nat)
 | t (d:Nat)
 | k (q:Nat)
structure Js where
 bk:Nat
 l:List Pr
 s:St
 L:K.LL
 led:Nat
def ptrV(p:Nat):Value:=.pointer (some ⟨p,0,none⟩)
def Spk.v:Spk->Value
 | .h lo hi dg _ _ gr=>specV 1 lo hi dg gr 0 0
 | .d a m=>specV 2 0 0 0 false a m
 | .t e=>specV 3 0 0 0 false 0 e
 | .k q=>specV 4 0 0 0 false 0 q
def Spk.cs:Spk->List Value
 | .h lo hi dg _ _ gr=>[.int .u8 1,.int .i64 lo,.int .i64 hi,.int .i64 dg,.bool gr,.int .i64 0,.int .i64 0]
 | .d a m=>[.int .u8 2,.int .i64 0,.int .i64 0,.int .i64 0,.bool false,.int .i64 a,.int .i64 m]
 | .t e=>[.int .u8 3,.int .i64 0,.int .i64 0,.int .i64 0,.bool false,.int .i64 0,.int .i64 e]
 | .k q=>[.int .u8 4,.int .i64 0,.int .i64 0,.int .i64 0,.bool false,.int .i64 0,.int .i64 q]
def Spk.five(p:Nat):Spk->Array Value
 | .h ..=>#[.int .u8 1,ptrV p,.pointer none,.pointer none,.pointer none]
 | .d ..=>#[.int .u8 2,.pointer none,ptrV p,.pointer none,.pointer none]
 | .t ..=>#[.int .u8 3,.pointer none,.pointer none,ptrV p,.pointer none]
 | .k ..=>#[.int .u8 4,.pointer none,.pointer none,.pointer none,ptrV p]
def Spk.four(p:Nat):Spk->List Value
 | .h ..=>[ptrV p,.pointer none,.pointer none,.pointer none]
 | .d ..=>[.pointer none,ptrV p,.pointer none,.pointer none]
 | .t ..=>[.pointer none,.pointer none,ptrV p,.pointer none]
 | .k ..=>[.pointer none,.pointer none,.pointer none,ptrV p]
def InAt(sp:Spk)(c:Js)(p:Nat)(G:Ft)(w:World):Prop:=match sp with
 | .h lo hi dg u m gr=>HsAt p lo hi dg u m gr c.bk c.l G w
 | .d a m=>DdAt p a m c.l G w
 | .t d=>DgS w p G d c.s
 | .k q=>K.KAt G w p q c.L c.led
def RInAt(sp:Spk)(c:Js)(p:Nat)(G:Ft)(w:World):Prop:=match sp with
 | .h lo hi dg u m gr=>RHdAt p lo hi dg u m gr c.bk c.l G w
 | .d a m=>RDdAt p a m c.l G w
 | .t d=>RDgS w p G d c.s
 | .k q=>K.RAt G w p q c.L c.led
theorem dg_stay(p:Nat)(d:Int)(s:St):Stay (fun G w=>DgS w p G d s) where
 stay:=fun h hk hz=>Dg.stay h hk hz
 more:=fun⟨lv,wv,h1,h2,h3,h4,h5,h6,h7,_⟩ h hl=>⟨lv,wv,h1,h2,h3,h _ h4,fun k e=>h k (h5 k e),fun k e=>h k (h6 k e),h7,hl⟩
 low:=fun h=>Dg.low h
theorem rdg_stay(p:Nat)(d:Int)(s:St):Stay (fun G w=>RDgS w p G d s) where
 stay:=fun h hk hz=>RDg.stay h hk hz
 more:=fun⟨lv,wv,h1,h2,h3,h4,h5,h6,h7,_⟩ h hl=>⟨lv,wv,h1,h2,h3,h _ h4,fun k e=>h k (h5 k e),fun k e=>h k (h6 k e),h7,hl⟩
 low:=fun h=>RDg.low h
theorem k_stay(p q:Nat)(L:K.LL)(led:Nat):Stay (fun G w=>K.KAt G w p q L led) where
 stay:=fun h hk hz=>h.stay hk hz
 more:=fun⟨lv,vs,h⟩ hG hl=>⟨lv,vs,⟨h.blk,h.lev.mono hG,hG _ h.fg,h.g1,h.g2,hl⟩⟩
 low:=fun⟨_,_,h⟩=>h.low
theorem rk_stay(p q:Nat)(L:K.LL)(led:Nat):Stay (fun G w=>K.RAt G w p q L led) where
 stay:=fun h hk hz=>h.stay hk hz
 more:=fun⟨lv,vs,h⟩ hG hl=>⟨lv,vs,⟨h.blk,h.lev.mono hG,hG _ h.fg,h.g1,h.g2,hl⟩⟩
 low:=fun⟨_,_,h⟩=>h.low
theorem in_stay(sp:Spk)(c:Js)(p:Nat):Stay (InAt sp c p):=by
 cases sp with
 | h lo hi dg u m gr=>exact hs_stay p lo hi dg u m gr c.bk c.l
 | d a m=>exact dd_stay p a m c.l
 | t d=>exact dg_stay p d c.s
 | k q=>exact k_stay p q c.L c.led
theorem rin_stay(sp:Spk)(c:Js)(p:Nat):Stay (RInAt sp c p):=by
 cases sp with
 | h lo hi dg u m gr=>exact rhd_stay p lo hi dg u m gr c.bk c.l
 | d a m=>exact rdd_stay p a m c.l
 | t d=>exact rdg_stay p d c.s
 | k q=>exact rk_stay p q c.L c.led
def JsAt(sp:Spk)(c:Js)(x:Nat)(F:Ft)(w:World):Prop:=∃p G,Blk w x 117 (sp.five p)/\InAt sp c p G w/\F x/\¬G x/\(∀k,G k->F k)/\∀k,F k->k<w.heap.size
def RJsAt(sp:Spk)(c:Js)(x:Nat)(F:Ft)(w:World):Prop:=∃p G,Blk w x 146 (sp.cs++sp.four p).toArray/\RInAt sp c p G w/\F x/\¬G x/\(∀k,G k->F k)/\∀k,F k->k<w.heap.size
theorem js_stay(sp:Spk)(c:Js)(x:Nat):Stay (JsAt sp c x) where
 stay:=fun⟨p,G,h1,h2,h3,h4,h5,h6⟩ hk hz=>⟨p,G,(hk x h3).trans h1,(in_stay sp c p).stay h2 (fun k e=>hk k (h5 k e)) hz,h3,h4,h5,fun k h=>Nat.lt_of_lt_of_le (h6 k h) hz⟩
 more:=fun⟨p,G,h1,h2,h3,h4,h5,_⟩ h hl=>⟨p,G,h1,h2,h x h3,h4,fun k e=>h k (h5 k e),hl⟩
 low:=fun⟨_,_,_,_,_,_,_,h6⟩=>h6
theorem rjs_stay(sp:Spk)(c:Js)(x:Nat):Stay (RJsAt sp c x) where
 stay:=fun⟨p,G,h1,h2,h3,h4,h5,h6⟩ hk hz=>⟨p,G,(hk x h3).trans h1,(rin_stay sp c p).stay h2 (fun k e=>hk k (h5 k e)) hz,h3,h4,h5,fun k h=>Nat.lt_of_lt_of_le (h6 k h) hz⟩
 more:=fun⟨p,G,h1,h2,h3,h4,h5,_⟩ h hl=>⟨p,G,h1,h2,h x h3,h4,fun k e=>h k (h5 k e),hl⟩
 low:=fun⟨_,_,_,_,_,_,_,h6⟩=>h6
theorem js_turn{sp:Spk}{c':Js}{x p:Nat}{F G H:Ft}{w w':World}(hB:Blk w x 117 (sp.five p))(hFx:F x)(hGx:¬G x)(hGF:∀k,G k->F k)(hF:∀k,F k->k<w.heap.size)(hc:InAt sp c' p (Gr G w w') w')(ht:Touch (fun k=>G k\/H k) w w')(hH:∀k,H k->¬F k) :
 JsAt sp c' x (Gr F w w') w'/\Touch (fun k=>F k\/H k) w w':=
 ⟨⟨p,Gr G w w',(ht.block x hB.lt (fun h=>h.elim hGx (fun h=>hH x h hFx))).trans hB,hc,.inl hFx,fun h=>h.elim hGx (fun h=>by have:=hB.lt;omega),fun k h=>h.imp (hGF k) id,gr_lt hF ht.size⟩,ht.mono fun k h=>h.imp (hGF k) id⟩
theorem rjs_turn{sp:Spk}{c':Js}{x p:Nat}{F G H:Ft}{w w':World}(hB:Blk w x 146 (sp.cs++sp.four p).toArray)(hFx:F x)(hGx:¬G x)(hGF:∀k,G k->F k)(hF:∀k,F k->k<w.heap.size)(hc:RInAt sp c' p (Gr G w w') w')(ht:Touch (fun k=>G k\/H k) w w')(hH:∀k,H k->¬F k) :
 RJsAt sp c' x (Gr F w w') w'/\Touch (fun k=>F k\/H k) w w':=
 ⟨⟨p,Gr G w w',(ht.block x hB.lt (fun h=>h.elim hGx (fun h=>hH x h hFx))).trans hB,hc,.inl hFx,fun h=>h.elim hGx (fun h=>by have:=hB.lt;omega),fun k h=>h.imp (hGF k) id,gr_lt hF ht.size⟩,ht.mono fun k h=>h.imp (hGF k) id⟩
def CnAt(q:Value)(B:List Int)(a:Nat)(H:Ft)(w:World):Prop:=(q=.pointer none/\B=[]/\a=0/\∀k,¬H k)\/∃cg r cv,q=ptrV cg/\K.KC w cg r cv B a/\H cg/\H r/\(∀k,cv.ownBlock=some k->H k)/\∀k,H k->k<w.heap.size
def RCnAt(o:Nat)(q:Value)(B:List Int)(a:Nat)(H:Ft)(w:World):Prop:=∃dg dv,q=ptrV dg/\K.RC w dg dv B a/\H dg/\(∀k,dv.ownBlock=some k->k<o\/H k)/\∀k,H k->k<w.heap.size
def MutC(P C:Ft->World->Prop)(F H:Ft)(er:Int)(w:World)(e:Ending)(w':World):Prop:=e=.returned (.int .i64 er)/\P (Gr F w w') w'/\C H w'/\Touch (fun k=>F k\/H k) w w'
end Go.Proofs.YtkiebccnpheloaaGreat.D
namespace Go.Proofs.YtkiebccnpheloaaGreat.K
open Go.RowKit
theorem new_any(k:Nat)(w:World)(h8:8<=k)(hk:k<=4096) :
 Calls Tryz.prog 232 #[.int .i64 k] w fun e w'=>e=.returned (.tuple #[.pointer (some ⟨w.heap.size,0,none⟩),.int .i64 0])/\w'=w.alloc (.cells #[.int .i64 k,.slice none 0 0,.int .u64 0,.int .u64 0] 249):=by
 have h1:¬(k:Int)<8:=by omega
 have h2:¬(k:Int) > 4096:=by omega
 go_enter Tryz.func232,Tryz.ntmps232
 go_wp2_with fail
 go_ret2
 exact⟨rfl,rfl⟩
theorem stG_new{t:TypeId}{a:Value}{rest:List Value}{w:World}{g:Nat}(h:Blk w g t (a::.slice none 0 0::rest).toArray):StG t a rest (fun x=>x=g) w g (.slice none 0 0) [] []:=
 ⟨h,⟨OwnE.nil_ _ _,rfl,fun i hi=>absurd hi (by simp),fun i hi=>absurd hi (by simp),fun i j hi=>absurd hi (by simp),fun k e=>by simp[Value.ownBlock] at e,fun i hi=>absurd hi (by simp)⟩,rfl,by simp[Value.ownBlock],fun i hi=>absurd hi (by simp),fun k hk=>by rw[show k=g from hk];exact h.lt⟩
theorem kAt_new(k:Nat)(w:World):KAt (fun x=>x=w.heap.size) (w.alloc (.cells #[.int .i64 k,.slice none 0 0,.int .u64 0,.int .u64 0] 249)) w.heap.size k [] 0:=⟨_,_,stG_new (Blk.new w _ _)⟩
open Go.RowKit
open Go.RowKit
open Go.RowKit
theorem srt_next{l:List Int}(h:Srt l){j:Nat}(hj:j+1<l.length):l[j]<=l[j+1]:=List.pairwise_iff_getElem.1 h j (j+1) (by omega) hj (by omega)
end Go.Proofs.YtkiebccnpheloaaGreat.K
