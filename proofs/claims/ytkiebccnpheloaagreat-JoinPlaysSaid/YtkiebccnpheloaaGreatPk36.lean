/- Parts of a proof: what its theorem reaches, words cut short. No condition of its own. -/
import Derived.Test.YtkiebccnpheloaaGreatPk35
set_option maxRecDepth 100000
set_option maxHeartbeats 16000000
set_option linter.unusedVariables false
set_option linter.unusedSimpArgs false
namespace Go.Proofs.YtkiebccnpheloaaGreat.K
open Go.RowKit
theorem vF{L:LL}{j:Nat}(h:j<L.length):qO 1 (L.take (j+1))=qO 1 (L.take j)+(lvl L j).length * 2 ^ j:=by
 rw[aT h,oH,bg,Nat.min_eq_left ae,jV h]
 simp[qO]
theorem zQ(L:LL)(j:Nat):qO 1 (L.take j)<=wt L:=by
 unfold wt
 conv=>rhs;rw[<-List.take_append_drop j L,oH]
 omega
theorem ay2{j:Nat}(h:j<=49):2 ^ j<=562949953421312:=bG (Nat.pow_le_pow_right af h) af
theorem fE{F:Nat->Prop}{g k led:Nat}{lv:Value}{vs:List Sv}{L:LL}(w:World)(hs:DR F w g k led lv vs L)(hw:wt L<=281474976710656)(hL:L.length<=49) :
 Calls Tryz.prog 130 #[.pointer (some ⟨g,0,none⟩)] w fun e w'=>e=.returned (.int .u64 (wt L:Nat))/\w=w':=by
 obtain⟨A,c,p_,hc1,hc2,_⟩:=hs.form;have c1:=hs.cell1;have HS:=aB hs;have HTL:=aB (fun j=>bG (zQ L j) hw)
 have HC:=aB (show qO 1 (L.take L.length)=wt L by rw[List.take_length];rfl)
 clear hs;subst p_
 go_enter Tryz.func130,Tryz.ntmps130
 go_wp2_with fail
 go_loopg [3,4,5] L.length (fun q n p i wr=>(∃j:Nat,q=L.length - j/\j<=L.length/\n=.int .u64 ((qO 1 (L.take j):Nat):Int)/\p=.int .u64 ((2 ^ j:Nat):Int)/\i=.int .i64 (j:Int))/\w=wr)
 case atStart=>exact⟨⟨0,ae,ae,rfl,rfl,rfl⟩,rfl⟩
 case round=>
  obtain⟨⟨j,hq,hj,rfl,rfl,rfl⟩,rfl⟩:=hrel;have HQ:=aB hq;clear hq;have hpb:=ay2 (j:=j) (by omega)
  have HPE:Hid (2 ^ (j+1)=2 * 2 ^ j):=aB (by rw[Nat.pow_succ];omega)
  by_cases hjl:j<L.length
  ·obtain⟨gl,cc,sA,sc,p_,hgl,_,_,_,c2,_,_,_⟩:=HS.out.at_ hjl
   injection p_ with p_ e2 e3;subst p_;subst e3;have HT1:Hid (qO 1 (L.take (j+1))=qO 1 (L.take j)+(lvl L j).length * 2 ^ j):=aB (vF hjl);have hb:=HTL.out (j+1);obtain⟨t1,ht1⟩:∃t1,qO 1 (L.take (j+1))=t1:=⟨_,rfl⟩;obtain⟨t0,ht0⟩:∃t0,qO 1 (L.take j)=t0:=⟨_,rfl⟩;obtain⟨x,hx⟩:∃x,(lvl L j).length=x:=⟨_,rfl⟩;obtain⟨p,hp⟩:∃p,2 ^ j=p:=⟨_,rfl⟩;rw[hx] at c2;rw[ht1] at hb;rw[ht1,ht0,hx,hp] at HT1;rw[hp] at hpb HPE;rw[ht0,hp];have bh6:=aB ht1;obtain⟨m,hm⟩:∃m,x * p=m:=⟨_,rfl⟩;rw[hm] at HT1;have Ir:(x:Int) * (p:Int)=(m:Int):=by rw[<-hm];simp
   have hmb:m+t0=t1:=by have:=HT1.out;omega
   have HXB:x<=18446744073709551615:=by
    obtain⟨_,_,e,h1,h2,_⟩:=((HS.out.fJ.each j (by rw[HS.out.fJ.len];exact hjl))).form
    omega
   clear hx hp ht0 ht1 hm
   go_wp2_with fail
   go_roundg (L.length - (j+1))
   case measure=>have:=HQ.out;omega
   case rel=>exact⟨⟨j+1,rfl,ae,by rw[bh6.out];go_num,by rw[HPE.out];go_num,ai⟩,rfl⟩
  ·obtain rfl:j=L.length:=ae
   rw[HC.out]
   go_wp2_with fail;refine bodyPost_ret (by simp[results,Tryz.results130,go_sem, *];try rfl) rfl ?_
   exact⟨rfl,rfl⟩
section
variable {F : Nat -> Prop} {g k n led : Nat} {lv : Value} {vs : List Sv} {L : LL}
theorem size_any(w:World)(hs:rV F w g k n led lv vs L) :
 Calls Tryz.prog 73 #[.pointer (some ⟨g,0,none⟩)] w fun e w'=>e=.returned (.int .i64 (k:Nat))/\w=w':=by
 have c0:=hs.cell0;clear hs
 go_enter Tryz.func73,Tryz.ntmps73
 go_wp2_with fail;refine bodyPost_ret (by simp[results,Tryz.results73,go_sem, *];try rfl) rfl ?_
 exact⟨rfl,rfl⟩
theorem total_any(w:World)(hs:rV F w g k n led lv vs L) :
 Calls Tryz.prog 126 #[.pointer (some ⟨g,0,none⟩)] w fun e w'=>e=.returned (.int .u64 (n:Nat))/\w=w':=by
 have c0:=hs.cell2;clear hs
 go_enter Tryz.func126,Tryz.ntmps126
 go_wp2_with fail;refine bodyPost_ret (by simp[results,Tryz.results126,go_sem, *];try rfl) rfl ?_
 exact⟨rfl,rfl⟩
theorem PR(w:World)(hs:rV F w g k n led lv vs L) :
 Calls Tryz.prog 159 #[.pointer (some ⟨g,0,none⟩)] w fun e w'=>e=.returned (.int .u64 (led:Nat))/\w=w':=by
 have c0:=hs.zN;clear hs
 go_enter Tryz.func159,Tryz.ntmps159
 go_wp2_with fail;refine bodyPost_ret (by simp[results,Tryz.results159,go_sem, *];try rfl) rfl ?_
 exact⟨rfl,rfl⟩
theorem Fp{L:LL}{j:Nat}(h:j<L.length):cnt (L.take (j+1))=cnt (L.take j)+(lvl L j).length:=by
 rw[aT h,oG,jV h];simp[cnt]
theorem tV(L:LL)(j:Nat):cnt (L.take j)<=cnt L:=by
 conv=>rhs;rw[<-List.take_append_drop j L,oG]
 omega
end
theorem zO.next{F F1:Nat->Prop}{w wr:World}{cg:Nat}{cv:Value}(h:zO F w cg cv)(hs:∀k,F1 k->F k\/w.heap.size<=k)(hz:w.heap.size<=wr.heap.size):zO F1 wr cg cv:=by
 have a2:=h.lg;refine⟨fun e=>?_,fun k e=>⟨fun e2=>?_,?_⟩,ae⟩
 ·rcases hs cg e with e|e
  ·exact h.fg e
  ·omega
 ·have:=h.fv k e
  rcases hs k e2 with e3|e3
  ·exact this.1 e3
  ·omega
 ·have:=(h.fv k e).2;omega
theorem RC.touch{F:Nat->Prop}{w w':World}{cg a:Nat}{cv:Value}{B:List Int}(h:RC w cg cv B a)(hf:zO F w cg cv)(ht:Touch F w w'):RC w' cg cv B a:=
 h.stay (ht.block cg hf.lg hf.fg) (fun k e=>ht.block k (hf.fv k e).2 (hf.fv k e).1) ht.size
theorem zh.back{F F1:Nat->Prop}{w wr w':World}{g k cg:Nat}{cv lv:Value}{B:List Int}{s0 s:KS}{F':Nat->Prop}{vs:List Sv}(h:zh F1 wr g k cg cv B s0 F' w' lv vs s)
 (h1:∀k,F1 k->F k\/w.heap.size<=k) (ht:Touch F w wr):zh F w g k cg cv B s0 F' w' lv vs s:=by
 have hz:=ht.size;refine⟨h.st,h.co,h.ok,h.eq,fun kk e=>?_,?_⟩
 ·rcases h.sub kk e with e|e
  ·exact h1 kk e
  ·exact .inr ae
 ·refine(ht.mono (G:=fun k=>F k\/k=cg) fun _ hi=>.inl hi).trans h.touch fun i hi=>?_
  rcases hi with hi|hi
  ·rcases h1 i hi with e|e
   ·exact .inl (.inl e)
   ·exact .inr e
  ·exact .inl (.inr hi)
structure aj9(F:Nat->Prop)(w:World)(g k led:Nat)(v:Int)(c:Nat)(L:LL)(j:Nat)(F1:Nat->Prop)(wr:World)(lv:Value)(vs:List Sv)(L1:LL):Prop where
 st:DR F1 wr g k led lv vs L1
 eq:gW L v c=nM (64 - j) j (c / 2 ^ j) L1 v
 len:L1.length<=49
 cnt:cnt L1<=cnt L+j
 sub:∀k,F1 k->F k\/w.heap.size<=k
 touch:Touch F w wr
theorem Cj{F:Nat->Prop}{g k led cg a c:Nat}{cv lv:Value}{vs:List Sv}{B:List Int}{L:LL}(v:Int)(w:World)(hs:DR F w g k led lv vs L)(hco:RC w cg cv B a)(hf:zO F w cg cv)(hok:ja (L,led,a))
 (hc0:0<c) (hc:wt L+c<=281474976710656) (hcn:cnt L<=900000) (h2:2<=k) (hk:k<=1000000) :
 Calls Tryz.prog 177 #[.pointer (some ⟨g,0,none⟩),.int .i64 v,.int .u64 c,.pointer (some ⟨cg,0,none⟩)] w fun e w'=>e=.returned (.int .i64 0)/\∃F' pX vs',zh F w g k cg cv B (gW L v c,led,a) F' w' pX vs' (gB k B (gW L v c,led,a)):=by
 have HA0:Hid (aj9 F w g k led v c L 0 F w lv vs L):=aB ⟨hs,by simp[gW],hok.len,aK _,fun _ h=>.inl h,Touch.refl _ _⟩
 have IU:=aB (fE w hs hok.wt hok.len);have HCO:=aB hco;have HF:=aB hf;have oN:=aB hok;have qF:=aB (tN hok v c ae hcn)
 obtain⟨n,hn⟩:∃n,wt L=n:=⟨_,rfl⟩;rw[hn] at hc IU;clear hs hco hf hok hn;have hc1:¬(c:Int)=0:=ae
 have hc2:¬(c:Int) > 281474976710656 - (n:Int):=ae
 go_enter Tryz.func177,Tryz.ntmps177
 go_wp2_with fail;refine(IU.out).mono ?_
 rintro e w1 ⟨rfl,rfl⟩
 go_wp2_with fail
 go_loopg [9,10] 64 (fun q i m wr=>∃(j:Nat) (F1:Nat->Prop) (oP:Value) (vs1:List Sv) (L1:LL),q=64 - j/\j<=49/\i=.int .i64 (j:Int)/\m=.int .u64 ((c / 2 ^ j:Nat):Int)/\Hid (aj9 F w g k led v c L j F1 wr oP vs1 L1))
 case atStart=>exact⟨0,F,lv,vs,L,rfl,ae,rfl,ag,HA0⟩
 case round=>
  obtain⟨j,F1,oP,vs1,L1,hq,hj,rfl,rfl,HA⟩:=hrel;have HQ:=aB hq;clear hq;obtain⟨m,hm⟩:∃m,c / 2 ^ j=m:=⟨_,rfl⟩;have hmc:m<=c:=by rw[<-hm];exact Nat.div_le_self ..
  rw[hm];have HM:=aB hm;have hsz:=HA.out.touch.size
  by_cases hm0:m=0
  ·have Yq:¬(m:Int) > 0:=ae
   have hEQ:L1=gW L v c:=by rw[HA.out.eq,HM.out,hm0,yY]
   subst hEQ;have HP:=aB (GL (s0:=(gW L v c,led,a)) wr HA.out.st (HCO.out.touch HF.out HA.out.touch) (HF.out.next HA.out.sub hsz) qF.out h2 hk);clear hm
   go_wp2_with fail;refine(HP.out).mono ?_
   rintro e w2 ⟨rfl,F2,Af,vs2,q1⟩;have Q1:=aB q1;clear q1 HP
   go_wp2_with fail;refine bodyPost_ret (by simp[results,Tryz.results177,go_sem, *];try rfl) rfl ?_
   exact⟨rfl,F2,Af,vs2,Q1.out.back HA.out.sub HA.out.touch⟩
  ·have Yq:(m:Int) > 0:=ae
   have ax5:j<=48:=by
    rcases bJ j 49 with h1|h1
    ·omega
    ·have h3:2 ^ 49<=2 ^ j:=Nat.pow_le_pow_right af h1
     have h4:c / 2 ^ j=0:=Nat.div_eq_of_lt ae
     have:=HM.out;omega
   have hmd:c / 2 ^ (j+1)=m / 2:=by rw[Nat.pow_succ,<-Nat.div_div_eq_div_mul,HM.out]
   have VL:Hid (nM (64 - j) j m L1 v=nM (64 - (j+1)) (j+1) (m / 2) (if m % 2=1 then jP L1 j [v] else L1) v):=aB (by
    rw[show 64 - j=(64 - (j+1))+1 by omega,nM,if_neg hm0])
   have Rz:=aB hmd;clear hmd hm;have ax6:j+1<=49:=ae
   by_cases hm1:m % 2=1
   ·have IQ:(m:Int) % 2=1:=ae
    have EO:=aB (ql j v wr HA.out.st ae (by have:=HA.out.len;omega) (by have:=fB L1 j;have:=HA.out.cnt;omega))
    go_wp2_with fail;refine(EO.out).mono ?_
    rintro e w2 ⟨rfl,F2,Af,vs2,q1,q2,q3,q4⟩;have Q1:=aB q1;have Q3:=aB q3;have Q4:=aB q4;clear q1 q2 q3 q4 EO
    go_wp2_with fail
    go_roundg (64 - (j+1))
    case measure=>have:=HQ.out;omega
    case rel=>
     refine⟨j+1,F2,Af,vs2,jP L1 j [v],rfl,ae,ai,by rw[Rz.out];go_num,aB ⟨Q3.out,?_,?_,?_,?_,?_⟩⟩
     ·rw[HA.out.eq,HM.out,Rz.out,VL.out,if_pos hm1]
     ·rw[fV];have:=HA.out.len;omega
     ·rw[nJ];have:=HA.out.cnt;simp;omega
     ·intro kk hk1
      rcases Q1.out kk hk1 with h1|h1
      ·exact HA.out.sub kk h1
      ·exact .inr ae
     ·exact HA.out.touch.trans Q4.out fun i hi=>HA.out.sub i hi
   ·have IQ:¬(m:Int) % 2=1:=ae
    go_wp2_with fail
    go_roundg (64 - (j+1))
    case measure=>have:=HQ.out;omega
    case rel=>
     refine⟨j+1,F1,oP,vs1,L1,rfl,ae,ai,by rw[Rz.out];go_num,aB ⟨HA.out.st,?_,HA.out.len,?_,HA.out.sub,HA.out.touch⟩⟩
     ·rw[HA.out.eq,HM.out,Rz.out,VL.out,if_neg hm1]
     ·have:=HA.out.cnt;omega
theorem UL(g:Nat)(v:Int)(q:Value)(w:World) :
 Calls Tryz.prog 177 #[.pointer (some ⟨g,0,none⟩),.int .i64 v,.int .u64 0,q] w fun e w'=>e=.returned (.int .i64 4)/\w=w':=by
 go_enter Tryz.func177,Tryz.ntmps177
 go_wp2_with fail;refine bodyPost_ret (by simp[results,Tryz.results177,go_sem, *];try rfl) rfl ?_
 exact⟨rfl,rfl⟩
theorem UM{F:Nat->Prop}{g k led:Nat}{lv:Value}{vs:List Sv}{L:LL}(v:Int)(c:Nat)(q:Value)(w:World)(hs:DR F w g k led lv vs L)(hw:wt L<=281474976710656)(hL:L.length<=49)(hc:281474976710656<wt L+c)(bg7:c<18446744073709551616) :
 Calls Tryz.prog 177 #[.pointer (some ⟨g,0,none⟩),.int .i64 v,.int .u64 c,q] w fun e w'=>e=.returned (.int .i64 6)/\w=w':=by
 have IU:=aB (fE w hs hw hL);obtain⟨n,hn⟩:∃n,wt L=n:=⟨_,rfl⟩;rw[hn] at hc IU hw;have h1:¬(c:Int)=0:=ae
 have h2:(c:Int) > 281474976710656 - (n:Int):=ae
 clear hs hn
 go_enter Tryz.func177,Tryz.ntmps177
 go_wp2_with fail;refine(IU.out).mono ?_
 rintro e w1 ⟨rfl,rfl⟩
 go_wp2_with fail;refine bodyPost_ret (by simp[results,Tryz.results177,go_sem, *];try rfl) rfl ?_
 exact⟨rfl,rfl⟩
open Go.RowKit
def VR(w:World)(v:Value)(L:LL):Prop:=∃vs:List Sv,vs.length=L.length/\gz wI w v vs/\∀i (h:i<vs.length),gz fZ w (gX vs[i]) (lvl L i)
theorem VR.keep{w w':World}{v:Value}{L:LL}(h:VR w v L)(hb:Below w.heap.size w w'):VR w' v L:=by
 obtain⟨vs,h1,h2,h3⟩:=h;exact⟨vs,h1,h2.keep hb,fun i hi=>(h3 i hi).keep hb⟩
theorem mZ.llr{t:TypeId}{a:Value}{rest:List Value}{F:Nat->Prop}{w:World}{g:Nat}{lv:Value}{vs:List Sv}{L:LL}(h:mZ t a rest F w g lv vs L):VR w lv L:=
 ⟨vs,h.fJ.len,h.fJ.row.rd,fun i hi=>(h.fJ.each i hi).rd⟩
theorem VR.form{w:World}{v:Value}{L:LL}(h:VR w v L):∃A c,v=.slice A L.length c/\L.length<=c/\c<=9223372036854775807:=by
 obtain⟨vs,h1,h2,h3⟩:=h;obtain⟨A,c,e,h4,h5,_⟩:=h2.form;rw[h1] at e h4;exact⟨A,c,e,h4,h5⟩
theorem VR.at_{w:World}{A:Option Addr}{n c:Nat}{L:LL}(h:VR w (.slice A n c) L){j:Nat}(hj:j<L.length) :
 ∃gl off sA sc,A=some ⟨gl,off,none⟩/\gl<w.heap.size/\w.cell? ⟨gl,off+j,none⟩=some (.slice sA (lvl L j).length sc)/\gz fZ w (.slice sA (lvl L j).length sc) (lvl L j):=by
 obtain⟨vs,h1,h2,h3⟩:=h;obtain⟨A',c',e,_,_,hf⟩:=h2.form;injection e with e1 e2 e3;subst e1;obtain⟨gl,off,hA,hg,hc⟩:=hf.sl (j:=j) (by omega)
 have hr:=h3 j ae
 obtain⟨s,hs⟩:∃s,vs[j]' ae =s:=⟨_,rfl⟩
 rw[hs] at hr hc;obtain⟨sA,sn,sc⟩:=s;obtain⟨_,_,es,_,_,_⟩:=hr.form;injection es with es1 es2 es3;subst es2;exact⟨gl,off,sA,sc,hA,hg,hc,hr⟩
theorem uK(w:World)(a b:Nat):(w.drewN a).drewN b=w.drewN (a+b):=by unfold World.drewN;simp[Nat.add_assoc]
structure EP(base:Nat)(w:World)(v:Value)(vs:List Sv)(L:LL):Prop where
 row:dI wI base w v vs
 len:vs.length=L.length
 each:∀i (h:i<vs.length),dI fZ base w (gX vs[i]) (lvl L i)
theorem EP.llr{base:Nat}{w:World}{v:Value}{vs:List Sv}{L:LL}(h:EP base w v vs L):VR w v L:=⟨vs,h.len,h.row.rd,fun i hi=>(h.each i hi).rd⟩
theorem EP.stay{base:Nat}{w w':World}{v:Value}{vs:List Sv}{L:LL}(h:EP base w v vs L)(hk:∀k,base<=k->k<w.heap.size->w'.heap[k]?=w.heap[k]?):EP base w' v vs L:=
 ⟨h.row.stay fun k e=>hk k (h.row.lt k e).1 (h.row.lt k e).2,h.len,fun i hi=>(h.each i hi).stay fun k e=>hk k ((h.each i hi).lt k e).1 ((h.each i hi).lt k e).2⟩
theorem EP.nil_(base:Nat)(w:World):EP base w (.slice none 0 0) [] []:=⟨dI.nil_ _ _,rfl,fun i hi=>absurd hi ag⟩
theorem EP.snoc{base:Nat}{w w1 w2:World}{v v2:Value}{vs:List Sv}{L:LL}{s:Sv}{l:List Int}(h:EP base w v vs L)(hb:Below w.heap.size w w1)(hs:dI fZ base w1 (gX s) l)
 (ho:dI wI base w2 v2 (vs++[s])) (hg:w1.grownBy w2 v.ownBlock) (hd:∀i (hi:i<vs.length) k,(gX vs[i]).ownBlock=some k->v.ownBlock≠some k) (hsd:∀k,(gX s).ownBlock=some k->v.ownBlock≠some k):EP base w2 v2 (vs++[s]) (L++[l]):=by
 refine⟨ho,by rw[aI,aI,h.len];rfl,fun i hi=>?_⟩
 rcases bJ i vs.length with h1|h1
 ·rw[di h1]
  have e:lvl (L++[l]) i=lvl L i:=by
   unfold lvl;simp only[List.getD];rw[List.getElem?_append_left (by rw[<-h.len];exact h1)]
  rw[e];exact((h.each i h1).keep hb).stay fun k e2=>hg.block k (by have:=((h.each i h1).lt k e2).2;have:=hb.size;omega) (fun e3=>hd i h1 k e2 e3.symm)
 ·have hi':i=vs.length:=by rw[aI] at hi;simp only[bK] at hi;omega
  subst hi';have e:lvl (L++[l]) vs.length=l:=by
   unfold lvl;simp only[List.getD];rw[h.len,List.getElem?_append_right (aK _)];simp
  rw[e];simp only[List.getElem_append_right (aK _),Nat.sub_self,List.getElem_cons_zero];exact hs.stay fun k e2=>hg.block k (hs.lt k e2).2 (fun e3=>hsd k e2 e3.symm)
theorem take_snoc{L:LL}{j:Nat}(h:j<L.length):L.take (j+1)=L.take j++[lvl L j]:=by rw[aT h,jV h]
theorem wK{F:Nat->Prop}{g k n led:Nat}{lv:Value}{vs:List Sv}{L:LL}(w:World)(hs:rV F w g k n led lv vs L)(hL:L.length<=1000)(hl:cnt L<=1000000000) :
 Calls Tryz.prog 157 #[.pointer (some ⟨g,0,none⟩)] w fun e w'=>∃v' vs',e=.returned v'/\EP w.heap.size w' v' vs' L/\Below w.heap.size w w':=by
 obtain⟨i1,hi0,hiz,his,hib⟩:=info_parts slI;have JI:=aB hi0;have JZ:=aB hiz;have Ye:=aB his;have Yf:=aB hib;clear hi0 hiz his hib;obtain⟨A,c,p_,hc1,hc2,_⟩:=hs.form;have c1:=hs.cell1;have HS:=aB hs;have HC:=aB (fun j=>bG (fB L j) hl)
 clear hs;subst p_
 go_enter Tryz.func157,Tryz.ntmps157
 go_wp2_with fail
 go_loopg [3,5,11] L.length (fun q o _ i wr=>∃(j:Nat) (vs1:List Sv),q=L.length - j/\j<=L.length/\i=.int .i64 (j:Int)/\Hid (EP w.heap.size wr o vs1 (L.take j))/\Hid (∀s∈vs1,∀k,(gX s).ownBlock=some k->o.ownBlock≠some k)/\Hid (Below w.heap.size w wr))
 case atStart=>exact⟨0,[],ae,ae,rfl,aB (EP.nil_ _ _),aB (fun i hi=>absurd hi ag),aB (aH _ _)⟩
 case round=>
  obtain⟨j,vs1,hq,hj,rfl,HO,HD,HB⟩:=hrel;have HQ:=aB hq;clear hq;have hz:=HB.out.size
  by_cases hjl:j<L.length
  ·obtain⟨gl,cc,sA,sc,p_,hgl,_,_,_,c2,_,ol,_⟩:=HS.out.at_ hjl
   injection p_ with p_ e2 e3;subst p_;subst e3;have HCL:=aB (y8 _ (lvl L j) wr (ol.rd.keep HB.out) (by have:=HC.out j;omega))
   have VS:=aB (take_snoc hjl);have c3:=(HB.out.cell (p:=⟨gl,j,none⟩) hgl).trans c2;obtain⟨x,hx⟩:∃x,lvl L j=x:=⟨_,rfl⟩;rw[hx] at VS HCL c3;have hvl:vs1.length=j:=by rw[HO.out.len,bg];omega
   obtain⟨A1,c1',rfl,_,_,_⟩:=HO.out.row.form;rw[hvl] at HO HD |-;clear hx ol c2
   go_wp2_with fail;refine(HCL.out).mono ?_
   rintro e w1 ⟨s,rfl,os,b1⟩;obtain⟨sA2,sn2,sc2⟩:=s;obtain⟨_,_,es,_,_,_⟩:=os.form;injection es with _ es2 _;subst es2;have OS:=aB os;have B1:=aB b1;have HR1:=aB (HO.out.row.keep b1);have hz1:=b1.size;have hxl:vs1.length<=1000:=ae
   simp only[gX];clear os b1 HCL c3
   go_wp2_with (at_builtin;refine dV wI (ts:=152) i1 _ 24 Tryz.underlying152 JI.out JZ.out Ye.out Yf.out rfl af  af rfl (.tmp 15) (.tmp 18) rfl w.heap.size (.slice A1 j c1') vs1 rfl (HR1.out.alloc _) _ [(sA2,x.length,sc2)] rfl (gz.dY (E:=wI) w1 (sA2,x.length,sc2) _ rfl _ rfl _ rfl) ah  ah ?_;intro v7 w7 o7 g7 a7;have O7:=aB o7;have G7:=aB g7;have A7:=aB a7;clear o7 g7 a7)
   have hd:∀s∈vs1,∀k,(gX s).ownBlock=some k->k<wr.heap.size:=fun s hs k e=>by
    obtain⟨i,hi,rfl⟩:=List.getElem_of_mem hs;exact((HO.out.each i hi).lt k e).2
   have hbw:Below wr.heap.size wr (w1.alloc (.cells #[.slice sA2 x.length sc2] 236)):=B1.out.alloc hz1 _;have hnew:∀k,(Value.slice A1 j c1').ownBlock=some k->w.heap.size<=k/\k<wr.heap.size:=fun k e=>HO.out.row.lt k e
   have hfr:∀k,(gX (sA2,x.length,sc2)).ownBlock=some k->wr.heap.size<=k/\k<w1.heap.size:=fun k e=>OS.out.lt k e
   have hlo:=EP.snoc HO.out hbw (OS.out.alloc _ |>.more hz) O7.out G7.out (fun i hi k e=>HD.out _ (bu hi) k e) (fun k e e2=>by have:=hfr k e;have:=hnew k e2;omega)
   rw[<-VS.out] at hlo;have PO:=aB hlo;have HDD:Hid (∀s∈vs1++[(sA2,x.length,sc2)],∀k,(gX s).ownBlock=some k->v7.ownBlock≠some k):=aB fun s hs k e=>by
    have PL:(w1.alloc (.cells #[.slice sA2 x.length sc2] 236)).heap.size=w1.heap.size+1:=ag
    rcases cO.1 hs with h1|h1
    ·rcases A7.out with e2|e2
     ·rw[e2];exact HD.out s h1 k e
     ·rw[e2];intro e3
      have e3:=Option.some.inj e3;have:=hd s h1 k e;omega
    ·obtain rfl:=List.mem_singleton.1 h1
     have h2:=hfr k e
     rcases A7.out with e2|e2
     ·rw[e2];intro e3
      have:=hnew k e3;omega
     ·rw[e2];intro e3
      have e3:=Option.some.inj e3;omega
   have o_:Hid (Below w.heap.size w w7):=aB ((HB.out.trans (hbw.mono hz)).grown G7.out ah (fun k hk=>(hnew k hk).1))
   clear hlo hd hbw hnew hfr
   go_wp2_with fail
   go_roundg (L.length - (j+1))
   case measure=>have:=HQ.out;omega
   case rel=>exact⟨j+1,_,rfl,ae,ai,PO,HDD,o_⟩
  ·obtain rfl:j=L.length:=ae
   go_wp2_with fail;refine bodyPost_ret (by simp[results,Tryz.results157,go_sem, *];try rfl) rfl ?_
   have ho:=HO.out;rw[List.take_length] at ho;exact⟨_,_,rfl,ho,HB.out⟩
open Go.RowKit
structure LLV(w:World)(v:Value)(vs:List Sv)(L:LL):Prop where
 len:vs.length=L.length
 row:gz wI w v vs
 each:∀i (h:i<vs.length),gz fZ w (gX vs[i]) (lvl L i)
theorem LLV.at_{w:World}{A:Option Addr}{n c:Nat}{vs:List Sv}{L:LL}(h:LLV w (.slice A n c) vs L){j:Nat}(hj:j<L.length) :
 ∃gl off sA sc,A=some ⟨gl,off,none⟩/\gl<w.heap.size/\vs[j]?=some (sA,(lvl L j).length,sc)/\w.cell? ⟨gl,off+j,none⟩=some (.slice sA (lvl L j).length sc)/\gz fZ w (.slice sA (lvl L j).length sc) (lvl L j):=by
 obtain⟨h1,h2,h3⟩:=h;obtain⟨A',c',e,_,_,hf⟩:=h2.form;injection e with e1 e2 e3;subst e1;obtain⟨gl,off,hA,hg,hc⟩:=hf.sl (j:=j) (by omega)
 have hr:=h3 j ae
 obtain⟨s,hs⟩:∃s,vs[j]' ae =s:=⟨_,rfl⟩
 rw[hs] at hr hc;obtain⟨sA,sn,sc⟩:=s;obtain⟨_,_,es,_,_,_⟩:=hr.form;injection es with es1 es2 es3;subst es2;exact⟨gl,off,sA,sc,hA,hg,by rw[aY ae,hs],hc,hr⟩
def iK(F:Nat->Prop)(w:World)(v:Value)(vs:List Sv)(L:LL):Prop:=∀W,(∀k,k<w.heap.size->¬F k->W.heap[k]?=w.heap[k]?)->w.heap.size<=W.heap.size->LLV W v vs L
theorem iK.now{F:Nat->Prop}{w:World}{v:Value}{vs:List Sv}{L:LL}(h:iK F w v vs L):LLV w v vs L:=h w (fun _ _ _=>rfl) (aK _)
theorem iK.next{F G:Nat->Prop}{w w':World}{v:Value}{vs:List Sv}{L:LL}(h:iK F w v vs L)(hk:∀k,k<w.heap.size->¬F k->w'.heap[k]?=w.heap[k]?)(hz:w.heap.size<=w'.heap.size)(hG:∀k,G k->F k\/w.heap.size<=k):iK G w' v vs L:=
 fun W h1 h2=>h W (fun k hk1 hk2=>(h1 k ae (fun hg=>(hG k hg).elim hk2 ae)).trans (hk k hk1 hk2)) ae
theorem iK.nU{F:Nat->Prop}{base:Nat}{w:World}{v:Value}{vs:List Sv}{L:LL}(h:EP base w v vs L)(hF:∀k,F k->k<base):iK F w v vs L:=fun W h1 _=>by
 have h2:=h.stay (w':=W) fun k e1 e2=>h1 k e2 (fun hf=>by have:=hF k hf;omega)
 exact⟨h2.len,h2.row.rd,fun i hi=>(h2.each i hi).rd⟩
theorem iK.one{F:Nat->Prop}{w:World}{v:Value}{vs:List Sv}{L:LL}(h:iK F w v vs L){j:Nat}{s:Sv}(hs:vs[j]?=some s):Aside F w (gX s) (lvl L j):=fun W h1 h2=>by
 obtain⟨hj,e⟩:=List.getElem?_eq_some_iff.1 hs;have:=(h W h1 h2).each j hj;rw[e] at this;exact this
theorem uM{L M:LL}(h:∀i,qA (lvl L i)):∀j i,qA (lvl (takeN M j L) i)
 | 0,i=>h i
 | j+1,i=>by rw[takeN];exact x8 (uM h j) _ _ i
theorem uN{L M:LL}{led fQ a b:Nat}(h:ja (L,led,a))(hm:ja (M,fQ,b))(hw:wt L+wt M<=281474976710656)(hc:cnt L+cnt M<=900000):ja (jq L M,min (led+fQ) 4611686018427387904,a):=by
 refine⟨uM h.gY M.length,h.top.take hm.top,?_,?_,?_⟩
 ·show wt (jq L M)<=_
  rw[xZ];exact hw
 ·show cnt (jq L M)<=_
  rw[Uo];omega
 ·show min _ _<=_
  omega
def jJ(M:LL):Nat->LL->LL
 | 0,L=>L
 | j+1,L=>if lvl M j=[] then jJ M j L else jP (jJ M j L) j (lvl M j)
theorem uO(M L:LL):∀j i,lvl (jJ M j L) i=if i<j then insL (lvl L i) (lvl M i) else lvl L i
 | 0,i=>by simp[jJ]
 | j+1,i=>by
  rw[jJ]
  by_cases h0:lvl M j=[]
  ·rw[if_pos h0,uO M L j i]
   by_cases e:i=j
   ·subst e;rw[if_neg ae,if_pos ae,h0,XL]
   ·by_cases h:i<j
    ·rw[if_pos h,if_pos ae]
    ·rw[if_neg h,if_neg ae]
  ·rw[if_neg h0,kK,uO M L j i,uO M L j j]
   by_cases e:i=j
   ·subst e;rw[if_pos rfl,if_neg ae,if_pos ae]
   ·rw[if_neg e]
    by_cases h:i<j
    ·rw[if_pos h,if_pos ae]
    ·rw[if_neg h,if_neg ae]
theorem rE(M L:LL):∀j,L.length<=(jJ M j L).length/\(jJ M j L).length<=max L.length j
 | 0=>by simp[jJ]
 | j+1=>by
  have:=rE M L j;rw[jJ]
  split
  ·omega
  ·rw[fV];omega
theorem UN{L M:LL}(hm:KU M):jJ M M.length L=jq L M:=by
 have hl:(jJ M M.length L).length=max L.length M.length:=by
  rcases bT M.length with h0|h0
  ·rw[h0];simp[jJ]
  ·obtain⟨j,hj⟩:∃j,M.length=j+1:=⟨M.length - 1,ae⟩
   have ht:=hm h0;have h1:=rE M L j;rw[hj,jJ,if_neg (by rw[hj] at ht;simpa using ht),fV];omega
 refine XP (by rw[hl];unfold jq;rw[kL]) fun i _=>?_
 unfold jq;rw[uO,uJ]
theorem GM(M L:LL):∀j,j<=M.length->cnt (jJ M j L)=cnt L+cnt (M.take j)
 | 0,_=>by simp[jJ,cnt]
 | j+1,hj=>by
  rw[jJ,Fp ae]
  have:=GM M L j ae
  split
  ·rename_i h;rw[h];simp;omega
  ·rw[nJ];omega
def oJ(M L:LL)(j i:Nat):LL:=if i=0 then jJ M j L else jP (jJ M j L) j ((lvl M j).take i)
theorem PS{M L:LL}{j i:Nat}(hi:i<(lvl M j).length):jP (oJ M L j i) j [(lvl M j)[i]]=oJ M L j (i+1):=by
 unfold oJ;rw[if_neg (show ¬i+1=0 by omega),aT hi]
 by_cases h0:i=0
 ·subst h0;rw[if_pos rfl];simp
 ·rw[if_neg h0,Gw]
theorem UO(M L:LL)(j:Nat):oJ M L j (lvl M j).length=jJ M (j+1) L:=by
 unfold oJ;rw[jJ,List.take_length]
 by_cases h:lvl M j=[]
 ·rw[if_pos (by rw[h];rfl),if_pos h]
 ·rw[if_neg (by rw[List.length_eq_zero_iff];exact h),if_neg h]
theorem UQ(M L:LL)(j i:Nat):(oJ M L j i).length<=max L.length (j+1):=by
 have:=rE M L j;unfold oJ
 split
 ·omega
 ·rw[fV];omega
theorem UR{M L:LL}{j i:Nat}(hj:j<=M.length):cnt (oJ M L j i)<=cnt L+cnt M+i:=by
 have h1:=GM M L j hj;have h2:=tV M j;unfold oJ
 split
 ·omega
 ·rw[nJ,bg];omega
structure ay3(F:Nat->Prop)(w:World)(g k n led:Nat)(L M:LL)(lw:Value)(ws:List Sv)(j:Nat)(F1:Nat->Prop)(wr:World)(lv:Value)(vs:List Sv):Prop where
 st:rV F1 wr g k n led lv vs (takeN M j L)
 al:iK F1 wr lw ws M
 sub:∀k,F1 k->F k\/w.heap.size<=k
 sup:∀k,F k->F1 k
 touch:Touch F w wr
theorem D_{F G:Nat->Prop}{g h k n m led fQ cg r a b:Nat}{cv lv Af:Value}{vs vs2:List Sv}{B:List Int}{L M:LL}(w:World)(hs:rV F w g k n led lv vs L)(ht:rV G w h k m fQ Af vs2 M)(hco:KC w cg r cv B a)(hf:D8 F w cg r cv)
 (hok:ja (L,led,a)) (ER:ja (M,fQ,b)) (hn:n=wt L) (hm:m=wt M) (hnm:n+m<=281474976710656) (hcn:cnt L+cnt M<=900000) (h2:2<=k) (hk:k<=1000000) :
 Calls Tryz.prog 78 #[.pointer (some ⟨g,0,none⟩),.pointer (some ⟨h,0,none⟩),.pointer (some ⟨cg,0,none⟩)] w fun e w'=>e=.returned (.int .i64 0)/\∃F' pX vs',IM F w g k (n+m) cg r cv B (jq L M,min (led+fQ) 4611686018427387904,a) F' w' pX vs' (gB k B (jq L M,min (led+fQ) 4611686018427387904,a))/\gZ k (gB k B (jq L M,min (led+fQ) 4611686018427387904,a)).1=none:=by
 have qF:=aB (uN hok ER ae hcn)
 have HT:=aB ht;have HS:=aB hs;have HCO:=aB hco;have HF:=aB hf;have VQ:=aB hok.gY;have ak0:led<=4611686018427387904:=hok.led;have ak1:fQ<=4611686018427387904:=ER.led;have hlenL:L.length<=49:=hok.len;have ak2:M.length<=49:=ER.len;have c0:=hs.cell0;have C2:=aB hs.cell2;have c2:=hs.cell2;have C3:=aB hs.zN;have d0:=ht.cell0;have d2:=ht.cell2;have D2:=aB ht.cell2;have D3:=aB ht.zN;have hgw:=hs.blk.lt;have VT:=ht.blk.lt;have hov:¬(m:Int) > 281474976710656 - (n:Int):=ae
 have hcM:cnt M<=1000000000:=ae
 clear hs ht hco hf hok ER hn hm
 go_enter Tryz.func78,Tryz.ntmps78
 go_wp2_with fail
 go_quiet (fail)
 go_wp2_with fail
 go_quiet (fail)
 go_upto_region 7 with fail;clear c0 c2 d0 d2;refine dD (fun w'=>Below w.heap.size w w') [(0,true),(2,true),(3,true),(4,true),(5,true),(6,true),(7,true),(8,true),(9,true),(1,false),(10,true),(11,true),(12,true)] (by kernel_rfl) (by kernel_rfl) (bw) ?_
 iterate 9
  refine dC ax  ax (fun R hR=>?_)
  apply aJ
  refine⟨fun w' hS'=>?_,?_⟩
  ·have d2:=(hS'.cell (p:=⟨h,2,none⟩) VT).trans D2.out
   have d3:=(hS'.cell (p:=⟨h,3,none⟩) VT).trans D3.out
   go_simp;exact⟨rfl,rfl⟩
  go_simp;refine hR _ ?_;clear hR R
 refine dE ax  ax (fun K hK=>?_)
 go_simp;refine(wK _ (HT.out.keep (bw)) ae hcM).mono ?_
 rintro e w1 ⟨lw,ws,rfl,hlo,hb1⟩;have PO:=aB hlo;have HB1:Below w.heap.size w w1:=Below.trans (bw) hb1;clear hlo hb1;refine hK _ _ (HB1) ?_
 clear hK K
 iterate 3
  refine dC ax  ax (fun R hR=>?_)
  apply aJ
  refine⟨fun w' hS'=>?_,?_⟩
  ·have d2:=(hS'.cell (p:=⟨h,2,none⟩) VT).trans D2.out
   have d3:=(hS'.cell (p:=⟨h,3,none⟩) VT).trans D3.out
   go_simp;exact⟨rfl,rfl⟩
  go_simp;refine hR _ ?_;clear hR R
 refine dF ?_
 have HL1:Hid (EP w.heap.size w1 lw ws M):=aB (by have h1:=PO.out;simpa only[fG] using h1)
 have GK:=aB (HS.out.keep HB1);have k2:=GK.out.cell2;have f2:=GK.out.blk.frozen 2
 go_upto_region 9 with fail;have hst2:=GK.out.Ph (.int .u64 (n+m:Nat));rw[dh] at hst2;have HS2:=aB hst2;have HT2:Hid (Touch F w (w1.setCell ⟨g,2,none⟩ (.int .u64 ((n:Int)+(m:Int))))):=aB ((Touch.of_below HB1 (aK _)).setCell (.inl GK.out.fg) _);have HA1:Hid (iK F w1 lw ws M):=aB (iK.nU HL1.out fun kk e=>HS.out.low kk e)
 have HA2:Hid (iK F (w1.setCell ⟨g,2,none⟩ (.int .u64 ((n:Int)+(m:Int)))) lw ws M):=aB (HA1.out.next (fun kk _ h1=>bF w1 ⟨g,2,none⟩ _ kk (fun e=>h1 (by rw[e];exact GK.out.fg))) ag (fun kk e=>.inl e))
 obtain⟨w2,hw2⟩:∃x,w1.setCell ⟨g,2,none⟩ (.int .u64 ((n:Int)+(m:Int)))=x:=⟨_,rfl⟩;rw[hw2] at HS2 HT2 HA2 |-;clear hw2 hst2 k2 f2 GK HL1 PO HA1 HB1;have k3:w2.cell? ⟨g,3,none⟩=some (.int .u64 led):=HS2.out.zN;have f3:=HS2.out.blk.frozen 3
 go_upto_region 10 with fail;have hst3:rV F (w2.setCell ⟨g,3,none⟩ (.int .u64 (min (led+fQ) 4611686018427387904:Nat))) g k (n+m) (min (led+fQ) 4611686018427387904) lv vs L:=by
  have:=HS2.out.ao3 (.int .u64 (min (led+fQ) 4611686018427387904:Nat));rw[<-dh] at this;exact this
 have Iu:Hid (min ((led:Int)+(fQ:Int)) 4611686018427387904=((min (led+fQ) 4611686018427387904:Nat):Int)):=aB ae
 rw[Iu.out];have HT3:Hid (Touch F w (w2.setCell ⟨g,3,none⟩ (.int .u64 (min (led+fQ) 4611686018427387904:Nat)))):=aB (HT2.out.setCell (.inl HS2.out.fg) _);have Jm:Hid (iK F (w2.setCell ⟨g,3,none⟩ (.int .u64 (min (led+fQ) 4611686018427387904:Nat))) lw ws M):=aB (HA2.out.next (fun kk _ h1=>bF w2 ⟨g,3,none⟩ _ kk (fun e=>h1 (by rw[e];exact HS2.out.fg))) ag (fun kk e=>.inl e))
 have Yu:=aB hst3;obtain⟨w3,hw3⟩:∃x,w2.setCell ⟨g,3,none⟩ (.int .u64 (min (led+fQ) 4611686018427387904:Nat))=x:=⟨_,rfl⟩;rw[hw3] at Yu HT3 Jm |-;clear hw3 hst3 k3 f3 HS2 HT2 HA2 Iu;have hz3:=HT3.out.size;obtain⟨A0,c0,elw,_,_,_⟩:=Jm.out.now.row.form;rw[Jm.out.now.len] at elw;subst elw;obtain⟨ld,hld⟩:∃ld,min (led+fQ) 4611686018427387904=ld:=⟨_,rfl⟩;rw[hld] at Yu qF |-;have Yv:=aB hld;clear hld hov
 go_wp2_with fail
 go_loopg [10,11,66] M.length (fun q _ _ i wr=>∃(j:Nat) (F1:Nat->Prop) (oP:Value) (vs1:List Sv),q=M.length - j/\j<=M.length/\i=.int .i64 (j:Int)/\Hid (ay3 F w g k (n+m) ld L M (.slice A0 M.length c0) ws j F1 wr oP vs1))
 case atStart=>exact⟨0,F,lv,vs,ae,ae,rfl,aB ⟨Yu.out,Jm.out,fun _ h=>.inl h,fun _ h=>h,HT3.out⟩⟩
 case round=>
  obtain⟨j,F1,oP,vs1,hq,hj,rfl,HA⟩:=hrel;have HQ:=aB hq;clear hq;have hsz:=HA.out.touch.size
  by_cases hjl:j<M.length
  ·obtain⟨gl,off,sA,sc,eA,hgl,hvs,c2,_⟩:=HA.out.al.now.at_ hjl
   subst eA;have ay4:(takeN M j L).length<=49:=by rw[kL];omega
   have hlj:(lvl M j).length<=900000:=by have:=fB M j;omega
   have hlN:(lvl (takeN M j L) j).length<=900000:=by have:=fB (takeN M j L) j;have h1:=uI M L j ae ;have h2:=tV M j;omega
   have EO:=aB (put_any j (gX (sA,(lvl M j).length,sc)) (lvl M j) wr HA.out.st (HA.out.al.one hvs) (uM VQ.out j j) ae  ae  ae  ae)
   obtain⟨x,hx⟩:∃x,(lvl M j).length=x:=⟨_,rfl⟩;rw[hx] at c2 EO;clear hvs hx
   go_wp2_with fail;refine(EO.out).mono ?_
   rintro e w5 ⟨rfl,F2,Yw,ap9,q1,q2,q3,q4⟩;have Q1:=aB q1;have Q2:=aB q2;have Q3:=aB q3;have Q4:=aB q4;clear q1 q2 q3 q4 EO c2
   go_wp2_with fail
   go_roundg (M.length - (j+1))
   case measure=>have:=HQ.out;omega
   case rel=>
    refine⟨j+1,F2,Yw,ap9,rfl,ae,ai,aB ⟨Q3.out,?_,?_,?_,?_⟩⟩
    ·exact HA.out.al.next (fun kk h1 h2=>Q4.out.block kk h1 h2) Q4.out.size Q1.out
    ·intro kk hk1
     rcases Q1.out kk hk1 with h1|h1
     ·exact HA.out.sub kk h1
     ·exact .inr ae
    ·exact fun kk hk1=>Q2.out kk (HA.out.sup kk hk1)
    ·exact HA.out.touch.trans Q4.out fun i hi=>HA.out.sub i hi
  ·obtain rfl:j=M.length:=ae
   have HP:=aB (Lh (s0:=(jq L M,ld,a)) wr HA.out.st (HCO.out.touch HF.out HA.out.touch) (HF.out.next HA.out.sub hsz) qF.out h2 hk)
   go_wp2_with fail;refine(HP.out).mono ?_
   rintro e w2 ⟨rfl,F2,Af,vs2,q1,q2⟩;have Q1:=aB q1;have Q2:=aB q2;clear q1 q2 HP
   go_wp2_with fail;refine bodyPost_ret (by simp[results,Tryz.results78,go_sem, *];try rfl) rfl ?_
   rw[Yv.out];exact⟨rfl,F2,Af,vs2,Q1.out.back HA.out.sub HA.out.sup HA.out.touch,Q2.out⟩
theorem UT{F G:Nat->Prop}{g h k n m led fQ:Nat}{lv Af:Value}{vs vs2:List Sv}{L M:LL}(q:Value)(w:World)(hs:rV F w g k n led lv vs L)(ht:rV G w h k m fQ Af vs2 M)(hn:n<=281474976710656)(_hm:m<=281474976710656)(hnm:281474976710656<n+m) :
 Calls Tryz.prog 78 #[.pointer (some ⟨g,0,none⟩),.pointer (some ⟨h,0,none⟩),q] w fun e w'=>e=.returned (.int .i64 6)/\∃n,w'=w.drewN n:=by
 have c0:=hs.cell0;have d0:=ht.cell0;have c2:=hs.cell2;have d2:=ht.cell2;have hov:(m:Int) > 281474976710656 - (n:Int):=ae
 clear hs ht
 go_enter Tryz.func78,Tryz.ntmps78
 go_wp2_with fail
 go_quiet (fail)
 go_wp2_with fail
 go_quiet (fail)
 go_wp2_with fail;refine bodyPost_ret (by simp[results,Tryz.results78,go_sem, *];try rfl) rfl ?_
 exact⟨rfl,by first|exact⟨_,rfl⟩|exact⟨_,uK _ _ _⟩⟩
end Go.Proofs.YtkiebccnpheloaaGreat.K
