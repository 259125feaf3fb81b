/- Parts of a proof. No condition. -/
import Derived.Test.YtilcnjbpmoijmaaGreatPw34
import Derived.Test.YtilcnjbpmoijmaaGreatPw23
set_option maxRecDepth 100000
set_option maxHeartbeats 16000000
set_option linter.unusedVariables false
set_option linter.unusedSimpArgs false
namespace Go.Proofs.YtilcnjbpmoijmaaGreat.K
open Tryz
open Go.RowKit
variable{t:LL × Nat}{a b base c g h iR j k led m n:Nat}{F G:Nat->Prop}{w:World}{lv lv2 v:Value}{vs vs2:List Sv}{L M:LL}{A:Option Addr}{s:KS}{B:List Int}
def YS(w:World)(v:Value)(L:LL):Prop:=∃vs:List Sv,vs.length=L.length/\iM Dk w v vs/\∀i (h:i<vs.length),iM jq w (jr vs[i]) (lvl L i)
theorem YS.keep{w w':World}{v:Value}{L:LL}(h:YS w v L)(hb:Below w.heap.size w w'):YS w' v L:=by
 obtain⟨vs,h1,h2,h3⟩:=h;exact⟨vs,h1,h2.keep hb,fun i hi=>(h3 i hi).keep hb⟩
theorem qQ.llr{t:TypeId}{a:Value}{rest:List Value}(h:qQ t a rest F w g lv vs L):YS w lv L:=
 ⟨vs,h.gW.len,h.gW.row.rd,fun i hi=>(h.gW.each i hi).rd⟩
theorem YS.form{w:World}{v:Value}{L:LL}(h:YS w v L):∃A c,v=.slice A L.length c/\L.length<=c/\c<=9223372036854775807:=by
 obtain⟨vs,h1,h2,h3⟩:=h;obtain⟨A,c,e,h4,h5,_⟩:=h2.form;rw[h1] at e h4;exact⟨A,c,e,h4,h5⟩
theorem YS.at_(h:YS w (.slice A n c) L)(hj:j<L.length) :
 ∃gl off sA sc,A=some ⟨gl,off,none⟩/\gl<w.heap.size/\w.cell? ⟨gl,off+j,none⟩=some (.slice sA (lvl L j).length sc)/\iM jq w (.slice sA (lvl L j).length sc) (lvl L j):=by
 obtain⟨vs,h1,h2,h3⟩:=h;obtain⟨A',c',e,_,_,hf⟩:=h2.form;injection e with e1 e2 e3;subst e1;obtain⟨gl,off,hA,hg,hc⟩:=hf.sl (j:=j) (by omega)
 have hr:=h3 j ae
 obtain⟨s,hs⟩:=aF (vs[j]' ae )
 rw[hs] at hr hc;obtain⟨sA,sn,sc⟩:=s;obtain⟨_,_,es,_,_,_⟩:=hr.form;injection es with es1 es2 es3;subst es2;exact⟨gl,off,sA,sc,hA,hg,hc,hr⟩
theorem BF(w:World)(a b:Nat):(w.drewN a).drewN b=w.drewN (a+b):=by unfold World.drewN;simp[Nat.add_assoc]
structure LM(base:Nat)(w:World)(v:Value)(vs:List Sv)(L:LL):Prop where
 row:dL Dk base w v vs
 len:vs.length=L.length
 each:∀i (h:i<vs.length),dL jq base w (jr vs[i]) (lvl L i)
theorem LM.llr(h:LM base w v vs L):YS w v L:=⟨vs,h.len,h.row.rd,fun i hi=>(h.each i hi).rd⟩
theorem LM.stay{base:Nat}{w w':World}{v:Value}{vs:List Sv}{L:LL}(h:LM base w v vs L)(hk:∀k,base<=k->k<w.heap.size->w'.heap[k]?=w.heap[k]?):LM base w' v vs L:=
 ⟨h.row.stay fun k e=>hk k (h.row.lt k e).1 (h.row.lt k e).2,h.len,fun i hi=>(h.each i hi).stay fun k e=>hk k ((h.each i hi).lt k e).1 ((h.each i hi).lt k e).2⟩
theorem LM.nil_(base:Nat)(w:World):LM base w (.slice none 0 0) [] []:=⟨dL.nil_ _ _,rfl,fun i hi=>absurd hi ag⟩
theorem LM.snoc{w1 w2:World}{v2:Value}{s:Sv}{l:List Int}(h:LM base w v vs L)(hb:Below w.heap.size w w1)(hs:dL jq base w1 (jr s) l)
 (ho:dL Dk base w2 v2 (vs++[s])) (hg:w1.grownBy w2 v.ownBlock) (hd:∀i (hi:i<vs.length) k,(jr vs[i]).ownBlock=some k->v.ownBlock≠some k) (hsd:∀k,(jr s).ownBlock=some k->v.ownBlock≠some k):LM base w2 v2 (vs++[s]) (L++[l]):=by
 refine⟨ho,by rw[aQ,aQ,h.len];rfl,fun i hi=>?_⟩
 rcases bV i vs.length with h1|h1
 ·rw[dE h1]
  have e:lvl (L++[l]) i=lvl L i:=by
   unfold lvl;simp only[List.getD];rw[List.getElem?_append_left (by rw[<-h.len];exact h1)]
  rw[e];exact((h.each i h1).keep hb).stay fun k e2=>hg.block k (by have:=((h.each i h1).lt k e2).2;have:=hb.size;omega) (fun e3=>hd i h1 k e2 e3.symm)
 ·have hi':i=vs.length:=by rw[aQ] at hi;simp only[bW] at hi;omega
  subst hi';have e:lvl (L++[l]) vs.length=l:=by
   unfold lvl;simp only[List.getD];rw[h.len,List.getElem?_append_right (aS _)];simp
  rw[e];simp only[List.getElem_append_right (aS _),Nat.sub_self,List.getElem_cons_zero];exact hs.stay fun k e2=>hg.block k (hs.lt k e2).2 (fun e3=>hsd k e2 e3.symm)
theorem take_snoc(h:j<L.length):L.take (j+1)=L.take j++[lvl L j]:=by rw[bg h,nZ h]
theorem yu(w:World)(hs:xB F w g k n led lv vs L)(hL:L.length<=1000)(hl:cnt L<=1000000000) :
 aH 139 #[.pointer (some ⟨g,0,none⟩)] w fun e w'=>∃v' vs',e=.returned v'/\LM w.heap.size w' v' vs' L/\Below w.heap.size w w':=by
 obtain⟨i1,hi0,hiz,his,hib⟩:=info_parts slI;have JI:=aI hi0;have JZ:=aI hiz;have JSZ:=aI his;have JBY:=aI hib;clear hi0 hiz his hib;obtain⟨A,c,Am,hc1,hc2,_⟩:=hs.form;have c1:=hs.cell1;have HS:=aI hs;have HC:=aI (fun j=>bJ (iG L j) hl)
 clear hs;subst Am
 go_enter func139,ntmps139
 go_wp2_with fail
 go_loopg [3,5,11] L.length (fun q o _ i wr=>∃(j:Nat) (vs1:List Sv),q=L.length - j/\j<=L.length/\i=.int .i64 (j:Int)/\Hid (LM w.heap.size wr o vs1 (L.take j))/\Hid (∀s∈vs1,∀k,(jr s).ownBlock=some k->o.ownBlock≠some k)/\Hid (Below w.heap.size w wr))
 case atStart=>exact⟨0,[],ae,ae,rfl,aI (LM.nil_ _ _),aI (fun i hi=>absurd hi ag),aI (aO _ _)⟩
 case round=>
  obtain⟨j,vs1,hq,hj,rfl,HO,HD,HB⟩:=hrel;have HQ:=aI hq;clear hq;have hz:=HB.o.size
  by_cases hjl:j<L.length
  ·obtain⟨gl,cc,sA,sc,Am,hgl,_,_,_,c2,_,ol,_⟩:=HS.o.at_ hjl
   injection Am with Am e2 e3;subst Am;subst e3;have HCL:=aI (Bv _ (lvl L j) wr (ol.rd.keep HB.o) (by have:=HC.o j;omega))
   have HTS:=aI (take_snoc hjl);have c3:=(HB.o.cell (p:=⟨gl,j,none⟩) hgl).trans c2;obtain⟨x,hx⟩:=aF (lvl L j);rw[hx] at HTS HCL c3;have hvl:vs1.length=j:=by rw[HO.o.len,bG];omega
   obtain⟨A1,c1',rfl,_,_,_⟩:=HO.o.row.form;rw[hvl] at HO HD |-;clear hx ol c2
   go_wp2_with fail;refine(HCL.o).mono ?_
   rintro e w1 ⟨s,rfl,os,b1⟩;obtain⟨sA2,sn2,sc2⟩:=s;obtain⟨_,_,es,_,_,_⟩:=os.form;injection es with _ es2 _;subst es2;have OS:=aI os;have B1:=aI b1;have HR1:=aI (HO.o.row.keep b1);have hz1:=b1.size;have hxl:vs1.length<=1000:=ae
   simp only[jr];clear os b1 HCL c3
   go_wp2_with (at_builtin;refine jJ Dk (ts:=114) i1 _ 24 underlying114 JI.o JZ.o JSZ.o JBY.o rfl af  af rfl (.tmp 15) (.tmp 18) rfl w.heap.size (.slice A1 j c1') vs1 rfl (HR1.o.alloc _) _ [(sA2,x.length,sc2)] rfl (iM.fK (E:=Dk) w1 (sA2,x.length,sc2) _ rfl _ rfl _ rfl) ah  ah ?_;intro v7 w7 o7 g7 a7;have O7:=aI o7;have G7:=aI g7;have A7:=aI a7;clear o7 g7 a7)
   have hd:∀s∈vs1,∀k,(jr s).ownBlock=some k->k<wr.heap.size:=fun s hs k e=>by
    obtain⟨i,hi,rfl⟩:=List.getElem_of_mem hs;exact((HO.o.each i hi).lt k e).2
   have hbw:Below wr.heap.size wr (w1.alloc (.cells #[.slice sA2 x.length sc2] 182)):=B1.o.alloc hz1 _;have hnew:∀k,(Value.slice A1 j c1').ownBlock=some k->w.heap.size<=k/\k<wr.heap.size:=fun k e=>HO.o.row.lt k e
   have hfr:∀k,(jr (sA2,x.length,sc2)).ownBlock=some k->wr.heap.size<=k/\k<w1.heap.size:=fun k e=>OS.o.lt k e
   have hlo:=LM.snoc HO.o hbw (OS.o.alloc _ |>.more hz) O7.o G7.o (fun i hi k e=>HD.o _ (bf hi) k e) (fun k e e2=>by have:=hfr k e;have:=hnew k e2;omega)
   rw[<-HTS.o] at hlo;have HLO:=aI hlo;have HDD:Hid (∀s∈vs1++[(sA2,x.length,sc2)],∀k,(jr s).ownBlock=some k->v7.ownBlock≠some k):=aI fun s hs k e=>by
    have ci7:(w1.alloc (.cells #[.slice sA2 x.length sc2] 182)).heap.size=w1.heap.size+1:=ag
    rcases dB.1 hs with h1|h1
    ·rcases A7.o with e2|e2
     ·rw[e2];exact HD.o s h1 k e
     ·rw[e2];intro e3
      have e3:=Option.some.inj e3;have:=hd s h1 k e;omega
    ·obtain rfl:=List.mem_singleton.1 h1
     have h2:=hfr k e
     rcases A7.o with e2|e2
     ·rw[e2];intro e3
      have:=hnew k e3;omega
     ·rw[e2];intro e3
      have e3:=Option.some.inj e3;omega
   have lJ:Hid (Below w.heap.size w w7):=aI ((HB.o.trans (hbw.mono hz)).grown G7.o ah (fun k hk=>(hnew k hk).1))
   clear hlo hd hbw hnew hfr
   go_wp2_with fail
   go_roundg (L.length - (j+1))
   case measure=>have:=HQ.o;omega
   case rel=>exact⟨j+1,_,rfl,ae,ai,HLO,HDD,lJ⟩
  ·obtain rfl:j=L.length:=ae
   go_wp2_with fail;refine bodyPost_ret (by simp[results,Tryz.results139,go_sem, *];try rfl) rfl ?_
   have ho:=HO.o;rw[List.take_length] at ho;exact⟨_,_,rfl,ho,HB.o⟩
open Tryz
open Go.RowKit
structure LLV(w:World)(v:Value)(vs:List Sv)(L:LL):Prop where
 len:vs.length=L.length
 row:iM Dk w v vs
 each:∀i (h:i<vs.length),iM jq w (jr vs[i]) (lvl L i)
theorem LLV.at_(h:LLV w (.slice A n c) vs L)(hj:j<L.length) :
 ∃gl off sA sc,A=some ⟨gl,off,none⟩/\gl<w.heap.size/\vs[j]?=some (sA,(lvl L j).length,sc)/\w.cell? ⟨gl,off+j,none⟩=some (.slice sA (lvl L j).length sc)/\iM jq w (.slice sA (lvl L j).length sc) (lvl L j):=by
 obtain⟨h1,h2,h3⟩:=h;obtain⟨A',c',e,_,_,hf⟩:=h2.form;injection e with e1 e2 e3;subst e1;obtain⟨gl,off,hA,hg,hc⟩:=hf.sl (j:=j) (by omega)
 have hr:=h3 j ae
 obtain⟨s,hs⟩:=aF (vs[j]' ae )
 rw[hs] at hr hc;obtain⟨sA,sn,sc⟩:=s;obtain⟨_,_,es,_,_,_⟩:=hr.form;injection es with es1 es2 es3;subst es2;exact⟨gl,off,sA,sc,hA,hg,by rw[a_ ae,hs],hc,hr⟩
def jO(F:Nat->Prop)(w:World)(v:Value)(vs:List Sv)(L:LL):Prop:=∀W,(∀k,k<w.heap.size->¬F k->W.heap[k]?=w.heap[k]?)->w.heap.size<=W.heap.size->LLV W v vs L
theorem jO.now(h:jO F w v vs L):LLV w v vs L:=h w (fun _ _ _=>rfl) (aS _)
theorem jO.next{w':World}(h:jO F w v vs L)(hk:∀k,k<w.heap.size->¬F k->w'.heap[k]?=w.heap[k]?)(hz:w.heap.size<=w'.heap.size)(hG:∀k,G k->F k\/w.heap.size<=k):jO G w' v vs L:=
 fun W h1 h2=>h W (fun k hk1 hk2=>(h1 k ae (fun hg=>(hG k hg).elim hk2 ae)).trans (hk k hk1 hk2)) ae
theorem jO.uK(h:LM base w v vs L)(hF:∀k,F k->k<base):jO F w v vs L:=fun W h1 _=>by
 have h2:=h.stay (w':=W) fun k e1 e2=>h1 k e2 (fun hf=>by have:=hF k hf;omega)
 exact⟨h2.len,h2.row.rd,fun i hi=>(h2.each i hi).rd⟩
theorem jO.one(h:jO F w v vs L){s:Sv}(hs:vs[j]?=some s):Aside F w (jr s) (lvl L j):=fun W h1 h2=>by
 obtain⟨hj,e⟩:=List.getElem?_eq_some_iff.1 hs;have:=(h W h1 h2).each j hj;rw[e] at this;exact this
theorem wX{L M:LL}(h:∀i,r_ (lvl L i)):∀j i,r_ (lvl (takeN M j L) i)
 | 0,i=>h i
 | j+1,i=>by rw[takeN];exact Px (wX h j) _ _ i
theorem BH(h:kS (L,led,a))(hm:kS (M,iR,b))(hw:wt L+wt M<=281474976710656)(hc:cnt L+cnt M<=900000):kS (lH L M,min (led+iR) 4611686018427387904,a):=by
 refine⟨wX h.iU M.length,h.top.take hm.top,?_,?_,?_⟩
 ·show wt (lH L M)<=_
  rw[zJ];exact hw
 ·show cnt (lH L M)<=_
  rw[XA];omega
 ·show min _ _<=_
  omega
structure bp6(F:Nat->Prop)(w:World)(g k n led:Nat)(L M:LL)(lw:Value)(ws:List Sv)(j:Nat)(F1:Nat->Prop)(wr:World)(lv:Value)(vs:List Sv):Prop where
 st:xB F1 wr g k n led lv vs (takeN M j L)
 al:jO F1 wr lw ws M
 sub:∀k,F1 k->F k\/w.heap.size<=k
 sup:∀k,F k->F1 k
 touch:Touch F w wr
theorem G9{cg r:Nat}{cv:Value}(w:World)(hs:xB F w g k n led lv vs L)(ht:xB G w h k m iR lv2 vs2 M)(hco:KC w cg r cv B a)(hf:Jw F w cg r cv)
 (hok:kS (L,led,a)) (hom:kS (M,iR,b)) (hn:n=wt L) (hm:m=wt M) (hnm:n+m<=281474976710656) (hcn:cnt L+cnt M<=900000) (h2:2<=k) (hk:k<=1000000) :
 aH 76 #[.pointer (some ⟨g,0,none⟩),.pointer (some ⟨h,0,none⟩),.pointer (some ⟨cg,0,none⟩)] w fun e w'=>e=.returned (.int .i64 0)/\∃F' GV vs',Po F w g k (n+m) cg r cv B (lH L M,min (led+iR) 4611686018427387904,a) F' w' GV vs' (jo k B (lH L M,min (led+iR) 4611686018427387904,a))/\iH k (jo k B (lH L M,min (led+iR) 4611686018427387904,a)).1=none:=by
 have X_:=aI (BH hok hom ae hcn)
 have HT:=aI ht;have HS:=aI hs;have HCO:=aI hco;have HF:=aI hf;have YR:=aI hok.iU;have bp7:led<=4611686018427387904:=hok.led;have bp8:iR<=4611686018427387904:=hom.led;have hlenL:L.length<=49:=hok.len;have bp9:M.length<=49:=hom.len;have c0:=hs.cell0;have C2:=aI hs.cell2;have c2:=hs.cell2;have C3:=aI hs.Dl;have d0:=ht.cell0;have d2:=ht.cell2;have D2:=aI ht.cell2;have D3:=aI ht.Dl;have hgw:=hs.blk.lt;have hhw:=ht.blk.lt;have hov:¬(m:Int) > 281474976710656 - (n:Int):=ae
 have hcM:cnt M<=1000000000:=ae
 clear hs ht hco hf hok hom hn hm
 go_enter func76,ntmps76
 go_wp2_with fail
 go_quiet (fail)
 go_wp2_with fail
 go_quiet (fail)
 go_upto_region 7 with fail;clear c0 c2 d0 d2;have mW:=aI (fun(w':World) (hS':Below w.heap.size w w')=>(aP ((hS'.cell (p:=⟨h,2,none⟩) hhw).trans D2.o) ((hS'.cell (p:=⟨h,3,none⟩) hhw).trans D3.o)))
 refine jh (fun w'=>Below w.heap.size w w') (dV 0 1 (dV 2 8 (fJ 1 (dV 10 3 [])))) (bw) ?_
 iterate 9 refine eQ ?_
 refine fO fun K hK=>?_
 go_simp;refine(yu _ (HT.o.keep (bw)) ae hcM).mono ?_
 rintro e w1 ⟨lw,ws,rfl,hlo,hb1⟩;have HLO:=aI hlo;have HB1:Below w.heap.size w w1:=Below.trans (bw) hb1;clear hlo hb1;refine hK _ _ (HB1) ?_
 clear hK K
 iterate 3 refine eQ ?_
 refine dJ ?_
 have HL1:Hid (LM w.heap.size w1 lw ws M):=aI (by have h1:=HLO.o;simpa only[gB] using h1)
 have MQ:=aI (HS.o.keep HB1);have k2:=MQ.o.cell2;have f2:=MQ.o.blk.frozen 2
 go_upto_region 9 with fail;have hst2:=MQ.o.be1 (.int .u64 (n+m:Nat));rw[dF] at hst2;have HS2:=aI hst2;have HT2:Hid (Touch F w (w1.setCell ⟨g,2,none⟩ (.int .u64 ((n:Int)+(m:Int))))):=aI ((Touch.of_below HB1 (aS _)).setCell (.inl MQ.o.fg) _);have HA1:Hid (jO F w1 lw ws M):=aI (jO.uK HL1.o fun kk e=>HS.o.low kk e)
 have HA2:Hid (jO F (w1.setCell ⟨g,2,none⟩ (.int .u64 ((n:Int)+(m:Int)))) lw ws M):=aI (HA1.o.next (fun kk _ h1=>bM w1 ⟨g,2,none⟩ _ kk (fun e=>h1 (by rw[e];exact MQ.o.fg))) ag (fun kk e=>.inl e))
 obtain⟨w2,hw2⟩:∃x,w1.setCell ⟨g,2,none⟩ (.int .u64 ((n:Int)+(m:Int)))=x:=⟨_,rfl⟩;rw[hw2] at HS2 HT2 HA2 |-;clear hw2 hst2 k2 f2 MQ HL1 HLO HA1 HB1;have k3:w2.cell? ⟨g,3,none⟩=some (.int .u64 led):=HS2.o.Dl;have f3:=HS2.o.blk.frozen 3
 go_upto_region 10 with fail;have hst3:xB F (w2.setCell ⟨g,3,none⟩ (.int .u64 (min (led+iR) 4611686018427387904:Nat))) g k (n+m) (min (led+iR) 4611686018427387904) lv vs L:=by
  have:=HS2.o.be3 (.int .u64 (min (led+iR) 4611686018427387904:Nat));rw[<-dF] at this;exact this
 have HMI:Hid (min ((led:Int)+(iR:Int)) 4611686018427387904=((min (led+iR) 4611686018427387904:Nat):Int)):=aI ae
 rw[HMI.o];have HT3:Hid (Touch F w (w2.setCell ⟨g,3,none⟩ (.int .u64 (min (led+iR) 4611686018427387904:Nat)))):=aI (HT2.o.setCell (.inl HS2.o.fg) _);have VD:Hid (jO F (w2.setCell ⟨g,3,none⟩ (.int .u64 (min (led+iR) 4611686018427387904:Nat))) lw ws M):=aI (HA2.o.next (fun kk _ h1=>bM w2 ⟨g,3,none⟩ _ kk (fun e=>h1 (by rw[e];exact HS2.o.fg))) ag (fun kk e=>.inl e))
 have HS3:=aI hst3;obtain⟨w3,hw3⟩:∃x,w2.setCell ⟨g,3,none⟩ (.int .u64 (min (led+iR) 4611686018427387904:Nat))=x:=⟨_,rfl⟩;rw[hw3] at HS3 HT3 VD |-;clear hw3 hst3 k3 f3 HS2 HT2 HA2 HMI;have hz3:=HT3.o.size;obtain⟨A0,c0,elw,_,_,_⟩:=VD.o.now.row.form;rw[VD.o.now.len] at elw;subst elw;obtain⟨ld,hld⟩:=aF (min (led+iR) 4611686018427387904);rw[hld] at HS3 X_ |-;have bg4:=aI hld;clear hld hov
 go_wp2_with fail
 go_loopg [10,11,66] M.length (fun q _ _ i wr=>∃(j:Nat) (F1:Nat->Prop) (X7:Value) (vs1:List Sv),q=M.length - j/\j<=M.length/\i=.int .i64 (j:Int)/\Hid (bp6 F w g k (n+m) ld L M (.slice A0 M.length c0) ws j F1 wr X7 vs1))
 case atStart=>exact⟨0,F,lv,vs,ae,ae,rfl,aI ⟨HS3.o,VD.o,fun _ h=>.inl h,fun _ h=>h,HT3.o⟩⟩
 case round=>
  obtain⟨j,F1,X7,vs1,hq,hj,rfl,HA⟩:=hrel;have HQ:=aI hq;clear hq;have hsz:=HA.o.touch.size
  by_cases hjl:j<M.length
  ·obtain⟨gl,off,sA,sc,eA,hgl,hvs,c2,_⟩:=HA.o.al.now.at_ hjl
   subst eA;have bq0:(takeN M j L).length<=49:=by rw[oM];omega
   have hlj:(lvl M j).length<=900000:=by have:=iG M j;omega
   have hlN:(lvl (takeN M j L) j).length<=900000:=by have:=iG (takeN M j L) j;have h1:=wU M L j ae ;have h2:=Dv M j;omega
   have HPU:=aI (put_any j (jr (sA,(lvl M j).length,sc)) (lvl M j) wr HA.o.st (HA.o.al.one hvs) (wX YR.o j j) ae  ae  ae  ae)
   obtain⟨x,hx⟩:=aF ((lvl M j).length);rw[hx] at c2 HPU;clear hvs hx
   go_wp2_with fail;refine(HPU.o).mono ?_
   rintro e w5 ⟨rfl,F2,bg5,bg6,q1,q2,q3,q4⟩;have Q1:=aI q1;have Q2:=aI q2;have Q3:=aI q3;have Q4:=aI q4;clear q1 q2 q3 q4 HPU c2
   go_wp2_with fail
   go_roundg (M.length - (j+1))
   case measure=>have:=HQ.o;omega
   case rel=>
    refine⟨j+1,F2,bg5,bg6,rfl,ae,ai,aI ⟨Q3.o,?_,?_,?_,?_⟩⟩
    ·exact HA.o.al.next (fun kk h1 h2=>Q4.o.block kk h1 h2) Q4.o.size Q1.o
    ·intro kk hk1
     rcases Q1.o kk hk1 with h1|h1
     ·exact HA.o.sub kk h1
     ·exact .inr ae
    ·exact fun kk hk1=>Q2.o kk (HA.o.sup kk hk1)
    ·exact HA.o.touch.trans Q4.o fun i hi=>HA.o.sub i hi
  ·obtain rfl:j=M.length:=ae
   have HP:=aI (ae9 (s0:=(lH L M,ld,a)) wr HA.o.st (HCO.o.touch HF.o HA.o.touch) (HF.o.next HA.o.sub hsz) X_.o h2 hk)
   go_wp2_with fail;refine(HP.o).mono ?_
   rintro e w2 ⟨rfl,F2,lv2,vs2,q1,q2⟩;have Q1:=aI q1;have Q2:=aI q2;clear q1 q2 HP
   go_wp2_with fail;refine bodyPost_ret (by simp[results,Tryz.results76,go_sem, *];try rfl) rfl ?_
   rw[bg4.o];exact⟨rfl,F2,lv2,vs2,Q1.o.back HA.o.sub HA.o.sup HA.o.touch,Q2.o⟩
theorem Ya(q:Value)(w:World)(hs:xB F w g k n led lv vs L)(ht:xB G w h k m iR lv2 vs2 M)(hn:n<=281474976710656)(_hm:m<=281474976710656)(hnm:281474976710656<n+m) :
 aH 76 #[.pointer (some ⟨g,0,none⟩),.pointer (some ⟨h,0,none⟩),q] w fun e w'=>e=.returned (.int .i64 6)/\∃n,w'=w.drewN n:=by
 have c0:=hs.cell0;have d0:=ht.cell0;have c2:=hs.cell2;have d2:=ht.cell2;have hov:(m:Int) > 281474976710656 - (n:Int):=ae
 clear hs ht
 go_enter func76,ntmps76
 go_wp2_with fail
 go_quiet (fail)
 go_wp2_with fail
 go_quiet (fail)
 go_wp2_with fail;refine bodyPost_ret (by simp[results,Tryz.results76,go_sem, *];try rfl) rfl ?_
 exact⟨rfl,by first|exact⟨_,rfl⟩|exact⟨_,BF _ _ _⟩⟩
open Tryz
open Go.RowKit
theorem kS.TV(h:kS (L,led,a)):L.length<=49:=h.len
theorem kS.bg7(h:kS (L,led,a)):Go.Proofs.YtilcnjbpmoijmaaGreat.K.cnt L<=1000000:=h.cnt
theorem kS.wtL(h:kS (L,led,a)):Go.Proofs.YtilcnjbpmoijmaaGreat.K.wt L<=281474976710656:=h.wt
open Tryz
open Go.RowKit
theorem bz3(hb:c * 2 ^ h<=281474976710656):IntKind.u64.wrap ((c:Int) * 2 ^ h)=((c * 2 ^ h:Nat):Int):=by
 have h2:(2:Int) ^ h=((2 ^ h:Nat):Int):=by rw[Int.natCast_pow];rfl
 rw[h2,<-Int.natCast_mul,dD];generalize c * 2 ^ h=z at hb;omega
open Tryz
open Go.RowKit
def vO(L:LL):List Int:=L.flatten
open Tryz
open Go.RowKit Go.Lib
open Tryz
open Go.RowKit
open Tryz
open Go.RowKit
open Tryz
open Go.RowKit
structure Fit(k:Nat)(L:LL)(led:Nat):Prop where
 ok:kS (L,led,0)
 none:iH k L=none
theorem kS.Xz(h:kS (L,led,a)):kS (L,led,b):=⟨h.iU,h.top,h.wt,h.cnt,h.led⟩
theorem Fit.pk(h:Fit k L led):kS (L,led,a):=h.ok.Xz
theorem BI:∀(L:LL) (k:Nat),(∀j,j<L.length->(lvl L j).length<=k)->cnt L<=L.length * k
 | [],k,_=>by simp[cnt]
 | l::L,k,h=>by
  have h0:=h 0 ag
  have ih:=BI L k fun j hj=>by
   have:=h (j+1) (by simpa using hj)
   simpa[lvl] using this
  rw[nS,aU,Nat.add_mul];simp only[lvl,List.getD_cons_zero] at h0;omega
theorem Fit.cnt{k led:Nat}{L:LL}(h:Fit k L led)(h2:2<=k)(hk:k<=4096):Go.Proofs.YtilcnjbpmoijmaaGreat.K.cnt L<=200704:=by
 have h1:=BI L k fun j hj=>bJ (yl h.none j hj) (room_le h2)
 have h3:L.length * k<=49 * 4096:=Nat.mul_le_mul h.ok.TV hk;omega
theorem Fit.nil_(k:Nat):Fit k [] 0:=⟨⟨fun j=>by simp[lvl],fun h=>absurd h ag,af,af,af⟩,rfl⟩
def Yb(L:LL)(n:Nat):Int:=if n=0 then 4 else if 281474976710656<wt L+n then 6 else 0
def D7(k:Nat)(B:List Int)(v:Int)(n:Nat)(s:KS):KS:=if Yb s.1 n=0 then jo k B (nT s.1 v n,s.2.1,s.2.2) else s
def iJ(L M:LL):Int:=if 281474976710656<wt L+wt M then 6 else 0
def jR(k:Nat)(B:List Int)(t:LL × Nat)(s:KS):KS:=if iJ s.1 t.1=0 then jo k B (lH s.1 t.1,min (s.2.1+t.2) 4611686018427387904,s.2.2) else s
theorem Jy(h:kS s):Fit k (jo k B s).1 (jo k B s).2.1:=by
 have h1:=yt (k:=k) (B:=B) (P:=kS) (fun s j h1 h2=>h1.step h2) h
 exact⟨kS.Xz (a:=(jo k B s).2.2) h1,S9 k B s⟩
theorem G_(s:KS):wt (jo k B s).1=wt s.1:=by
 refine yt (k:=k) (B:=B) (P:=fun t=>wt t.1=wt s.1) (fun t h h1 h2=>?_) rfl
 show wt (mM t.1 h (iW B t.2.2))=_
 rw[Ov (kR h2).1];exact h1
theorem BJ(h:Yb L n=0):0<n/\wt L+n<=281474976710656:=by
 unfold Yb at h
 by_cases h1:n=0
 ·rw[if_pos h1] at h;cases h
 ·rw[if_neg h1] at h
  by_cases h2:281474976710656<wt L+n
  ·rw[if_pos h2] at h;cases h
  ·omega
theorem af4{v:Int}(h:Fit k s.1 s.2.1)(h2:2<=k)(hk:k<=4096):Fit k (D7 k B v n s).1 (D7 k B v n s).2.1:=by
 unfold D7
 split
 ·rename_i h0
  exact Jy (af2 h.pk v n (BJ h0).2 (by have:=h.cnt h2 hk;omega))
 ·exact h
theorem ar2{v:Int}:wt (D7 k B v n s).1=if Yb s.1 n=0 then wt s.1+n else wt s.1:=by
 unfold D7
 split
 ·rename_i h0
  rw[G_];exact Vs _ _ (by have:=BJ h0;omega)
 ·rfl
theorem TY(h:iJ L M=0):wt L+wt M<=281474976710656:=by
 unfold iJ at h
 by_cases h2:281474976710656<wt L+wt M
 ·rw[if_pos h2] at h;cases h
 ·omega
theorem Yc(h:Fit k s.1 s.2.1)(ht:Fit k t.1 t.2)(h2:2<=k)(hk:k<=4096):Fit k (jR k B t s).1 (jR k B t s).2.1:=by
 unfold jR
 split
 ·rename_i h0
  exact Jy (BH h.pk (ht.pk (a:=0)) (TY h0) (by have:=h.cnt h2 hk;have:=ht.cnt h2 hk;omega))
 ·exact h
theorem af5:wt (jR k B t s).1=if iJ s.1 t.1=0 then wt s.1+wt t.1 else wt s.1:=by
 unfold jR
 split
 ·rw[G_];exact zJ _ _
 ·rfl
def MR(F:Nat->Prop)(w:World)(g k:Nat)(L:LL)(led:Nat):Prop:=∃lv vs,xB F w g k (wt L) led lv vs L
def RAt(F:Nat->Prop)(w:World)(g k:Nat)(L:LL)(led:Nat):Prop:=∃lv vs,Rst F w g k led lv vs L
theorem MR.stay{F:Nat->Prop}{w w':World}{g k led:Nat}{L:LL}(h:MR F w g k L led)(hk:∀x,F x->w'.heap[x]?=w.heap[x]?)(hz:w.heap.size<=w'.heap.size):MR F w' g k L led:=by
 obtain⟨lv,vs,h⟩:=h;exact⟨lv,vs,h.stay hk hz⟩
theorem RAt.stay{F:Nat->Prop}{w w':World}{g k led:Nat}{L:LL}(h:RAt F w g k L led)(hk:∀x,F x->w'.heap[x]?=w.heap[x]?)(hz:w.heap.size<=w'.heap.size):RAt F w' g k L led:=by
 obtain⟨lv,vs,h⟩:=h;exact⟨lv,vs,h.stay hk hz⟩
theorem MR.keep{F:Nat->Prop}{w w':World}{g k led:Nat}{L:LL}(h:MR F w g k L led)(hb:Below w.heap.size w w'):MR F w' g k L led:=by
 obtain⟨lv,vs,h⟩:=h;exact⟨lv,vs,h.keep hb⟩
end Go.Proofs.YtilcnjbpmoijmaaGreat.K
namespace Go.Proofs.YtilcnjbpmoijmaaGreat.D
open Tryz
open Go.RowKit Go.Lib Go.Shelf
inductive fG where
 | h (lo hi dg u m:Nat) (gr:Bool)
 | d (a m:Nat)
 | t (d:Nat)
 | k (q:Nat)
structure Js where
 bk:Nat
 l:List Pr
 s:St
 L:K.LL
 led:Nat
def ji(p:Nat):Value:=.pointer (some ⟨p,0,none⟩)
def fG.v:fG->Value
 | .h lo hi dg _ _ gr=>dS 1 lo hi dg gr 0 0
 | .d a m=>dS 2 0 0 0 false a m
 | .t e=>dS 3 0 0 0 false 0 e
 | .k q=>dS 4 0 0 0 false 0 q
def fG.cs:fG->List Value
 | .h lo hi dg _ _ gr=>[.int .u8 1,.int .i64 lo,.int .i64 hi,.int .i64 dg,.bool gr,.int .i64 0,.int .i64 0]
 | .d a m=>[.int .u8 2,.int .i64 0,.int .i64 0,.int .i64 0,.bool false,.int .i64 a,.int .i64 m]
 | .t e=>[.int .u8 3,.int .i64 0,.int .i64 0,.int .i64 0,.bool false,.int .i64 0,.int .i64 e]
 | .k q=>[.int .u8 4,.int .i64 0,.int .i64 0,.int .i64 0,.bool false,.int .i64 0,.int .i64 q]
def fG.five(p:Nat):fG->Array Value
 | .h ..=>#[.int .u8 1,ji p,.pointer none,.pointer none,.pointer none]
 | .d ..=>#[.int .u8 2,.pointer none,ji p,.pointer none,.pointer none]
 | .t ..=>#[.int .u8 3,.pointer none,.pointer none,ji p,.pointer none]
 | .k ..=>#[.int .u8 4,.pointer none,.pointer none,.pointer none,ji p]
def fG.four(p:Nat):fG->List Value
 | .h ..=>[ji p,.pointer none,.pointer none,.pointer none]
 | .d ..=>[.pointer none,ji p,.pointer none,.pointer none]
 | .t ..=>[.pointer none,.pointer none,ji p,.pointer none]
 | .k ..=>[.pointer none,.pointer none,.pointer none,ji p]
def rO(sp:fG)(c:Js)(p:Nat)(G:Ft)(w:World):Prop:=match sp with
 | .h lo hi dg u m gr=>qo p lo hi dg u m gr c.bk c.l G w
 | .d a m=>rq p a m c.l G w
 | .t d=>Ie w p G d c.s
 | .k q=>K.MR G w p q c.L c.led
def af6(sp:fG)(c:Js)(p:Nat)(G:Ft)(w:World):Prop:=match sp with
 | .h lo hi dg u m gr=>Oo p lo hi dg u m gr c.bk c.l G w
 | .d a m=>Z8 p a m c.l G w
 | .t d=>bk8 w p G d c.s
 | .k q=>K.RAt G w p q c.L c.led
theorem ar4(p:Nat)(d:Int)(s:St):jV (fun G w=>Ie w p G d s) where
 stay:=fun h hk hz=>Dg.stay h hk hz
 more:=fun⟨lv,wv,h1,h2,h3,h4,h5,h6,h7,_⟩ h hl=>⟨lv,wv,h1,h2,h3,h _ h4,fun k e=>h k (h5 k e),fun k e=>h k (h6 k e),h7,hl⟩
 low:=fun h=>Dg.low h
theorem af7(p:Nat)(d:Int)(s:St):jV (fun G w=>bk8 w p G d s) where
 stay:=fun h hk hz=>RDg.stay h hk hz
 more:=fun⟨lv,wv,h1,h2,h3,h4,h5,h6,h7,_⟩ h hl=>⟨lv,wv,h1,h2,h3,h _ h4,fun k e=>h k (h5 k e),fun k e=>h k (h6 k e),h7,hl⟩
 low:=fun h=>RDg.low h
theorem Ha(p q:Nat)(L:K.LL)(led:Nat):jV (fun G w=>K.MR G w p q L led) where
 stay:=fun h hk hz=>h.stay hk hz
 more:=fun⟨lv,vs,h⟩ hG hl=>⟨lv,vs,⟨h.blk,h.gW.mono hG,hG _ h.fg,h.g1,h.g2,hl⟩⟩
 low:=fun⟨_,_,h⟩=>h.low
theorem ar5(p q:Nat)(L:K.LL)(led:Nat):jV (fun G w=>K.RAt G w p q L led) where
 stay:=fun h hk hz=>h.stay hk hz
 more:=fun⟨lv,vs,h⟩ hG hl=>⟨lv,vs,⟨h.blk,h.gW.mono hG,hG _ h.fg,h.g1,h.g2,hl⟩⟩
 low:=fun⟨_,_,h⟩=>h.low
theorem jF(sp:fG)(c:Js)(p:Nat):jV (rO sp c p):=by
 cases sp with
 | h lo hi dg u m gr=>exact h_ p lo hi dg u m gr c.bk c.l
 | d a m=>exact jE p a m c.l
 | t d=>exact ar4 p d c.s
 | k q=>exact Ha p q c.L c.led
theorem He(sp:fG)(c:Js)(p:Nat):jV (af6 sp c p):=by
 cases sp with
 | h lo hi dg u m gr=>exact Oq p lo hi dg u m gr c.bk c.l
 | d a m=>exact Z9 p a m c.l
 | t d=>exact af7 p d c.s
 | k q=>exact ar5 p q c.L c.led
def iK(sp:fG)(c:Js)(x:Nat)(F:Ft)(w:World):Prop:=∃p G,dK w x 126 (sp.five p)/\rO sp c p G w/\F x/\¬G x/\(∀k,G k->F k)/\∀k,F k->k<w.heap.size
def uw(sp:fG)(c:Js)(x:Nat)(F:Ft)(w:World):Prop:=∃p G,dK w x 108 (sp.cs++sp.four p).toArray/\af6 sp c p G w/\F x/\¬G x/\(∀k,G k->F k)/\∀k,F k->k<w.heap.size
theorem kz(sp:fG)(c:Js)(x:Nat):jV (iK sp c x) where
 stay:=fun⟨p,G,h1,h2,h3,h4,h5,h6⟩ hk hz=>⟨p,G,(hk x h3).trans h1,(jF sp c p).stay h2 (fun k e=>hk k (h5 k e)) hz,h3,h4,h5,fun k h=>bF (h6 k h) hz⟩
 more:=fun⟨p,G,h1,h2,h3,h4,h5,_⟩ h hl=>⟨p,G,h1,h2,h x h3,h4,fun k e=>h k (h5 k e),hl⟩
 low:=fun⟨_,_,_,_,_,_,_,h6⟩=>h6
theorem Py(sp:fG)(c:Js)(x:Nat):jV (uw sp c x) where
 stay:=fun⟨p,G,h1,h2,h3,h4,h5,h6⟩ hk hz=>⟨p,G,(hk x h3).trans h1,(He sp c p).stay h2 (fun k e=>hk k (h5 k e)) hz,h3,h4,h5,fun k h=>bF (h6 k h) hz⟩
 more:=fun⟨p,G,h1,h2,h3,h4,h5,_⟩ h hl=>⟨p,G,h1,h2,h x h3,h4,fun k e=>h k (h5 k e),hl⟩
 low:=fun⟨_,_,_,_,_,_,_,h6⟩=>h6
theorem VE{sp:fG}{c':Js}{x p:Nat}{F G H:Ft}{w w':World}(hB:dK w x 126 (sp.five p))(hFx:F x)(VF:¬G x)(hGF:∀k,G k->F k)(hF:∀k,F k->k<w.heap.size)(hc:rO sp c' p (Gr G w w') w')(ht:Touch (fun k=>G k\/H k) w w')(hH:∀k,H k->¬F k) :
 iK sp c' x (Gr F w w') w'/\Touch (fun k=>F k\/H k) w w':=
 ⟨⟨p,Gr G w w',(ht.block x hB.lt (fun h=>h.elim VF (fun h=>hH x h hFx))).trans hB,hc,.inl hFx,fun h=>h.elim VF (fun h=>by have:=hB.lt;omega),fun k h=>h.imp (hGF k) id,jU hF ht.size⟩,ht.mono fun k h=>h.imp (hGF k) id⟩
def jf(q:Value)(B:List Int)(a:Nat)(H:Ft)(w:World):Prop:=(q=.pointer none/\B=[]/\a=0/\∀k,¬H k)\/∃cg r cv,q=ji cg/\K.KC w cg r cv B a/\H cg/\H r/\(∀k,cv.ownBlock=some k->H k)/\∀k,H k->k<w.heap.size
def qP(P C:Ft->World->Prop)(F H:Ft)(er:Int)(w:World)(e:Ending)(w':World):Prop:=e=.returned (.int .i64 er)/\P (Gr F w w') w'/\C H w'/\Touch (fun k=>F k\/H k) w w'
end Go.Proofs.YtilcnjbpmoijmaaGreat.D
namespace Go.Proofs.YtilcnjbpmoijmaaGreat.K
open Tryz
open Go.RowKit
variable{l:List Int}
theorem new_any(k:Nat)(w:World)(h8:8<=k)(hk:k<=4096) :
 aH 209 #[.int .i64 k] w fun e w'=>e=.returned (.tuple #[.pointer (some ⟨w.heap.size,0,none⟩),.int .i64 0])/\w'=w.alloc (.cells #[.int .i64 k,.slice none 0 0,.int .u64 0,.int .u64 0] 201):=by
 have h1:¬(k:Int)<8:=ae
 have h2:¬(k:Int) > 4096:=ae
 go_enter func209,ntmps209
 go_wp2_with fail
 go_ret2
 exact⟨rfl,rfl⟩
theorem Fv(k:Int)(w:World)(h:k<8\/4096<k) :
 aH 209 #[.int .i64 k] w fun e w'=>e=.returned (.tuple #[.pointer none,.int .i64 1])/\w=w':=by
 by_cases h1:k<8
 ·go_enter func209,ntmps209
  go_wp2_with fail
  go_ret2
  exact⟨rfl,rfl⟩
 ·have h2:k > 4096:=ae
  clear h
  go_enter func209,ntmps209
  go_wp2_with fail
  go_ret2
  exact⟨rfl,rfl⟩
theorem VG{t:TypeId}{a:Value}{rest:List Value}{w:World}{g:Nat}(h:dK w g t (a::.slice none 0 0::rest).toArray):qQ t a rest (fun x=>x=g) w g (.slice none 0 0) [] []:=
 ⟨h,⟨dL.nil_ _ _,rfl,fun i hi=>absurd hi ag,fun i hi=>absurd hi ag,fun i j hi=>absurd hi ag,fun k e=>by simp[Value.ownBlock] at e,fun i hi=>absurd hi ag⟩,rfl,by simp[Value.ownBlock],fun i hi=>absurd hi ag,fun k hk=>by rw[show k=g from hk];exact h.lt⟩
theorem VH(k:Nat)(w:World):MR (fun x=>x=w.heap.size) (w.alloc (.cells #[.int .i64 k,.slice none 0 0,.int .u64 0,.int .u64 0] 201)) w.heap.size k [] 0:=⟨_,_,VG (dK.new w _ _)⟩
open Tryz
open Go.RowKit
open Tryz
open Go.RowKit
open Tryz
open Go.RowKit
theorem Pz(h:∀j (hj:j+1<l.length),l[j]<=l[j+1]):r_ l:=by
 refine List.pairwise_iff_getElem.2 fun i j hi hj hij=>?_
 obtain⟨d,rfl⟩:∃d,j=i+1+d:=⟨j - i - 1,ae⟩
 clear hij
 induction d with
 | zero=>exact h i hj
 | succ d ih=>exact Int.le_trans (ih ae) (h (i+1+d) hj)
theorem Hf(h:r_ l){j:Nat}(hj:j+1<l.length):l[j]<=l[j+1]:=List.pairwise_iff_getElem.1 h j (j+1) ae hj ae
theorem Yd(x:Int)(w:World):aH 422 #[.int .i64 x] w fun e w'=>e=.returned (.bool false)/\w=w':=by
 have hx:(x == x)=true:=ag
 go_enter func422,ntmps422
 go_wp2_with fail
 go_ret;exact⟨by simp,rfl⟩
theorem af8(x y:Int)(w:World):aH 362 #[.int .i64 x,.int .i64 y] w fun e w'=>e=.returned (.bool (decide (x<y)))/\w=w':=by
 go_enter func362,ntmps362
 go_wp2_with fail;refine(Yd x w).mono ?_
 rintro e w1 ⟨rfl,hw1⟩;subst hw1
 go_wp2_with fail;refine bodyPost_ret (by simp[results,Tryz.results362,go_sem, *];try rfl) rfl ?_
 exact⟨by simp,rfl⟩
theorem LP(v:Value)(l:List Int)(w:World)(h:iM jq w v l)(hl:l.length<=1000000000) :
 aH 414 #[v] w fun e w'=>e=.returned (.bool (decide (r_ l)))/\∃q,w'=w.drewN q:=by
 obtain⟨A,c,rfl,h1,h2,hf⟩:=h.form;have HF:=aI hf;clear h hf
 go_enter func414,ntmps414
 go_wp2_with fail
 go_loopg [3] l.length (fun q i wr=>∃(z:Int) (d:Nat),q=(z+1).toNat/\-1<=z/\z<l.length/\i=.int .i64 z/\wr=w.drewN d/\Hid (∀j (hj:j+1<l.length),z<=j->l[j]<=l[j+1]))
 case atStart=>exact⟨(l.length:Int) - 1,0,ae,ae,ae,ai,rfl,aI fun j hj hz=>absurd hz ae⟩
 case round=>
  obtain⟨z,d,hq,hz1,hz2,rfl,rfl,HI⟩:=hrel;have HQ:=aI hq;clear hq
  by_cases hz:z > 0
  ·obtain⟨n,rfl⟩:∃n:Nat,z=n:=⟨z.toNat,ae⟩
   obtain⟨m,hm⟩:∃m:Nat,n=m+1:=⟨n - 1,ae⟩
   have hnl:n<l.length:=ae
   have hml:m<l.length:=ae
   obtain⟨ga,oa,eA,hga,ka⟩:=HF.o.i64 hnl;subst eA;obtain⟨ga',oa',eA,_,kb⟩:=HF.o.i64 hml;injection eA with eA;injection eA with eA1 eA2;subst eA1;subst eA2;have YJ:Hid (l[m]<=l[n]->∀j (hj:j+1<l.length),(n:Int) - 1<=j->l[j]<=l[j+1]):=aI fun hle j hj hz=>by
    rcases bV j n with h3|h3
    ·have e:j=m:=ae
     subst e;have e2:n=j+1:=hm;subst e2;exact hle
    ·exact HI.o j hj ae
   have Ye:Hid (l[n]<l[m]->¬r_ l):=aI fun hlt hs=>by
    have h3:=Hf hs (j:=m) (by omega)
    have e:l[m+1]' ae =l[n]:=by congr 1;omega
    rw[e] at h3;omega
   obtain⟨x,hx⟩:=aF (l[n]);obtain⟨y,hy⟩:=aF (l[m]);rw[hx] at ka;rw[hy] at kb;simp only[hx,hy] at YJ Ye;have KA:=aI ka;have KB:=aI kb;have hnm:(n:Int) - 1=(m:Int):=ae
   have HW:Hid (IntKind.i64.wrap (m:Int)=(m:Int)):=aI (IntWalk.i64_in _ ae)
   have hni:(n:Int)<(l.length:Int):=ae
   have hmi:(m:Int)<(l.length:Int):=ae
   clear hx hy ka kb hm HI
   go_upto_region 4 with fail;have mW:=aI (fun(w':World) (hS':Below w.heap.size w w')=>(aP ((hS'.cell (p:=⟨ga,oa+n,none⟩) hga).trans KA.o) (aP ((hS'.cell (p:=⟨ga,oa+m,none⟩) hga).trans KB.o) (HW.o))))
   refine jh (fun w'=>Below w.heap.size w w') (dV 0 9 (fJ 9 [])) ((below_drewN (aO _ _) _).drew) ?_
   iterate 9 refine eQ ?_
   refine fO fun K hK=>?_
   go_simp;refine(af8 x y _).mono ?_
   rintro e w5 ⟨rfl,hw5⟩;subst hw5;refine hK _ _ ((below_drewN (aO _ _) _).drew) ?_
   clear hK K;refine dJ ?_
   by_cases hxy:x<y
   ·have HN:=aI (Ye.o hxy)
    go_wp2_with fail;refine bodyPost_ret (by simp[results,Tryz.results414,go_sem, *];try rfl) rfl ?_
    exact⟨by rw[decide_eq_false HN.o],by first|exact⟨_,rfl⟩|exact⟨_,BF _ _ _⟩⟩
   ·have HN:=aI (YJ.o ae)
    go_wp2_with fail
    go_roundg n
    case measure=>have:=HQ.o;omega
    case rel=>exact⟨(n:Int) - 1,d+1,ae,ae,ae,ai,by first|rfl|exact BF _ _ _,HN⟩
  ·have HS:Hid (r_ l):=aI (Pz fun j hj=>HI.o j hj ae)
   go_wp2_with fail;refine bodyPost_ret (by simp[results,Tryz.results414,go_sem, *];try rfl) rfl ?_
   exact⟨by rw[decide_eq_true HS.o],_,rfl⟩
structure iw(k:Int)(L:LL)(led:Nat):Prop where
 k8:8<=k
 k4:k<=4096
 hlen:L.length<=49
 Pv:led<=4611686018427387904
 emp:L.length=0->led=0
 top:0<L.length->lvl L (L.length - 1)≠[]
 gW:∀h,h<L.length->(lvl L h).length<=room k.toNat L.length h/\r_ (lvl L h)
 hwt:wt L<=281474976710656
theorem iw.fit{k:Nat}{L:LL}{led:Nat}(h:iw k L led):Fit k L led:=by
 have hk:=h.k4;have h8:=h.k8;have ar6:=h.gW;rw[di] at ar6;have hr:∀j,j<L.length->(lvl L j).length<=k:=fun j hj=>bJ (ar6 j hj).1 (room_le ae)
 refine⟨⟨fun j=>?_,h.top,h.hwt,?_,h.Pv⟩,xA fun j hj=>(ar6 j hj).1⟩
 ·rcases bV j L.length with h1|h1
  ·exact(ar6 j h1).2
  ·show r_ (lvl L j)
   rw[ry h1];exact List.Pairwise.nil
 ·have h1:=BI L k hr
  have h2:L.length * k<=49 * 4096:=Nat.mul_le_mul h.hlen ae
  show cnt L<=_
  omega
end Go.Proofs.YtilcnjbpmoijmaaGreat.K
