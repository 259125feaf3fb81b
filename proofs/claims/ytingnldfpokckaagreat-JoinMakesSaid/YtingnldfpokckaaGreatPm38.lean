/- Parts of a proof: what its theorem reaches, words cut short. No condition of its own. -/
import Derived.Test.YtingnldfpokckaaGreatPm37
set_option maxRecDepth 100000
set_option maxHeartbeats 16000000
set_option linter.unusedVariables false
set_option linter.unusedSimpArgs false
namespace Go.Proofs.YtingnldfpokckaaGreat.K
open Go.RowKit
def LLR(w:World)(v:Value)(L:LL):Prop:=∃vs:List Sv,vs.length=L.length/\RdE slE w v vs/\∀i (h:i<vs.length),RdE i64E w (svV vs[i]) (lvl L i)
theorem LLR.keep{w w':World}{v:Value}{L:LL}(h:LLR w v L)(hb:Below w.heap.size w w'):LLR w' v L:=by
 obtain⟨vs,h1,h2,h3⟩:=h
 exact⟨vs,h1,h2.keep hb,fun i hi=>(h3 i hi).keep hb⟩
theorem StG.llr{t:TypeId}{a:Value}{rest:List Value}{F:Nat->Prop}{w:World}{g:Nat}{lv:Value}{vs:List Sv}{L:LL}(h:StG t a rest F w g lv vs L):LLR w lv L:=
 ⟨vs,h.lev.len,h.lev.row.rd,fun i hi=>(h.lev.each i hi).rd⟩
theorem LLR.form{w:World}{v:Value}{L:LL}(h:LLR w v L):∃A c,v=.slice A L.length c/\L.length<=c/\c<=9223372036854775807:=by
 obtain⟨vs,h1,h2,h3⟩:=h
 obtain⟨A,c,e,h4,h5,_⟩:=h2.form
 rw[h1] at e h4
 exact⟨A,c,e,h4,h5⟩
theorem LLR.at_{w:World}{A:Option Addr}{n c:Nat}{L:LL}(h:LLR w (.slice A n c) L){j:Nat}(hj:j<L.length) :
 ∃gl off sA sc,A=some ⟨gl,off,none⟩/\gl<w.heap.size/\w.cell? ⟨gl,off+j,none⟩=some (.slice sA (lvl L j).length sc)/\RdE i64E w (.slice sA (lvl L j).length sc) (lvl L j):=by
 obtain⟨vs,h1,h2,h3⟩:=h
 obtain⟨A',c',e,_,_,hf⟩:=h2.form
 injection e with e1 e2 e3
 subst e1
 obtain⟨gl,off,hA,hg,hc⟩:=hf.sl (j:=j) (by omega)
 have hr:=h3 j (by omega)
 obtain⟨s,hs⟩:∃s,vs[j]'(by omega)=s:=⟨_,rfl⟩
 rw[hs] at hr hc
 obtain⟨sA,sn,sc⟩:=s
 obtain⟨_,_,es,_,_,_⟩:=hr.form
 injection es with es1 es2 es3
 subst es2
 exact⟨gl,off,sA,sc,hA,hg,hc,hr⟩
theorem drewN_add(w:World)(a b:Nat):(w.drewN a).drewN b=w.drewN (a+b):=by unfold World.drewN;simp[Nat.add_assoc]
structure LLO(base:Nat)(w:World)(v:Value)(vs:List Sv)(L:LL):Prop where
 row:OwnE slE base w v vs
 len:vs.length=L.length
 each:∀i (h:i<vs.length),OwnE i64E base w (svV vs[i]) (lvl L i)
theorem LLO.llr{base:Nat}{w:World}{v:Value}{vs:List Sv}{L:LL}(h:LLO base w v vs L):LLR w v L:=⟨vs,h.len,h.row.rd,fun i hi=>(h.each i hi).rd⟩
theorem LLO.stay{base:Nat}{w w':World}{v:Value}{vs:List Sv}{L:LL}(h:LLO base w v vs L)(hk:∀k,base<=k->k<w.heap.size->w'.heap[k]?=w.heap[k]?):LLO base w' v vs L:=
 ⟨h.row.stay fun k e=>hk k (h.row.lt k e).1 (h.row.lt k e).2,h.len,fun i hi=>(h.each i hi).stay fun k e=>hk k ((h.each i hi).lt k e).1 ((h.each i hi).lt k e).2⟩
theorem LLO.nil_(base:Nat)(w:World):LLO base w (.slice none 0 0) [] []:=⟨OwnE.nil_ _ _,rfl,fun i hi=>absurd hi (by simp)⟩
theorem LLO.snoc{base:Nat}{w w1 w2:World}{v v2:Value}{vs:List Sv}{L:LL}{s:Sv}{l:List Int}(h:LLO base w v vs L)(hb:Below w.heap.size w w1)(hs:OwnE i64E base w1 (svV s) l)
 (ho:OwnE slE base w2 v2 (vs++[s])) (hg:w1.grownBy w2 v.ownBlock) (hd:∀i (hi:i<vs.length) k,(svV vs[i]).ownBlock=some k->v.ownBlock≠some k) (hsd:∀k,(svV s).ownBlock=some k->v.ownBlock≠some k):LLO base w2 v2 (vs++[s]) (L++[l]):=by
 refine⟨ho,by rw[List.length_append,List.length_append,h.len];rfl,fun i hi=>?_⟩
 rcases Nat.lt_or_ge i vs.length with h1|h1
 ·rw[List.getElem_append_left h1]
  have e:lvl (L++[l]) i=lvl L i:=by
   unfold lvl
   simp only[List.getD]
   rw[List.getElem?_append_left (by rw[<-h.len];exact h1)]
  rw[e]
  exact((h.each i h1).keep hb).stay fun k e2=>hg.block k (by have:=((h.each i h1).lt k e2).2;have:=hb.size;omega) (fun e3=>hd i h1 k e2 e3.symm)
 ·have hi':i=vs.length:=by rw[List.length_append] at hi;simp only[List.length_singleton] at hi;omega
  subst hi'
  have e:lvl (L++[l]) vs.length=l:=by
   unfold lvl
   simp only[List.getD]
   rw[h.len,List.getElem?_append_right (Nat.le_refl _)];simp
  rw[e]
  simp only[List.getElem_append_right (Nat.le_refl _),Nat.sub_self,List.getElem_cons_zero]
  exact hs.stay fun k e2=>hg.block k (hs.lt k e2).2 (fun e3=>hsd k e2 e3.symm)
theorem take_snoc{L:LL}{j:Nat}(h:j<L.length):L.take (j+1)=L.take j++[lvl L j]:=by rw[List.take_succ_eq_append_getElem h,lvl_at h]
theorem levels_any{F:Nat->Prop}{g k n led:Nat}{lv:Value}{vs:List Sv}{L:LL}(w:World)(hs:Kst F w g k n led lv vs L)(hL:L.length<=1000)(hl:cnt L<=1000000000) :
 Calls Tryz.prog 74 #[.pointer (some ⟨g,0,none⟩)] w fun e w'=>∃v' vs',e=.returned v'/\LLO w.heap.size w' v' vs' L/\Below w.heap.size w w':=by
 obtain⟨i1,hi0,hiz,his,hib⟩:=info_parts slI
 have JI:=Lib.hid hi0
 have JZ:=Lib.hid hiz
 have JSZ:=Lib.hid his
 have JBY:=Lib.hid hib
 clear hi0 hiz his hib
 obtain⟨A,c,elv,hc1,hc2,_⟩:=hs.form
 have c1:=hs.cell1
 have HS:=Lib.hid hs
 have HC:=Lib.hid (fun j=>Nat.le_trans (lvl_le_cnt L j) hl)
 clear hs
 subst elv
 go_enter Tryz.func74,Tryz.ntmps74
 go_wp2_with fail
 go_loopg [3,5,11] L.length (fun q o _ i wr=>∃(j:Nat) (vs1:List Sv),q=L.length - j/\j<=L.length/\i=.int .i64 (j:Int)/\Hid (LLO w.heap.size wr o vs1 (L.take j))/\Hid (∀s∈vs1,∀k,(svV s).ownBlock=some k->o.ownBlock≠some k)/\Hid (Below w.heap.size w wr))
 case atStart=>exact⟨0,[],by omega,by omega,rfl,Lib.hid (LLO.nil_ _ _),Lib.hid (fun i hi=>absurd hi (by simp)),Lib.hid (Below.refl _ _)⟩
 case round=>
  obtain⟨j,vs1,hq,hj,rfl,HO,HD,HB⟩:=hrel
  have HQ:=Lib.hid hq
  clear hq
  have hz:=HB.out.size
  by_cases hjl:j<L.length
  ·obtain⟨gl,cc,sA,sc,elv,hgl,_,_,_,c2,_,ol,_⟩:=HS.out.at_ hjl
   injection elv with elv e2 e3
   subst elv;subst e3
   have HCL:=Lib.hid (clone_i64 _ (lvl L j) wr (ol.rd.keep HB.out) (by have:=HC.out j;omega))
   have HTS:=Lib.hid (take_snoc hjl)
   have c3:=(HB.out.cell (p:=⟨gl,j,none⟩) hgl).trans c2
   obtain⟨x,hx⟩:∃x,lvl L j=x:=⟨_,rfl⟩
   rw[hx] at HTS HCL c3
   have hvl:vs1.length=j:=by rw[HO.out.len,List.length_take];omega
   obtain⟨A1,c1',rfl,_,_,_⟩:=HO.out.row.form
   rw[hvl] at HO HD |-
   clear hx ol c2
   go_wp2_with fail
   refine(HCL.out).mono ?_
   rintro e w1 ⟨s,rfl,os,b1⟩
   obtain⟨sA2,sn2,sc2⟩:=s
   obtain⟨_,_,es,_,_,_⟩:=os.form
   injection es with _ es2 _
   subst es2
   have OS:=Lib.hid os
   have B1:=Lib.hid b1
   have HR1:=Lib.hid (HO.out.row.keep b1)
   have hz1:=b1.size
   have hxl:vs1.length<=1000:=by omega
   simp only[svV]
   clear os b1 HCL c3
   go_wp2_with (at_builtin;refine wpList_append_E slE (ts:=93) i1 _ 24 Tryz.underlying93 JI.out JZ.out JSZ.out JBY.out rfl (by decide) (by decide) rfl (.tmp 15) (.tmp 18) rfl w.heap.size (.slice A1 j c1') vs1 rfl (HR1.out.alloc _) _ [(sA2,x.length,sc2)] rfl (RdE.one_at (E:=slE) w1 (sA2,x.length,sc2) _ rfl _ rfl _ rfl) (by simp;omega) (by simp;omega) ?_;intro v7 w7 o7 g7 a7;have O7:=Lib.hid o7;have G7:=Lib.hid g7;have A7:=Lib.hid a7;clear o7 g7 a7)
   have hd:∀s∈vs1,∀k,(svV s).ownBlock=some k->k<wr.heap.size:=fun s hs k e=>by
    obtain⟨i,hi,rfl⟩:=List.getElem_of_mem hs
    exact((HO.out.each i hi).lt k e).2
   have hbw:Below wr.heap.size wr (w1.alloc (.cells #[.slice sA2 x.length sc2] 143)):=B1.out.alloc hz1 _
   have hnew:∀k,(Value.slice A1 j c1').ownBlock=some k->w.heap.size<=k/\k<wr.heap.size:=fun k e=>HO.out.row.lt k e
   have hfr:∀k,(svV (sA2,x.length,sc2)).ownBlock=some k->wr.heap.size<=k/\k<w1.heap.size:=fun k e=>OS.out.lt k e
   have hlo:=LLO.snoc HO.out hbw (OS.out.alloc _ |>.more hz) O7.out G7.out (fun i hi k e=>HD.out _ (List.getElem_mem hi) k e) (fun k e e2=>by have:=hfr k e;have:=hnew k e2;omega)
   rw[<-HTS.out] at hlo
   have HLO:=Lib.hid hlo
   have HDD:Hid (∀s∈vs1++[(sA2,x.length,sc2)],∀k,(svV s).ownBlock=some k->v7.ownBlock≠some k):=Lib.hid fun s hs k e=>by
    have hasz:(w1.alloc (.cells #[.slice sA2 x.length sc2] 143)).heap.size=w1.heap.size+1:=by simp
    rcases List.mem_append.1 hs with h1|h1
    ·rcases A7.out with e2|e2
     ·rw[e2];exact HD.out s h1 k e
     ·rw[e2];intro e3
      have e3:=Option.some.inj e3
      have:=hd s h1 k e;omega
    ·obtain rfl:=List.mem_singleton.1 h1
     have h2:=hfr k e
     rcases A7.out with e2|e2
     ·rw[e2];intro e3
      have:=hnew k e3;omega
     ·rw[e2];intro e3
      have e3:=Option.some.inj e3
      omega
   have HBB:Hid (Below w.heap.size w w7):=Lib.hid ((HB.out.trans (hbw.mono hz)).grown G7.out (by simp;omega) (fun k hk=>(hnew k hk).1))
   clear hlo hd hbw hnew hfr
   go_wp2_with fail
   go_roundg (L.length - (j+1))
   case measure=>have:=HQ.out;omega
   case rel=>exact⟨j+1,_,rfl,by omega,by go_num,HLO,HDD,HBB⟩
  ·obtain rfl:j=L.length:=by omega
   go_wp2_with fail
   refine bodyPost_ret (by simp[results,Tryz.results74,go_sem, *];try rfl) rfl ?_
   have ho:=HO.out
   rw[List.take_length] at ho
   exact⟨_,_,rfl,ho,HB.out⟩
open Go.RowKit
structure LLV(w:World)(v:Value)(vs:List Sv)(L:LL):Prop where
 len:vs.length=L.length
 row:RdE slE w v vs
 each:∀i (h:i<vs.length),RdE i64E w (svV vs[i]) (lvl L i)
theorem LLV.at_{w:World}{A:Option Addr}{n c:Nat}{vs:List Sv}{L:LL}(h:LLV w (.slice A n c) vs L){j:Nat}(hj:j<L.length) :
 ∃gl off sA sc,A=some ⟨gl,off,none⟩/\gl<w.heap.size/\vs[j]?=some (sA,(lvl L j).length,sc)/\w.cell? ⟨gl,off+j,none⟩=some (.slice sA (lvl L j).length sc)/\RdE i64E w (.slice sA (lvl L j).length sc) (lvl L j):=by
 obtain⟨h1,h2,h3⟩:=h
 obtain⟨A',c',e,_,_,hf⟩:=h2.form
 injection e with e1 e2 e3
 subst e1
 obtain⟨gl,off,hA,hg,hc⟩:=hf.sl (j:=j) (by omega)
 have hr:=h3 j (by omega)
 obtain⟨s,hs⟩:∃s,vs[j]'(by omega)=s:=⟨_,rfl⟩
 rw[hs] at hr hc
 obtain⟨sA,sn,sc⟩:=s
 obtain⟨_,_,es,_,_,_⟩:=hr.form
 injection es with es1 es2 es3
 subst es2
 exact⟨gl,off,sA,sc,hA,hg,by rw[List.getElem?_eq_getElem (by omega),hs],hc,hr⟩
def AsideL(F:Nat->Prop)(w:World)(v:Value)(vs:List Sv)(L:LL):Prop:=∀W,(∀k,k<w.heap.size->¬F k->W.heap[k]?=w.heap[k]?)->w.heap.size<=W.heap.size->LLV W v vs L
theorem AsideL.now{F:Nat->Prop}{w:World}{v:Value}{vs:List Sv}{L:LL}(h:AsideL F w v vs L):LLV w v vs L:=h w (fun _ _ _=>rfl) (Nat.le_refl _)
theorem AsideL.next{F G:Nat->Prop}{w w':World}{v:Value}{vs:List Sv}{L:LL}(h:AsideL F w v vs L)(hk:∀k,k<w.heap.size->¬F k->w'.heap[k]?=w.heap[k]?)(hz:w.heap.size<=w'.heap.size)(hG:∀k,G k->F k\/w.heap.size<=k):AsideL G w' v vs L:=
 fun W h1 h2=>h W (fun k hk1 hk2=>(h1 k (by omega) (fun hg=>(hG k hg).elim hk2 (by omega))).trans (hk k hk1 hk2)) (by omega)
theorem AsideL.of_own{F:Nat->Prop}{base:Nat}{w:World}{v:Value}{vs:List Sv}{L:LL}(h:LLO base w v vs L)(hF:∀k,F k->k<base):AsideL F w v vs L:=fun W h1 _=>by
 have h2:=h.stay (w':=W) fun k e1 e2=>h1 k e2 (fun hf=>by have:=hF k hf;omega)
 exact⟨h2.len,h2.row.rd,fun i hi=>(h2.each i hi).rd⟩
theorem AsideL.one{F:Nat->Prop}{w:World}{v:Value}{vs:List Sv}{L:LL}(h:AsideL F w v vs L){j:Nat}{s:Sv}(hs:vs[j]?=some s):Aside F w (svV s) (lvl L j):=fun W h1 h2=>by
 obtain⟨hj,e⟩:=List.getElem?_eq_some_iff.1 hs
 have:=(h W h1 h2).each j hj
 rw[e] at this;exact this
theorem takeN_srt{L M:LL}(h:∀i,Srt (lvl L i)):∀j i,Srt (lvl (takeN M j L) i)
 | 0,i=>h i
 | j+1,i=>by rw[takeN];exact putL_srt (takeN_srt h j) _ _ i
theorem pkOk_take{L M:LL}{led led2 a b:Nat}(h:PkOk (L,led,a))(hm:PkOk (M,led2,b))(hw:wt L+wt M<=281474976710656)(hc:cnt L+cnt M<=900000):PkOk (takeL L M,min (led+led2) 4611686018427387904,a):=by
 refine⟨takeN_srt h.srt M.length,h.top.take hm.top,?_,?_,?_⟩
 ·show wt (takeL L M)<=_
  rw[takeL_wt];exact hw
 ·show cnt (takeL L M)<=_
  rw[takeL_cnt];omega
 ·show min _ _<=_
  omega
structure TkAt(F:Nat->Prop)(w:World)(g k n led:Nat)(L M:LL)(lw:Value)(ws:List Sv)(j:Nat)(F1:Nat->Prop)(wr:World)(lv:Value)(vs:List Sv):Prop where
 st:Kst F1 wr g k n led lv vs (takeN M j L)
 al:AsideL F1 wr lw ws M
 sub:∀k,F1 k->F k\/w.heap.size<=k
 sup:∀k,F k->F1 k
 touch:Touch F w wr
theorem take_yes{F G:Nat->Prop}{g h k n m led led2 cg r a b:Nat}{cv lv lv2:Value}{vs vs2:List Sv}{B:List Int}{L M:LL}(w:World)(hs:Kst F w g k n led lv vs L)(ht:Kst G w h k m led2 lv2 vs2 M)(hco:KC w cg r cv B a)(hf:CoFar F w cg r cv)
 (hok:PkOk (L,led,a)) (hom:PkOk (M,led2,b)) (hn:n=wt L) (hm:m=wt M) (hnm:n+m<=281474976710656) (hcn:cnt L+cnt M<=900000) (h2:2<=k) (hk:k<=1000000) :
 Calls Tryz.prog 33 #[.pointer (some ⟨g,0,none⟩),.pointer (some ⟨h,0,none⟩),.pointer (some ⟨cg,0,none⟩)] w fun e w'=>e=.returned (.int .i64 0)/\∃F' lv' vs',PkAt F w g k (n+m) cg r cv B (takeL L M,min (led+led2) 4611686018427387904,a) F' w' lv' vs' (packA k B (takeL L M,min (led+led2) 4611686018427387904,a))/\fullN k (packA k B (takeL L M,min (led+led2) 4611686018427387904,a)).1=none:=by
 have HOKA:=Lib.hid (pkOk_take hok hom (by omega) hcn)
 have HT:=Lib.hid ht
 have HS:=Lib.hid hs
 have HCO:=Lib.hid hco
 have HF:=Lib.hid hf
 have HSR:=Lib.hid hok.srt
 have hledb:led<=4611686018427387904:=hok.led
 have hled2:led2<=4611686018427387904:=hom.led
 have hlenL:L.length<=49:=hok.len
 have hlenM:M.length<=49:=hom.len
 have c0:=hs.cell0
 have C2:=Lib.hid hs.cell2
 have c2:=hs.cell2
 have C3:=Lib.hid hs.cell3
 have d0:=ht.cell0
 have d2:=ht.cell2
 have D2:=Lib.hid ht.cell2
 have D3:=Lib.hid ht.cell3
 have hgw:=hs.blk.lt
 have hhw:=ht.blk.lt
 have hov:¬(m:Int) > 281474976710656 - (n:Int):=by omega
 have hcM:cnt M<=1000000000:=by omega
 clear hs ht hco hf hok hom hn hm
 go_enter Tryz.func33,Tryz.ntmps33
 go_wp2_with fail
 go_quiet (fail)
 go_wp2_with fail
 go_quiet (fail)
 go_upto_region 7 with fail
 clear c0 c2 d0 d2
 refine wp_region_plan (fun w'=>Below w.heap.size w w') [(0,true),(2,true),(3,true),(4,true),(5,true),(6,true),(7,true),(8,true),(9,true),(1,false),(10,true),(11,true),(12,true)] (by kernel_rfl) (by kernel_rfl) (by(repeat' (first|(with_reducible exact Below.refl _ _)|(with_reducible refine Below.alloc ?_ ?_ _)|(with_reducible refine Below.drew ?_)|(with_reducible refine below_drewN ?_ _)|(with_reducible refine Below.setCell ?_ ?_ _)|(with_reducible refine below_of (by assumption) ?_ ?_)|go_size))) ?_
 iterate 9
  refine wpPlan_read (by rfl) (by rfl) (fun R hR=>?_)
  apply Exists.intro
  refine⟨fun w' hS'=>?_,?_⟩
  ·have d2:=(hS'.cell (p:=⟨h,2,none⟩) hhw).trans D2.out
   have d3:=(hS'.cell (p:=⟨h,3,none⟩) hhw).trans D3.out
   go_simp
   exact⟨rfl,rfl⟩
  go_simp
  refine hR _ ?_
  clear hR R
 refine wpPlan_do (by rfl) (by rfl) (fun K hK=>?_)
 go_simp
 refine(levels_any _ (HT.out.keep (by(repeat' (first|(with_reducible exact Below.refl _ _)|(with_reducible refine Below.alloc ?_ ?_ _)|(with_reducible refine Below.drew ?_)|(with_reducible refine below_drewN ?_ _)|(with_reducible refine Below.setCell ?_ ?_ _)|(with_reducible refine below_of (by assumption) ?_ ?_)|go_size)))) (by omega) hcM).mono ?_
 rintro e w1 ⟨lw,ws,rfl,hlo,hb1⟩
 have HLO:=Lib.hid hlo
 have HB1:Below w.heap.size w w1:=Below.trans (by(repeat' (first|(with_reducible exact Below.refl _ _)|(with_reducible refine Below.alloc ?_ ?_ _)|(with_reducible refine Below.drew ?_)|(with_reducible refine below_drewN ?_ _)|(with_reducible refine Below.setCell ?_ ?_ _)|(with_reducible refine below_of (by assumption) ?_ ?_)|go_size))) hb1
 clear hlo hb1
 refine hK _ _ (HB1) ?_
 clear hK K
 iterate 3
  refine wpPlan_read (by rfl) (by rfl) (fun R hR=>?_)
  apply Exists.intro
  refine⟨fun w' hS'=>?_,?_⟩
  ·have d2:=(hS'.cell (p:=⟨h,2,none⟩) hhw).trans D2.out
   have d3:=(hS'.cell (p:=⟨h,3,none⟩) hhw).trans D3.out
   go_simp
   exact⟨rfl,rfl⟩
  go_simp
  refine hR _ ?_
  clear hR R
 refine wpPlan_nil ?_
 have HL1:Hid (LLO w.heap.size w1 lw ws M):=Lib.hid (by have h1:=HLO.out;simpa only[size_drewN] using h1)
 have HS1:=Lib.hid (HS.out.keep HB1)
 have k2:=HS1.out.cell2
 have f2:=HS1.out.blk.frozen 2
 go_upto_region 9 with fail
 have hst2:=HS1.out.put2 (.int .u64 (n+m:Nat))
 rw[Int.natCast_add] at hst2
 have HS2:=Lib.hid hst2
 have HT2:Hid (Touch F w (w1.setCell ⟨g,2,none⟩ (.int .u64 ((n:Int)+(m:Int))))):=Lib.hid ((Touch.of_below HB1 (Nat.le_refl _)).setCell (.inl HS1.out.fg) _)
 have HA1:Hid (AsideL F w1 lw ws M):=Lib.hid (AsideL.of_own HL1.out fun kk e=>HS.out.low kk e)
 have HA2:Hid (AsideL F (w1.setCell ⟨g,2,none⟩ (.int .u64 ((n:Int)+(m:Int)))) lw ws M):=Lib.hid (HA1.out.next (fun kk _ h1=>Below.heap_setCell w1 ⟨g,2,none⟩ _ kk (fun e=>h1 (by rw[e];exact HS1.out.fg))) (by simp) (fun kk e=>.inl e))
 obtain⟨w2,hw2⟩:∃x,w1.setCell ⟨g,2,none⟩ (.int .u64 ((n:Int)+(m:Int)))=x:=⟨_,rfl⟩
 rw[hw2] at HS2 HT2 HA2 |-
 clear hw2 hst2 k2 f2 HS1 HL1 HLO HA1 HB1
 have k3:w2.cell? ⟨g,3,none⟩=some (.int .u64 led):=HS2.out.cell3
 have f3:=HS2.out.blk.frozen 3
 go_upto_region 10 with fail
 have hst3:Kst F (w2.setCell ⟨g,3,none⟩ (.int .u64 (min (led+led2) 4611686018427387904:Nat))) g k (n+m) (min (led+led2) 4611686018427387904) lv vs L:=by
  have:=HS2.out.put3 (.int .u64 (min (led+led2) 4611686018427387904:Nat))
  rw[<-Int.natCast_add] at this
  exact this
 have HMI:Hid (min ((led:Int)+(led2:Int)) 4611686018427387904=((min (led+led2) 4611686018427387904:Nat):Int)):=Lib.hid (by omega)
 rw[HMI.out]
 have HT3:Hid (Touch F w (w2.setCell ⟨g,3,none⟩ (.int .u64 (min (led+led2) 4611686018427387904:Nat)))):=Lib.hid (HT2.out.setCell (.inl HS2.out.fg) _)
 have HA3:Hid (AsideL F (w2.setCell ⟨g,3,none⟩ (.int .u64 (min (led+led2) 4611686018427387904:Nat))) lw ws M):=Lib.hid (HA2.out.next (fun kk _ h1=>Below.heap_setCell w2 ⟨g,3,none⟩ _ kk (fun e=>h1 (by rw[e];exact HS2.out.fg))) (by simp) (fun kk e=>.inl e))
 have HS3:=Lib.hid hst3
 obtain⟨w3,hw3⟩:∃x,w2.setCell ⟨g,3,none⟩ (.int .u64 (min (led+led2) 4611686018427387904:Nat))=x:=⟨_,rfl⟩
 rw[hw3] at HS3 HT3 HA3 |-
 clear hw3 hst3 k3 f3 HS2 HT2 HA2 HMI
 have hz3:=HT3.out.size
 obtain⟨A0,c0,elw,_,_,_⟩:=HA3.out.now.row.form
 rw[HA3.out.now.len] at elw
 subst elw
 obtain⟨ld,hld⟩:∃ld,min (led+led2) 4611686018427387904=ld:=⟨_,rfl⟩
 rw[hld] at HS3 HOKA |-
 have HLDE:=Lib.hid hld
 clear hld hov
 go_wp2_with fail
 go_loopg [10,11,66] M.length (fun q _ _ i wr=>∃(j:Nat) (F1:Nat->Prop) (lv1:Value) (vs1:List Sv),q=M.length - j/\j<=M.length/\i=.int .i64 (j:Int)/\Hid (TkAt F w g k (n+m) ld L M (.slice A0 M.length c0) ws j F1 wr lv1 vs1))
 case atStart=>exact⟨0,F,lv,vs,by omega,by omega,rfl,Lib.hid ⟨HS3.out,HA3.out,fun _ h=>.inl h,fun _ h=>h,HT3.out⟩⟩
 case round=>
  obtain⟨j,F1,lv1,vs1,hq,hj,rfl,HA⟩:=hrel
  have HQ:=Lib.hid hq
  clear hq
  have hsz:=HA.out.touch.size
  by_cases hjl:j<M.length
  ·obtain⟨gl,off,sA,sc,eA,hgl,hvs,c2,_⟩:=HA.out.al.now.at_ hjl
   subst eA
   have hlenN:(takeN M j L).length<=49:=by rw[takeN_length];omega
   have hlj:(lvl M j).length<=900000:=by have:=lvl_le_cnt M j;omega
   have hlN:(lvl (takeN M j L) j).length<=900000:=by have:=lvl_le_cnt (takeN M j L) j;have h1:=takeN_cnt M L j (by omega);have h2:=cnt_take_le M j;omega
   have HPU:=Lib.hid (put_any j (svV (sA,(lvl M j).length,sc)) (lvl M j) wr HA.out.st (HA.out.al.one hvs) (takeN_srt HSR.out j j) (by omega) (by omega) (by omega) (by omega))
   obtain⟨x,hx⟩:∃x,(lvl M j).length=x:=⟨_,rfl⟩
   rw[hx] at c2 HPU
   clear hvs hx
   go_wp2_with fail
   refine(HPU.out).mono ?_
   rintro e w5 ⟨rfl,F2,lv2',vs2',q1,q2,q3,q4⟩
   have Q1:=Lib.hid q1
   have Q2:=Lib.hid q2
   have Q3:=Lib.hid q3
   have Q4:=Lib.hid q4
   clear q1 q2 q3 q4 HPU c2
   go_wp2_with fail
   go_roundg (M.length - (j+1))
   case measure=>have:=HQ.out;omega
   case rel=>
    refine⟨j+1,F2,lv2',vs2',rfl,by omega,by go_num,Lib.hid ⟨Q3.out,?_,?_,?_,?_⟩⟩
    ·exact HA.out.al.next (fun kk h1 h2=>Q4.out.block kk h1 h2) Q4.out.size Q1.out
    ·intro kk hk1
     rcases Q1.out kk hk1 with h1|h1
     ·exact HA.out.sub kk h1
     ·exact .inr (by omega)
    ·exact fun kk hk1=>Q2.out kk (HA.out.sup kk hk1)
    ·exact HA.out.touch.trans Q4.out fun i hi=>HA.out.sub i hi
  ·obtain rfl:j=M.length:=by omega
   have HP:=Lib.hid (pack_any (s0:=(takeL L M,ld,a)) wr HA.out.st (HCO.out.touch HF.out HA.out.touch) (HF.out.next HA.out.sub hsz) HOKA.out h2 hk)
   go_wp2_with fail
   refine(HP.out).mono ?_
   rintro e w2 ⟨rfl,F2,lv2,vs2,q1,q2⟩
   have Q1:=Lib.hid q1
   have Q2:=Lib.hid q2
   clear q1 q2 HP
   go_wp2_with fail
   refine bodyPost_ret (by simp[results,Tryz.results33,go_sem, *];try rfl) rfl ?_
   rw[HLDE.out]
   exact⟨rfl,F2,lv2,vs2,Q1.out.back HA.out.sub HA.out.sup HA.out.touch,Q2.out⟩
theorem take_over{F G:Nat->Prop}{g h k n m led led2:Nat}{lv lv2:Value}{vs vs2:List Sv}{L M:LL}(q:Value)(w:World)(hs:Kst F w g k n led lv vs L)(ht:Kst G w h k m led2 lv2 vs2 M)(hn:n<=281474976710656)(_hm:m<=281474976710656)(hnm:281474976710656<n+m) :
 Calls Tryz.prog 33 #[.pointer (some ⟨g,0,none⟩),.pointer (some ⟨h,0,none⟩),q] w fun e w'=>e=.returned (.int .i64 6)/\∃n,w'=w.drewN n:=by
 have c0:=hs.cell0
 have d0:=ht.cell0
 have c2:=hs.cell2
 have d2:=ht.cell2
 have hov:(m:Int) > 281474976710656 - (n:Int):=by omega
 clear hs ht
 go_enter Tryz.func33,Tryz.ntmps33
 go_wp2_with fail
 go_quiet (fail)
 go_wp2_with fail
 go_quiet (fail)
 go_wp2_with fail
 refine bodyPost_ret (by simp[results,Tryz.results33,go_sem, *];try rfl) rfl ?_
 exact⟨rfl,by first|exact⟨_,rfl⟩|exact⟨_,drewN_add _ _ _⟩⟩
open Go.RowKit
theorem PkOk.lenL{L:LL}{led a:Nat}(h:PkOk (L,led,a)):L.length<=49:=h.len
theorem PkOk.cntL{L:LL}{led a:Nat}(h:PkOk (L,led,a)):Go.Proofs.YtingnldfpokckaaGreat.K.cnt L<=1000000:=h.cnt
theorem PkOk.wtL{L:LL}{led a:Nat}(h:PkOk (L,led,a)):Go.Proofs.YtingnldfpokckaaGreat.K.wt L<=281474976710656:=h.wt
open Go.RowKit
theorem wt48{c h:Nat}(hb:c * 2 ^ h<=281474976710656):IntKind.u64.wrap ((c:Int) * 2 ^ h)=((c * 2 ^ h:Nat):Int):=by
 have h2:(2:Int) ^ h=((2 ^ h:Nat):Int):=by rw[Int.natCast_pow];rfl
 rw[h2,<-Int.natCast_mul,IntKind.wrap_u64]
 generalize c * 2 ^ h=z at hb
 omega
open Go.RowKit
open Go.RowKit Go.Lib
open Go.RowKit
open Go.RowKit
open Go.RowKit
structure Fit(k:Nat)(L:LL)(led:Nat):Prop where
 ok:PkOk (L,led,0)
 none:fullN k L=none
theorem PkOk.coin{L:LL}{led a b:Nat}(h:PkOk (L,led,a)):PkOk (L,led,b):=⟨h.srt,h.top,h.wt,h.cnt,h.led⟩
theorem Fit.pk{k led a:Nat}{L:LL}(h:Fit k L led):PkOk (L,led,a):=h.ok.coin
theorem cnt_rooms:∀(L:LL) (k:Nat),(∀j,j<L.length->(lvl L j).length<=k)->cnt L<=L.length * k
 | [],k,_=>by simp[cnt]
 | l::L,k,h=>by
  have h0:=h 0 (by simp)
  have ih:=cnt_rooms L k fun j hj=>by
   have:=h (j+1) (by simpa using hj)
   simpa[lvl] using this
  rw[cnt_cons,List.length_cons,Nat.add_mul]
  simp only[lvl,List.getD_cons_zero] at h0
  omega
theorem Fit.cnt{k led:Nat}{L:LL}(h:Fit k L led)(h2:2<=k)(hk:k<=4096):Go.Proofs.YtingnldfpokckaaGreat.K.cnt L<=200704:=by
 have h1:=cnt_rooms L k fun j hj=>Nat.le_trans (fullN_none h.none j hj) (room_le h2)
 have h3:L.length * k<=49 * 4096:=Nat.mul_le_mul h.ok.lenL hk
 omega
theorem Fit.nil_(k:Nat):Fit k [] 0:=⟨⟨fun j=>by simp[lvl],fun h=>absurd h (by simp),by decide,by decide,by decide⟩,rfl⟩
def takeE(L M:LL):Int:=if 281474976710656<wt L+wt M then 6 else 0
def takeS(k:Nat)(B:List Int)(t:LL × Nat)(s:KS):KS:=if takeE s.1 t.1=0 then packA k B (takeL s.1 t.1,min (s.2.1+t.2) 4611686018427387904,s.2.2) else s
theorem packA_wt{k:Nat}{B:List Int}(s:KS):wt (packA k B s).1=wt s.1:=by
 refine packA_keep (k:=k) (B:=B) (P:=fun t=>wt t.1=wt s.1) (fun t h h1 h2=>?_) rfl
 show wt (packS t.1 h (coinAt B t.2.2))=_
 rw[packS_wt (fullN_some h2).1];exact h1
def KAt(F:Nat->Prop)(w:World)(g k:Nat)(L:LL)(led:Nat):Prop:=∃lv vs,Kst F w g k (wt L) led lv vs L
def RAt(F:Nat->Prop)(w:World)(g k:Nat)(L:LL)(led:Nat):Prop:=∃lv vs,Rst F w g k led lv vs L
theorem KAt.stay{F:Nat->Prop}{w w':World}{g k led:Nat}{L:LL}(h:KAt F w g k L led)(hk:∀x,F x->w'.heap[x]?=w.heap[x]?)(hz:w.heap.size<=w'.heap.size):KAt F w' g k L led:=by
 obtain⟨lv,vs,h⟩:=h
 exact⟨lv,vs,h.stay hk hz⟩
theorem RAt.stay{F:Nat->Prop}{w w':World}{g k led:Nat}{L:LL}(h:RAt F w g k L led)(hk:∀x,F x->w'.heap[x]?=w.heap[x]?)(hz:w.heap.size<=w'.heap.size):RAt F w' g k L led:=by
 obtain⟨lv,vs,h⟩:=h
 exact⟨lv,vs,h.stay hk hz⟩
theorem KAt.keep{F:Nat->Prop}{w w':World}{g k led:Nat}{L:LL}(h:KAt F w g k L led)(hb:Below w.heap.size w w'):KAt F w' g k L led:=by
 obtain⟨lv,vs,h⟩:=h
 exact⟨lv,vs,h.keep hb⟩
end Go.Proofs.YtingnldfpokckaaGreat.K
namespace Go.Proofs.YtingnldfpokckaaGreat.D
open Go.RowKit Go.Lib Go.Shelf
inductive Spk where
 | h (lo hi dg u m:Nat) (gr:Bool)
 | d (a m:Nat)
 | t (d:Nat)
 | k (q:Nat)
structure Js where
 bk:Nat
 l:List Pr
 s:St
 L:K.LL
 led:Nat
def ptrV(p:Nat):Value:=.pointer (some ⟨p,0,none⟩)
def Spk.v:Spk->Value
 | .h lo hi dg _ _ gr=>specV 1 lo hi dg gr 0 0
 | .d a m=>specV 2 0 0 0 false a m
 | .t e=>specV 3 0 0 0 false 0 e
 | .k q=>specV 4 0 0 0 false 0 q
def Spk.cs:Spk->List Value
 | .h lo hi dg _ _ gr=>[.int .u8 1,.int .i64 lo,.int .i64 hi,.int .i64 dg,.bool gr,.int .i64 0,.int .i64 0]
 | .d a m=>[.int .u8 2,.int .i64 0,.int .i64 0,.int .i64 0,.bool false,.int .i64 a,.int .i64 m]
 | .t e=>[.int .u8 3,.int .i64 0,.int .i64 0,.int .i64 0,.bool false,.int .i64 0,.int .i64 e]
 | .k q=>[.int .u8 4,.int .i64 0,.int .i64 0,.int .i64 0,.bool false,.int .i64 0,.int .i64 q]
def Spk.five(p:Nat):Spk->Array Value
 | .h ..=>#[.int .u8 1,ptrV p,.pointer none,.pointer none,.pointer none]
 | .d ..=>#[.int .u8 2,.pointer none,ptrV p,.pointer none,.pointer none]
 | .t ..=>#[.int .u8 3,.pointer none,.pointer none,ptrV p,.pointer none]
 | .k ..=>#[.int .u8 4,.pointer none,.pointer none,.pointer none,ptrV p]
def Spk.four(p:Nat):Spk->List Value
 | .h ..=>[ptrV p,.pointer none,.pointer none,.pointer none]
 | .d ..=>[.pointer none,ptrV p,.pointer none,.pointer none]
 | .t ..=>[.pointer none,.pointer none,ptrV p,.pointer none]
 | .k ..=>[.pointer none,.pointer none,.pointer none,ptrV p]
def InAt(sp:Spk)(c:Js)(p:Nat)(G:Ft)(w:World):Prop:=match sp with
 | .h lo hi dg u m gr=>HsAt p lo hi dg u m gr c.bk c.l G w
 | .d a m=>DdAt p a m c.l G w
 | .t d=>DgS w p G d c.s
 | .k q=>K.KAt G w p q c.L c.led
def RInAt(sp:Spk)(c:Js)(p:Nat)(G:Ft)(w:World):Prop:=match sp with
 | .h lo hi dg u m gr=>RHdAt p lo hi dg u m gr c.bk c.l G w
 | .d a m=>RDdAt p a m c.l G w
 | .t d=>RDgS w p G d c.s
 | .k q=>K.RAt G w p q c.L c.led
theorem dg_stay(p:Nat)(d:Int)(s:St):Stay (fun G w=>DgS w p G d s) where
 stay:=fun h hk hz=>Dg.stay h hk hz
 more:=fun⟨lv,wv,h1,h2,h3,h4,h5,h6,h7,_⟩ h hl=>⟨lv,wv,h1,h2,h3,h _ h4,fun k e=>h k (h5 k e),fun k e=>h k (h6 k e),h7,hl⟩
 low:=fun h=>Dg.low h
theorem rdg_stay(p:Nat)(d:Int)(s:St):Stay (fun G w=>RDgS w p G d s) where
 stay:=fun h hk hz=>RDg.stay h hk hz
 more:=fun⟨lv,wv,h1,h2,h3,h4,h5,h6,h7,_⟩ h hl=>⟨lv,wv,h1,h2,h3,h _ h4,fun k e=>h k (h5 k e),fun k e=>h k (h6 k e),h7,hl⟩
 low:=fun h=>RDg.low h
theorem k_stay(p q:Nat)(L:K.LL)(led:Nat):Stay (fun G w=>K.KAt G w p q L led) where
 stay:=fun h hk hz=>h.stay hk hz
 more:=fun⟨lv,vs,h⟩ hG hl=>⟨lv,vs,⟨h.blk,h.lev.mono hG,hG _ h.fg,h.g1,h.g2,hl⟩⟩
 low:=fun⟨_,_,h⟩=>h.low
theorem rk_stay(p q:Nat)(L:K.LL)(led:Nat):Stay (fun G w=>K.RAt G w p q L led) where
 stay:=fun h hk hz=>h.stay hk hz
 more:=fun⟨lv,vs,h⟩ hG hl=>⟨lv,vs,⟨h.blk,h.lev.mono hG,hG _ h.fg,h.g1,h.g2,hl⟩⟩
 low:=fun⟨_,_,h⟩=>h.low
theorem in_stay(sp:Spk)(c:Js)(p:Nat):Stay (InAt sp c p):=by
 cases sp with
 | h lo hi dg u m gr=>exact hs_stay p lo hi dg u m gr c.bk c.l
 | d a m=>exact dd_stay p a m c.l
 | t d=>exact dg_stay p d c.s
 | k q=>exact k_stay p q c.L c.led
theorem rin_stay(sp:Spk)(c:Js)(p:Nat):Stay (RInAt sp c p):=by
 cases sp with
 | h lo hi dg u m gr=>exact rhd_stay p lo hi dg u m gr c.bk c.l
 | d a m=>exact rdd_stay p a m c.l
 | t d=>exact rdg_stay p d c.s
 | k q=>exact rk_stay p q c.L c.led
def JsAt(sp:Spk)(c:Js)(x:Nat)(F:Ft)(w:World):Prop:=∃p G,Blk w x 66 (sp.five p)/\InAt sp c p G w/\F x/\¬G x/\(∀k,G k->F k)/\∀k,F k->k<w.heap.size
def RJsAt(sp:Spk)(c:Js)(x:Nat)(F:Ft)(w:World):Prop:=∃p G,Blk w x 87 (sp.cs++sp.four p).toArray/\RInAt sp c p G w/\F x/\¬G x/\(∀k,G k->F k)/\∀k,F k->k<w.heap.size
theorem js_stay(sp:Spk)(c:Js)(x:Nat):Stay (JsAt sp c x) where
 stay:=fun⟨p,G,h1,h2,h3,h4,h5,h6⟩ hk hz=>⟨p,G,(hk x h3).trans h1,(in_stay sp c p).stay h2 (fun k e=>hk k (h5 k e)) hz,h3,h4,h5,fun k h=>Nat.lt_of_lt_of_le (h6 k h) hz⟩
 more:=fun⟨p,G,h1,h2,h3,h4,h5,_⟩ h hl=>⟨p,G,h1,h2,h x h3,h4,fun k e=>h k (h5 k e),hl⟩
 low:=fun⟨_,_,_,_,_,_,_,h6⟩=>h6
theorem rjs_stay(sp:Spk)(c:Js)(x:Nat):Stay (RJsAt sp c x) where
 stay:=fun⟨p,G,h1,h2,h3,h4,h5,h6⟩ hk hz=>⟨p,G,(hk x h3).trans h1,(rin_stay sp c p).stay h2 (fun k e=>hk k (h5 k e)) hz,h3,h4,h5,fun k h=>Nat.lt_of_lt_of_le (h6 k h) hz⟩
 more:=fun⟨p,G,h1,h2,h3,h4,h5,_⟩ h hl=>⟨p,G,h1,h2,h x h3,h4,fun k e=>h k (h5 k e),hl⟩
 low:=fun⟨_,_,_,_,_,_,_,h6⟩=>h6
theorem js_turn{sp:Spk}{c':Js}{x p:Nat}{F G H:Ft}{w w':World}(hB:Blk w x 66 (sp.five p))(hFx:F x)(hGx:¬G x)(hGF:∀k,G k->F k)(hF:∀k,F k->k<w.heap.size)(hc:InAt sp c' p (Gr G w w') w')(ht:Touch (fun k=>G k\/H k) w w')(hH:∀k,H k->¬F k) :
 JsAt sp c' x (Gr F w w') w'/\Touch (fun k=>F k\/H k) w w':=
 ⟨⟨p,Gr G w w',(ht.block x hB.lt (fun h=>h.elim hGx (fun h=>hH x h hFx))).trans hB,hc,.inl hFx,fun h=>h.elim hGx (fun h=>by have:=hB.lt;omega),fun k h=>h.imp (hGF k) id,gr_lt hF ht.size⟩,ht.mono fun k h=>h.imp (hGF k) id⟩
def CnAt(q:Value)(B:List Int)(a:Nat)(H:Ft)(w:World):Prop:=(q=.pointer none/\B=[]/\a=0/\∀k,¬H k)\/∃cg r cv,q=ptrV cg/\K.KC w cg r cv B a/\H cg/\H r/\(∀k,cv.ownBlock=some k->H k)/\∀k,H k->k<w.heap.size
def MutC(P C:Ft->World->Prop)(F H:Ft)(er:Int)(w:World)(e:Ending)(w':World):Prop:=e=.returned (.int .i64 er)/\P (Gr F w w') w'/\C H w'/\Touch (fun k=>F k\/H k) w w'
end Go.Proofs.YtingnldfpokckaaGreat.D
