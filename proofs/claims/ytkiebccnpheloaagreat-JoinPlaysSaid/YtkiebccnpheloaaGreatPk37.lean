/- Parts of a proof: what its theorem reaches, words cut short. No condition of its own. -/
import Derived.Test.YtkiebccnpheloaaGreatPk36
import Derived.Test.YtkiebccnpheloaaGreatPk32
set_option maxRecDepth 100000
set_option maxHeartbeats 16000000
set_option linter.unusedVariables false
set_option linter.unusedSimpArgs false
namespace Go.Proofs.YtkiebccnpheloaaGreat.K
open Go.RowKit
theorem ja.Ag{L:LL}{led a:Nat}(h:ja (L,led,a)):L.length<=49:=h.len
theorem ja.aq0{L:LL}{led a:Nat}(h:ja (L,led,a)):Go.Proofs.YtkiebccnpheloaaGreat.K.cnt L<=1000000:=h.cnt
theorem ja.VU{L:LL}{led a:Nat}(h:ja (L,led,a)):Go.Proofs.YtkiebccnpheloaaGreat.K.wt L<=281474976710656:=h.wt
structure Ll(F:Nat->Prop)(w:World)(g k led:Nat)(L1 M:LL)(lw:Value)(ws:List Sv)(F1:Nat->Prop)(wr:World)(lv:Value)(vs:List Sv):Prop where
 st:DR F1 wr g k led lv vs L1
 al:iK F1 wr lw ws M
 sub:∀k,F1 k->F k\/w.heap.size<=k
 touch:Touch F w wr
theorem zi{F G:Nat->Prop}{g h k led fQ cg a b:Nat}{cv lv Af:Value}{vs vs2:List Sv}{B:List Int}{L M:LL}(w:World)(hs:DR F w g k led lv vs L)(ht:DR G w h k fQ Af vs2 M)(hco:RC w cg cv B a)(hf:zO F w cg cv)
 (hok:ja (L,led,a)) (ER:ja (M,fQ,b)) (hnm:wt L+wt M<=281474976710656) (hcn:cnt L+cnt M<=900000) (h2:2<=k) (hk:k<=1000000) :
 Calls Tryz.prog 94 #[.pointer (some ⟨g,0,none⟩),.pointer (some ⟨h,0,none⟩),.pointer (some ⟨cg,0,none⟩)] w fun e w'=>e=.returned (.int .i64 0)/\∃F' pX vs',zh F w g k cg cv B (jq L M,min (led+fQ) 4611686018427387904,a) F' w' pX vs' (gB k B (jq L M,min (led+fQ) 4611686018427387904,a)):=by
 obtain⟨i0,hi0,hiz,his,hib⟩:=info_parts XW;have HI:=aB hi0;have HZ:=aB hiz;have Nw:=aB his;have Gy:=aB hib;clear hi0 hiz his hib;obtain⟨i1,hi0,hiz,his,hib⟩:=info_parts slI;have JI:=aB hi0;have JZ:=aB hiz;have Ye:=aB his;have Yf:=aB hib;clear hi0 hiz his hib;have qF:=aB (uN hok ER hnm hcn);have HTA:=aB (UN (L:=L) ER.top);have Yx:=aB (fun d=>fE (w.drewN d) (hs.keep (below_drewN (aH _ _) d)) hok.VU hok.Ag)
 have Yy:=aB (fun d=>fE (w.drewN d) (ht.keep (below_drewN (aH _ _) d)) ER.VU ER.Ag)
 have HT:=aB ht;have HS:=aB hs;have HCO:=aB hco;have HF:=aB hf;have ak0:led<=4611686018427387904:=hok.led;have ak1:fQ<=4611686018427387904:=ER.led;have hlenL:=hok.Ag;have ak2:=ER.Ag;have c0:=hs.cell0;have C2:=aB hs.cell2;have d0:=ht.cell0;have D2:=aB ht.cell2;have D1:=aB ht.cell1;have hgw:=hs.blk.lt;have VT:=ht.blk.lt;obtain⟨n,hn⟩:∃n,wt L=n:=⟨_,rfl⟩;obtain⟨m,hm⟩:∃m,wt M=m:=⟨_,rfl⟩;rw[hn,hm] at hnm;rw[hn] at Yx;rw[hm] at Yy;have hov:¬(m:Int) > 281474976710656 - (n:Int):=ae
 clear hs ht hco hf hok ER hn hm
 go_enter Tryz.func94,Tryz.ntmps94
 go_wp2_with fail
 go_quiet (fail)
 clear c0 d0
 go_wp2_with fail;refine((Yy.out _)).mono ?_
 rintro e w1 ⟨rfl,rfl⟩
 go_wp2_with fail;refine((Yx.out _)).mono ?_
 rintro e w1 ⟨rfl,rfl⟩
 go_wp2_with fail;have hbq:Below w.heap.size w (w.drewN nq):=below_drewN (aH _ _) _;have ay5:(w.drewN nq).heap.size=w.heap.size:=rfl;have GK:=aB (HS.out.keep hbq);have HBQ:=aB hbq;have HSQ:=aB ay5;obtain⟨wq,hwq⟩:∃x,w.drewN nq=x:=⟨_,rfl⟩;rw[hwq] at GK HBQ HSQ |-;clear hwq hbq ay5;have hsz:=HSQ.out;obtain⟨A2,cM,p_,bn5,bn6,_⟩:=HT.out.form;subst p_
 go_loopg [7,8] M.length (fun q o i wr=>∃(j:Nat) (vs1:List Sv),q=M.length - j/\j<=M.length/\i=.int .i64 (j:Int)/\Hid (EP w.heap.size wr o vs1 (M.take j))/\Hid (∀s∈vs1,∀k,(gX s).ownBlock=some k->o.ownBlock≠some k)/\Hid (Below w.heap.size w wr))
 case atStart=>exact⟨0,[],ae,ae,rfl,aB (EP.nil_ _ _),aB (fun i hi=>absurd hi ag),HBQ⟩
 case round=>
  obtain⟨j,vs1,hq,hj,rfl,HO,HD,HB⟩:=hrel;have HQ:=aB hq;clear hq;have hz:=HB.out.size;have d1:=(HB.out.cell (p:=⟨h,1,none⟩) VT).trans D1.out
  by_cases hjl:j<M.length
  ·obtain⟨gl,cc,sA,sc,p_,hgl,_,_,_,c2,_,ol,_⟩:=HT.out.at_ hjl
   injection p_ with p_ e2 e3;subst p_;subst e3;have vC:=aB (ol.rd.keep HB.out);have VS:=aB (take_snoc hjl);have hlj:(lvl M j).length<=900000:=by have:=fB M j;omega
   have c3:=(HB.out.cell (p:=⟨gl,j,none⟩) hgl).trans c2;obtain⟨x,hx⟩:∃x,lvl M j=x:=⟨_,rfl⟩;rw[hx] at VS vC c3 hlj;have hvl:vs1.length=j:=by rw[HO.out.len,bg];omega
   obtain⟨A1,c1',rfl,_,_,_⟩:=HO.out.row.form;rw[hvl] at HO HD |-;clear hx ol c2;have hxl:vs1.length<=1000:=ae
   have hhr:h<wr.heap.size:=ae
   have ae2:gl<wr.heap.size:=ae
   go_wp2_with (first
    | (at_builtin;refine dV fZ (ts:=236) i0 _ 8 Tryz.underlying236 HI.out HZ.out Nw.out Gy.out rfl af  af rfl (.tmp 36) (.tmp 43) rfl wr.heap.size _ [] rfl (dI.lit (E:=fZ) wr [] _ rfl _ rfl af) _ x rfl (vC.out.keep (bw)) ah ag ?_;intro v5 w5 o5 g5 a5;simp only[List.nil_append] at o5;have B5:Below wr.heap.size wr w5:=(dB (aH _ _) (aK _) _).grown g5 ag (fun k hk=>by have:=Option.some.inj (show some wr.heap.size=some k from hk);omega);have JO:=B5.size;obtain⟨A5,c5,rfl,_,_,_⟩:=o5.form;have O5:=aB o5;clear o5 g5 a5;go_simp)
    | (at_builtin;refine dV wI (ts:=152) i1 _ 24 Tryz.underlying152 JI.out JZ.out Ye.out Yf.out rfl af  af rfl (.tmp 35) (.tmp 45) rfl w.heap.size (.slice A1 j c1') vs1 rfl ((HO.out.row.keep B5).alloc _) _ [(A5,x.length,c5)] rfl (gz.dY (E:=wI) w5 (A5,x.length,c5) _ rfl _ rfl _ rfl) ah  ah ?_;intro v7 w7 o7 g7 a7;have O7:=aB o7;have G7:=aB g7;have A7:=aB a7;clear o7 g7 a7))
   have hd:∀s∈vs1,∀k,(gX s).ownBlock=some k->k<wr.heap.size:=fun s hs k e=>by
    obtain⟨i,hi,rfl⟩:=List.getElem_of_mem hs;exact((HO.out.each i hi).lt k e).2
   have hbw:Below wr.heap.size wr (w5.alloc (.cells #[.slice A5 x.length c5] 236)):=B5.alloc JO _;have hnew:∀k,(Value.slice A1 j c1').ownBlock=some k->w.heap.size<=k/\k<wr.heap.size:=fun k e=>HO.out.row.lt k e
   have hfr:∀k,(gX (A5,x.length,c5)).ownBlock=some k->wr.heap.size<=k/\k<w5.heap.size:=fun k e=>O5.out.lt k e
   have hlo:=EP.snoc HO.out hbw (O5.out.alloc _ |>.more hz) O7.out G7.out (fun i hi k e=>HD.out _ (bu hi) k e) (fun k e e2=>by have:=hfr k e;have:=hnew k e2;omega)
   rw[<-VS.out] at hlo;have PO:=aB hlo;have HDD:Hid (∀s∈vs1++[(A5,x.length,c5)],∀k,(gX s).ownBlock=some k->v7.ownBlock≠some k):=aB fun s hs k e=>by
    have PL:(w5.alloc (.cells #[.slice A5 x.length c5] 236)).heap.size=w5.heap.size+1:=ag
    rcases cO.1 hs with h1|h1
    ·rcases A7.out with e2|e2
     ·rw[e2];exact HD.out s h1 k e
     ·rw[e2];intro e3
      have e3:=Option.some.inj e3;have:=hd s h1 k e;omega
    ·obtain rfl:=List.mem_singleton.1 h1
     have h2:=hfr k e
     rcases A7.out with e2|e2
     ·rw[e2];intro e3
      have:=hnew k e3;omega
     ·rw[e2];intro e3
      have e3:=Option.some.inj e3;omega
   have o_:Hid (Below w.heap.size w w7):=aB ((HB.out.trans (hbw.mono hz)).grown G7.out ah (fun k hk=>(hnew k hk).1))
   clear hlo hd hbw hnew hfr
   go_roundg (M.length - (j+1))
   case measure=>have:=HQ.out;omega
   case rel=>exact⟨j+1,_,rfl,ae,ai,PO,HDD,o_⟩
  ·obtain rfl:j=M.length:=ae
   have ho:=HO.out;rw[List.take_length] at ho;have HA1:Hid (iK F wr u7 vs1 M):=aB (iK.nU ho fun kk e=>HS.out.low kk e)
   have UU:=aB (HS.out.keep HB.out);have HTW:=aB (Touch.of_below (F:=F) HB.out (aK _));have hgr:g<wr.heap.size:=ae
   have hhr:h<wr.heap.size:=ae
   have K2:=aB UU.out.cell2;have F2:=aB (UU.out.blk.frozen 2);have E2:=aB ((HB.out.cell (p:=⟨h,2,none⟩) VT).trans D2.out);clear ho HO HD HB
   go_upto_region 10 with fail;clear d1;refine fM (fun w'=>Below wr.heap.size wr w') 13 [(0,1),(1,1),(2,1),(3,1),(4,1),(5,1),(6,1),(7,1),(8,1),(9,1),(10,1),(11,2),(12,1),(13,0)] (by kernel_rfl) (by kernel_rfl) ((aH _ _).drew) ?_
   iterate 11
    refine dX ax  ax (fun R hR=>?_)
    apply aJ
    refine⟨fun w' hS'=>?_,?_⟩
    ·have k2:=(hS'.cell (p:=⟨g,2,none⟩) hgr).trans K2.out
     have e2':=(hS'.cell (p:=⟨h,2,none⟩) hhr).trans E2.out
     go_simp;exact⟨rfl,rfl⟩
    go_simp;refine hR _ ?_;clear hR R
   iterate 1
    refine kG ax  ax (fun R hR=>?_)
    apply aJ
    refine⟨fun w'=>?_,?_⟩
    ·go_simp
     exact⟨rfl,rfl⟩
    go_simp;refine hR _ ?_;clear hR R
   iterate 1
    refine dX ax  ax (fun R hR=>?_)
    apply aJ
    refine⟨fun w' hS'=>?_,?_⟩
    ·have k2:=(hS'.cell (p:=⟨g,2,none⟩) hgr).trans K2.out
     have e2':=(hS'.cell (p:=⟨h,2,none⟩) hhr).trans E2.out
     go_simp;exact⟨rfl,rfl⟩
    go_simp;refine hR _ ?_;clear hR R
   refine iP ax  ax  ax (fun K hK=>?_)
   have k9:(wr.drew).cell? ⟨g,2,none⟩=_:=K2.out;have f9:(wr.drew).frozen? ⟨g,2,none⟩=false:=F2.out
   go_simp;refine hK _ _ ?_
   clear hK K;refine iQ ?_
   have Iu:Hid (min (IntKind.u64.wrap ((led:Int)+(fQ:Int))) 4611686018427387904=((min (led+fQ) 4611686018427387904:Nat):Int)):=aB (by rw[df];omega)
   rw[Iu.out];obtain⟨ld,hld⟩:∃ld,min (led+fQ) 4611686018427387904=ld:=⟨_,rfl⟩;rw[hld] at qF |-;have Yv:=aB hld;have hst3:DR F ((wr.setCell ⟨g,2,none⟩ (.int .u64 (ld:Nat))).drew) g k ld lv vs L:=(UU.out.Ph (.int .u64 (ld:Nat))).keep (aH _ _).drew;have HT3:Hid (Touch F w ((wr.setCell ⟨g,2,none⟩ (.int .u64 (ld:Nat))).drew)):=aB (Touch.drew (HTW.out.setCell (.inl UU.out.fg) _));have Jm:Hid (iK F ((wr.setCell ⟨g,2,none⟩ (.int .u64 (ld:Nat))).drew) u7 vs1 M):=aB (HA1.out.next (fun kk _ h1=>bF wr ⟨g,2,none⟩ _ kk (fun e=>h1 (by rw[e];exact UU.out.fg))) (by simp[World.drew]) (fun kk e=>.inl e))
   have Yu:=aB hst3;obtain⟨w3,hw3⟩:∃x,(wr.setCell ⟨g,2,none⟩ (.int .u64 (ld:Nat))).drew=x:=⟨_,rfl⟩;rw[hw3] at Yu HT3 Jm;show Exit.then _ _ Exit.normal _ ((wr.setCell ⟨g,2,none⟩ (.int .u64 (ld:Nat))).drew)
   rw[hw3];clear hw3 hst3 k9 f9 hld Iu K2 F2 E2 UU HTW HA1 hov;have hz3:=HT3.out.size;obtain⟨A0,c0,elw,bh7,bn7,_⟩:=Jm.out.now.row.form;rw[Jm.out.now.len] at elw bh7;subst elw;have HA0:Hid (Ll F w g k ld (jJ M 0 L) M (.slice A0 M.length c0) vs1 F w3 lv vs):=aB ⟨Yu.out,Jm.out,fun _ h=>.inl h,HT3.out⟩
   clear Yu Jm HT3
   go_wp2_with fail
   go_loopg [9,10] M.length (fun q i _ wr=>∃(j:Nat) (F1:Nat->Prop) (oP:Value) (vs2:List Sv),q=M.length - j/\j<=M.length/\i=.int .i64 (j:Int)/\Hid (Ll F w g k ld (jJ M j L) M (.slice A0 M.length c0) vs1 F1 wr oP vs2))
   case atStart=>exact⟨0,F,lv,vs,ae,ae,rfl,HA0⟩
   case round=>
    obtain⟨j,F1,oP,vs2,hq,hj,rfl,HA⟩:=hrel;have JP:=aB hq;clear hq
    by_cases hjl:j<M.length
    ·have hlj:(lvl M j).length<=900000:=by have:=fB M j;omega
     have HAL:=aB (UO M L j);have HI0:Hid (Ll F w g k ld (oJ M L j 0) M (.slice A0 M.length c0) vs1 F1 wr oP vs2):=HA;have QP:Hid (∀i,(oJ M L j i).length<=49):=aB fun i=>by have:=UQ M L j i;omega
     have HIC:Hid (∀i,cnt (oJ M L j i)<=900000+i):=aB fun i=>by have:=UR (L:=L) (i:=i) (show j<=M.length by omega);omega
     clear HA
     go_wp2_with fail
     go_loopg [10] (lvl M j).length (fun q i wr=>∃(t:Nat) (F1:Nat->Prop) (oP:Value) (vs2:List Sv),q=(lvl M j).length - t/\t<=(lvl M j).length/\i=.int .i64 (t:Int)/\Hid (Ll F w g k ld (oJ M L j t) M (.slice A0 M.length c0) vs1 F1 wr oP vs2))
     case atStart=>exact⟨0,F1,oP,vs2,ae,ae,rfl,HI0⟩
     case round=>
      obtain⟨t,F2,Yw,vs3,hq,ht,rfl,HB⟩:=hrel;have HQ3:=aB hq;clear hq;obtain⟨gl,off,sA,sc,eA,hgl,_,c2,rA⟩:=HB.out.al.now.at_ hjl;subst eA;obtain⟨_,_,ea,ha3,ha4,fa⟩:=rA.form;injection ea with ea1 ea2 ea3;subst ea1;subst ea3;have FA:=aB fa;have bn8:=HB.out.touch.size;clear rA fa ea2
      by_cases htl:t<(lvl M j).length
      ·obtain⟨ga,oa,eA,hga,ka⟩:=FA.out.i64 htl
       subst eA;have HSU:=aB (PS (L:=L) htl);obtain⟨x,hx⟩:∃x,(lvl M j)[t]=x:=⟨_,rfl⟩;rw[hx] at ka HSU;have EO:=aB (ql j x wr HB.out.st ae (by have:=QP.out t;omega) (by have:=fB (oJ M L j t) j;have:=HIC.out t;omega))
       obtain⟨y,hy⟩:∃y,(lvl M j).length=y:=⟨_,rfl⟩;rw[hy] at c2 ha3 htl ht HQ3;have HYE:=aB hy;clear hx hy
       go_wp2_with fail;refine(EO.out).mono ?_
       rintro e w5 ⟨rfl,F5,lv5,vs5,q1,q2,q3,q4⟩;rw[HSU.out] at q3;have hnx:Ll F w g k ld (oJ M L j (t+1)) M (.slice (some ⟨gl,off,none⟩) M.length c0) vs1 F5 w5 lv5 vs5:=by
        refine⟨q3,HB.out.al.next (fun kk h1 h2=>q4.block kk h1 h2) q4.size q1,fun kk hk1=>?_,HB.out.touch.trans q4 fun i hi=>HB.out.sub i hi⟩
        rcases q1 kk hk1 with h1|h1
        ·exact HB.out.sub kk h1
        ·exact .inr ae
       have UJ:=aB hnx;clear q1 q2 q3 q4 hnx EO c2
       go_wp2_with fail
       go_roundg ((lvl M j).length - (t+1))
       case measure=>have:=HQ3.out;have:=HYE.out;omega
       case rel=>exact⟨t+1,F5,lv5,vs5,rfl,by have:=HYE.out;omega,ai,UJ⟩
      ·obtain rfl:t=(lvl M j).length:=ae
       have hb1:=HB.out;rw[HAL.out] at hb1;have HB1:=aB hb1;clear hb1 HB;obtain⟨y,hy⟩:∃y,(lvl M j).length=y:=⟨_,rfl⟩;rw[hy] at c2 ha3 hlj |-;clear hy
       go_wp2_with fail
       go_roundg (M.length - (j+1))
       case measure=>have:=JP.out;omega
       case rel=>exact⟨j+1,F2,Yw,vs3,rfl,ae,ai,HB1⟩
    ·obtain rfl:j=M.length:=ae
     have ha2:=HA.out;rw[HTA.out] at ha2;have HP:=aB (GL (s0:=(jq L M,ld,a)) wr ha2.st (HCO.out.touch HF.out ha2.touch) (HF.out.next ha2.sub ha2.touch.size) qF.out h2 hk);have HA2:=aB ha2;clear ha2 HA
     go_wp2_with fail;refine(HP.out).mono ?_
     rintro e w2 ⟨rfl,F2,Af,vs2,q1⟩;have Q1:=aB q1;clear q1 HP
     go_wp2_with fail;refine bodyPost_ret (by simp[results,Tryz.results94,go_sem, *];try rfl) rfl ?_
     rw[Yv.out];exact⟨rfl,F2,Af,vs2,Q1.out.back HA2.out.sub HA2.out.touch⟩
theorem PT{F G:Nat->Prop}{g h k led fQ a b:Nat}{lv Af:Value}{vs vs2:List Sv}{L M:LL}(q:Value)(w:World)(hs:DR F w g k led lv vs L)(ht:DR G w h k fQ Af vs2 M)(hok:ja (L,led,a))(ER:ja (M,fQ,b))(hnm:281474976710656<wt L+wt M) :
 Calls Tryz.prog 94 #[.pointer (some ⟨g,0,none⟩),.pointer (some ⟨h,0,none⟩),q] w fun e w'=>e=.returned (.int .i64 6)/\∃n,w'=w.drewN n:=by
 have Yx:=aB (fun d=>fE (w.drewN d) (hs.keep (below_drewN (aH _ _) d)) hok.VU hok.Ag)
 have Yy:=aB (fun d=>fE (w.drewN d) (ht.keep (below_drewN (aH _ _) d)) ER.VU ER.Ag)
 have c0:=hs.cell0;have d0:=ht.cell0;have h1:=hok.VU;have h2:=ER.VU;obtain⟨n,hn⟩:∃n,wt L=n:=⟨_,rfl⟩;obtain⟨m,hm⟩:∃m,wt M=m:=⟨_,rfl⟩;rw[hn,hm] at hnm;rw[hn] at Yx h1;rw[hm] at Yy h2;have hov:(m:Int) > 281474976710656 - (n:Int):=ae
 clear hs ht hok ER hn hm
 go_enter Tryz.func94,Tryz.ntmps94
 go_wp2_with fail
 go_quiet (fail)
 go_wp2_with fail;refine((Yy.out _)).mono ?_
 rintro e w1 ⟨rfl,rfl⟩
 go_wp2_with fail;refine((Yx.out _)).mono ?_
 rintro e w1 ⟨rfl,rfl⟩
 go_wp2_with fail;refine bodyPost_ret (by simp[results,Tryz.results94,go_sem, *];try rfl) rfl ?_
 exact⟨rfl,by first|exact⟨_,rfl⟩|exact⟨_,uK _ _ _⟩⟩
open Go.RowKit
theorem bh8{c h:Nat}(hb:c * 2 ^ h<=281474976710656):IntKind.u64.wrap ((c:Int) * 2 ^ h)=((c * 2 ^ h:Nat):Int):=by
 have h2:(2:Int) ^ h=((2 ^ h:Nat):Int):=by rw[Int.natCast_pow];rfl
 rw[h2,<-Int.natCast_mul,df];generalize c * 2 ^ h=z at hb;omega
open Go.RowKit
def tX(L:LL):List Int:=L.flatten
open Go.RowKit Go.Lib
open Go.RowKit
open Go.RowKit
open Go.RowKit
structure Fit(k:Nat)(L:LL)(led:Nat):Prop where
 ok:ja (L,led,0)
 none:gZ k L=none
theorem ja.Un{L:LL}{led a b:Nat}(h:ja (L,led,a)):ja (L,led,b):=⟨h.gY,h.top,h.wt,h.cnt,h.led⟩
theorem Fit.pk{k led a:Nat}{L:LL}(h:Fit k L led):ja (L,led,a):=h.ok.Un
theorem zk:∀(L:LL) (k:Nat),(∀j,j<L.length->(lvl L j).length<=k)->cnt L<=L.length * k
 | [],k,_=>by simp[cnt]
 | l::L,k,h=>by
  have h0:=h 0 ag
  have ih:=zk L k fun j hj=>by
   have:=h (j+1) (by simpa using hj)
   simpa[lvl] using this
  rw[mi,aP,Nat.add_mul];simp only[lvl,List.getD_cons_zero] at h0;omega
theorem Fit.cnt{k led:Nat}{L:LL}(h:Fit k L led)(h2:2<=k)(hk:k<=4096):Go.Proofs.YtkiebccnpheloaaGreat.K.cnt L<=200704:=by
 have h1:=zk L k fun j hj=>bG (wF h.none j hj) (room_le h2)
 have h3:L.length * k<=49 * 4096:=Nat.mul_le_mul h.ok.Ag hk;omega
theorem Fit.nil_(k:Nat):Fit k [] 0:=⟨⟨fun j=>by simp[lvl],fun h=>absurd h ag,af,af,af⟩,rfl⟩
def rX(L:LL)(n:Nat):Int:=if n=0 then 4 else if 281474976710656<wt L+n then 6 else 0
def qG(k:Nat)(B:List Int)(v:Int)(n:Nat)(s:KS):KS:=if rX s.1 n=0 then gB k B (gW s.1 v n,s.2.1,s.2.2) else s
def gU(L M:LL):Int:=if 281474976710656<wt L+wt M then 6 else 0
def kz(k:Nat)(B:List Int)(t:LL × Nat)(s:KS):KS:=if gU s.1 t.1=0 then gB k B (jq s.1 t.1,min (s.2.1+t.2) 4611686018427387904,s.2.2) else s
theorem GN{k:Nat}{B:List Int}{s:KS}(h:ja s):Fit k (gB k B s).1 (gB k B s).2.1:=by
 have h1:=wH (k:=k) (B:=B) (P:=ja) (fun s j h1 h2=>h1.step h2) h
 exact⟨ja.Un (a:=(gB k B s).2.2) h1,Pg k B s⟩
theorem Ea{k:Nat}{B:List Int}(s:KS):wt (gB k B s).1=wt s.1:=by
 refine wH (k:=k) (B:=B) (P:=fun t=>wt t.1=wt s.1) (fun t h h1 h2=>?_) rfl
 show wt (kZ t.1 h (fP B t.2.2))=_
 rw[KR (jW h2).1];exact h1
theorem zl{L:LL}{n:Nat}(h:rX L n=0):0<n/\wt L+n<=281474976710656:=by
 unfold rX at h
 by_cases h1:n=0
 ·rw[if_pos h1] at h;cases h
 ·rw[if_neg h1] at h
  by_cases h2:281474976710656<wt L+n
  ·rw[if_pos h2] at h;cases h
  ·omega
theorem Yz{k n:Nat}{B:List Int}{v:Int}{s:KS}(h:Fit k s.1 s.2.1)(h2:2<=k)(hk:k<=4096):Fit k (qG k B v n s).1 (qG k B v n s).2.1:=by
 unfold qG
 split
 ·rename_i h0
  exact GN (tN h.pk v n (zl h0).2 (by have:=h.cnt h2 hk;omega))
 ·exact h
theorem ae6{k n:Nat}{B:List Int}{v:Int}{s:KS}:wt (qG k B v n s).1=if rX s.1 n=0 then wt s.1+n else wt s.1:=by
 unfold qG
 split
 ·rename_i h0
  rw[Ea];exact IK _ _ (by have:=zl h0;omega)
 ·rfl
theorem PU{L M:LL}(h:gU L M=0):wt L+wt M<=281474976710656:=by
 unfold gU at h
 by_cases h2:281474976710656<wt L+wt M
 ·rw[if_pos h2] at h;cases h
 ·omega
theorem UW{k:Nat}{B:List Int}{t:LL × Nat}{s:KS}(h:Fit k s.1 s.2.1)(ht:Fit k t.1 t.2)(h2:2<=k)(hk:k<=4096):Fit k (kz k B t s).1 (kz k B t s).2.1:=by
 unfold kz
 split
 ·rename_i h0
  exact GN (uN h.pk (ht.pk (a:=0)) (PU h0) (by have:=h.cnt h2 hk;have:=ht.cnt h2 hk;omega))
 ·exact h
theorem YA{k:Nat}{B:List Int}{t:LL × Nat}{s:KS}:wt (kz k B t s).1=if gU s.1 t.1=0 then wt s.1+wt t.1 else wt s.1:=by
 unfold kz
 split
 ·rw[Ea];exact xZ _ _
 ·rfl
def GR(F:Nat->Prop)(w:World)(g k:Nat)(L:LL)(led:Nat):Prop:=∃lv vs,rV F w g k (wt L) led lv vs L
def YB(F:Nat->Prop)(w:World)(g k:Nat)(L:LL)(led:Nat):Prop:=∃lv vs,DR F w g k led lv vs L
theorem GR.stay{F:Nat->Prop}{w w':World}{g k led:Nat}{L:LL}(h:GR F w g k L led)(hk:∀x,F x->w'.heap[x]?=w.heap[x]?)(hz:w.heap.size<=w'.heap.size):GR F w' g k L led:=by
 obtain⟨lv,vs,h⟩:=h;exact⟨lv,vs,h.stay hk hz⟩
theorem YB.stay{F:Nat->Prop}{w w':World}{g k led:Nat}{L:LL}(h:YB F w g k L led)(hk:∀x,F x->w'.heap[x]?=w.heap[x]?)(hz:w.heap.size<=w'.heap.size):YB F w' g k L led:=by
 obtain⟨lv,vs,h⟩:=h;exact⟨lv,vs,h.stay hk hz⟩
theorem GR.keep{F:Nat->Prop}{w w':World}{g k led:Nat}{L:LL}(h:GR F w g k L led)(hb:Below w.heap.size w w'):GR F w' g k L led:=by
 obtain⟨lv,vs,h⟩:=h;exact⟨lv,vs,h.keep hb⟩
end Go.Proofs.YtkiebccnpheloaaGreat.K
namespace Go.Proofs.YtkiebccnpheloaaGreat.D
open Go.RowKit Go.Lib Go.Shelf
inductive iM where
 | h (lo hi dg u m:Nat) (gr:Bool)
 | d (a m:Nat)
 | t (d:Nat)
 | k (q:Nat)
structure Js where
 bk:Nat
 l:List Pr
 s:St
 L:K.LL
 led:Nat
def jF(p:Nat):Value:=.pointer (some ⟨p,0,none⟩)
def iM.v:iM->Value
 | .h lo hi dg _ _ gr=>gu 1 lo hi dg gr 0 0
 | .d a m=>gu 2 0 0 0 false a m
 | .t e=>gu 3 0 0 0 false 0 e
 | .k q=>gu 4 0 0 0 false 0 q
def iM.cs:iM->List Value
 | .h lo hi dg _ _ gr=>[.int .u8 1,.int .i64 lo,.int .i64 hi,.int .i64 dg,.bool gr,.int .i64 0,.int .i64 0]
 | .d a m=>[.int .u8 2,.int .i64 0,.int .i64 0,.int .i64 0,.bool false,.int .i64 a,.int .i64 m]
 | .t e=>[.int .u8 3,.int .i64 0,.int .i64 0,.int .i64 0,.bool false,.int .i64 0,.int .i64 e]
 | .k q=>[.int .u8 4,.int .i64 0,.int .i64 0,.int .i64 0,.bool false,.int .i64 0,.int .i64 q]
def iM.five(p:Nat):iM->Array Value
 | .h ..=>#[.int .u8 1,jF p,.pointer none,.pointer none,.pointer none]
 | .d ..=>#[.int .u8 2,.pointer none,jF p,.pointer none,.pointer none]
 | .t ..=>#[.int .u8 3,.pointer none,.pointer none,jF p,.pointer none]
 | .k ..=>#[.int .u8 4,.pointer none,.pointer none,.pointer none,jF p]
def iM.four(p:Nat):iM->List Value
 | .h ..=>[jF p,.pointer none,.pointer none,.pointer none]
 | .d ..=>[.pointer none,jF p,.pointer none,.pointer none]
 | .t ..=>[.pointer none,.pointer none,jF p,.pointer none]
 | .k ..=>[.pointer none,.pointer none,.pointer none,jF p]
def uV(sp:iM)(c:Js)(p:Nat)(G:Ft)(w:World):Prop:=match sp with
 | .h lo hi dg u m gr=>ry p lo hi dg u m gr c.bk c.l G w
 | .d a m=>vU p a m c.l G w
 | .t d=>NU w p G d c.s
 | .k q=>K.GR G w p q c.L c.led
def vG(sp:iM)(c:Js)(p:Nat)(G:Ft)(w:World):Prop:=match sp with
 | .h lo hi dg u m gr=>qw p lo hi dg u m gr c.bk c.l G w
 | .d a m=>xM p a m c.l G w
 | .t d=>yK w p G d c.s
 | .k q=>K.YB G w p q c.L c.led
theorem ae7(p:Nat)(d:Int)(s:St):mQ (fun G w=>NU w p G d s) where
 stay:=fun h hk hz=>Dg.stay h hk hz
 more:=fun⟨lv,wv,h1,h2,h3,h4,h5,h6,h7,_⟩ h hl=>⟨lv,wv,h1,h2,h3,h _ h4,fun k e=>h k (h5 k e),fun k e=>h k (h6 k e),h7,hl⟩
 low:=fun h=>Dg.low h
theorem YC(p:Nat)(d:Int)(s:St):mQ (fun G w=>yK w p G d s) where
 stay:=fun h hk hz=>sU.stay h hk hz
 more:=fun⟨lv,wv,h1,h2,h3,h4,h5,h6,h7,_⟩ h hl=>⟨lv,wv,h1,h2,h3,h _ h4,fun k e=>h k (h5 k e),fun k e=>h k (h6 k e),h7,hl⟩
 low:=fun h=>sU.low h
theorem rF(p q:Nat)(L:K.LL)(led:Nat):mQ (fun G w=>K.GR G w p q L led) where
 stay:=fun h hk hz=>h.stay hk hz
 more:=fun⟨lv,vs,h⟩ hG hl=>⟨lv,vs,⟨h.blk,h.fJ.mono hG,hG _ h.fg,h.g1,h.g2,hl⟩⟩
 low:=fun⟨_,_,h⟩=>h.low
theorem rG(p q:Nat)(L:K.LL)(led:Nat):mQ (fun G w=>K.YB G w p q L led) where
 stay:=fun h hk hz=>h.stay hk hz
 more:=fun⟨lv,vs,h⟩ hG hl=>⟨lv,vs,⟨h.blk,h.fJ.mono hG,hG _ h.fg,h.g1,h.g2,hl⟩⟩
 low:=fun⟨_,_,h⟩=>h.low
theorem iq(sp:iM)(c:Js)(p:Nat):mQ (uV sp c p):=by
 cases sp with
 | h lo hi dg u m gr=>exact kJ p lo hi dg u m gr c.bk c.l
 | d a m=>exact pF p a m c.l
 | t d=>exact ae7 p d c.s
 | k q=>exact rF p q c.L c.led
theorem jr(sp:iM)(c:Js)(p:Nat):mQ (vG sp c p):=by
 cases sp with
 | h lo hi dg u m gr=>exact oC p lo hi dg u m gr c.bk c.l
 | d a m=>exact Dv p a m c.l
 | t d=>exact YC p d c.s
 | k q=>exact rG p q c.L c.led
def iE(sp:iM)(c:Js)(x:Nat)(F:Ft)(w:World):Prop:=∃p G,dH w x 117 (sp.five p)/\uV sp c p G w/\F x/\¬G x/\(∀k,G k->F k)/\∀k,F k->k<w.heap.size
def gG(sp:iM)(c:Js)(x:Nat)(F:Ft)(w:World):Prop:=∃p G,dH w x 146 (sp.cs++sp.four p).toArray/\vG sp c p G w/\F x/\¬G x/\(∀k,G k->F k)/\∀k,F k->k<w.heap.size
theorem fO(sp:iM)(c:Js)(x:Nat):mQ (iE sp c x) where
 stay:=fun⟨p,G,h1,h2,h3,h4,h5,h6⟩ hk hz=>⟨p,G,(hk x h3).trans h1,(iq sp c p).stay h2 (fun k e=>hk k (h5 k e)) hz,h3,h4,h5,fun k h=>aU (h6 k h) hz⟩
 more:=fun⟨p,G,h1,h2,h3,h4,h5,_⟩ h hl=>⟨p,G,h1,h2,h x h3,h4,fun k e=>h k (h5 k e),hl⟩
 low:=fun⟨_,_,_,_,_,_,_,h6⟩=>h6
theorem iG(sp:iM)(c:Js)(x:Nat):mQ (gG sp c x) where
 stay:=fun⟨p,G,h1,h2,h3,h4,h5,h6⟩ hk hz=>⟨p,G,(hk x h3).trans h1,(jr sp c p).stay h2 (fun k e=>hk k (h5 k e)) hz,h3,h4,h5,fun k h=>aU (h6 k h) hz⟩
 more:=fun⟨p,G,h1,h2,h3,h4,h5,_⟩ h hl=>⟨p,G,h1,h2,h x h3,h4,fun k e=>h k (h5 k e),hl⟩
 low:=fun⟨_,_,_,_,_,_,_,h6⟩=>h6
theorem IV{sp:iM}{c':Js}{x p:Nat}{F G H:Ft}{w w':World}(hB:dH w x 117 (sp.five p))(hFx:F x)(zS:¬G x)(hGF:∀k,G k->F k)(hF:∀k,F k->k<w.heap.size)(hc:uV sp c' p (Gr G w w') w')(ht:Touch (fun k=>G k\/H k) w w')(hH:∀k,H k->¬F k) :
 iE sp c' x (Gr F w w') w'/\Touch (fun k=>F k\/H k) w w':=
 ⟨⟨p,Gr G w w',(ht.block x hB.lt (fun h=>h.elim zS (fun h=>hH x h hFx))).trans hB,hc,.inl hFx,fun h=>h.elim zS (fun h=>by have:=hB.lt;omega),fun k h=>h.imp (hGF k) id,jI hF ht.size⟩,ht.mono fun k h=>h.imp (hGF k) id⟩
theorem Lm{sp:iM}{c':Js}{x p:Nat}{F G H:Ft}{w w':World}(hB:dH w x 146 (sp.cs++sp.four p).toArray)(hFx:F x)(zS:¬G x)(hGF:∀k,G k->F k)(hF:∀k,F k->k<w.heap.size)(hc:vG sp c' p (Gr G w w') w')(ht:Touch (fun k=>G k\/H k) w w')(hH:∀k,H k->¬F k) :
 gG sp c' x (Gr F w w') w'/\Touch (fun k=>F k\/H k) w w':=
 ⟨⟨p,Gr G w w',(ht.block x hB.lt (fun h=>h.elim zS (fun h=>hH x h hFx))).trans hB,hc,.inl hFx,fun h=>h.elim zS (fun h=>by have:=hB.lt;omega),fun k h=>h.imp (hGF k) id,jI hF ht.size⟩,ht.mono fun k h=>h.imp (hGF k) id⟩
def jb(q:Value)(B:List Int)(a:Nat)(H:Ft)(w:World):Prop:=(q=.pointer none/\B=[]/\a=0/\∀k,¬H k)\/∃cg r cv,q=jF cg/\K.KC w cg r cv B a/\H cg/\H r/\(∀k,cv.ownBlock=some k->H k)/\∀k,H k->k<w.heap.size
def gI(o:Nat)(q:Value)(B:List Int)(a:Nat)(H:Ft)(w:World):Prop:=∃dg dv,q=jF dg/\K.RC w dg dv B a/\H dg/\(∀k,dv.ownBlock=some k->k<o\/H k)/\∀k,H k->k<w.heap.size
def jc(P C:Ft->World->Prop)(F H:Ft)(er:Int)(w:World)(e:Ending)(w':World):Prop:=e=.returned (.int .i64 er)/\P (Gr F w w') w'/\C H w'/\Touch (fun k=>F k\/H k) w w'
end Go.Proofs.YtkiebccnpheloaaGreat.D
namespace Go.Proofs.YtkiebccnpheloaaGreat.K
open Go.RowKit
theorem new_any(k:Nat)(w:World)(h8:8<=k)(hk:k<=4096) :
 Calls Tryz.prog 232 #[.int .i64 k] w fun e w'=>e=.returned (.tuple #[.pointer (some ⟨w.heap.size,0,none⟩),.int .i64 0])/\w'=w.alloc (.cells #[.int .i64 k,.slice none 0 0,.int .u64 0,.int .u64 0] 249):=by
 have h1:¬(k:Int)<8:=ae
 have h2:¬(k:Int) > 4096:=ae
 go_enter Tryz.func232,Tryz.ntmps232
 go_wp2_with fail
 go_ret2
 exact⟨rfl,rfl⟩
theorem aq1(k:Int)(w:World)(h:k<8\/4096<k) :
 Calls Tryz.prog 232 #[.int .i64 k] w fun e w'=>e=.returned (.tuple #[.pointer none,.int .i64 1])/\w=w':=by
 by_cases h1:k<8
 ·go_enter Tryz.func232,Tryz.ntmps232
  go_wp2_with fail
  go_ret2
  exact⟨rfl,rfl⟩
 ·have h2:k > 4096:=ae
  clear h
  go_enter Tryz.func232,Tryz.ntmps232
  go_wp2_with fail
  go_ret2
  exact⟨rfl,rfl⟩
theorem RF{t:TypeId}{a:Value}{rest:List Value}{w:World}{g:Nat}(h:dH w g t (a::.slice none 0 0::rest).toArray):mZ t a rest (fun x=>x=g) w g (.slice none 0 0) [] []:=
 ⟨h,⟨dI.nil_ _ _,rfl,fun i hi=>absurd hi ag,fun i hi=>absurd hi ag,fun i j hi=>absurd hi ag,fun k e=>by simp[Value.ownBlock] at e,fun i hi=>absurd hi ag⟩,rfl,by simp[Value.ownBlock],fun i hi=>absurd hi ag,fun k hk=>by rw[show k=g from hk];exact h.lt⟩
theorem ae8(k:Nat)(w:World):GR (fun x=>x=w.heap.size) (w.alloc (.cells #[.int .i64 k,.slice none 0 0,.int .u64 0,.int .u64 0] 249)) w.heap.size k [] 0:=⟨_,_,RF (dH.new w _ _)⟩
open Go.RowKit
open Go.RowKit
open Go.RowKit
theorem Lp{l:List Int}(h:∀j (hj:j+1<l.length),l[j]<=l[j+1]):qA l:=by
 refine List.pairwise_iff_getElem.2 fun i j hi hj hij=>?_
 obtain⟨d,rfl⟩:∃d,j=i+1+d:=⟨j - i - 1,ae⟩
 clear hij
 induction d with
 | zero=>exact h i hj
 | succ d ih=>exact Int.le_trans (ih ae) (h (i+1+d) hj)
theorem Eb{l:List Int}(h:qA l){j:Nat}(hj:j+1<l.length):l[j]<=l[j+1]:=List.pairwise_iff_getElem.1 h j (j+1) ae hj ae
theorem UX(x:Int)(w:World):Calls Tryz.prog 389 #[.int .i64 x] w fun e w'=>e=.returned (.bool false)/\w=w':=by
 have hx:(x == x)=true:=ag
 go_enter Tryz.func389,Tryz.ntmps389
 go_wp2_with fail
 go_ret;exact⟨by simp,rfl⟩
theorem YD(x y:Int)(w:World):Calls Tryz.prog 310 #[.int .i64 x,.int .i64 y] w fun e w'=>e=.returned (.bool (decide (x<y)))/\w=w':=by
 go_enter Tryz.func310,Tryz.ntmps310
 go_wp2_with fail;refine(UX x w).mono ?_
 rintro e w1 ⟨rfl,hw1⟩;subst hw1
 go_wp2_with fail;refine bodyPost_ret (by simp[results,Tryz.results310,go_sem, *];try rfl) rfl ?_
 exact⟨by simp,rfl⟩
theorem IW(v:Value)(l:List Int)(w:World)(h:gz fZ w v l)(hl:l.length<=1000000000) :
 Calls Tryz.prog 467 #[v] w fun e w'=>e=.returned (.bool (decide (qA l)))/\∃q,w'=w.drewN q:=by
 obtain⟨A,c,rfl,h1,h2,hf⟩:=h.form;have HF:=aB hf;clear h hf
 go_enter Tryz.func467,Tryz.ntmps467
 go_wp2_with fail
 go_loopg [3] l.length (fun q i wr=>∃(z:Int) (d:Nat),q=(z+1).toNat/\-1<=z/\z<l.length/\i=.int .i64 z/\wr=w.drewN d/\Hid (∀j (hj:j+1<l.length),z<=j->l[j]<=l[j+1]))
 case atStart=>exact⟨(l.length:Int) - 1,0,ae,ae,ae,ai,rfl,aB fun j hj hz=>absurd hz ae⟩
 case round=>
  obtain⟨z,d,hq,hz1,hz2,rfl,rfl,HI⟩:=hrel;have HQ:=aB hq;clear hq
  by_cases hz:z > 0
  ·obtain⟨n,rfl⟩:∃n:Nat,z=n:=⟨z.toNat,ae⟩
   obtain⟨m,hm⟩:∃m:Nat,n=m+1:=⟨n - 1,ae⟩
   have hnl:n<l.length:=ae
   have hml:m<l.length:=ae
   obtain⟨ga,oa,eA,hga,ka⟩:=HF.out.i64 hnl;subst eA;obtain⟨ga',oa',eA,_,kb⟩:=HF.out.i64 hml;injection eA with eA;injection eA with Yn Yo;subst Yn;subst Yo;have HNE:Hid (l[m]<=l[n]->∀j (hj:j+1<l.length),(n:Int) - 1<=j->l[j]<=l[j+1]):=aB fun hle j hj hz=>by
    rcases bJ j n with h3|h3
    ·have e:j=m:=ae
     subst e;have e2:n=j+1:=hm;subst e2;exact hle
    ·exact HI.out j hj ae
   have UY:Hid (l[n]<l[m]->¬qA l):=aB fun hlt hs=>by
    have h3:=Eb hs (j:=m) (by omega)
    have e:l[m+1]' ae =l[n]:=by congr 1;omega
    rw[e] at h3;omega
   obtain⟨x,hx⟩:∃x,l[n]=x:=⟨_,rfl⟩;obtain⟨y,hy⟩:∃y,l[m]=y:=⟨_,rfl⟩;rw[hx] at ka;rw[hy] at kb;simp only[hx,hy] at HNE UY;have KA:=aB ka;have KB:=aB kb;have hnm:(n:Int) - 1=(m:Int):=ae
   have HW:Hid (IntKind.i64.wrap (m:Int)=(m:Int)):=aB (IntWalk.i64_in _ ae)
   have hni:(n:Int)<(l.length:Int):=ae
   have Ir:(m:Int)<(l.length:Int):=ae
   clear hx hy ka kb hm HI
   go_upto_region 4 with fail;refine dD (fun w'=>Below w.heap.size w w') [(0,true),(1,true),(2,true),(3,true),(4,true),(5,true),(6,true),(7,true),(8,true),(9,false)] (by kernel_rfl) (by kernel_rfl) ((below_drewN (aH _ _) _).drew) ?_
   iterate 9
    refine dC ax  ax (fun R hR=>?_)
    apply aJ
    refine⟨fun w' hS'=>?_,?_⟩
    ·have z0:=(hS'.cell (p:=⟨ga,oa+n,none⟩) hga).trans KA.out
     have z1:=(hS'.cell (p:=⟨ga,oa+m,none⟩) hga).trans KB.out;have hw:=HW.out
     go_simp;exact⟨rfl,rfl⟩
    go_simp;refine hR _ ?_;clear hR R
   refine dE ax  ax (fun K hK=>?_)
   go_simp;refine(YD x y _).mono ?_
   rintro e w5 ⟨rfl,hw5⟩;subst hw5;refine hK _ _ ((below_drewN (aH _ _) _).drew) ?_
   clear hK K;refine dF ?_
   by_cases hxy:x<y
   ·have HN:=aB (UY.out hxy)
    go_wp2_with fail;refine bodyPost_ret (by simp[results,Tryz.results467,go_sem, *];try rfl) rfl ?_
    exact⟨by rw[decide_eq_false HN.out],by first|exact⟨_,rfl⟩|exact⟨_,uK _ _ _⟩⟩
   ·have HN:=aB (HNE.out ae)
    go_wp2_with fail
    go_roundg n
    case measure=>have:=HQ.out;omega
    case rel=>exact⟨(n:Int) - 1,d+1,ae,ae,ae,ai,by first|rfl|exact uK _ _ _,HN⟩
  ·have HS:Hid (qA l):=aB (Lp fun j hj=>HI.out j hj ae)
   go_wp2_with fail;refine bodyPost_ret (by simp[results,Tryz.results467,go_sem, *];try rfl) rfl ?_
   exact⟨by rw[decide_eq_true HS.out],_,rfl⟩
structure iw(k:Int)(L:LL)(led:Nat):Prop where
 k8:8<=k
 k4:k<=4096
 hlen:L.length<=49
 IP:led<=4611686018427387904
 emp:L.length=0->led=0
 top:0<L.length->lvl L (L.length - 1)≠[]
 fJ:∀h,h<L.length->(lvl L h).length<=room k.toNat L.length h/\qA (lvl L h)
 hwt:wt L<=281474976710656
theorem iw.fit{k:Nat}{L:LL}{led:Nat}(h:iw k L led):Fit k L led:=by
 have hk:=h.k4;have h8:=h.k8;have Lj:=h.fJ;rw[bY] at Lj;have hr:∀j,j<L.length->(lvl L j).length<=k:=fun j hj=>bG (Lj j hj).1 (room_le ae)
 refine⟨⟨fun j=>?_,h.top,h.hwt,?_,h.IP⟩,pW fun j hj=>(Lj j hj).1⟩
 ·rcases bJ j L.length with h1|h1
  ·exact(Lj j h1).2
  ·show qA (lvl L j)
   rw[qB h1];exact List.Pairwise.nil
 ·have h1:=zk L k hr
  have h2:L.length * k<=49 * 4096:=Nat.mul_le_mul h.hlen ae
  show cnt L<=_
  omega
end Go.Proofs.YtkiebccnpheloaaGreat.K
