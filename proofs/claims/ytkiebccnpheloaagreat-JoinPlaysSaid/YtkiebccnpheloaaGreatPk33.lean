/- Parts of a proof: what its theorem reaches, words cut short. No condition of its own. -/
import Derived.Test.YtkiebccnpheloaaGreatPk29
set_option maxRecDepth 100000
set_option maxHeartbeats 16000000
set_option linter.unusedVariables false
set_option linter.unusedSimpArgs false
namespace Go.Proofs.YtkiebccnpheloaaGreat.K
open Go.RowKit
theorem Lc{P:Program}{α:Type}(E:Io α){ts:TypeId}(i0:TypeInfo)(z:Value)(bytes:Nat)(ht:P.underlying ts=some (.slice E.t))(hi:P.info? E.t=some i0)(hz:i0.zero=some z)(hsz:i0.size=E.k)(hby:i0.bytes=bytes)(hzs:z.cells.size=E.k)(hk:0<E.k)(hb:bytes<=128)
 {w:World} {o:Oper} {a:Act} {K:Act->World->Prop} {Q:Exit->Act->World->Prop} (s x:Operand)
 (ho:o.op=.call {callee:=.builtin .append,args:=#[s,x],argTypes:=#[ts,ts]})
 (base:Nat) (v:Value) (xs:List α) (hs:a.eval s=v) (hown:dI E base w v xs) (u:Value) (news:List α) (hx:a.eval x=u) (hr:gz E w u news) (hlen:xs.length+news.length<=1099511627776) (hbase:base<=w.heap.size)
 (h:∀v' w',dI E base w' v' (xs++news)->w.grownBy w' v.ownBlock->(v'.ownBlock=v.ownBlock\/v'.ownBlock=some w.heap.size)->K (a.put o.dst v') w'):o.wp P a w K Q:=by
 obtain⟨A,c,rfl,_,_,_⟩:=hr.form;have h1:(xs.length+news.length) * bytes<=1099511627776 * 128:=Nat.mul_le_mul hlen hb;refine ng w s x ts ho base E.t i0 z E.k bytes ht hi hz hsz hby hzs hk v xs.length (cellsE E xs) hs hown A news.length c (cellsE E news) hx hr (og E news) (by unfold maxLen;omega) ae hbase fun v' w' h2 h3 h4=>h v' w' ?_ h3 h4
 unfold dI;rw[aI,iU];exact h2
def Aside(F:Nat->Prop)(w:World)(v:Value)(l:List Int):Prop:=∀W,(∀k,k<w.heap.size->¬F k->W.heap[k]?=w.heap[k]?)->w.heap.size<=W.heap.size->gz fZ W v l
theorem Aside.rd{F:Nat->Prop}{w:World}{v:Value}{l:List Int}(h:Aside F w v l):gz fZ w v l:=h w (fun _ _ _=>rfl) (aK _)
theorem Aside.next{F G:Nat->Prop}{w w':World}{v:Value}{l:List Int}(h:Aside F w v l)(hk:∀k,k<w.heap.size->¬F k->w'.heap[k]?=w.heap[k]?)(hz:w.heap.size<=w'.heap.size)(hG:∀k,G k->F k\/w.heap.size<=k):Aside G w' v l:=
 fun W h1 h2=>h W (fun k hk1 hk2=>(h1 k ae (fun hg=>(hG k hg).elim hk2 ae)).trans (hk k hk1 hk2)) ae
theorem Aside.nU{F:Nat->Prop}{w:World}{v:Value}{l:List Int}{base:Nat}(h:dI fZ base w v l)(hF:∀k,v.ownBlock=some k->¬F k):Aside F w v l:=
 fun _ h1 _=>(h.stay fun k e=>h1 k (h.lt k e).2 (hF k e)).rd
theorem Ld(L:LL)(j:Nat):L++List.replicate (j+1) []=(L++List.replicate j [])++[([]:List Int)]:=by rw[List.replicate_succ',aS]
theorem rV.lvs{F:Nat->Prop}{w:World}{g k n led:Nat}{lv:Value}{vs:List Sv}{L:LL}(h:rV F w g k n led lv vs L)(hL:0<L.length):∃gl c,lv=.slice (some ⟨gl,0,none⟩) L.length c/\gl<w.heap.size/\gl≠g/\F gl:=by
 have hl:0<vs.length:=by rw[h.fJ.len];exact hL
 obtain⟨gl,c,e,_,hg,_,_⟩:=h.fJ.row.pos hl;rw[h.fJ.len] at e;refine⟨gl,c,e,hg,fun e2=>h.g1 ?_,h.fJ.fl gl ?_⟩
 ·rw[e,e2];rfl
 ·rw[e];rfl
theorem put_any{F:Nat->Prop}{g k n led:Nat}{lv:Value}{vs:List Sv}{L:LL}(h:Nat)(u:Value)(news:List Int)(w:World)(hs:rV F w g k n led lv vs L)(hu:Aside F w u news)(hsrt:qA (lvl L h))(hh:h<=100)(hL:L.length<=1000)(hl:(lvl L h).length<=1000000000)(hn:news.length<=1000000000) :
 Calls Tryz.prog 169 #[.pointer (some ⟨g,0,none⟩),.int .i64 h,u] w fun e w'=>e=.returned (.tuple #[])/\∃F' pX vs',(∀k,F' k->F k\/w.heap.size<=k)/\(∀k,F k->F' k)/\rV F' w' g k n led pX vs' (jP L h news)/\Touch F w w':=by
 obtain⟨i0,hi0,hiz,his,hib⟩:=info_parts XW;have HI:=aB hi0;have HZ:=aB hiz;have Nw:=aB his;have Gy:=aB hib;clear hi0 hiz his hib;obtain⟨i1,hi0,hiz,his,hib⟩:=info_parts slI;have JI:=aB hi0;have JZ:=aB hiz;have Ye:=aB his;have Yf:=aB hib;clear hi0 hiz his hib;have HU:=aB hu;have HS:=aB hs;have VQ:=aB hsrt;have hgw:=hs.blk.lt;obtain⟨A0,c0,rfl,_,_,_⟩:=hu.rd.form;clear hs hu hsrt
 go_enter Tryz.func169,Tryz.ntmps169
 go_wp2_with fail
 go_loopg [6] (h+1 - L.length) (fun q _ wr=>∃(j:Nat) (F1:Nat->Prop) (oP:Value) (vs1:List Sv),q=h+1 - L.length - j/\(j=0\/L.length+j<=h+1)/\Hid ((∀k,F1 k->F k\/w.heap.size<=k)/\(∀k,F k->F1 k)/\rV F1 wr g k n led oP vs1 (L++List.replicate j [])/\Touch F w wr))
 case atStart=>exact⟨0,F,lv,vs,rfl,.inl rfl,aB ⟨fun k hk=>.inl hk,fun k hk=>hk,by rw[List.replicate_zero,List.append_nil];exact HS.out,Touch.refl _ _⟩⟩
 case round=>
  obtain⟨j,F1,oP,vs1,hq,hj,HX⟩:=hrel;have HQ:=aB hq;clear hq;have hx:=HX.out;have hw1:=hx.2.2.2.size;have hst:=hx.2.2.1;obtain⟨A1,c1,rfl,hc1,hc2,_⟩:=hst.form;have k1:=hst.cell1;have f1:=hst.blk.frozen 1;have hgr:=hst.blk.lt;have hll:(L++List.replicate j ([]:List Int)).length=L.length+j:=ag
  rw[hll] at k1 hc1 hst
  by_cases hle:L.length+j<=h
  ·have ao8:((L.length+j:Nat):Int)<=(h:Int):=ae
   have hrow:=hst.fJ.row;have ao9:=aB hrow;have HST:=aB hst;have hfl:∀kk,(Value.slice A1 (L.length+j) c1).ownBlock=some kk->F1 kk:=fun kk e=>hst.fJ.fl kk e
   have hg1:(Value.slice A1 (L.length+j) c1).ownBlock≠some g:=hst.g1;have W_:=aB hfl;have HG1:=aB hg1;have hvl:vs1.length=L.length+j:=by rw[hst.fJ.len,hll]
   clear hrow hst hx hfl hg1 hll
   go_wp2_with (at_builtin;refine dV wI (ts:=152) i1 _ 24 Tryz.underlying152 JI.out JZ.out Ye.out Yf.out rfl af  af rfl (.tmp 17) (.tmp 18) rfl 0 (.slice A1 (L.length+j) c1) vs1 rfl (ao9.out.alloc _) _ [(none,0,0)] rfl (gz.dY (E:=wI) wr (none,0,0) _ rfl _ rfl _ rfl) ah ae ?_;intro v7 w7 o7 g7 a7;have b7:=(g7.block g ah (fun e=>HG1.out e.symm)).trans (dH.alloc HST.out.blk _);have k7:=dH.cell b7 1;have f7:=dH.frozen b7 1;simp only[aF,aG,aC] at k7;have O7:=aB o7;have G7:=aB g7;have A7:=aB a7;obtain⟨A8,c8,rfl,_,_,_⟩:=o7.form;clear o7 g7 a7 b7;go_simp)
   have e8:(vs1++[((none,0,0):Sv)]).length=L.length+j+1:=by rw[aI,hvl];rfl
   have o7:=O7.out;have a7:=A7.out;have g7:=G7.out;rw[e8] at o7 a7;have hmore:=mZ.more (HST.out.keep ((aH _ _).alloc (aK _) (.cells #[.slice none 0 0] 236))) o7 g7 a7
   go_roundg (h+1 - L.length - (j+1))
   case measure=>have:=HQ.out;omega
   case rel=>
    refine⟨j+1,_,_,_,rfl,.inr ae,aB ⟨?_,?_,by rw[Ld];exact hmore,?_⟩⟩
    ·intro kk hkk
     rcases hkk with hkk|hkk
     ·exact HX.out.1 kk hkk
     ·rcases a7 with e9|e9
      ·rw[e9] at hkk;exact HX.out.1 kk (W_.out kk hkk)
      ·rw[e9] at hkk
       injection hkk with hkk;rw[<-hkk];refine .inr ?_
       simp;omega
    ·exact fun kk hkk=>.inl (HX.out.2.1 kk hkk)
    ·refine Touch.setCell (Touch.grown (Touch.alloc HX.out.2.2.2 _) g7 fun kk hkk=>?_) ?_ _
     ·exact HX.out.1 kk (W_.out kk hkk)
     ·exact .inl HS.out.fg
  ·have hlx:ext L h=L++List.replicate j []:=by
    unfold ext
    congr 2
    omega
   rw[<-hlx] at hst;have Xb:h<(ext L h).length:=by rw[lJ];omega
   have hlen:(ext L h).length=L.length+j:=by rw[hlx,hll]
   obtain⟨gl,cl,p_,hgl,Py,wJ⟩:=rV.lvs hst ae
   rw[hlen] at p_;injection p_ with p_ e2 e3;subst p_;subst e3;have hv:h<vs1.length:=by rw[hst.fJ.len];exact Xb
   have g2:=hst.g2 h hv;have g3:(gX vs1[h]).ownBlock≠some gl:=fun e=>hst.fJ.apart h hv gl e rfl
   have ol:=hst.fJ.each h hv;rw[xW] at ol;have cl2:=hst.fJ.row.cellAt hv 0 af
   rw[show h * wI.k+0=h by show h * 1+0=h;omega] at cl2
   have fl2:=hst.fJ.row.frozenAt h;have hfs:=hst.fJ.fv h hv;have HST:=aB hst;have hfT:=HX.out.2.2.2;have HFT:=aB hfT;have HFX:=aB HX.out.1;have HFY:=aB HX.out.2.1;obtain⟨s,hs⟩:∃s,vs1[h]=s:=⟨_,rfl⟩;rw[hs] at g2 g3 ol cl2 hfs;have GK:=aB hs;obtain⟨sA,sn,sc⟩:=s;obtain⟨_,_,es,_,_,_⟩:=ol.form;injection es with es1 es2 es3;subst es2;have OL:=aB ol;have C1:=aB k1;have C2:Hid (wr.cell? ⟨gl,h,none⟩=some (.slice sA (lvl L h).length sc)):=aB (cl2.trans rfl);have FL2:=aB fl2;have HFS:=aB hfs;have HU1:=aB (HU.out.next (G:=F1) (fun kk h1 h2=>hfT.block kk h1 h2) hfT.size HX.out.1)
   clear hx HX hst cl2 fl2 f1 ol hs es1 es3 hfs hfT hll hlx;have hhi:h<L.length+j:=ae
   go_upto_region 2 with fail;clear k1;refine fM (fun w'=>Touch (fun kk=>(Value.slice sA (lvl L h).length sc).ownBlock=some kk) wr w') 15 [(0,1),(1,1),(2,1),(3,1),(4,1),(5,1),(6,1),(7,1),(8,1),(9,1),(10,1),(11,1),(12,1),(13,0),(14,1),(15,0)] (by kernel_rfl) (by kernel_rfl) ((Touch.refl _ _).drew) ?_
   iterate 13
    refine dX ax  ax (fun R hR=>?_)
    apply aJ
    refine⟨fun w' hS'=>?_,?_⟩
    ·have k1:=(bM (a:=⟨g,1,none⟩) (hS'.block g hgr g2)).trans C1.out
     have k2:=(bM (a:=⟨gl,h,none⟩) (hS'.block gl hgl g3)).trans C2.out
     go_simp;exact⟨rfl,rfl⟩
    go_simp;refine hR _ ?_;clear hR R
   refine lG ax  ax  ax (fun K hK=>?_)
   refine Lc fZ (ts:=236) i0 _ 8 Tryz.underlying236 HI.out HZ.out Nw.out Gy.out rfl af  af (.tmp 33) (.tmp 34) rfl 0 (.slice sA (lvl L h).length sc) (lvl L h) rfl (dI.drew OL.out) (.slice A0 news.length c0) news rfl (HU1.out.rd.keep (aH _ _).drew) ae  ae ?_
   intro v7 w7 o7 g7 a7;have T7:Touch (fun kk=>(Value.slice sA (lvl L h).length sc).ownBlock=some kk) wr w7:=((Touch.refl _ _).drew).grown g7 (fun kk hk=>.inl hk)
   have O7:=aB o7;have A7:=aB a7;obtain⟨A8,c8,rfl,_,_,_⟩:=o7.form;clear o7 g7 a7
   go_simp;refine hK _ _ (T7) ?_
   clear hK K
   iterate 1
    refine dX ax  ax (fun R hR=>?_)
    apply aJ
    refine⟨fun w' hS'=>?_,?_⟩
    ·have k1:=(bM (a:=⟨g,1,none⟩) (hS'.block g hgr g2)).trans C1.out
     have k2:=(bM (a:=⟨gl,h,none⟩) (hS'.block gl hgl g3)).trans C2.out
     go_simp;exact⟨rfl,rfl⟩
    go_simp;refine hR _ ?_;clear hR R
   refine iP ax  ax  ax (fun K hK=>?_)
   have k2:=(bM (a:=⟨gl,h,none⟩) (T7.block gl hgl g3)).trans C2.out;have f2:=(World.frozen?_of_block (a:=⟨gl,h,none⟩) (T7.block gl hgl g3)).trans FL2.out
   go_simp;refine hK _ _ ?_
   clear hK K;refine iQ ?_
   clear k2 f2;have e8:(lvl L h++news).length=(lvl L h).length+news.length:=aI;have o7:=O7.out;have a7:=A7.out;rw[e8] at o7 a7;have hown:∀kk,(Value.slice A8 ((lvl L h).length+news.length) c8).ownBlock=some kk->(Value.slice sA (lvl L h).length sc).ownBlock=some kk\/wr.heap.size<=kk:=fun kk e=>by
    rcases a7 with e9|e9
    ·rw[e9] at e;exact .inl e
    ·rw[e9] at e;injection e with e;exact .inr (by rw[<-e];exact aK _)
   have hvb:(gX vs1[h]).ownBlock=(Value.slice sA (lvl L h).length sc).ownBlock:=by rw[GK.out];rfl
   have fJ:=mZ.level (s':=(A8,(lvl L h).length+news.length,c8)) (l':=lvl L h++news) HST.out Xb rfl o7 (fun kk h1 h2=>T7.block kk h1 (fun e=>h2 (hvb.trans e))) T7.size (by
    rcases a7 with e9|e9
    ·exact .inl (e9.trans hvb.symm)
    ·exact .inr fun kk e=>by have e:=e9.symm.trans e;injection e with e;rw[<-e];exact aK _)
   have TT:Touch F w w7:=HFT.out.trans T7 fun kk hk=>HFX.out kk (HFS.out kk hk)
   have T8:=aB (TT.setCell (p:=⟨gl,h,none⟩) (HFX.out gl wJ) (gX (A8,(lvl L h).length+news.length,c8)));have oI:=aB fJ;have HOWN:=aB hown;have hz7:=TT.size;have hzw:w.heap.size<=wr.heap.size:=HFT.out.size;clear fJ o7 a7 TT T7 O7 A7 hown HST OL HU1 C1 C2 FL2 hvb g2 g3;obtain⟨w8,hw8⟩:∃x,w7.setCell ⟨gl,h,none⟩ (gX (A8,(lvl L h).length+news.length,c8))=x:=⟨_,rfl⟩;rw[hw8] at oI T8;show Exit.then _ _ Exit.normal _ (w7.setCell ⟨gl,h,none⟩ (gX (A8,(lvl L h).length+news.length,c8)))
   rw[hw8];clear hw8;have k1:=oI.out.cell1;have hset:(vs1.set h (A8,(lvl L h).length+news.length,c8))[h]'(by rw[bU];exact hv)=(A8,(lvl L h).length+news.length,c8):=List.getElem_set_self ..
   have k0:=oI.out.fJ.row.cellAt (j:=h) (by rw[bU];exact hv) 0 af
   rw[show h * wI.k+0=h by show h * 1+0=h;omega,hset] at k0
   have k2:w8.cell? ⟨gl,h,none⟩=some (.slice A8 ((lvl L h).length+news.length) c8):=k0.trans rfl;clear k0;have ol:=oI.out.fJ.each h (by rw[bU];exact hv)
   rw[hset,nI _ _ _ _ Xb,if_pos rfl] at ol;have OL:=aB ol;clear ol
   go_wp2_with fail;refine(XV (gX (A8,(lvl L h).length+news.length,c8)) 0 (lvl L h++news) w8 OL.out (by rw[e8];omega)).mono ?_
   rintro e w9 ⟨rfl,o9,t9⟩;rw[XO VQ.out news] at o9;have ap0:=oI.out.turn (j:=h) (l':=insL (lvl L h) news) (by rw[bU];exact Xb) (by rw[hset];exact o9) (fun kk h1 h2=>t9.block kk h1 (fun e=>h2 (by rw[hset];exact e))) t9.size
   rw[List.set_set] at ap0;have HL9:=aB ap0;have T9:=aB (T8.out.trans t9 (fun kk hk=>by
    rcases HOWN.out kk hk with e|e
    ·exact HFX.out kk (HFS.out kk e)
    ·exact .inr ae))
   clear ap0 o9 t9 k1 k2
   go_wp2_with fail
   go_end0
   refine⟨rfl,_,_,_,?_,?_,HL9.out,T9.out⟩
   ·intro kk hk
    rcases hk with hk|hk
    ·exact HFX.out kk hk
    ·rcases HOWN.out kk hk with e|e
     ·exact HFX.out kk (HFS.out kk e)
     ·exact .inr ae
   ·exact fun kk hk=>.inl (HFY.out kk hk)
open Go.RowKit
theorem DR.lvs{F:Nat->Prop}{w:World}{g k led:Nat}{lv:Value}{vs:List Sv}{L:LL}(h:DR F w g k led lv vs L)(hL:0<L.length):∃gl c,lv=.slice (some ⟨gl,0,none⟩) L.length c/\gl<w.heap.size/\gl≠g/\F gl:=by
 have hl:0<vs.length:=by rw[h.fJ.len];exact hL
 obtain⟨gl,c,e,_,hg,_,_⟩:=h.fJ.row.pos hl;rw[h.fJ.len] at e;refine⟨gl,c,e,hg,fun e2=>h.g1 ?_,h.fJ.fl gl ?_⟩
 ·rw[e,e2];rfl
 ·rw[e];rfl
theorem ql{F:Nat->Prop}{g k led:Nat}{lv:Value}{vs:List Sv}{L:LL}(h:Nat)(x:Int)(w:World)(hs:DR F w g k led lv vs L)(hh:h<=100)(hL:L.length<=1000)(hl:(lvl L h).length<=1000000000) :
 Calls Tryz.prog 192 #[.pointer (some ⟨g,0,none⟩),.int .i64 h,.int .i64 x] w fun e w'=>e=.returned (.tuple #[])/\∃F' pX vs',(∀k,F' k->F k\/w.heap.size<=k)/\(∀k,F k->F' k)/\DR F' w' g k led pX vs' (jP L h [x])/\Touch F w w':=by
 obtain⟨i1,hi0,hiz,his,hib⟩:=info_parts slI;have JI:=aB hi0;have JZ:=aB hiz;have Ye:=aB his;have Yf:=aB hib;clear hi0 hiz his hib;have HS:=aB hs;have hgw:=hs.blk.lt;clear hs
 go_enter Tryz.func192,Tryz.ntmps192
 go_wp2_with fail
 go_loopg [6] (h+1 - L.length) (fun q _ wr=>∃(j:Nat) (F1:Nat->Prop) (oP:Value) (vs1:List Sv),q=h+1 - L.length - j/\(j=0\/L.length+j<=h+1)/\Hid ((∀k,F1 k->F k\/w.heap.size<=k)/\(∀k,F k->F1 k)/\DR F1 wr g k led oP vs1 (L++List.replicate j [])/\Touch F w wr))
 case atStart=>exact⟨0,F,lv,vs,rfl,.inl rfl,aB ⟨fun k hk=>.inl hk,fun k hk=>hk,by rw[List.replicate_zero,List.append_nil];exact HS.out,Touch.refl _ _⟩⟩
 case round=>
  obtain⟨j,F1,oP,vs1,hq,hj,HX⟩:=hrel;have HQ:=aB hq;clear hq;have hx:=HX.out;have hw1:=hx.2.2.2.size;have hst:=hx.2.2.1;obtain⟨A1,c1,rfl,hc1,hc2,_⟩:=hst.form;have k1:=hst.cell1;have f1:=hst.blk.frozen 1;have hgr:=hst.blk.lt;have hll:(L++List.replicate j ([]:List Int)).length=L.length+j:=ag
  rw[hll] at k1 hc1 hst
  by_cases hle:L.length+j<=h
  ·have ao8:((L.length+j:Nat):Int)<=(h:Int):=ae
   have hrow:=hst.fJ.row;have ao9:=aB hrow;have HST:=aB hst;have hfl:∀kk,(Value.slice A1 (L.length+j) c1).ownBlock=some kk->F1 kk:=fun kk e=>hst.fJ.fl kk e
   have hg1:(Value.slice A1 (L.length+j) c1).ownBlock≠some g:=hst.g1;have W_:=aB hfl;have HG1:=aB hg1;have hvl:vs1.length=L.length+j:=by rw[hst.fJ.len,hll]
   clear hrow hst hx hfl hg1 hll
   go_wp2_with (at_builtin;refine dV wI (ts:=152) i1 _ 24 Tryz.underlying152 JI.out JZ.out Ye.out Yf.out rfl af  af rfl (.tmp 17) (.tmp 18) rfl 0 (.slice A1 (L.length+j) c1) vs1 rfl (ao9.out.alloc _) _ [(none,0,0)] rfl (gz.dY (E:=wI) wr (none,0,0) _ rfl _ rfl _ rfl) ah ae ?_;intro v7 w7 o7 g7 a7;have b7:=(g7.block g ah (fun e=>HG1.out e.symm)).trans (dH.alloc HST.out.blk _);have k7:=dH.cell b7 1;have f7:=dH.frozen b7 1;simp only[aF,aG,aC] at k7;have O7:=aB o7;have G7:=aB g7;have A7:=aB a7;obtain⟨A8,c8,rfl,_,_,_⟩:=o7.form;clear o7 g7 a7 b7;go_simp)
   have e8:(vs1++[((none,0,0):Sv)]).length=L.length+j+1:=by rw[aI,hvl];rfl
   have o7:=O7.out;have a7:=A7.out;have g7:=G7.out;rw[e8] at o7 a7;have hmore:=mZ.more (HST.out.keep ((aH _ _).alloc (aK _) (.cells #[.slice none 0 0] 236))) o7 g7 a7
   go_roundg (h+1 - L.length - (j+1))
   case measure=>have:=HQ.out;omega
   case rel=>
    refine⟨j+1,_,_,_,rfl,.inr ae,aB ⟨?_,?_,by rw[Ld];exact hmore,?_⟩⟩
    ·intro kk hkk
     rcases hkk with hkk|hkk
     ·exact HX.out.1 kk hkk
     ·rcases a7 with e9|e9
      ·rw[e9] at hkk;exact HX.out.1 kk (W_.out kk hkk)
      ·rw[e9] at hkk
       injection hkk with hkk;rw[<-hkk];refine .inr ?_
       simp;omega
    ·exact fun kk hkk=>.inl (HX.out.2.1 kk hkk)
    ·refine Touch.setCell (Touch.grown (Touch.alloc HX.out.2.2.2 _) g7 fun kk hkk=>?_) ?_ _
     ·exact HX.out.1 kk (W_.out kk hkk)
     ·exact .inl HS.out.fg
  ·have hlx:ext L h=L++List.replicate j []:=by
    unfold ext
    congr 2
    omega
   rw[<-hlx] at hst;have Xb:h<(ext L h).length:=by rw[lJ];omega
   have hlen:(ext L h).length=L.length+j:=by rw[hlx,hll]
   obtain⟨gl,cl,p_,hgl,Py,wJ⟩:=DR.lvs hst ae
   rw[hlen] at p_;injection p_ with p_ e2 e3;subst p_;subst e3;have hv:h<vs1.length:=by rw[hst.fJ.len];exact Xb
   have ol:=hst.fJ.each h hv;rw[xW] at ol;have cl2:=hst.fJ.row.cellAt hv 0 af
   rw[show h * wI.k+0=h by show h * 1+0=h;omega] at cl2
   have fl2:=hst.fJ.row.frozenAt h;have HST:=aB hst;have hfT:=HX.out.2.2.2;have HFT:=aB hfT;have HFX:=aB HX.out.1;have HFY:=aB HX.out.2.1;obtain⟨s,hs⟩:∃s,vs1[h]=s:=⟨_,rfl⟩;rw[hs] at ol cl2;obtain⟨sA,sn,sc⟩:=s;obtain⟨_,_,es,_,_,_⟩:=ol.form;injection es with es1 es2 es3;subst es2;have OL:=aB ol.rd;have C1:=aB k1;have C2:Hid (wr.cell? ⟨gl,h,none⟩=some (.slice sA (lvl L h).length sc)):=aB (cl2.trans rfl);have FL2:=aB fl2;clear hx HX hst cl2 fl2 f1 ol hs es1 es3 hfT hll hlx;have hhi:h<L.length+j:=ae
   go_upto_region 2 with fail;clear k1;refine fM (fun w'=>Below wr.heap.size wr w') 15 [(0,1),(1,1),(2,1),(3,1),(4,1),(5,1),(6,1),(7,1),(8,1),(9,1),(10,1),(11,1),(12,1),(13,0),(14,1),(15,0)] (by kernel_rfl) (by kernel_rfl) ((aH _ _).drew) ?_
   iterate 13
    refine dX ax  ax (fun R hR=>?_)
    apply aJ
    refine⟨fun w' hS'=>?_,?_⟩
    ·have k1:=(hS'.cell (p:=⟨g,1,none⟩) hgr).trans C1.out
     have k2:=(hS'.cell (p:=⟨gl,h,none⟩) hgl).trans C2.out
     go_simp;exact⟨rfl,rfl⟩
    go_simp;refine hR _ ?_;clear hR R
   refine lG ax  ax  ax (fun K hK=>?_)
   go_simp;refine(XZ (.slice sA (lvl L h).length sc) (lvl L h) x _ (OL.out.keep (aH _ _).drew) hl).mono ?_
   rintro e w7 ⟨⟨s7,n7,c7⟩,rfl,o7,hb7⟩;have B7:Below wr.heap.size wr w7:=((aH _ _).drew).trans hb7;obtain⟨_,_,es,_,_,_⟩:=o7.form;injection es with es1 es2 es3;subst es2;have O7:=aB o7;clear o7 hb7 es1 es3;unfold gX;refine hK _ _ (B7) ?_
   clear hK K
   iterate 1
    refine dX ax  ax (fun R hR=>?_)
    apply aJ
    refine⟨fun w' hS'=>?_,?_⟩
    ·have k1:=(hS'.cell (p:=⟨g,1,none⟩) hgr).trans C1.out
     have k2:=(hS'.cell (p:=⟨gl,h,none⟩) hgl).trans C2.out
     go_simp;exact⟨rfl,rfl⟩
    go_simp;refine hR _ ?_;clear hR R
   refine iP ax  ax  ax (fun K hK=>?_)
   have k2:=(B7.cell (p:=⟨gl,h,none⟩) hgl).trans C2.out;have f2:=(B7.frozen (p:=⟨gl,h,none⟩) hgl).trans FL2.out
   go_simp;refine hK _ _ ?_
   clear hK K;refine iQ ?_
   clear k2 f2;have fJ:=mZ.level (s':=(s7,(ins x (lvl L h)).length,c7)) (l':=ins x (lvl L h)) HST.out Xb rfl (O7.out.more (bW _)) (fun kk h1 _=>B7.block kk h1) B7.size (.inr fun kk e=>(O7.out.lt kk e).1)
   have TT:Touch F w w7:=HFT.out.trans (Touch.of_below (F:=fun _=>False) B7 (aK _)) fun kk hk=>hk.elim
   have T8:=aB (TT.setCell (p:=⟨gl,h,none⟩) (HFX.out gl wJ) (gX (s7,(ins x (lvl L h)).length,c7)));have oI:=aB fJ;have hzw:w.heap.size<=wr.heap.size:=HFT.out.size;have HOWN:=aB (fun kk e=>(O7.out.lt kk e).1)
   clear fJ TT B7 HST OL C1 C2 FL2
   go_wp2_with fail
   go_end0
   refine⟨rfl,_,?_,?_,⟨_,_,oI.out⟩,T8.out⟩
   ·intro kk hk
    rcases hk with hk|hk
    ·exact HFX.out kk hk
    ·exact .inr (bG hzw (HOWN.out kk hk))
   ·exact fun kk hk=>.inl (HFY.out kk hk)
open Go.RowKit
def Ru:Io Int where
 k:=1
 t:=5
 enc x:=[.int .u8 x]
 len _:=rfl
 one x u hu:=by
  simp only[a_,List.not_mem_nil,or_false] at hu;subst hu;rfl
theorem _root_.Go.Proofs.YtkiebccnpheloaaGreat.jl.u8{w:World}{A:Option Addr}{l:List Int}(h:jl Ru w A l){j:Nat}(hj:j<l.length) :
 ∃g off,A=some ⟨g,off,none⟩/\g<w.heap.size/\w.cell? ⟨g,off+j,none⟩=some (.int .u8 l[j]):=by
 obtain⟨g,off,hA,hg,hc⟩:=h ae
 refine⟨g,off,hA,hg,?_⟩
 have:=hc j hj 0 af
 rw[show off+j * Ru.k+0=off+j by show off+j * 1+0=_;omega] at this
 exact this
theorem _root_.Go.Proofs.YtkiebccnpheloaaGreat.gz.stay{α:Type}{E:Io α}{w w':World}{v:Value}{l:List α}(h:gz E w v l)(hk:∀k,v.ownBlock=some k->w'.heap[k]?=w.heap[k]?)(hz:w.heap.size<=w'.heap.size):gz E w' v l:=by
 obtain⟨A,c,rfl,h1,h2,h3⟩:=h.form;refine gz.iO h1 h2 fun h0=>?_
 obtain⟨g,off,rfl,hg,hc⟩:=h3 h0;exact⟨g,off,rfl,ae,fun j hj i hi=>(bM (hk g rfl)).trans (hc j hj i hi)⟩
def Byt(B:List Int):Prop:=B.length<=1000000/\∀x∈B,0<=x/\x<=255
structure UE(t:TypeId)(w:World)(g:Nat)(v:Value)(B:List Int)(a:Nat):Prop where
 blk:dH w g t #[v,.int .i64 a]
 rd:gz Ru w v B
 ne:v.ownBlock≠some g
 at_:a<=8 * B.length
 byt:Byt B
theorem UE.stay{t:TypeId}{w w':World}{g:Nat}{v:Value}{B:List Int}{a:Nat}(h:UE t w g v B a)(hg:w'.heap[g]?=w.heap[g]?)(hk:∀k,v.ownBlock=some k->w'.heap[k]?=w.heap[k]?)(hz:w.heap.size<=w'.heap.size):UE t w' g v B a:=
 ⟨hg.trans h.blk,h.rd.stay hk hz,h.ne,h.at_,h.byt⟩
theorem UE.drewN{t:TypeId}{w:World}{g:Nat}{v:Value}{B:List Int}{a:Nat}(h:UE t w g v B a)(n:Nat):UE t (w.drewN n) g v B a:=h.stay rfl (fun _ _=>rfl) (aK _)
theorem UE.step{t:TypeId}{w:World}{g:Nat}{v:Value}{B:List Int}{a:Nat}(h:UE t w g v B a)(ha:a<8 * B.length):UE t (w.setCell ⟨g,1,none⟩ (.int .i64 (a+1:Nat))) g v B (a+1):=by
 have hk:∀k,k≠g->(w.setCell ⟨g,1,none⟩ (.int .i64 (a+1:Nat))).heap[k]?=w.heap[k]?:=fun k hk=>bF w ⟨g,1,none⟩ _ k hk
 refine⟨?_,h.rd.stay (fun k e=>hk k fun e2=>h.ne (by rw[e,e2])) ag,h.ne,ha,h.byt⟩
 have:=h.blk.dP 1 (.int .i64 (a+1:Nat))
 simpa using this
def RC(w:World)(g:Nat)(v:Value)(B:List Int)(a:Nat):Prop:=UE 69 w g v B a\/(B=[]/\a=0/\v=.slice none 0 0/\∃A c,c<=maxLen/\dH w g 69 #[.slice A 0 c,.int .i64 0])
theorem RC.stay{w w':World}{g:Nat}{v:Value}{B:List Int}{a:Nat}(h:RC w g v B a)(hg:w'.heap[g]?=w.heap[g]?)(hk:∀k,v.ownBlock=some k->w'.heap[k]?=w.heap[k]?)(hz:w.heap.size<=w'.heap.size):RC w' g v B a:=by
 rcases h with h|⟨h1,h2,h3,A,c,hc,hb⟩
 ·exact .inl (h.stay hg hk hz)
 ·exact .inr ⟨h1,h2,h3,A,c,hc,hg.trans hb⟩
abbrev BR:=UE 265
theorem UF{y:Int}(h:0<=y/\y<=255):wrap64 y=y:=by unfold wrap64;omega
theorem Pz(g:Nat)(v:Value)(B:List Int)(a:Nat)(w:World)(h:UE 69 w g v B a) :
 Calls Tryz.prog 281 #[.pointer (some ⟨g,0,none⟩)] w fun e w'=>e=.returned (.int .i64 (fP B a:Nat))/\UE 69 w' g v B (iJ B a)/\Touch (fun k=>k=g) w w':=by
 have HH:=aB h;obtain⟨A,c,rfl,hc1,hc2,hf⟩:=h.rd.form;have hgw:=h.blk.lt;have c0:=h.blk.cell 0;have c1:=h.blk.cell 1;have f1:=h.blk.frozen 1;have hb1:=h.byt.1;have hat:=h.at_;simp only[aF,aG,aC] at c0 c1;have HF:=aB hf;clear h hf
 by_cases hlt:a<8 * B.length
 ·have hl8:a / 8<B.length:=ae
  obtain⟨gb,off,rfl,hgb,cb⟩:=HF.out.u8 hl8;have hx:=HH.out.byt.2 _ (bu hl8);obtain⟨x,hxe⟩:∃x,B[a / 8]=x:=⟨_,rfl⟩;rw[hxe] at cb hx;have HX:=aB hxe;clear hxe;have hge:¬(a:Int)>=8 * (B.length:Int):=ae
  go_enter Tryz.func281,Tryz.ntmps281
  go_wp2_with fail
  go_quiet (fail)
  go_wp2_with fail
  go_quiet (fail)
  have hy:0<=x / 2 ^ (a % 8)/\x / 2 ^ (a % 8)<=255:=by
   have hp:(0:Int)<2 ^ (a % 8):=Int.pow_pos af
   exact⟨Int.ediv_nonneg hx.1 ae,Int.le_trans (Int.ediv_le_self _ hx.1) hx.2⟩
  have HC:Hid (x / 2 ^ (a % 8) % 2=((fP B a:Nat):Int)):=aB (by
   unfold fP;rw[if_pos hlt];simp only[List.getD];rw[aY hl8,Option.getD_some,HX.out];omega)
  have hT:(wrap64 (x / 2 ^ (a % 8))).tmod 2=((fP B a:Nat):Int):=by
   rw[UF hy,Int.tmod_eq_emod_of_nonneg hy.1];exact HC.out
  rw[hT];clear hT HC hy;have hc2:iJ B a=a+1:=by unfold iJ;rw[if_pos hlt]
  have HC2:=aB hc2;clear hc2;obtain⟨y,hy⟩:∃y,fP B a=y:=⟨_,rfl⟩;rw[hy];have HY:=aB hy;clear hy
  go_wp2_with fail;refine bodyPost_ret (by simp[results,Tryz.results281,go_sem, *];try rfl) rfl ?_
  refine⟨by rw[HY.out],?_,?_⟩
  ·rw[HC2.out]
   exact(HH.out.drewN _).step hlt
  ·exact Touch.setCell (F:=fun k=>k=g) (Touch.drewN (Touch.refl _ _) _) (.inl rfl) _
 ·have hge:(a:Int)>=8 * (B.length:Int):=ae
  go_enter Tryz.func281,Tryz.ntmps281
  go_wp2_with fail
  go_quiet (fail)
  go_wp2_with fail;refine bodyPost_ret (by simp[results,Tryz.results281,go_sem, *];try rfl) rfl ?_
  have h1:iJ B a=a:=by unfold iJ;rw[if_neg hlt]
  have h2:fP B a=0:=by unfold fP;rw[if_neg hlt]
  rw[h1,h2];exact⟨rfl,HH.out.stay rfl (fun _ _=>rfl) (aK _),Touch.drewN (Touch.refl _ _) _⟩
theorem PD(g c:Nat)(A:Option Addr)(w:World)(h:dH w g 69 #[.slice A 0 c,.int .i64 0]) :
 Calls Tryz.prog 281 #[.pointer (some ⟨g,0,none⟩)] w fun e w'=>e=.returned (.int .i64 0)/\∃n,w'=w.drewN n:=by
 have hgw:=h.lt;have c0:=h.cell 0;have c1:=h.cell 1;simp only[aF,aG,aC] at c0 c1;clear h
 go_enter Tryz.func281,Tryz.ntmps281
 go_wp2_with fail
 go_quiet (fail)
 go_wp2_with fail;refine bodyPost_ret (by simp[results,Tryz.results281,go_sem, *];try rfl) rfl ?_
 exact⟨rfl,_,rfl⟩
theorem UG(g:Nat)(v:Value)(B:List Int)(a:Nat)(w:World)(h:RC w g v B a) :
 Calls Tryz.prog 281 #[.pointer (some ⟨g,0,none⟩)] w fun e w'=>e=.returned (.int .i64 (fP B a:Nat))/\RC w' g v B (iJ B a)/\Touch (fun k=>k=g) w w':=by
 rcases h with h|⟨rfl,rfl,rfl,A,c,hc,h⟩
 ·exact(Pz g v B a w h).mono fun e w' ⟨h1,h2,h3⟩=>⟨h1,.inl h2,h3⟩
 ·refine(PD g c A w h).mono ?_
  rintro e w' ⟨rfl,n,rfl⟩;exact⟨rfl,.inr ⟨rfl,rfl,rfl,A,c,hc,h⟩,Touch.drewN (Touch.refl _ _) _⟩
end Go.Proofs.YtkiebccnpheloaaGreat.K
