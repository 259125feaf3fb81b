/- Parts of a proof: what its theorem reaches, words cut short. No condition of its own. -/
import Derived.Test.YtilcnjbpmoijmaaGreatPs22
set_option maxRecDepth 100000
set_option maxHeartbeats 16000000
set_option linter.unusedVariables false
set_option linter.unusedSimpArgs false
namespace Go.Proofs.YtilcnjbpmoijmaaGreat.K
open Go.RowKit
theorem wp_append_E{P:Program}{α:Type}(E:Lie α){ts:TypeId}(i0:TypeInfo)(z:Value)(bytes:Nat)(ht:P.underlying ts=some (.slice E.t))(hi:P.info? E.t=some i0)(hz:i0.zero=some z)(hsz:i0.size=E.k)(hby:i0.bytes=bytes)(hzs:z.cells.size=E.k)(hk:0<E.k)(hb:bytes<=128)
 {w:World} {o:Oper} {a:Act} {K:Act->World->Prop} {Q:Exit->Act->World->Prop} (s x:Operand)
 (ho:o.op=.call {callee:=.builtin .append,args:=#[s,x],argTypes:=#[ts,ts]})
 (base:Nat) (v:Value) (xs:List α) (hs:a.eval s=v) (hown:OwnE E base w v xs) (u:Value) (news:List α) (hx:a.eval x=u) (hr:RdE E w u news) (hlen:xs.length+news.length<=1099511627776) (hbase:base<=w.heap.size)
 (h:∀v' w',OwnE E base w' v' (xs++news)->w.grownBy w' v.ownBlock->(v'.ownBlock=v.ownBlock\/v'.ownBlock=some w.heap.size)->K (a.put o.dst v') w'):o.wp P a w K Q:=by
 obtain⟨A,c,rfl,_,_,_⟩:=hr.form
 have h1:(xs.length+news.length) * bytes<=1099511627776 * 128:=Nat.mul_le_mul hlen hb
 refine wp_append_rd w s x ts ho base E.t i0 z E.k bytes ht hi hz hsz hby hzs hk v xs.length (cellsE E xs) hs hown A news.length c (cellsE E news) hx hr (cellsE_one E news) (by unfold maxLen;omega) (by omega) hbase fun v' w' h2 h3 h4=>h v' w' ?_ h3 h4
 unfold OwnE
 rw[List.length_append,cellsE_append]
 exact h2
def Aside(F:Nat->Prop)(w:World)(v:Value)(l:List Int):Prop:=∀W,(∀k,k<w.heap.size->¬F k->W.heap[k]?=w.heap[k]?)->w.heap.size<=W.heap.size->RdE i64E W v l
theorem Aside.rd{F:Nat->Prop}{w:World}{v:Value}{l:List Int}(h:Aside F w v l):RdE i64E w v l:=h w (fun _ _ _=>rfl) (Nat.le_refl _)
theorem Aside.next{F G:Nat->Prop}{w w':World}{v:Value}{l:List Int}(h:Aside F w v l)(hk:∀k,k<w.heap.size->¬F k->w'.heap[k]?=w.heap[k]?)(hz:w.heap.size<=w'.heap.size)(hG:∀k,G k->F k\/w.heap.size<=k):Aside G w' v l:=
 fun W h1 h2=>h W (fun k hk1 hk2=>(h1 k (by omega) (fun hg=>(hG k hg).elim hk2 (by omega))).trans (hk k hk1 hk2)) (by omega)
theorem Aside.of_own{F:Nat->Prop}{w:World}{v:Value}{l:List Int}{base:Nat}(h:OwnE i64E base w v l)(hF:∀k,v.ownBlock=some k->¬F k):Aside F w v l:=
 fun _ h1 _=>(h.stay fun k e=>h1 k (h.lt k e).2 (hF k e)).rd
theorem ext_succ(L:LL)(j:Nat):L++List.replicate (j+1) []=(L++List.replicate j [])++[([]:List Int)]:=by rw[List.replicate_succ',List.append_assoc]
theorem Kst.lvs{F:Nat->Prop}{w:World}{g k n led:Nat}{lv:Value}{vs:List Sv}{L:LL}(h:Kst F w g k n led lv vs L)(hL:0<L.length):∃gl c,lv=.slice (some ⟨gl,0,none⟩) L.length c/\gl<w.heap.size/\gl≠g/\F gl:=by
 have hl:0<vs.length:=by rw[h.lev.len];exact hL
 obtain⟨gl,c,e,_,hg,_,_⟩:=h.lev.row.pos hl
 rw[h.lev.len] at e
 refine⟨gl,c,e,hg,fun e2=>h.g1 ?_,h.lev.fl gl ?_⟩
 ·rw[e,e2];rfl
 ·rw[e];rfl
theorem put_any{F:Nat->Prop}{g k n led:Nat}{lv:Value}{vs:List Sv}{L:LL}(h:Nat)(u:Value)(news:List Int)(w:World)(hs:Kst F w g k n led lv vs L)(hu:Aside F w u news)(hsrt:Srt (lvl L h))(hh:h<=100)(hL:L.length<=1000)(hl:(lvl L h).length<=1000000000)(hn:news.length<=1000000000) :
 Calls Tryz.prog 140 #[.pointer (some ⟨g,0,none⟩),.int .i64 h,u] w fun e w'=>e=.returned (.tuple #[])/\∃F' lv' vs',(∀k,F' k->F k\/w.heap.size<=k)/\(∀k,F k->F' k)/\Kst F' w' g k n led lv' vs' (putL L h news)/\Touch F w w':=by
 obtain⟨i0,hi0,hiz,his,hib⟩:=info_parts i64I
 have HI:=Lib.hid hi0
 have HZ:=Lib.hid hiz
 have HSZ:=Lib.hid his
 have HBY:=Lib.hid hib
 clear hi0 hiz his hib
 obtain⟨i1,hi0,hiz,his,hib⟩:=info_parts slI
 have JI:=Lib.hid hi0
 have JZ:=Lib.hid hiz
 have JSZ:=Lib.hid his
 have JBY:=Lib.hid hib
 clear hi0 hiz his hib
 have HU:=Lib.hid hu
 have HS:=Lib.hid hs
 have HSR:=Lib.hid hsrt
 have hgw:=hs.blk.lt
 obtain⟨A0,c0,rfl,_,_,_⟩:=hu.rd.form
 clear hs hu hsrt
 go_enter Tryz.func140,Tryz.ntmps140
 go_wp2_with fail
 go_loopg [6] (h+1 - L.length) (fun q _ wr=>∃(j:Nat) (F1:Nat->Prop) (lv1:Value) (vs1:List Sv),q=h+1 - L.length - j/\(j=0\/L.length+j<=h+1)/\Hid ((∀k,F1 k->F k\/w.heap.size<=k)/\(∀k,F k->F1 k)/\Kst F1 wr g k n led lv1 vs1 (L++List.replicate j [])/\Touch F w wr))
 case atStart=>exact⟨0,F,lv,vs,rfl,.inl rfl,Lib.hid ⟨fun k hk=>.inl hk,fun k hk=>hk,by rw[List.replicate_zero,List.append_nil];exact HS.out,Touch.refl _ _⟩⟩
 case round=>
  obtain⟨j,F1,lv1,vs1,hq,hj,HX⟩:=hrel
  have HQ:=Lib.hid hq
  clear hq
  have hx:=HX.out
  have hw1:=hx.2.2.2.size
  have hst:=hx.2.2.1
  obtain⟨A1,c1,rfl,hc1,hc2,_⟩:=hst.form
  have k1:=hst.cell1
  have f1:=hst.blk.frozen 1
  have hgr:=hst.blk.lt
  have hll:(L++List.replicate j ([]:List Int)).length=L.length+j:=by simp
  rw[hll] at k1 hc1 hst
  by_cases hle:L.length+j<=h
  ·have hle':((L.length+j:Nat):Int)<=(h:Int):=by omega
   have hrow:=hst.lev.row
   have HROW:=Lib.hid hrow
   have HST:=Lib.hid hst
   have hfl:∀kk,(Value.slice A1 (L.length+j) c1).ownBlock=some kk->F1 kk:=fun kk e=>hst.lev.fl kk e
   have hg1:(Value.slice A1 (L.length+j) c1).ownBlock≠some g:=hst.g1
   have HFL:=Lib.hid hfl
   have HG1:=Lib.hid hg1
   have hvl:vs1.length=L.length+j:=by rw[hst.lev.len,hll]
   clear hrow hst hx hfl hg1 hll
   go_wp2_with (at_builtin;refine wpList_append_E slE (ts:=114) i1 _ 24 Tryz.underlying114 JI.out JZ.out JSZ.out JBY.out rfl (by decide) (by decide) rfl (.tmp 17) (.tmp 18) rfl 0 (.slice A1 (L.length+j) c1) vs1 rfl (HROW.out.alloc _) _ [(none,0,0)] rfl (RdE.one_at (E:=slE) wr (none,0,0) _ rfl _ rfl _ rfl) (by simp;omega) (by omega) ?_;intro v7 w7 o7 g7 a7;have b7:=(g7.block g (by simp;omega) (fun e=>HG1.out e.symm)).trans (Blk.alloc HST.out.blk _);have k7:=Blk.cell b7 1;have f7:=Blk.frozen b7 1;simp only[List.getElem?_toArray,List.getElem?_cons_succ,List.getElem?_cons_zero] at k7;have O7:=Lib.hid o7;have G7:=Lib.hid g7;have A7:=Lib.hid a7;obtain⟨A8,c8,rfl,_,_,_⟩:=o7.form;clear o7 g7 a7 b7;go_simp)
   have e8:(vs1++[((none,0,0):Sv)]).length=L.length+j+1:=by rw[List.length_append,hvl];rfl
   have o7:=O7.out
   have a7:=A7.out
   have g7:=G7.out
   rw[e8] at o7 a7
   have hmore:=StG.more (HST.out.keep ((Below.refl _ _).alloc (Nat.le_refl _) (.cells #[.slice none 0 0] 182))) o7 g7 a7
   go_roundg (h+1 - L.length - (j+1))
   case measure=>have:=HQ.out;omega
   case rel=>
    refine⟨j+1,_,_,_,rfl,.inr (by omega),Lib.hid ⟨?_,?_,by rw[ext_succ];exact hmore,?_⟩⟩
    ·intro kk hkk
     rcases hkk with hkk|hkk
     ·exact HX.out.1 kk hkk
     ·rcases a7 with e9|e9
      ·rw[e9] at hkk;exact HX.out.1 kk (HFL.out kk hkk)
      ·rw[e9] at hkk
       injection hkk with hkk
       rw[<-hkk]
       refine .inr ?_
       simp;omega
    ·exact fun kk hkk=>.inl (HX.out.2.1 kk hkk)
    ·refine Touch.setCell (Touch.grown (Touch.alloc HX.out.2.2.2 _) g7 fun kk hkk=>?_) ?_ _
     ·exact HX.out.1 kk (HFL.out kk hkk)
     ·exact .inl HS.out.fg
  ·have hlx:ext L h=L++List.replicate j []:=by
    unfold ext
    congr 2
    omega
   rw[<-hlx] at hst
   have hhl:h<(ext L h).length:=by rw[ext_length];omega
   have hlen:(ext L h).length=L.length+j:=by rw[hlx,hll]
   obtain⟨gl,cl,elv,hgl,hglg,hFgl⟩:=Kst.lvs hst (by omega)
   rw[hlen] at elv
   injection elv with elv e2 e3
   subst elv;subst e3
   have hv:h<vs1.length:=by rw[hst.lev.len];exact hhl
   have g2:=hst.g2 h hv
   have g3:(svV vs1[h]).ownBlock≠some gl:=fun e=>hst.lev.apart h hv gl e rfl
   have ol:=hst.lev.each h hv
   rw[lvl_ext] at ol
   have cl2:=hst.lev.row.cellAt hv 0 (by decide)
   rw[show h * slE.k+0=h by show h * 1+0=h;omega] at cl2
   have fl2:=hst.lev.row.frozenAt h
   have hfs:=hst.lev.fv h hv
   have HST:=Lib.hid hst
   have hfT:=HX.out.2.2.2
   have HFT:=Lib.hid hfT
   have HFX:=Lib.hid HX.out.1
   have HFY:=Lib.hid HX.out.2.1
   obtain⟨s,hs⟩:∃s,vs1[h]=s:=⟨_,rfl⟩
   rw[hs] at g2 g3 ol cl2 hfs
   have HS1:=Lib.hid hs
   obtain⟨sA,sn,sc⟩:=s
   obtain⟨_,_,es,_,_,_⟩:=ol.form
   injection es with es1 es2 es3
   subst es2
   have OL:=Lib.hid ol
   have C1:=Lib.hid k1
   have C2:Hid (wr.cell? ⟨gl,h,none⟩=some (.slice sA (lvl L h).length sc)):=Lib.hid (cl2.trans rfl)
   have FL2:=Lib.hid fl2
   have HFS:=Lib.hid hfs
   have HU1:=Lib.hid (HU.out.next (G:=F1) (fun kk h1 h2=>hfT.block kk h1 h2) hfT.size HX.out.1)
   clear hx HX hst cl2 fl2 f1 ol hs es1 es3 hfs hfT hll hlx
   have hhi:h<L.length+j:=by omega
   go_upto_region 2 with fail
   clear k1
   have FBq:=Lib.hid (fun(w':World) (hS':Touch (fun kk=>(Value.slice sA (lvl L h).length sc).ownBlock=some kk) wr w')=>(And.intro ((World.cell?_of_block (a:=⟨g,1,none⟩) (hS'.block g hgr g2)).trans C1.out) ((World.cell?_of_block (a:=⟨gl,h,none⟩) (hS'.block gl hgl g3)).trans C2.out)))
   refine plSA (fun w'=>Touch (fun kk=>(Value.slice sA (lvl L h).length sc).ownBlock=some kk) wr w') 15 (pls 0 13 (plf 13 (pls 14 1 (plf 15 [])))) ((Touch.refl _ _).drew) ?_
   iterate 13 refine plSR ?_
   refine plSD fun K hK=>?_
   refine wp_append_E i64E (ts:=182) i0 _ 8 Tryz.underlying182 HI.out HZ.out HSZ.out HBY.out rfl (by decide) (by decide) (.tmp 33) (.tmp 34) rfl 0 (.slice sA (lvl L h).length sc) (lvl L h) rfl (OwnE.drew OL.out) (.slice A0 news.length c0) news rfl (HU1.out.rd.keep (Below.refl _ _).drew) (by omega) (by omega) ?_
   intro v7 w7 o7 g7 a7
   have T7:Touch (fun kk=>(Value.slice sA (lvl L h).length sc).ownBlock=some kk) wr w7:=((Touch.refl _ _).drew).grown g7 (fun kk hk=>.inl hk)
   have O7:=Lib.hid o7
   have A7:=Lib.hid a7
   obtain⟨A8,c8,rfl,_,_,_⟩:=o7.form
   clear o7 g7 a7
   go_simp
   refine hK _ _ (T7) ?_
   clear hK K
   refine plSR ?_
   refine plSE fun K hK=>?_
   have k2:=(World.cell?_of_block (a:=⟨gl,h,none⟩) (T7.block gl hgl g3)).trans C2.out
   have f2:=(World.frozen?_of_block (a:=⟨gl,h,none⟩) (T7.block gl hgl g3)).trans FL2.out
   go_simp
   refine hK _ _ ?_
   clear hK K
   refine wpPlanS_nil ?_
   clear k2 f2
   have e8:(lvl L h++news).length=(lvl L h).length+news.length:=List.length_append
   have o7:=O7.out
   have a7:=A7.out
   rw[e8] at o7 a7
   have hown:∀kk,(Value.slice A8 ((lvl L h).length+news.length) c8).ownBlock=some kk->(Value.slice sA (lvl L h).length sc).ownBlock=some kk\/wr.heap.size<=kk:=fun kk e=>by
    rcases a7 with e9|e9
    ·rw[e9] at e;exact .inl e
    ·rw[e9] at e;injection e with e;exact .inr (by rw[<-e];exact Nat.le_refl _)
   have hvb:(svV vs1[h]).ownBlock=(Value.slice sA (lvl L h).length sc).ownBlock:=by rw[HS1.out];rfl
   have lev:=StG.level (s':=(A8,(lvl L h).length+news.length,c8)) (l':=lvl L h++news) HST.out hhl rfl o7 (fun kk h1 h2=>T7.block kk h1 (fun e=>h2 (hvb.trans e))) T7.size (by
    rcases a7 with e9|e9
    ·exact .inl (e9.trans hvb.symm)
    ·exact .inr fun kk e=>by have e:=e9.symm.trans e;injection e with e;rw[<-e];exact Nat.le_refl _)
   have TT:Touch F w w7:=HFT.out.trans T7 fun kk hk=>HFX.out kk (HFS.out kk hk)
   have T8:=Lib.hid (TT.setCell (p:=⟨gl,h,none⟩) (HFX.out gl hFgl) (svV (A8,(lvl L h).length+news.length,c8)))
   have HLEV:=Lib.hid lev
   have HOWN:=Lib.hid hown
   have hz7:=TT.size
   have hzw:w.heap.size<=wr.heap.size:=HFT.out.size
   clear lev o7 a7 TT T7 O7 A7 hown HST OL HU1 C1 C2 FL2 hvb g2 g3
   obtain⟨w8,hw8⟩:∃x,w7.setCell ⟨gl,h,none⟩ (svV (A8,(lvl L h).length+news.length,c8))=x:=⟨_,rfl⟩
   rw[hw8] at HLEV T8
   show Exit.then _ _ Exit.normal _ (w7.setCell ⟨gl,h,none⟩ (svV (A8,(lvl L h).length+news.length,c8)))
   rw[hw8]
   clear hw8
   have k1:=HLEV.out.cell1
   have hset:(vs1.set h (A8,(lvl L h).length+news.length,c8))[h]'(by rw[List.length_set];exact hv)=(A8,(lvl L h).length+news.length,c8):=List.getElem_set_self ..
   have k0:=HLEV.out.lev.row.cellAt (j:=h) (by rw[List.length_set];exact hv) 0 (by decide)
   rw[show h * slE.k+0=h by show h * 1+0=h;omega,hset] at k0
   have k2:w8.cell? ⟨gl,h,none⟩=some (.slice A8 ((lvl L h).length+news.length) c8):=k0.trans rfl
   clear k0
   have ol:=HLEV.out.lev.each h (by rw[List.length_set];exact hv)
   rw[hset,lvl_set _ _ _ _ hhl,if_pos rfl] at ol
   have OL:=Lib.hid ol
   clear ol
   go_wp2_with fail
   refine(sort_own (svV (A8,(lvl L h).length+news.length,c8)) 0 (lvl L h++news) w8 OL.out (by rw[e8];omega)).mono ?_
   rintro e w9 ⟨rfl,o9,t9⟩
   rw[sort_ins HSR.out news] at o9
   have hlt9:=HLEV.out.turn (j:=h) (l':=insL (lvl L h) news) (by rw[List.length_set];exact hhl) (by rw[hset];exact o9) (fun kk h1 h2=>t9.block kk h1 (fun e=>h2 (by rw[hset];exact e))) t9.size
   rw[List.set_set] at hlt9
   have HL9:=Lib.hid hlt9
   have T9:=Lib.hid (T8.out.trans t9 (fun kk hk=>by
    rcases HOWN.out kk hk with e|e
    ·exact HFX.out kk (HFS.out kk e)
    ·exact .inr (by omega)))
   clear hlt9 o9 t9 k1 k2
   go_wp2_with fail
   go_end0
   refine⟨rfl,_,_,_,?_,?_,HL9.out,T9.out⟩
   ·intro kk hk
    rcases hk with hk|hk
    ·exact HFX.out kk hk
    ·rcases HOWN.out kk hk with e|e
     ·exact HFX.out kk (HFS.out kk e)
     ·exact .inr (by omega)
   ·exact fun kk hk=>.inl (HFY.out kk hk)
end Go.Proofs.YtilcnjbpmoijmaaGreat.K
