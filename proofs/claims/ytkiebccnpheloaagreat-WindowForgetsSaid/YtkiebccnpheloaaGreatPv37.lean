/- Parts of a proof: what its theorem reaches, words cut short. No condition of its own. -/
import Derived.Test.YtkiebccnpheloaaGreatPv36
set_option maxRecDepth 100000
set_option maxHeartbeats 16000000
set_option linter.unusedVariables false
set_option linter.unusedSimpArgs false
namespace Go.Proofs.YtkiebccnpheloaaGreat.K
open Go.RowKit
structure RkAt(F:Nat->Prop)(w:World)(g k cg:Nat)(cv:Value)(B:List Int)(s0:KS)(F1:Nat->Prop)(wr:World)(lv:Value)(vs:List Sv)(s:KS):Prop where
 st:Rst F1 wr g k s.2.1 lv vs s.1
 co:RC wr cg cv B s.2.2
 ok:PkOk s
 eq:packA k B s0=packA k B s
 sub:∀k,F1 k->F k\/w.heap.size<=k
 touch:Touch (fun k=>F k\/k=cg) w wr
theorem RkAt.drew{F F1:Nat->Prop}{w wr:World}{g k cg:Nat}{cv lv:Value}{B:List Int}{s0 s:KS}{vs:List Sv}(h:RkAt F w g k cg cv B s0 F1 wr lv vs s):RkAt F w g k cg cv B s0 F1 wr.drew lv vs s:=
 ⟨h.st.keep (Below.refl _ _).drew,h.co.stay rfl (fun _ _=>rfl) (Nat.le_refl _),h.ok,h.eq,h.sub,h.touch.drew⟩
structure RoFar(F:Nat->Prop)(w:World)(cg:Nat)(cv:Value):Prop where
 fg:¬F cg
 fv:∀k,cv.ownBlock=some k->¬F k/\k<w.heap.size
 lg:cg<w.heap.size
structure RoAt(F:Nat->Prop)(w:World)(g k led cg ga sc:Nat)(cv lv:Value)(B:List Int)(a:Nat)(l:List Int)(F1:Nat->Prop)(wr:World)(vs:List Sv)(M:LL):Prop where
 st:Rst F1 wr g k led lv vs M
 fa:¬F1 ga
 ol:OwnE i64E 0 wr (.slice (some ⟨ga,0,none⟩) l.length sc) l
 co:RC wr cg cv B a
 sub:∀k,F1 k->F k\/w.heap.size<=k
 touch:Touch (fun k=>F k\/k=cg) w wr
theorem StG.less{t:TypeId}{a:Value}{rest:List Value}{F:Nat->Prop}{w:World}{g ga:Nat}{lv:Value}{vs:List Sv}{L:LL}(h:StG t a rest F w g lv vs L)(h0:ga≠g)(h1:lv.ownBlock≠some ga)(h2:∀i (hi:i<vs.length),(svV vs[i]).ownBlock≠some ga) :
 StG t a rest (fun k=>F k/\k≠ga) w g lv vs L:=
 ⟨h.blk,⟨h.lev.row,h.lev.len,h.lev.each,h.lev.apart,h.lev.diff,fun k e=>⟨h.lev.fl k e,fun e2=>h1 (e2▸e)⟩,fun i hi k e=>⟨h.lev.fv i hi k e,fun e2=>h2 i hi (e2▸e)⟩⟩,⟨h.fg,fun e=>h0 e.symm⟩,h.g1,h.g2,fun k hk=>h.low k hk.1⟩
theorem RoAt.turn{F:Nat->Prop}{w:World}{g k led led' cg ga sc:Nat}{cv lv lv':Value}{B:List Int}{a:Nat}{l:List Int}{F1 F2:Nat->Prop}{wr wx:World}{vs vs':List Sv}{M M':LL}(h:RoAt F w g k led cg ga sc cv lv B a l F1 wr vs M)
 (hf:RoFar F w cg cv) (ht:Touch F1 wr wx) (hs:Rst F2 wx g k led' lv' vs' M') (hsub:∀k,F2 k->F1 k\/wr.heap.size<=k):RoAt F w g k led' cg ga sc cv lv' B a l F2 wx vs' M':=by
 have hga:=(h.ol.lt ga rfl).2
 have hz:=h.touch.size
 have hc:=hf.lg
 have hn:∀kk,kk<w.heap.size->¬F kk->¬F1 kk:=fun kk h1 h2 e=>by
  rcases h.sub kk e with e|e
  ·exact h2 e
  ·omega
 refine⟨hs,fun e=>?_,h.ol.stay fun kk e=>?_,h.co.stay (ht.block cg (by omega) (hn cg hc hf.fg)) (fun kk e=>ht.block kk (by have:=(hf.fv kk e).2;omega) (hn kk (hf.fv kk e).2 (hf.fv kk e).1)) ht.size,fun kk e=>?_,?_⟩
 ·rcases hsub ga e with e|e
  ·exact h.fa e
  ·omega
 ·have e:=Option.some.inj (show some ga=some kk from e)
  subst e
  exact ht.block ga hga h.fa
 ·rcases hsub kk e with e|e
  ·exact h.sub kk e
  ·exact .inr (by omega)
 ·refine h.touch.trans ht fun i hi=>?_
  rcases h.sub i hi with e|e
  ·exact .inl (.inl e)
  ·exact .inr e
def upM(M:LL)(h:Nat)(l:List Int)(y j:Nat):LL:=if j=0 then M else putL M (h+1) (upT l y j)
theorem upM_succ{M:LL}{h:Nat}{l:List Int}{y j:Nat}(hj:2 * j+y<l.length):putL (upM M h l y j) (h+1) [l[2 * j+y]]=upM M h l y (j+1):=by
 have e:upT l y (j+1)=upT l y j++[l[2 * j+y]]:=by rw[upT_succ,List.getD,List.getElem?_eq_getElem hj];rfl
 unfold upM
 rw[if_neg (show ¬j+1=0 by omega),e]
 by_cases h0:j=0
 ·subst h0;rw[if_pos rfl];rfl
 ·rw[if_neg h0,putL_putL]
theorem upM_length{M:LL}{h:Nat}{l:List Int}{y j:Nat}(hh:h<M.length):(upM M h l y j).length<=M.length+1:=by
 unfold upM
 split
 ·omega
 ·rw[putL_length];omega
theorem upM_cnt(M:LL)(h:Nat)(l:List Int)(y j:Nat):cnt (upM M h l y j)<=cnt M+j:=by
 unfold upM
 split
 ·omega
 ·rw[cnt_put,upT_length];omega
theorem rpack_any{F:Nat->Prop}{g k cg:Nat}{cv lv:Value}{vs:List Sv}{B:List Int}{s0:KS}(w:World)(hs:Rst F w g k s0.2.1 lv vs s0.1)(hc:RC w cg cv B s0.2.2)(hf:RoFar F w cg cv)(hok:PkOk s0)(h2:2<=k)(hk:k<=1000000) :
 Calls Tryz.prog 193 #[.pointer (some ⟨g,0,none⟩),.pointer (some ⟨cg,0,none⟩)] w fun e w'=>e=.returned (.tuple #[])/\∃F' lv' vs',RkAt F w g k cg cv B s0 F' w' lv' vs' (packA k B s0):=by
 have HP0:Hid (RkAt F w g k cg cv B s0 F w lv vs s0):=Lib.hid ⟨hs,hc,hok,rfl,fun k hk=>.inl hk,Touch.refl _ _⟩
 have HFAR:=Lib.hid hf
 clear hs hc hok hf
 go_enter Tryz.func193,Tryz.ntmps193
 go_wp2_with fail
 go_loopg [4,5,6,7,8,9] (100 * cnt s0.1+s0.1.length) (fun q t4 _ _ _ _ _ wr=>∃F1 lv1 vs1 s,∃h:Nat,q=100 * cnt s.1+(s.1.length - h)/\t4=.int .i64 h/\h<=s.1.length/\Hid (∀j,j<h->(lvl s.1 j).length<=room k s.1.length j)/\Hid (RkAt F w g k cg cv B s0 F1 wr lv1 vs1 s))
 case atStart=>exact⟨F,lv,vs,s0,0,rfl,rfl,Nat.zero_le _,Lib.hid fun j hj=>absurd hj (by omega),HP0⟩
 case round=>
  obtain⟨F1,lv1,vs1,s,h,hq,rfl,hhl,HLO,HPK⟩:=hrel
  have HQ:=Lib.hid hq
  clear hq
  have hlen:=HPK.out.ok.len
  have k1:=HPK.out.st.cell1
  have k0:=HPK.out.st.cell0
  obtain⟨A1,cA,elv,hcA,hcA2,_⟩:=HPK.out.st.form
  by_cases hh:h<s.1.length
  ·obtain⟨gl,cc,sA,sc,elv2,hgl,hglg,hFgl,hvs,c2,f2,ol,hown⟩:=HPK.out.st.at_ hh
   subst elv2
   injection elv with e1 e2 e3
   subst e1;subst e3
   have hgr:=HPK.out.st.blk.lt
   have hxc:=lvl_le_cnt s.1 h
   have hcn:=HPK.out.ok.cnt
   have HRM:=Lib.hid (fun W=>rroom_any k s.1.length h W h2 hk (by omega) (by omega))
   have hrl:=room_ge (k:=k) hh
   have hrk:=room_le (k:=k) (len:=s.1.length) (h:=h) h2
   obtain⟨rm,hrm⟩:∃rm,room k s.1.length h=rm:=⟨_,rfl⟩
   rw[hrm] at HRM hrl hrk
   obtain⟨l,hl⟩:∃l,lvl s.1 h=l:=⟨_,rfl⟩
   rw[hl] at c2 ol hown hvs hxc
   have HRE:=Lib.hid hrm
   have HL:=Lib.hid hl
   have OL:=Lib.hid ol
   have HOWN:=Lib.hid hown
   have HVS:=Lib.hid hvs
   have K1:=Lib.hid k1
   have K0:=Lib.hid k0
   have C2:=Lib.hid c2
   have FF2:=Lib.hid f2
   clear hl ol hown hvs hrm k0 c2 f2
   go_upto_region 2 with fail
   clear k1
   have FBq:=Lib.hid (fun w' (hS':(fun w'=>Below wr.heap.size wr w') w')=>(And.intro ((hS'.cell (p:=⟨g,0,none⟩) hgr).trans K0.out) (And.intro ((hS'.cell (p:=⟨g,1,none⟩) hgr).trans K1.out) ((hS'.cell (p:=⟨gl,h,none⟩) hgl).trans C2.out))))
   refine wp_region_plan (fun w'=>Below wr.heap.size wr w') [(0,true),(1,true),(2,true),(3,true),(4,true),(5,true),(6,true),(7,true),(8,true),(9,true),(10,true),(11,true),(12,true),(13,true),(14,true),(15,true),(16,true),(17,true),(18,false),(19,true)] (by kernel_rfl) (by kernel_rfl) ((Below.refl _ _).drew) ?_
   iterate 18
    refine wpPlan_read (by rfl) (by rfl) (fun R hR=>?_)
    apply Exists.intro
    refine⟨fun w' hS'=>?_,?_⟩
    ·obtain⟨k0,k1,k2⟩:=FBq.out w' hS'
     go_simp
     exact⟨rfl,rfl⟩
    go_simp
    refine hR _ ?_
    clear hR R
   refine wpPlan_do (by rfl) (by rfl) (fun K hK=>?_)
   go_simp
   refine(HRM.out _).mono ?_
   rintro e w2 ⟨rfl,hw2⟩
   subst hw2
   refine hK _ _ ((Below.refl _ _).drew) ?_
   clear hK K
   iterate 1
    refine wpPlan_read (by rfl) (by rfl) (fun R hR=>?_)
    apply Exists.intro
    refine⟨fun w' hS'=>?_,?_⟩
    ·obtain⟨k0,k1,k2⟩:=FBq.out w' hS'
     go_simp
     exact⟨rfl,rfl⟩
    go_simp
    refine hR _ ?_
    clear hR R
   refine wpPlan_nil ?_
   by_cases hgt:(l.length:Int)<=(rm:Int)
   ·go_wp2_with fail
    go_roundg (100 * cnt s.1+(s.1.length - (h+1)))
    case measure=>have:=HQ.out;omega
    case rel=>
     refine⟨F1,_,vs1,s,h+1,rfl,by go_num,by omega,Lib.hid fun j hj=>?_,Lib.hid HPK.out.drew⟩
     rcases Nat.lt_or_ge j h with h1|h1
     ·exact HLO.out j h1
     ·obtain rfl:j=h:=by omega
      rw[HL.out,HRE.out];omega
   ·have HFN:Hid (fullN k s.1=some h):=Lib.hid (fullN_is hh (by rw[HL.out,HRE.out];omega) HLO.out)
    have hx2:2<l.length:=by omega
    have hlc:l.length<=1000000:=by omega
    have HNX:=Lib.hid (rnext_any cg cv B s.2.2 wr.drew HPK.out.drew.co)
    have k1:wr.drew.cell? ⟨g,1,none⟩=_:=K1.out
    have c2:wr.drew.cell? ⟨gl,h,none⟩=_:=C2.out
    go_wp2_with fail
    refine(HNX.out).mono ?_
    rintro e w2 ⟨rfl,hco2,ht2⟩
    have hfar:∀kk,F1 kk->kk≠cg/\cv.ownBlock≠some kk:=fun kk hk1=>by
     have a2:=HFAR.out.lg
     rcases HPK.out.sub kk hk1 with h1|h1
     ·exact⟨fun e=>HFAR.out.fg (e▸h1),fun e=>(HFAR.out.fv kk e).1 h1⟩
     ·exact⟨by omega,fun e=>by have:=(HFAR.out.fv kk e).2;omega⟩
    have HFR:=Lib.hid hfar
    have HCO2:=Lib.hid hco2
    have HST2:Hid (Rst F1 w2 g k s.2.1 (.slice (some ⟨gl,0,none⟩) s.1.length cc) vs1 s.1):=Lib.hid (HPK.out.drew.st.stay (fun kk hk1=>ht2.block kk (HPK.out.st.low kk hk1) (HFR.out kk hk1).1) ht2.size)
    have HTT2:Hid (Touch (fun k=>F k\/k=cg) w w2):=Lib.hid (HPK.out.drew.touch.trans ht2 fun i hi=>.inl (.inr hi))
    have HOK:=Lib.hid HPK.out.ok
    have HEQ:=Lib.hid HPK.out.eq
    have HSUB:=Lib.hid HPK.out.sub
    have hgl2:gl<w2.heap.size:=Nat.lt_of_lt_of_le hgl ht2.size
    have OL2:Hid (OwnE i64E 0 w2 (.slice sA l.length sc) l):=Lib.hid (OL.out.stay fun kk e=>ht2.block kk (OL.out.lt kk e).2 (HFR.out kk (HOWN.out kk e).1).1)
    have f2:w2.frozen? ⟨gl,h,none⟩=false:=(World.frozen?_of_block (a:=⟨gl,h,none⟩) (ht2.block gl hgl (HFR.out gl hFgl).1)).trans FF2.out
    have c2':w2.cell? ⟨gl,h,none⟩=_:=(World.cell?_of_block (a:=⟨gl,h,none⟩) (ht2.block gl hgl (HFR.out gl hFgl).1)).trans C2.out
    have k1':=HST2.out.cell1
    have hcle:=coinAt_le B s.2.2
    obtain⟨y,hy⟩:∃y,coinAt B s.2.2=y:=⟨_,rfl⟩
    rw[hy] at hcle |-
    have HY:=Lib.hid hy
    obtain⟨ga,c5,es,_,hgaw,hc5,hc6⟩:=OL2.out.pos (by omega)
    injection es with es1 es2 es3
    subst es1;subst es3
    -- the level laid empty
    have hnil:=StG.level (s':=(none,0,0)) (l':=[]) (w1:=w2) HST2.out hh rfl (OwnE.nil_ _ _) (fun _ _ _=>rfl) (Nat.le_refl _) (.inr fun kk e=>by simp[svV,Value.ownBlock] at e)
    have HNIL:=Lib.hid hnil
    have HQQ:=HQ
    clear hfar hco2 ht2 hy k1 c2 hnil HNX HPK
    have hown:=HOWN.out ga rfl
    have hless:Rst (fun kk=>(F1 kk\/(svV ((none,0,0):Sv)).ownBlock=some kk)/\kk≠ga) (w2.setCell ⟨gl,h,none⟩ (svV (none,0,0))) g k s.2.1 (.slice (some ⟨gl,0,none⟩) s.1.length cc) (vs1.set h (none,0,0)) (s.1.set h []):=
     StG.less HNIL.out hown.2.2 (fun e=>hown.2.1 (Option.some.inj (show some gl=some ga from e)).symm) fun i hi e=>by
      rw[List.getElem_set] at e
      split at e
      ·simp[svV,Value.ownBlock] at e
      ·rename_i hne
       rw[List.length_set] at hi
       have hv3:h<vs1.length:=by rw[HST2.out.lev.len];exact hh
       have hvs3:vs1[h]=(some ⟨ga,0,none⟩,l.length,sc):=by
        have:=HVS.out
        rw[List.getElem?_eq_getElem hv3] at this
        exact Option.some.inj this
       exact HST2.out.lev.diff h i hv3 hi hne ga (by rw[hvs3];rfl) e
    have HLESS:=Lib.hid hless
    have hgag:ga≠gl:=hown.2.1
    have HOL3:Hid (OwnE i64E 0 (w2.setCell ⟨gl,h,none⟩ (svV (none,0,0))) (.slice (some ⟨ga,0,none⟩) l.length sc) l):=Lib.hid (OL2.out.far (p:=⟨gl,h,none⟩) (fun e=>hgag (Option.some.inj (show some ga=some gl from e))) _)
    have HCO3:Hid (RC (w2.setCell ⟨gl,h,none⟩ (svV (none,0,0))) cg cv B (coinNx B s.2.2)):=Lib.hid (by
     have a3:=HFR.out gl hFgl
     exact HCO2.out.stay (Below.heap_setCell w2 ⟨gl,h,none⟩ _ cg fun e=>a3.1 e.symm) (fun kk e=>Below.heap_setCell w2 ⟨gl,h,none⟩ _ kk fun e2=>a3.2 (by rw[e,e2])) (by simp))
    have HT3:Hid (Touch (fun k=>F k\/k=cg) w (w2.setCell ⟨gl,h,none⟩ (svV (none,0,0)))):=Lib.hid (HTT2.out.setCell (by
     rcases HSUB.out gl hFgl with h1|h1
     ·exact .inl (.inl h1)
     ·exact .inr h1) _)
    have hsub3:∀kk,((F1 kk\/(svV ((none,0,0):Sv)).ownBlock=some kk)/\kk≠ga)->F kk\/w.heap.size<=kk:=fun kk hk1=>by
     rcases hk1.1 with h1|h1
     ·exact HSUB.out kk h1
     ·simp[svV,Value.ownBlock] at h1
    have HSUB3:=Lib.hid hsub3
    clear hless hsub3 hown
    go_upto_if 57 with(fail)
    have HRO:Hid (RoAt F w g k s.2.1 cg ga sc cv (.slice (some ⟨gl,0,none⟩) s.1.length cc) B (coinNx B s.2.2) l _ (w2.setCell ⟨gl,h,none⟩ (svV (none,0,0))) (vs1.set h (none,0,0)) (s.1.set h [])):=Lib.hid ⟨HLESS.out,fun e=>e.2 rfl,HOL3.out,HCO3.out,HSUB3.out,HT3.out⟩
    clear HLESS HOL3 HCO3 HSUB3 HT3 HNIL OL2 HCO2 HST2 HTT2 f2 c2' k1'
    obtain⟨w3,hw3⟩:∃x,w2.setCell ⟨gl,h,none⟩ (svV (none,0,0))=x:=⟨_,rfl⟩
    rw[hw3] at HRO
    show Code.wp _ _ _ _ (w2.setCell ⟨gl,h,none⟩ (svV (none,0,0)))
    rw[hw3]
    clear hw3
    go_cut [70] (fun _ wx=>∃(F2:Nat->Prop) (vs2:List Sv),Hid (RoAt F w g k s.2.1 cg ga sc cv (.slice (some ⟨gl,0,none⟩) s.1.length cc) B (coinNx B s.2.2) l F2 wx vs2 (s.1.set h (oddV l))))
    case first=>
     by_cases hpar:l.length % 2=1
     ·have hpar':(l.length:Int) % 2=1:=by omega
      obtain⟨x,hx⟩:∃x,l[l.length - 1]'(by omega)=x:=⟨_,rfl⟩
      have HOD:Hid (oddV l=[x]):=Lib.hid (by
       unfold oddV
       have e:2 * (l.length / 2)=l.length - 1:=by omega
       rw[e,List.drop_eq_getElem_cons (by omega),hx,List.drop_eq_nil_of_le (by omega)])
      have K3:Hid (w3.cell? ⟨g,1,none⟩=some (.slice (some ⟨gl,0,none⟩) s.1.length cc)):=Lib.hid HRO.out.st.cell1
      obtain⟨ga',off,eA,hga,ca⟩:=(HRO.out.ol.ef).i64 (j:=l.length - 1) (by omega)
      injection eA with eA
      injection eA with eA1 eA2
      subst eA1;subst eA2
      rw[Nat.zero_add,hx] at ca
      have CA:=Lib.hid ca
      obtain⟨gl',cc',sA',sc',elv',hgl3,_,_,_,c3,f3,_,_⟩:=HRO.out.st.at_ (j:=h) (by rw[List.length_set];exact hh)
      injection elv' with e1 e2 e3
      clear e2 e3
      injection e1 with e1
      injection e1 with e1
      subst e1
      have C3:=Lib.hid c3
      have F3:=Lib.hid f3
      have hg3:=HRO.out.st.blk.lt
      obtain⟨n1,hn1⟩:∃n1,l.length - 1=n1:=⟨_,rfl⟩
      have HE:Hid ((l.length:Int) - 1=(n1:Int)):=Lib.hid (by omega)
      have hlt1:n1<l.length:=by omega
      have hlt2:(n1:Int)<(l.length:Int):=by omega
      have HWN:Hid (IntKind.i64.wrap (n1:Int)=(n1:Int)):=Lib.hid (IntWalk.i64_in _ (by omega))
      rw[hn1] at CA
      clear hx ca c3 f3 hn1
      go_upto_region 8 with fail
      refine wp_region_planS (fun w'=>Below w3.heap.size w3 w') 13 [(0,1),(1,1),(2,1),(3,1),(4,1),(5,1),(6,1),(7,1),(8,1),(9,1),(10,1),(11,0),(12,1),(13,0)] (by kernel_rfl) (by kernel_rfl) ((Below.refl _ _).drew) ?_
      iterate 11
       refine wpPlanS_read (by rfl) (by rfl) (fun R hR=>?_)
       apply Exists.intro
       refine⟨fun w' hS'=>?_,?_⟩
       ·have k1':=(hS'.cell (p:=⟨g,1,none⟩) hg3).trans K3.out
        have ca':=(hS'.cell (p:=⟨ga,n1,none⟩) hga).trans CA.out
        have he:=HE.out
        have hwn:=HWN.out
        go_simp
        exact⟨rfl,rfl⟩
       go_simp
       refine hR _ ?_
       clear hR R
      refine wpPlanS_do (by rfl) (by rfl) (by rfl) (fun K hK=>?_)
      go_simp
      refine hK _ _ (((Below.refl _ _).drew).alloc (by go_size) _) ?_
      clear hK K
      iterate 1
       refine wpPlanS_read (by rfl) (by rfl) (fun R hR=>?_)
       apply Exists.intro
       refine⟨fun w' hS'=>?_,?_⟩
       ·have k1':=(hS'.cell (p:=⟨g,1,none⟩) hg3).trans K3.out
        have ca':=(hS'.cell (p:=⟨ga,n1,none⟩) hga).trans CA.out
        have he:=HE.out
        have hwn:=HWN.out
        go_simp
        exact⟨rfl,rfl⟩
       go_simp
       refine hR _ ?_
       clear hR R
      refine wpPlanS_end (by rfl) (by rfl) (by rfl) (fun K hK=>?_)
      have c9:=C3.out
      have f9:=F3.out
      go_simp
      refine hK _ _ ?_
      clear hK K
      refine wpPlanS_nil ?_
      clear c9 f9
      have hlev:=StG.level (s':=(some ⟨w3.heap.size,0,none⟩,1,1)) (l':=[x]) (j:=h) (w1:=w3.alloc (.cells #[.int .i64 x] 2)) HRO.out.st (by rw[List.length_set];exact hh) rfl ((OwnE.one (E:=i64E) w3 x _ rfl _ rfl).more (Nat.zero_le _)) (fun kk h1 _=>Below.heap_alloc w3 _ kk h1) (by simp) (.inr fun kk e=>by have e:=Option.some.inj (show some w3.heap.size=some kk from e);omega)
      rw[World.setCell_alloc_past _ _ _ _ hgl3,List.set_set,List.set_set] at hlev
      have hft:=HRO.out.st.lev.fl gl rfl
      have hro:=HRO.out.turn HFAR.out (wx:=((w3.setCell ⟨gl,h,none⟩ (svV (some ⟨w3.heap.size,0,none⟩,1,1))).alloc (.cells #[.int .i64 x] 2)).drew) (Touch.drew (Touch.alloc (Touch.setCell (Touch.refl _ _) (.inl hft) _) _)) (hlev.keep (Below.refl _ _).drew) (fun kk e=>by
       rcases e with e|e
       ·exact .inl e
       ·have e:=Option.some.inj (show some w3.heap.size=some kk from e)
        exact .inr (by omega))
      rw[<-HOD.out] at hro
      have HRO2:=Lib.hid hro
      clear hlev hft hro
      go_wp2_with fail
      go_meet
      exact⟨_,_,HRO2⟩
     ·have hpar':¬(l.length:Int) % 2=1:=by omega
      have ho:oddV l=[]:=by unfold oddV;exact List.drop_eq_nil_of_le (by omega)
      have HO:=Lib.hid ho
      clear ho
      go_wp2_with fail
      go_meet
      exact⟨_,_,by rw[HO.out];exact HRO⟩
    case rest=>
     obtain⟨F3,vs3,HRO3⟩:=hcut
     have HF3:=Lib.hid (show RoAt F w g k s.2.1 cg ga sc cv (.slice (some ⟨gl,0,none⟩) s.1.length cc) B (coinNx B s.2.2) l F3 wc vs3 (upM (s.1.set h (oddV l)) h l y 0) from HRO3.out)
     clear HRO HRO3
     have HML:Hid (∀j,(upM (s.1.set h (oddV l)) h l y j).length<=50):=Lib.hid fun j=>by
      have:=upM_length (M:=s.1.set h (oddV l)) (h:=h) (l:=l) (y:=y) (j:=j) (by rw[List.length_set];exact hh)
      rw[List.length_set] at this;omega
     have HMC:Hid (∀j,j<=l.length->cnt (upM (s.1.set h (oddV l)) h l y j)<=3000000):=Lib.hid fun j hj=>by
      have:=upM_cnt (s.1.set h (oddV l)) h l y j
      have h3:=cnt_set s.1 h hh (oddV l)
      rw[oddV_length] at h3
      omega
     go_wp2_with fail
     go_loopg [7] (l.length / 2) (fun q i wx=>∃(j:Nat) (F4:Nat->Prop) (lv4:Value) (vs4:List Sv),q=l.length / 2 - j/\j<=l.length / 2/\i=.int .i64 ((2 * j:Nat):Int)/\Hid (RoAt F w g k s.2.1 cg ga sc cv lv4 B (coinNx B s.2.2) l F4 wx vs4 (upM (s.1.set h (oddV l)) h l y j)))
     case atStart=>exact⟨0,F3,_,vs3,rfl,by omega,rfl,HF3⟩
     case round=>
      obtain⟨j,F4,lv4,vs4,hq,hj,rfl,HR4⟩:=hrel
      have HQ4:=Lib.hid hq
      clear hq
      by_cases hjl:j<l.length / 2
      ·have hpos:2 * j+y<l.length:=by omega
       obtain⟨ga',off,eA,hga,ca⟩:=(HR4.out.ol.ef).i64 hpos
       injection eA with eA
       injection eA with eA1 eA2
       subst eA1;subst eA2
       rw[Nat.zero_add] at ca
       have HUS:=Lib.hid (upM_succ (M:=s.1.set h (oddV l)) (h:=h) hpos)
       obtain⟨x,hx⟩:∃x,l[2 * j+y]=x:=⟨_,rfl⟩
       rw[hx] at ca HUS
       obtain⟨m,hm⟩:∃m,2 * j=m:=⟨_,rfl⟩
       rw[hm] at ca hpos |-
       have HPU:=Lib.hid (rput_any (h+1) x wr HR4.out.st (by omega) (by have:=HML.out j;omega) (by have:=lvl_le_cnt (upM (s.1.set h (oddV l)) h l y j) (h+1);have:=HMC.out j (by omega);omega))
       have hm2:(m:Int)+1<(l.length:Int):=by omega
       have HM:=Lib.hid hm
       clear hx hm
       go_wp2_with fail
       refine(HPU.out).mono ?_
       rintro e w5 ⟨rfl,F5,lv5,vs5,q1,q2,q3,q4⟩
       have hro5:=HR4.out.turn HFAR.out q4 q3 q1
       rw[HUS.out] at hro5
       have HRO5:=Lib.hid hro5
       clear q1 q2 q3 q4 hro5 HPU
       go_wp2_with fail
       go_roundg (l.length / 2 - (j+1))
       case measure=>have:=HQ4.out;omega
       case rel=>exact⟨j+1,F5,lv5,vs5,rfl,by omega,by rw[<-HM.out];go_num,HRO5⟩
      ·obtain rfl:j=l.length / 2:=by omega
       obtain⟨m,hm⟩:∃m,2 * (l.length / 2)=m:=⟨_,rfl⟩
       rw[hm]
       have hm2:¬(m:Int)+1<(l.length:Int):=by omega
       have hmb:m<=l.length:=by omega
       have HPS:Hid (upM (s.1.set h (oddV l)) h l y (l.length / 2)=(packN B h s).1):=Lib.hid (by
        unfold upM
        rw[if_neg (by omega),upT_all,<-HL.out,<-HY.out];rfl)
       have hled:=HOK.out.led
       have hh48:h<=48:=by omega
       have HP48:Hid (∀j,j<=h->2 ^ j<=281474976710656):=Lib.hid fun j hj=>Nat.le_trans (Nat.pow_le_pow_right (by decide) (show j<=48 by omega)) (by decide)
       have hr4:=HR4.out
       rw[HPS.out] at hr4
       have HR5:=Lib.hid hr4
       clear hm hr4 HR4 HF3
       go_wp2_with fail
       go_loopg [8,9] h (fun q p i wx=>(∃j:Nat,q=h - j/\j<=h/\p=.int .u64 ((2 ^ j:Nat):Int)/\i=.int .i64 (j:Int))/\wr=wx)
       case atStart=>exact⟨⟨0,by omega,by omega,rfl,rfl⟩,rfl⟩
       case round=>
        obtain⟨⟨j,hq,hj,rfl,rfl⟩,rfl⟩:=hrel
        have HQ5:=Lib.hid hq
        have hpb:=HP48.out j hj
        have HPE:Hid (2 ^ (j+1)=2 * 2 ^ j):=Lib.hid (by rw[Nat.pow_succ];omega)
        obtain⟨p,hp⟩:∃p,2 ^ j=p:=⟨_,rfl⟩
        rw[hp] at hpb HPE |-
        have HPP:=Lib.hid hp
        clear hp hq
        by_cases hjh:j<h
        ·go_wp2_with fail
         go_roundg (h - (j+1))
         case measure=>have:=HQ5.out;omega
         case rel=>exact⟨⟨j+1,rfl,by omega,by rw[HPE.out];go_num,by go_num⟩,rfl⟩
        ·obtain rfl:j=h:=by omega
         have k2:=HR5.out.st.cell2
         have f2:=HR5.out.st.blk.frozen 2
         have HGL:=Lib.hid HR5.out.st.blk.lt
         have HGF:=Lib.hid HR5.out.st.fg
         have HLD:Hid (min (s.2.1+p) 4611686018427387904=(packN B j s).2.1):=Lib.hid (by rw[<-HPP.out];rfl)
         have HVV:Hid (min ((s.2.1:Int)+(p:Int)) 4611686018427387904=(((packN B j s).2.1:Nat):Int)):=Lib.hid (by
          rw[<-HLD.out]
          omega)
         have hro6:=HR5.out.turn HFAR.out (led':=(packN B j s).2.1) (wx:=wr.setCell ⟨g,2,none⟩ (.int .u64 (packN B j s).2.1)) (Touch.setCell (Touch.refl _ _) (.inl HGF.out) _) (HR5.out.st.put2 _) (fun kk e=>.inl e)
         have HOKN:=Lib.hid (HOK.out.step (B:=B) HFN.out)
         have HCN:=Lib.hid (packN_cnt (B:=B) HFN.out)
         have HEQN:=Lib.hid (HEQ.out.trans (packA_some (B:=B) HFN.out))
         have HEND:Hid (RkAt F w g k cg cv B s0 F4 (wr.setCell ⟨g,2,none⟩ (.int .u64 (packN B j s).2.1)) lv4 vs4 (packN B j s)):=Lib.hid ⟨hro6.st,hro6.co,HOKN.out,HEQN.out,hro6.sub,hro6.touch⟩
         clear hro6 HR5
         go_upto_region 19 with fail
         rw[HVV.out]
         obtain⟨w6,hw6⟩:∃x,wr.setCell ⟨g,2,none⟩ (.int .u64 ((packN B j s).2.1:Nat))=x:=⟨_,rfl⟩
         rw[hw6] at HEND |-
         clear hw6 k2 f2
         go_wp2_with fail
         go_roundg (100 * cnt (packN B j s).1+((packN B j s).1.length - 0))
         case measure=>have:=HQ.out;have:=HCN.out;have:=HOKN.out.len;omega
         case rel=>exact⟨F4,lv4,vs4,packN B j s,0,rfl,rfl,Nat.zero_le _,Lib.hid fun j hj=>absurd hj (by omega),HEND⟩
  ·have HFN:Hid (fullN k s.1=none):=Lib.hid (fullN_is_none fun j hj=>HLO.out j (by omega))
   have HE:=Lib.hid (HPK.out.eq.trans (packA_none HFN.out))
   subst elv
   go_wp2_with fail
   go_end0
   have hp:=HPK.out
   rw[<-HE.out] at hp
   exact⟨rfl,F1,_,vs1,hp⟩
end Go.Proofs.YtkiebccnpheloaaGreat.K
