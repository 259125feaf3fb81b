/- Parts of a proof: what its theorem reaches, words cut short. No condition of its own. -/
import Derived.Test.YtingnldfpokckaaGreatPm36
set_option maxRecDepth 100000
set_option maxHeartbeats 16000000
set_option linter.unusedVariables false
set_option linter.unusedSimpArgs false
namespace Go.Proofs.YtingnldfpokckaaGreat.K
open Go.RowKit
structure PkOk(s:KS):Prop where
 srt:∀j,Srt (lvl s.1 j)
 top:Top s.1
 wt:wt s.1<=281474976710656
 cnt:cnt s.1<=1000000
 led:s.2.1<=4611686018427387904
theorem PkOk.len{s:KS}(h:PkOk s):s.1.length<=49:=top_len h.top h.wt
theorem oddV_srt{l:List Int}(h:Srt l):Srt (oddV l):=h.sublist (List.drop_sublist ..)
theorem lvl_pack{L:LL}{h:Nat}(hh:h<L.length)(c j:Nat):lvl (packS L h c) j=if j=h+1 then insL (lvl L (h+1)) (upV (lvl L h) c) else if j=h then oddV (lvl L h) else lvl L j:=by
 unfold packS
 rw[lvl_put,lvl_set _ _ _ _ hh,lvl_set _ _ _ _ hh,if_neg (show ¬h+1=h by omega)]
theorem PkOk.step{k:Nat}{B:List Int}{s:KS}{h:Nat}(hp:PkOk s)(e:fullN k s.1=some h):PkOk (packN B h s):=by
 obtain⟨h1,h2,_⟩:=fullN_some e
 have hr:=room_ge (k:=k) h1
 have hc:=packS_cnt h1 (coinAt B s.2.2)
 refine⟨fun j=>?_,hp.top.pack h1 (by omega) _,?_,?_,?_⟩
 ·show Srt (lvl (packS s.1 h (coinAt B s.2.2)) j)
  rw[lvl_pack h1]
  split
  ·exact insL_srt (hp.srt _) _
  ·split
   ·exact oddV_srt (hp.srt _)
   ·exact hp.srt j
 ·show Go.Proofs.YtingnldfpokckaaGreat.K.wt (packS s.1 h (coinAt B s.2.2))<=_
  rw[packS_wt h1];exact hp.wt
 ·show Go.Proofs.YtingnldfpokckaaGreat.K.cnt (packS s.1 h (coinAt B s.2.2))<=_
  have:=hp.cnt;omega
 ·show min _ _<=_
  omega
theorem _root_.Go.Proofs.YtingnldfpokckaaGreat.OwnE.ef{α:Type}{E:Lie α}{base n c:Nat}{w:World}{A:Option Addr}{l:List α}(h:OwnE E base w (.slice A n c) l):EForm E w A l:=by
 obtain⟨A',c',e,_,_,hf⟩:=h.form
 injection e with e
 subst e;exact hf
theorem _root_.Go.Proofs.YtingnldfpokckaaGreat.OwnE.cutI{base ga sc m:Nat}{w:World}{l:List Int}(h:OwnE i64E base w (.slice (some ⟨ga,0,none⟩) l.length sc) l)(hm:m<=l.length) :
 RdE i64E w (.slice (if sc=m then some ⟨ga,0,none⟩ else some ⟨ga,m,none⟩) (l.length - m) (sc - m)) (l.drop m):=by
 obtain⟨A',c',e,h1,h2,hf⟩:=h.form
 injection e with e1 e2 e3
 subst e1;subst e3
 rw[<-List.length_drop]
 by_cases hc:sc=m
 ·rw[if_pos hc]
  have:l.drop m=[]:=List.drop_eq_nil_of_le (by omega)
  rw[this]
  exact RdE.of_form (by simp) (by omega) EForm.nil
 ·rw[if_neg hc]
  refine RdE.of_form (by rw[List.length_drop];omega) (by omega) ?_
  have:=hf.drop rfl m
  rwa [show 0+m * i64E.k=m by show 0+m * 1=m;omega] at this
theorem shl_one{h:Nat}(hh:h<=48):IntKind.u64.wrap (1 * 2 ^ h)=((2 ^ h:Nat):Int):=by
 have h1:2 ^ h<=281474976710656:=Nat.pow_le_pow_right (by decide) hh
 have h2:(2:Int) ^ h=((2 ^ h:Nat):Int):=by rw[Int.natCast_pow];rfl
 rw[Int.one_mul,h2,IntKind.wrap_u64]
 generalize 2 ^ h=z at h1
 omega
def upT(l:List Int)(c i:Nat):List Int:=(List.range i).map fun i=>l.getD (2 * i+c) 0
theorem upT_succ(l:List Int)(c i:Nat):upT l c (i+1)=upT l c i++[l.getD (2 * i+c) 0]:=by unfold upT;rw[List.range_succ,List.map_append];rfl
theorem upT_length(l:List Int)(c i:Nat):(upT l c i).length=i:=by simp[upT]
theorem upT_all(l:List Int)(c:Nat):upT l c (l.length / 2)=upV l c:=rfl
theorem KC.stay{w w':World}{g r:Nat}{v:Value}{B:List Int}{a:Nat}(h:KC w g r v B a)(hg:w'.heap[g]?=w.heap[g]?)(hr:w'.heap[r]?=w.heap[r]?)(hk:∀k,v.ownBlock=some k->w'.heap[k]?=w.heap[k]?)(hz:w.heap.size<=w'.heap.size):KC w' g r v B a:=
 ⟨hg.trans h.blk,h.rd.stay hr hk hz,h.ne,h.nv⟩
structure PkAt(F:Nat->Prop)(w:World)(g k n cg r:Nat)(cv:Value)(B:List Int)(s0:KS)(F1:Nat->Prop)(wr:World)(lv:Value)(vs:List Sv)(s:KS):Prop where
 st:Kst F1 wr g k n s.2.1 lv vs s.1
 co:KC wr cg r cv B s.2.2
 ok:PkOk s
 eq:packA k B s0=packA k B s
 sub:∀k,F1 k->F k\/w.heap.size<=k
 sup:∀k,F k->F1 k
 touch:Touch (fun k=>F k\/k=r) w wr
structure CoFar(F:Nat->Prop)(w:World)(cg r:Nat)(cv:Value):Prop where
 fg:¬F cg
 fr:¬F r
 fv:∀k,cv.ownBlock=some k->¬F k/\k<w.heap.size
 lg:cg<w.heap.size
 lr:r<w.heap.size
theorem pack_any{F:Nat->Prop}{g k n cg r:Nat}{cv lv:Value}{vs:List Sv}{B:List Int}{s0:KS}(w:World)(hs:Kst F w g k n s0.2.1 lv vs s0.1)(hc:KC w cg r cv B s0.2.2)(hf:CoFar F w cg r cv)(hok:PkOk s0)(h2:2<=k)(hk:k<=1000000) :
 Calls Tryz.prog 76 #[.pointer (some ⟨g,0,none⟩),.func (.func 77) #[.pointer (some ⟨cg,0,none⟩)] #[]] w fun e w'=>e=.returned (.tuple #[])/\∃F' lv' vs',PkAt F w g k n cg r cv B s0 F' w' lv' vs' (packA k B s0)/\fullN k (packA k B s0).1=none:=by
 have HP0:Hid (PkAt F w g k n cg r cv B s0 F w lv vs s0):=Lib.hid ⟨hs,hc,hok,rfl,fun k hk=>.inl hk,fun k hk=>hk,Touch.refl _ _⟩
 have HFU:=Lib.hid (full_any w hs h2 hk (by have:=hok.len;omega) (by have:=hok.cnt;omega))
 have HFAR:=Lib.hid hf
 clear hs hc hok hf
 go_enter Tryz.func76,Tryz.ntmps76
 go_wp2_with fail
 refine(HFU.out).mono ?_
 rintro e w1 ⟨rfl,rfl⟩
 go_wp2_with fail
 go_loopg [4,5,6,7,8,9,29] (cnt s0.1) (fun q t4 _ _ _ _ _ _ wr=>∃F1 lv1 vs1 s,q=cnt s.1/\t4=.int .i64 (fullI k s.1)/\Hid (PkAt F w g k n cg r cv B s0 F1 wr lv1 vs1 s))
 case atStart=>exact⟨F,lv,vs,s0,rfl,rfl,HP0⟩
 case round=>
  obtain⟨F1,lv1,vs1,s,hq,rfl,HPK⟩:=hrel
  have HQ:=Lib.hid hq
  clear hq
  cases hfu:fullN k s.1 with
  | none=>
   have e1:fullI k s.1=-1:=by unfold fullI;rw[hfu]
   rw[e1]
   have HFN:=Lib.hid hfu
   clear hfu e1
   go_wp2_with fail
   go_end0
   refine⟨rfl,F1,lv1,vs1,?_⟩
   have e2:=HPK.out.eq
   rw[packA_none HFN.out] at e2
   rw[e2]
   exact⟨HPK.out,HFN.out⟩
  | some h=>
   have e1:fullI k s.1=h:=by unfold fullI;rw[hfu]
   rw[e1]
   obtain⟨hh,hgt,_⟩:=fullN_some hfu
   have HFN:=Lib.hid hfu
   clear hfu e1
   have hlen:=HPK.out.ok.len
   have hrg:=room_ge (k:=k) hh
   obtain⟨gl,cc,sA,sc,elv,hgl,hglg,hFgl,hvs,c2,f2,ol,hown⟩:=HPK.out.st.at_ hh
   subst elv
   have k1:=HPK.out.st.cell1
   have hx2:2<=(lvl s.1 h).length:=by omega
   have hxc:=lvl_le_cnt s.1 h
   have hcn:=HPK.out.ok.cnt
   obtain⟨l,hl⟩:∃l,lvl s.1 h=l:=⟨_,rfl⟩
   rw[hl] at c2 ol hown hvs hx2 hxc
   have HL:=Lib.hid hl
   obtain⟨ga,c5,es,_,hgaw,hc5,hc6⟩:=ol.pos (by omega)
   injection es with es1 es2 es3
   subst es1;subst es3
   have OL:=Lib.hid ol
   have HOWN:=Lib.hid hown
   have HVS:=Lib.hid hvs
   have HNX:=Lib.hid (knext_any cg r cv B s.2.2 wr HPK.out.co)
   have HCO:=Lib.hid HPK.out.co
   clear hl ol hown hvs hgt hrg
   have eg:=enters_of Tryz.func77 (by kernel_rfl) rfl
   have hfar:∀kk,F1 kk->kk≠r/\kk≠cg/\cv.ownBlock≠some kk:=fun kk hk1=>by
    have a1:=HFAR.out.lr;have a2:=HFAR.out.lg
    rcases HPK.out.sub kk hk1 with h1|h1
    ·exact⟨fun e=>HFAR.out.fr (e▸h1),fun e=>HFAR.out.fg (e▸h1),fun e=>(HFAR.out.fv kk e).1 h1⟩
    ·exact⟨by omega,by omega,fun e=>by have:=(HFAR.out.fv kk e).2;omega⟩
   have HFR:=Lib.hid hfar
   clear hfar
   go_wp2_with fail
   refine(HNX.out).mono ?_
   rintro e w2 ⟨rfl,hco2,ht2⟩
   have HCO2:=Lib.hid hco2
   have HST2:Hid (Kst F1 w2 g k n s.2.1 (.slice (some ⟨gl,0,none⟩) s.1.length cc) vs1 s.1):=Lib.hid (HPK.out.st.stay (fun kk hk1=>ht2.block kk (HPK.out.st.low kk hk1) (HFR.out kk hk1).1) ht2.size)
   have HTT2:Hid (Touch (fun k=>F k\/k=r) w w2):=Lib.hid (HPK.out.touch.trans ht2 fun i hi=>.inl (.inr hi))
   have HOK:=Lib.hid HPK.out.ok
   have HEQ:=Lib.hid HPK.out.eq
   have HSUB:=Lib.hid HPK.out.sub
   have HSUP:=Lib.hid HPK.out.sup
   have C2:=Lib.hid ((World.cell?_of_block (a:=⟨gl,h,none⟩) (ht2.block gl hgl (HFR.out gl hFgl).1)).trans c2)
   have FF2:=Lib.hid ((World.frozen?_of_block (a:=⟨gl,h,none⟩) (ht2.block gl hgl (HFR.out gl hFgl).1)).trans f2)
   have hgl2:gl<w2.heap.size:=Nat.lt_of_lt_of_le hgl ht2.size
   have hgg2:g<w2.heap.size:=HST2.out.blk.lt
   have OL2:Hid (OwnE i64E 0 w2 (.slice (some ⟨ga,0,none⟩) l.length sc) l):=Lib.hid (OL.out.stay fun kk e=>ht2.block kk (OL.out.lt kk e).2 (HFR.out kk (HOWN.out kk e).1).1)
   have hcle:=coinAt_le B s.2.2
   obtain⟨y,hy⟩:∃y,coinAt B s.2.2=y:=⟨_,rfl⟩
   rw[hy] at hcle |-
   have HY:=Lib.hid hy
   have hz2:=ht2.size
   have hlc:l.length<=1000000:=by omega
   clear hco2 ht2 hy HNX HPK OL HCO k1 c2 f2 hgl hz2
   obtain⟨i0,hi0,hiz,his,hib⟩:=info_parts i64I
   have HI:=Lib.hid hi0
   have HZ:=Lib.hid hiz
   have HSZ:=Lib.hid his
   have HBY:=Lib.hid hib
   clear hi0 hiz his hib
   go_wp2_with fail
   go_loopg [8,9,29] (l.length / 2) (fun q u _ i wx=>∃j:Nat,q=l.length / 2 - j/\j<=l.length / 2/\i=.int .i64 (j:Int)/\Hid (OwnE i64E w2.heap.size wx u (upT l y j))/\Hid (Below w2.heap.size w2 wx))
   case atStart=>exact⟨0,rfl,by omega,rfl,Lib.hid (OwnE.nil_ _ _),Lib.hid (Below.refl _ _)⟩
   case round=>
    obtain⟨j,hq,hj,rfl,HO,HB⟩:=hrel
    have HQ2:=Lib.hid hq
    clear hq
    by_cases hjl:j<l.length / 2
    ·have hpos:2 * j+y<l.length:=by omega
     have HL2:=Lib.hid OL2.out.ef
     obtain⟨ga',off,eA,hga,ca⟩:=(HL2.out.keep HB.out).i64 hpos
     injection eA with eA
     injection eA with eA1 eA2
     subst eA1;subst eA2
     rw[Nat.zero_add] at ca
     have hul:(upT l y j).length=j:=upT_length l y j
     have HUS:Hid (upT l y (j+1)=upT l y j++[l[2 * j+y]]):=Lib.hid (by rw[upT_succ,List.getD,List.getElem?_eq_getElem hpos];rfl)
     obtain⟨x,hx⟩:∃x,l[2 * j+y]=x:=⟨_,rfl⟩
     rw[hx] at ca HUS
     obtain⟨u,hu⟩:∃u,upT l y j=u:=⟨_,rfl⟩
     rw[hu] at HO hul HUS
     have hzx:=HB.out.size
     obtain⟨a5,c5,rfl,_,_,_⟩:=HO.out.form
     rw[hul] at HO |-
     clear hx hu
     go_wp2_with (at_builtin;refine wpList_append_E i64E (ts:=143) i0 _ 8 Tryz.underlying143 HI.out HZ.out HSZ.out HBY.out rfl (by decide) (by decide) rfl (.tmp 32) (.tmp 40) rfl w2.heap.size (.slice a5 j c5) u rfl (HO.out.alloc _) _ [x] rfl (RdE.one_at (E:=i64E) _ x _ rfl _ rfl _ rfl) (by simp;omega) (by simp;omega) ?_;intro v8 w8 o8 g8 a8)
     have HB8:Hid (Below w2.heap.size w2 w8):=Lib.hid ((HB.out.alloc hzx _).grown g8 (by simp;omega) (fun k hk=>(HO.out.lt k hk).1))
     have O8:=Lib.hid o8
     clear o8 g8 a8
     go_wp2_with fail
     go_roundg (l.length / 2 - (j+1))
     case measure=>have:=HQ2.out;omega
     case rel=>exact⟨j+1,rfl,by omega,by go_num,Lib.hid (by rw[HUS.out];exact O8.out),HB8⟩
    ·obtain rfl:j=l.length / 2:=by omega
     rw[upT_all] at HO
     have hzx:=HB.out.size
     have K1:Hid (wr.cell? ⟨g,1,none⟩=some (.slice (some ⟨gl,0,none⟩) s.1.length cc)):=Lib.hid (HST2.out.keep HB.out).cell1
     have C3:Hid (wr.cell? ⟨gl,h,none⟩=some _):=Lib.hid ((World.cell?_of_block (a:=⟨gl,h,none⟩) (HB.out.block gl hgl2)).trans C2.out)
     have F3:Hid (wr.frozen? ⟨gl,h,none⟩=false):=Lib.hid ((World.frozen?_of_block (a:=⟨gl,h,none⟩) (HB.out.block gl hgl2)).trans FF2.out)
     have OL3:=Lib.hid (OL2.out.keep HB.out)
     have hgr:g<wr.heap.size:=by omega
     have hglr:gl<wr.heap.size:=by omega
     obtain⟨m,hm⟩:∃m,2 * (l.length / 2)=m:=⟨_,rfl⟩
     have HW:Hid (IntKind.i64.wrap (2 * ((l.length:Int) / 2))=(m:Int)):=Lib.hid (by rw[IntWalk.i64_in _ (by omega)];omega)
     have hml:m<=l.length:=by omega
     have hmi:(m:Int)<=(l.length:Int):=by omega
     have HM:=Lib.hid hm
     have HRD:=Lib.hid (OL3.out.cutI hml)
     clear hm
     go_upto_region 12 with fail
     refine wp_region_planS (fun w'=>Below wr.heap.size wr w') 11 [(0,1),(1,1),(2,1),(3,1),(4,1),(5,1),(6,1),(7,1),(8,1),(9,0),(10,1),(11,0)] (by kernel_rfl) (by kernel_rfl) ((Below.refl _ _).drew) ?_
     iterate 9
      refine wpPlanS_read (by rfl) (by rfl) (fun R hR=>?_)
      apply Exists.intro
      refine⟨fun w' hS'=>?_,?_⟩
      ·have k1:=(hS'.cell (p:=⟨g,1,none⟩) hgr).trans K1.out
       have hw:=HW.out
       go_simp
       exact⟨rfl,rfl⟩
      go_simp
      refine hR _ ?_
      clear hR R
     refine wpPlanS_do (by rfl) (by rfl) (by rfl) (fun K hK=>?_)
     go_simp
     refine(clone_i64 _ (l.drop m) _ (HRD.out.keep (Below.refl _ _).drew) (by rw[List.length_drop];omega)).mono ?_
     rintro e w7 ⟨⟨A7,n7,c7⟩,rfl,o7,b7⟩
     obtain⟨_,_,es,_,_,_⟩:=o7.form
     injection es with _ es2 _
     rw[List.length_drop] at es2
     subst es2
     have HB7:Below wr.heap.size wr w7:=((Below.refl wr.heap.size wr).drew).trans b7
     have O7:=Lib.hid o7
     clear o7 b7
     simp only[svV]
     refine hK _ _ (HB7) ?_
     clear hK K
     iterate 1
      refine wpPlanS_read (by rfl) (by rfl) (fun R hR=>?_)
      apply Exists.intro
      refine⟨fun w' hS'=>?_,?_⟩
      ·have k1:=(hS'.cell (p:=⟨g,1,none⟩) hgr).trans K1.out
       have hw:=HW.out
       go_simp
       exact⟨rfl,rfl⟩
      go_simp
      refine hR _ ?_
      clear hR R
     refine wpPlanS_end (by rfl) (by rfl) (by rfl) (fun K hK=>?_)
     have c9:=(World.cell?_of_block (a:=⟨gl,h,none⟩) (HB7.block gl hglr)).trans C3.out
     have f9:=(World.frozen?_of_block (a:=⟨gl,h,none⟩) (HB7.block gl hglr)).trans F3.out
     go_simp
     refine hK _ _ ?_
     clear hK K
     refine wpPlanS_nil ?_
     clear c9 f9
     generalize (if sc=m then some (⟨ga,0,none⟩:Addr) else some (⟨ga,m,none⟩:Addr))=oA
     have HST3:=HST2.out.keep HB.out
     have hv3:h<vs1.length:=by rw[HST3.lev.len];exact hh
     have hvs3:vs1[h]=(some ⟨ga,0,none⟩,l.length,sc):=by
      have:=HVS.out
      rw[List.getElem?_eq_getElem hv3] at this
      exact Option.some.inj this
     have hodd:l.drop m=oddV (lvl s.1 h):=by rw[HL.out,<-HM.out];rfl
     have lev:=StG.level (s':=(A7,l.length - m,c7)) (l':=oddV (lvl s.1 h)) (w1:=w7) HST3 hh rfl (by rw[<-hodd];exact O7.out.more (Nat.zero_le _)) (fun kk h1 _=>HB7.block kk h1) HB7.size (.inr fun kk e=>(O7.out.lt kk e).1)
     have HLEV:=Lib.hid lev
     have HT7:Hid (Touch (fun k=>F k\/k=r) w (w7.setCell ⟨gl,h,none⟩ (svV (A7,l.length - m,c7)))):=Lib.hid (Touch.setCell ((HTT2.out.trans (Touch.of_below (F:=fun _=>False) HB.out (Nat.le_refl _)) (fun _ hf=>hf.elim)).trans (Touch.of_below (F:=fun _=>False) HB7 (Nat.le_refl _)) (fun _ hf=>hf.elim)) (by
      rcases HSUB.out gl hFgl with h1|h1
      ·exact .inl (.inl h1)
      ·exact .inr h1) _)
     have hnew7:∀kk,(svV (A7,l.length - m,c7)).ownBlock=some kk->wr.heap.size<=kk:=fun kk e=>(O7.out.lt kk e).1
     have HNEW7:=Lib.hid hnew7
     have HO8:Hid (OwnE i64E w2.heap.size (w7.setCell ⟨gl,h,none⟩ (svV (A7,l.length - m,c7))) u8 (upV l y)):=Lib.hid ((HO.out.keep HB7).far (fun e=>by have:=(HO.out.lt gl e).1;omega) _)
     have hco8:KC (w7.setCell ⟨gl,h,none⟩ (svV (A7,l.length - m,c7))) cg r cv B (coinNx B s.2.2):=by
      have hb:∀kk,kk<w2.heap.size->kk≠gl->(w7.setCell ⟨gl,h,none⟩ (svV (A7,l.length - m,c7))).heap[kk]?=w2.heap[kk]?:=fun kk h1 h2=>
       (Below.heap_setCell w7 ⟨gl,h,none⟩ _ kk h2).trans ((HB7.block kk (by omega)).trans (HB.out.block kk h1))
      have hzw:w.heap.size<=w2.heap.size:=HTT2.out.size
      have a1:=HFAR.out.lr;have a2:=HFAR.out.lg
      have a3:=HFR.out gl hFgl
      have hz7:=HB7.size
      refine HCO2.out.stay (hb cg (by omega) (fun e=>a3.2.1 e.symm)) (hb r (by omega) (fun e=>a3.1 e.symm)) (fun kk e=>hb kk (by have:=(HFAR.out.fv kk e).2;omega) (fun e2=>a3.2.2 (by rw[e,e2]))) (by simp;omega)
     have HCO8:=Lib.hid hco8
     have hz7:=HB7.size
     have hzw:w.heap.size<=w2.heap.size:=HTT2.out.size
     obtain⟨w8,hw8⟩:∃x,w7.setCell ⟨gl,h,none⟩ (svV (A7,l.length - m,c7))=x:=⟨_,rfl⟩
     rw[hw8] at HLEV HT7 HO8 HCO8
     have hz8:w8.heap.size=w7.heap.size:=by rw[<-hw8];simp
     show Exit.then _ _ Exit.normal _ (w7.setCell ⟨gl,h,none⟩ (svV (A7,l.length - m,c7)))
     rw[hw8]
     clear lev hw8 hnew7 hco8 HST3 HB7 O7 HRD OL3 K1 C3 F3 hodd hvs3 hv3
     have k3:=HLEV.out.cell3
     have f3:=HLEV.out.blk.frozen 3
     have hled:=HOK.out.led
     have hh48:h<=48:=by omega
     obtain⟨p,hp⟩:∃p,2 ^ h=p:=⟨_,rfl⟩
     have hpb:p<=281474976710656:=by rw[<-hp];exact Nat.pow_le_pow_right (by decide) hh48
     have HPW:Hid (IntKind.u64.wrap (1 * 2 ^ h)=(p:Int)):=Lib.hid (by rw[<-hp];exact shl_one hh48)
     have HPE:=Lib.hid hp
     clear hp
     go_upto_region 13 with fail
     refine wp_region_planS (fun w'=>Below w8.heap.size w8 w') 11 [(0,1),(1,1),(2,1),(3,1),(4,1),(5,1),(6,1),(7,1),(8,1),(9,2),(10,1),(11,0)] (by kernel_rfl) (by kernel_rfl) ((Below.refl _ _).drew) ?_
     iterate 9
      refine wpPlanS_read (by rfl) (by rfl) (fun R hR=>?_)
      apply Exists.intro
      refine⟨fun w' hS'=>?_,?_⟩
      ·have hw:=HPW.out
       have k3':=(hS'.cell (p:=⟨g,3,none⟩) HLEV.out.blk.lt).trans k3
       go_simp
       exact⟨rfl,rfl⟩
      go_simp
      refine hR _ ?_
      clear hR R
     iterate 1
      refine wpPlanS_pure (by rfl) (by rfl) (fun R hR=>?_)
      apply Exists.intro
      refine⟨fun w'=>?_,?_⟩
      ·go_simp
       exact⟨rfl,rfl⟩
      go_simp
      refine hR _ ?_
      clear hR R
     iterate 1
      refine wpPlanS_read (by rfl) (by rfl) (fun R hR=>?_)
      apply Exists.intro
      refine⟨fun w' hS'=>?_,?_⟩
      ·have hw:=HPW.out
       have k3':=(hS'.cell (p:=⟨g,3,none⟩) HLEV.out.blk.lt).trans k3
       go_simp
       exact⟨rfl,rfl⟩
      go_simp
      refine hR _ ?_
      clear hR R
     refine wpPlanS_end (by rfl) (by rfl) (by rfl) (fun K hK=>?_)
     have k9:(w8.drew).cell? ⟨g,3,none⟩=_:=k3
     have f9:(w8.drew).frozen? ⟨g,3,none⟩=false:=f3
     go_simp
     refine hK _ _ ?_
     clear hK K
     refine wpPlanS_nil ?_
     have HVV:min (IntKind.u64.wrap ((s.2.1:Int)+IntKind.u64.wrap (2 ^ h))) 4611686018427387904=((min (s.2.1+p) 4611686018427387904:Nat):Int):=by
      have e1:=HPW.out
      rw[Int.one_mul] at e1
      rw[e1,IntKind.wrap_u64]
      omega
     rw[HVV]
     have hst9:Kst _ ((w8.setCell ⟨g,3,none⟩ (.int .u64 (min (s.2.1+p) 4611686018427387904:Nat))).drew) g k n (min (s.2.1+p) 4611686018427387904) _ _ _:=(HLEV.out.put3 _).keep (Below.refl _ _).drew
     have HST9:=Lib.hid hst9
     have HFgg:=HST2.out.fg
     have HT9:Hid (Touch (fun k=>F k\/k=r) w ((w8.setCell ⟨g,3,none⟩ (.int .u64 (min (s.2.1+p) 4611686018427387904:Nat))).drew)):=Lib.hid (Touch.drew (Touch.setCell HT7.out (by
      rcases HSUB.out g HFgg with h1|h1
      ·exact .inl (.inl h1)
      ·exact .inr h1) _))
     have hub:∀kk,u8.ownBlock=some kk->w2.heap.size<=kk/\kk<wr.heap.size:=HO.out.lt
     have HO9:Hid (OwnE i64E w2.heap.size ((w8.setCell ⟨g,3,none⟩ (.int .u64 (min (s.2.1+p) 4611686018427387904:Nat))).drew) u8 (upV l y)):=Lib.hid ((HO8.out.far (fun e=>by have:=(hub g e).1;omega) _).drew)
     have hco9:KC ((w8.setCell ⟨g,3,none⟩ (.int .u64 (min (s.2.1+p) 4611686018427387904:Nat))).drew) cg r cv B (coinNx B s.2.2):=by
      have hb:∀kk,kk≠g->((w8.setCell ⟨g,3,none⟩ (.int .u64 (min (s.2.1+p) 4611686018427387904:Nat))).drew).heap[kk]?=w8.heap[kk]?:=fun kk h2=>Below.heap_setCell w8 ⟨g,3,none⟩ _ kk h2
      have a3:=HFR.out g HFgg
      exact HCO8.out.stay (hb cg (fun e=>a3.2.1 e.symm)) (hb r (fun e=>a3.1 e.symm)) (fun kk e=>hb kk (fun e2=>a3.2.2 (by rw[e,e2]))) (by simp[World.drew])
     have HCO9:=Lib.hid hco9
     have hz9:((w8.setCell ⟨g,3,none⟩ (.int .u64 (min (s.2.1+p) 4611686018427387904:Nat))).drew).heap.size=w7.heap.size:=by rw[<-hz8];simp[World.drew]
     obtain⟨w9,hw9⟩:∃x,(w8.setCell ⟨g,3,none⟩ (.int .u64 (min (s.2.1+p) 4611686018427387904:Nat))).drew=x:=⟨_,rfl⟩
     rw[hw9] at HST9 HT9 HO9 HCO9 hz9
     show Exit.then _ _ Exit.normal _ ((w8.setCell ⟨g,3,none⟩ (.int .u64 (min (s.2.1+p) 4611686018427387904:Nat))).drew)
     rw[hw9]
     clear hw9 hst9 hco9 HVV k3 f3 HLEV HT7 HO8 HCO8
     have hfx:∀kk,(F1 kk\/(svV (A7,l.length - m,c7)).ownBlock=some kk)->u8.ownBlock≠some kk:=fun kk h1 e=>by
      have h4:=hub kk e
      rcases h1 with h1|h1
      ·have:=HST2.out.low kk h1;omega
      ·have:=HNEW7.out kk h1;omega
     have has:Aside (fun kk=>F1 kk\/(svV (A7,l.length - m,c7)).ownBlock=some kk) w9 u8 (upV l y):=Aside.of_own HO9.out fun kk e h1=>hfx kk h1 e
     have hl1:lvl (s.1.set h (oddV (lvl s.1 h))) (h+1)=lvl s.1 (h+1):=by rw[lvl_set _ _ _ _ hh,if_neg (by omega)]
     have HPUT:=Lib.hid (put_any (h+1) u8 (upV l y) w9 HST9.out has (by rw[hl1];exact HOK.out.srt _) (by omega) (by rw[List.length_set];omega) (by rw[hl1];have:=lvl_le_cnt s.1 (h+1);omega) (by rw[upV_length];omega))
     have HPS:Hid (putL (s.1.set h (oddV (lvl s.1 h))) (h+1) (upV l y)=(packN B h s).1):=Lib.hid (by rw[<-HL.out,<-HY.out];rfl)
     have HLD:Hid (min (s.2.1+p) 4611686018427387904=(packN B h s).2.1):=Lib.hid (by rw[<-HPE.out];rfl)
     have HNXA:Hid (coinNx B s.2.2=(packN B h s).2.2):=Lib.hid rfl
     have HOKN:=Lib.hid (HOK.out.step (B:=B) HFN.out)
     have HCN:=Lib.hid (packN_cnt (B:=B) HFN.out)
     have HEQN:=Lib.hid (HEQ.out.trans (packA_some (B:=B) HFN.out))
     have hz7w:wr.heap.size<=w7.heap.size:=hz7
     have HNQ:=HQ
     clear has hfx hl1 hub
     go_wp2_with fail
     refine(HPUT.out).mono ?_
     rintro e w10 ⟨rfl,F3,lv3,vs3,q1,q2,q3,q4⟩
     have Q1:=Lib.hid q1
     have Q2:=Lib.hid q2
     have Q4:=Lib.hid q4
     rw[HPS.out,HLD.out] at q3
     have Q3:=Lib.hid q3
     have hokn:=HOKN.out
     have HFU2:=Lib.hid (full_any w10 q3 h2 hk (by have:=hokn.len;omega) (by have:=hokn.cnt;omega))
     clear q1 q2 q3 q4 hokn HPUT
     go_wp2_with fail
     refine(HFU2.out).mono ?_
     rintro e w11 ⟨rfl,rfl⟩
     go_wp2_with fail
     go_roundg (cnt (packN B h s).1)
     case measure=>have:=HQ.out;have:=HCN.out;omega
     case rel=>
      refine⟨F3,lv3,vs3,packN B h s,rfl,rfl,Lib.hid ⟨Q3.out,?_,HOKN.out,HEQN.out,?_,?_,?_⟩⟩
      ·rw[<-HNXA.out]
       have a1:=HFAR.out.lr;have a2:=HFAR.out.lg
       have hn:∀kk,kk<w.heap.size->(∀k1,F1 k1->kk≠k1)->w10.heap[kk]?=w9.heap[kk]?:=fun kk h1 h2=>Q4.out.block kk (by omega) fun h3=>by
        rcases h3 with h3|h3
        ·exact h2 kk h3 rfl
        ·have:=HNEW7.out kk h3;omega
       exact HCO9.out.stay (hn cg a2 fun k1 h1 e=>(HFR.out k1 h1).2.1 e.symm) (hn r a1 fun k1 h1 e=>(HFR.out k1 h1).1 e.symm) (fun kk e=>hn kk (HFAR.out.fv kk e).2 fun k1 h1 e2=>(HFR.out k1 h1).2.2 (by rw[e,e2])) Q4.out.size
      ·intro kk h3
       rcases Q1.out kk h3 with h4|h4
       ·rcases h4 with h4|h4
        ·exact HSUB.out kk h4
        ·have:=HNEW7.out kk h4
         exact .inr (by omega)
       ·exact .inr (by omega)
      ·exact fun kk h3=>Q2.out kk (.inl (HSUP.out kk h3))
      ·refine HT9.out.trans Q4.out fun kk h3=>?_
       rcases h3 with h4|h4
       ·rcases HSUB.out kk h4 with h5|h5
        ·exact .inl (.inl h5)
        ·exact .inr h5
       ·have:=HNEW7.out kk h4
        exact .inr (by omega)
open Go.RowKit
theorem CoFar.next{F F1:Nat->Prop}{w wr:World}{cg r:Nat}{cv:Value}(h:CoFar F w cg r cv)(hs:∀k,F1 k->F k\/w.heap.size<=k)(hz:w.heap.size<=wr.heap.size):CoFar F1 wr cg r cv:=by
 have a1:=h.lr;have a2:=h.lg
 refine⟨fun e=>?_,fun e=>?_,fun k e=>⟨fun e2=>?_,?_⟩,by omega,by omega⟩
 ·rcases hs cg e with e|e
  ·exact h.fg e
  ·omega
 ·rcases hs r e with e|e
  ·exact h.fr e
  ·omega
 ·have:=h.fv k e
  rcases hs k e2 with e3|e3
  ·exact this.1 e3
  ·omega
 ·have:=(h.fv k e).2;omega
theorem KC.touch{F:Nat->Prop}{w w':World}{cg r a:Nat}{cv:Value}{B:List Int}(h:KC w cg r cv B a)(hf:CoFar F w cg r cv)(ht:Touch F w w'):KC w' cg r cv B a:=
 h.stay (ht.block cg hf.lg hf.fg) (ht.block r hf.lr hf.fr) (fun k e=>ht.block k (hf.fv k e).2 (hf.fv k e).1) ht.size
theorem PkAt.back{F F1:Nat->Prop}{w wr w':World}{g k n cg r:Nat}{cv lv:Value}{B:List Int}{s0 s:KS}{F':Nat->Prop}{vs:List Sv}(h:PkAt F1 wr g k n cg r cv B s0 F' w' lv vs s)
 (h1:∀k,F1 k->F k\/w.heap.size<=k) (h2:∀k,F k->F1 k) (ht:Touch F w wr):PkAt F w g k n cg r cv B s0 F' w' lv vs s:=by
 have hz:=ht.size
 refine⟨h.st,h.co,h.ok,h.eq,fun kk e=>?_,fun kk e=>h.sup kk (h2 kk e),?_⟩
 ·rcases h.sub kk e with e|e
  ·exact h1 kk e
  ·exact .inr (by omega)
 ·refine(ht.mono (G:=fun k=>F k\/k=r) fun _ hi=>.inl hi).trans h.touch fun i hi=>?_
  rcases hi with hi|hi
  ·rcases h1 i hi with e|e
   ·exact .inl (.inl e)
   ·exact .inr e
  ·exact .inl (.inr hi)
theorem and_one(m:Nat)(h:m<18446744073709551616):bits .and .u64 (m:Int) 1=((m % 2:Nat):Int):=by
 have h1:=bits_and_u64_nat m 1 h (by omega)
 rw[Nat.and_one_is_mod] at h1
 exact h1
structure AdAt(F:Nat->Prop)(w:World)(g k n led:Nat)(v:Int)(c:Nat)(L:LL)(j:Nat)(F1:Nat->Prop)(wr:World)(lv:Value)(vs:List Sv)(L1:LL):Prop where
 st:Kst F1 wr g k n led lv vs L1
 eq:addL L v c=putB (64 - j) j (c / 2 ^ j) L1 v
 srt:∀i,Srt (lvl L1 i)
 len:L1.length<=49
 cnt:cnt L1<=cnt L+j
 sub:∀k,F1 k->F k\/w.heap.size<=k
 sup:∀k,F k->F1 k
 touch:Touch F w wr
theorem putL_srt{L:LL}(h:∀i,Srt (lvl L i))(j:Nat)(vs:List Int):∀i,Srt (lvl (putL L j vs) i):=fun i=>by
 rw[lvl_put]
 split
 ·exact insL_srt (h _) _
 ·exact h i
theorem pkOk_add{L:LL}{led a:Nat}(h:PkOk (L,led,a))(v:Int)(c:Nat)(hc:wt L+c<=281474976710656)(hn:cnt L<=900000):PkOk (addL L v c,led,a):=by
 refine⟨?_,h.top.add v c,?_,?_,h.led⟩
 ·exact putB_keep (P:=fun L=>∀i,Srt (lvl L i)) (fun L h hp=>putL_srt hp h [v]) 64 0 c L h.srt
 ·show wt (addL L v c)<=_
  rw[addL_wt _ _ (by omega)];exact hc
 ·show cnt (addL L v c)<=_
  have:=addL_cnt L v c;omega
open Go.RowKit
open Go.RowKit
theorem wtF_take_succ{L:LL}{j:Nat}(h:j<L.length):wtF 1 (L.take (j+1))=wtF 1 (L.take j)+(lvl L j).length * 2 ^ j:=by
 rw[List.take_succ_eq_append_getElem h,wtF_append,List.length_take,Nat.min_eq_left (by omega),lvl_at h]
 simp[wtF]
theorem wtF_take_le(L:LL)(j:Nat):wtF 1 (L.take j)<=wt L:=by
 unfold wt
 conv=>rhs;rw[<-List.take_append_drop j L,wtF_append]
 omega
theorem pow49{j:Nat}(h:j<=49):2 ^ j<=562949953421312:=Nat.le_trans (Nat.pow_le_pow_right (by decide) h) (by decide)
theorem rtotal_any{F:Nat->Prop}{g k led:Nat}{lv:Value}{vs:List Sv}{L:LL}(w:World)(hs:Rst F w g k led lv vs L)(hw:wt L<=281474976710656)(hL:L.length<=49) :
 Calls Tryz.prog 81 #[.pointer (some ⟨g,0,none⟩)] w fun e w'=>e=.returned (.int .u64 (wt L:Nat))/\w=w':=by
 obtain⟨A,c,elv,hc1,hc2,_⟩:=hs.form
 have c1:=hs.cell1
 have HS:=Lib.hid hs
 have HTL:=Lib.hid (fun j=>Nat.le_trans (wtF_take_le L j) hw)
 have HC:=Lib.hid (show wtF 1 (L.take L.length)=wt L by rw[List.take_length];rfl)
 clear hs
 subst elv
 go_enter Tryz.func81,Tryz.ntmps81
 go_wp2_with fail
 go_loopg [3,4,5] L.length (fun q n p i wr=>(∃j:Nat,q=L.length - j/\j<=L.length/\n=.int .u64 ((wtF 1 (L.take j):Nat):Int)/\p=.int .u64 ((2 ^ j:Nat):Int)/\i=.int .i64 (j:Int))/\w=wr)
 case atStart=>exact⟨⟨0,by omega,by omega,rfl,rfl,rfl⟩,rfl⟩
 case round=>
  obtain⟨⟨j,hq,hj,rfl,rfl,rfl⟩,rfl⟩:=hrel
  have HQ:=Lib.hid hq
  clear hq
  have hpb:=pow49 (j:=j) (by omega)
  have HPE:Hid (2 ^ (j+1)=2 * 2 ^ j):=Lib.hid (by rw[Nat.pow_succ];omega)
  by_cases hjl:j<L.length
  ·obtain⟨gl,cc,sA,sc,elv,hgl,_,_,_,c2,_,_,_⟩:=HS.out.at_ hjl
   injection elv with elv e2 e3
   subst elv;subst e3
   have HT1:Hid (wtF 1 (L.take (j+1))=wtF 1 (L.take j)+(lvl L j).length * 2 ^ j):=Lib.hid (wtF_take_succ hjl)
   have hb:=HTL.out (j+1)
   obtain⟨t1,ht1⟩:∃t1,wtF 1 (L.take (j+1))=t1:=⟨_,rfl⟩
   obtain⟨t0,ht0⟩:∃t0,wtF 1 (L.take j)=t0:=⟨_,rfl⟩
   obtain⟨x,hx⟩:∃x,(lvl L j).length=x:=⟨_,rfl⟩
   obtain⟨p,hp⟩:∃p,2 ^ j=p:=⟨_,rfl⟩
   rw[hx] at c2
   rw[ht1] at hb
   rw[ht1,ht0,hx,hp] at HT1
   rw[hp] at hpb HPE
   rw[ht0,hp]
   have HT1E:=Lib.hid ht1
   obtain⟨m,hm⟩:∃m,x * p=m:=⟨_,rfl⟩
   rw[hm] at HT1
   have hmi:(x:Int) * (p:Int)=(m:Int):=by rw[<-hm];simp
   have hmb:m+t0=t1:=by have:=HT1.out;omega
   have HXB:x<=18446744073709551615:=by
    obtain⟨_,_,e,h1,h2,_⟩:=((HS.out.lev.each j (by rw[HS.out.lev.len];exact hjl))).form
    omega
   clear hx hp ht0 ht1 hm
   go_wp2_with fail
   go_roundg (L.length - (j+1))
   case measure=>have:=HQ.out;omega
   case rel=>exact⟨⟨j+1,rfl,by omega,by rw[HT1E.out];go_num,by rw[HPE.out];go_num,by go_num⟩,rfl⟩
  ·obtain rfl:j=L.length:=by omega
   rw[HC.out]
   go_wp2_with fail
   refine bodyPost_ret (by simp[results,Tryz.results81,go_sem, *];try rfl) rfl ?_
   exact⟨rfl,rfl⟩
section
variable {F : Nat -> Prop} {g k n led : Nat} {lv : Value} {vs : List Sv} {L : LL}
theorem size_any(w:World)(hs:Kst F w g k n led lv vs L) :
 Calls Tryz.prog 29 #[.pointer (some ⟨g,0,none⟩)] w fun e w'=>e=.returned (.int .i64 (k:Nat))/\w=w':=by
 have c0:=hs.cell0
 clear hs
 go_enter Tryz.func29,Tryz.ntmps29
 go_wp2_with fail
 refine bodyPost_ret (by simp[results,Tryz.results29,go_sem, *];try rfl) rfl ?_
 exact⟨rfl,rfl⟩
theorem total_any(w:World)(hs:Kst F w g k n led lv vs L) :
 Calls Tryz.prog 57 #[.pointer (some ⟨g,0,none⟩)] w fun e w'=>e=.returned (.int .u64 (n:Nat))/\w=w':=by
 have c0:=hs.cell2
 clear hs
 go_enter Tryz.func57,Tryz.ntmps57
 go_wp2_with fail
 refine bodyPost_ret (by simp[results,Tryz.results57,go_sem, *];try rfl) rfl ?_
 exact⟨rfl,rfl⟩
theorem ledger_any(w:World)(hs:Kst F w g k n led lv vs L) :
 Calls Tryz.prog 124 #[.pointer (some ⟨g,0,none⟩)] w fun e w'=>e=.returned (.int .u64 (led:Nat))/\w=w':=by
 have c0:=hs.cell3
 clear hs
 go_enter Tryz.func124,Tryz.ntmps124
 go_wp2_with fail
 refine bodyPost_ret (by simp[results,Tryz.results124,go_sem, *];try rfl) rfl ?_
 exact⟨rfl,rfl⟩
theorem cnt_take_le(L:LL)(j:Nat):cnt (L.take j)<=cnt L:=by
 conv=>rhs;rw[<-List.take_append_drop j L,cnt_append]
 omega
end
end Go.Proofs.YtingnldfpokckaaGreat.K
