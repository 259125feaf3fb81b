/- Parts of a proof: what its theorem reaches, words cut short. No condition of its own. -/
import Derived.Test.YtingnldfpokckaaGreatPm35
set_option maxRecDepth 100000
set_option maxHeartbeats 16000000
set_option linter.unusedVariables false
set_option linter.unusedSimpArgs false
namespace Go.Proofs.YtingnldfpokckaaGreat.K
open Go.RowKit
structure KC(w:World)(g r:Nat)(v:Value)(B:List Int)(a:Nat):Prop where
 blk:Blk w g 235 #[.pointer (some ⟨r,0,none⟩)]
 rd:BR w r v B a
 ne:g≠r
 nv:v.ownBlock≠some g
theorem bleft_any(r:Nat)(v:Value)(B:List Int)(a:Nat)(w:World)(h:BR w r v B a) :
 Calls Tryz.prog 313 #[.pointer (some ⟨r,0,none⟩)] w fun e w'=>e=.returned (.int .i64 (8 * (B.length:Int) - a))/\∃n,w'=w.drewN n:=by
 obtain⟨A,c,rfl,hc1,hc2,hf⟩:=h.rd.form
 have c0:=h.blk.cell 0
 have c1:=h.blk.cell 1
 have hb1:=h.byt.1
 have hat:=h.at_
 simp only[List.getElem?_toArray,List.getElem?_cons_succ,List.getElem?_cons_zero] at c0 c1
 clear h hf
 go_enter Tryz.func313,Tryz.ntmps313
 go_wp2_with fail
 go_quiet (fail)
 go_wp2_with fail
 refine bodyPost_ret (by simp[results,Tryz.results313,go_sem, *];try rfl) rfl ?_
 exact⟨rfl,_,rfl⟩
theorem bit_tab:(List.range 256).all (fun(y:Nat)=>bits .or .u32 0 (bits .and .u8 (y:Int) 1 % 4294967296) == ((y % 2:Nat):Int))=true:=by kernel_rfl
theorem bit_byte{y:Int}(h:0<=y/\y<=255):bits .or .u32 0 (bits .and .u8 y 1 % 4294967296)=y % 2:=by
 obtain⟨n,rfl⟩:∃n:Nat,y=n:=⟨y.toNat,by omega⟩
 have h1:=List.all_eq_true.1 bit_tab n (List.mem_range.2 (by omega))
 have h2:=eq_of_beq h1
 rw[h2];omega
theorem group_any(r:Nat)(v:Value)(B:List Int)(a:Nat)(w:World)(h:BR w r v B a) :
 Calls Tryz.prog 240 #[.pointer (some ⟨r,0,none⟩),.int .i64 1] w fun e w'=>∃q:Int,e=.returned (.tuple #[.int .u32 (coinAt B a:Nat),.int .i64 q])/\BR w' r v B (coinNx B a)/\Touch (fun k=>k=r) w w':=by
 have HL:=Lib.hid (bleft_any r v B a w h)
 have HH:=Lib.hid h
 obtain⟨A,c,rfl,hc1,hc2,hf⟩:=h.rd.form
 have hgw:=h.blk.lt
 have c0:=h.blk.cell 0
 have c1:=h.blk.cell 1
 have f1:=h.blk.frozen 1
 have hb1:=h.byt.1
 have hat:=h.at_
 simp only[List.getElem?_toArray,List.getElem?_cons_succ,List.getElem?_cons_zero] at c0 c1
 have HF:=Lib.hid hf
 clear h hf
 by_cases hlt:a<8 * B.length
 ·have hl8:a / 8<B.length:=by omega
  obtain⟨gb,off,rfl,hgb,cb⟩:=HF.out.u8 hl8
  have hx:=HH.out.byt.2 _ (List.getElem_mem hl8)
  obtain⟨x,hxe⟩:∃x,B[a / 8]=x:=⟨_,rfl⟩
  rw[hxe] at cb hx
  have HX:=Lib.hid hxe
  clear hxe
  have hge:¬8 * (B.length:Int) - a<1:=by omega
  go_enter Tryz.func240,Tryz.ntmps240
  go_wp2_with fail
  refine(HL.out).mono ?_
  rintro e w1 ⟨rfl,n,rfl⟩
  go_wp2_with fail
  go_loopg [6,7,19] 1 (fun q t6 _ t19 wr=>(q=1/\t6=.int .u32 0/\t19=.int .i64 0/\Hid (wr=w.drewN n))\/(q=0/\t6=.int .u32 (coinAt B a:Nat)/\t19=.int .i64 1/\Hid (BR wr r (Value.slice (some ⟨gb,off,none⟩) B.length c) B (a+1))/\Hid (Touch (fun k=>k=r) w wr)))
  case atStart=>exact .inl ⟨rfl,rfl,rfl,Lib.hid rfl⟩
  case round=>
   rcases hrel with⟨hq,rfl,rfl,HW⟩|⟨hq,rfl,rfl,HB,HT⟩
   ·have HQ:=Lib.hid hq
    clear hq
    obtain⟨⟨rfl⟩⟩:Nonempty (Hid (wr=w.drewN n)):=⟨HW⟩
    go_wp2_with fail
    go_quiet (fail)
    have hy:0<=x / 2 ^ (a % 8)/\x / 2 ^ (a % 8)<=255:=by
     have hp:(0:Int)<2 ^ (a % 8):=Int.pow_pos (by decide)
     exact⟨Int.ediv_nonneg hx.1 (by omega),Int.le_trans (Int.ediv_le_self _ hx.1) hx.2⟩
    have HC:x / 2 ^ (a % 8) % 2=((coinAt B a:Nat):Int):=by
     unfold coinAt
     rw[if_pos hlt]
     simp only[List.getD]
     rw[List.getElem?_eq_getElem hl8,Option.getD_some,HX.out]
     omega
    rw[bit_byte hy,HC]
    clear HC hy
    obtain⟨y,hy⟩:∃y,coinAt B a=y:=⟨_,rfl⟩
    rw[hy]
    have HY:=Lib.hid hy
    clear hy
    go_wp2_with fail
    go_roundg 0
    case measure=>have:=HQ.out;omega
    case rel=>
     refine .inr ⟨rfl,by rw[HY.out],rfl,Lib.hid ?_,Lib.hid ?_⟩
     ·exact(HH.out.drewN _).step hlt
     ·exact Touch.setCell (F:=fun k=>k=r) (Touch.drewN (Touch.refl _ _) _) (.inl rfl) _
   ·have hc2:coinNx B a=a+1:=by unfold coinNx;rw[if_pos hlt]
    have HC2:=Lib.hid hc2
    clear hc2 hq
    obtain⟨y,hy⟩:∃y,coinAt B a=y:=⟨_,rfl⟩
    rw[hy]
    have HY:=Lib.hid hy
    clear hy
    go_wp2_with fail
    refine bodyPost_ret (by simp[results,Tryz.results240,go_sem, *];try rfl) rfl ?_
    refine⟨0,by rw[HY.out],?_,HT.out⟩
    rw[HC2.out];exact HB.out
 ·have hge:8 * (B.length:Int) - a<1:=by omega
  go_enter Tryz.func240,Tryz.ntmps240
  go_wp2_with fail
  refine(HL.out).mono ?_
  rintro e w1 ⟨rfl,n,rfl⟩
  go_wp2_with fail
  refine bodyPost_ret (by simp[results,Tryz.results240,go_sem, *];try rfl) rfl ?_
  have h1:coinNx B a=a:=by unfold coinNx;rw[if_neg hlt]
  have h2:coinAt B a=0:=by unfold coinAt;rw[if_neg hlt]
  rw[h1,h2]
  exact⟨20,rfl,HH.out.drewN _,(Touch.refl _ _).drewN _⟩
theorem bit_any(r:Nat)(v:Value)(B:List Int)(a:Nat)(w:World)(h:BR w r v B a) :
 Calls Tryz.prog 150 #[.pointer (some ⟨r,0,none⟩)] w fun e w'=>∃q:Int,e=.returned (.tuple #[.int .u32 (coinAt B a:Nat),.int .i64 q])/\BR w' r v B (coinNx B a)/\Touch (fun k=>k=r) w w':=by
 have HL:=Lib.hid (group_any r v B a w h)
 clear h
 go_enter Tryz.func150,Tryz.ntmps150
 go_wp2_with fail
 refine(HL.out).mono ?_
 rintro e w1 ⟨q,rfl,h1,h2⟩
 have H1:=Lib.hid h1
 have H2:=Lib.hid h2
 clear h1 h2
 go_wp2_with fail
 refine bodyPost_ret (by simp[results,Tryz.results150,go_sem, *];try rfl) rfl ?_
 exact⟨q,rfl,H1.out,H2.out⟩
theorem knext_any(g r:Nat)(v:Value)(B:List Int)(a:Nat)(w:World)(h:KC w g r v B a) :
 Calls Tryz.prog 77 #[.pointer (some ⟨g,0,none⟩)] w fun e w'=>e=.returned (.int .i64 (coinAt B a:Nat))/\KC w' g r v B (coinNx B a)/\Touch (fun k=>k=r) w w':=by
 have HL:=Lib.hid (bit_any r v B a w h.rd)
 have c0:=h.blk.cell 0
 simp only[List.getElem?_toArray,List.getElem?_cons_zero] at c0
 have HH:=Lib.hid h
 have hle:=coinAt_le B a
 clear h
 obtain⟨y,hy⟩:∃y,coinAt B a=y:=⟨_,rfl⟩
 rw[hy] at HL hle
 rw[hy]
 clear hy
 go_enter Tryz.func77,Tryz.ntmps77
 go_wp2_with fail
 refine(HL.out).mono ?_
 rintro e w1 ⟨q,rfl,h1,h2⟩
 have H1:=Lib.hid h1
 have H2:=Lib.hid h2
 clear h1 h2
 go_wp2_with fail
 refine bodyPost_ret (by simp[results,Tryz.results77,go_sem, *];try rfl) rfl ?_
 refine⟨rfl,⟨?_,H1.out,HH.out.ne,HH.out.nv⟩,H2.out⟩
 exact(H2.out.block g HH.out.blk.lt (fun e=>HH.out.ne e)).trans HH.out.blk
open Go.RowKit
theorem StG.at_{t:TypeId}{a:Value}{rest:List Value}{F:Nat->Prop}{w:World}{g:Nat}{lv:Value}{vs:List Sv}{L:LL}(h:StG t a rest F w g lv vs L){j:Nat}(hj:j<L.length) :
 ∃gl c sA sc,lv=.slice (some ⟨gl,0,none⟩) L.length c/\gl<w.heap.size/\gl≠g/\F gl/\vs[j]?=some (sA,(lvl L j).length,sc)/\w.cell? ⟨gl,j,none⟩=some (.slice sA (lvl L j).length sc)/\w.frozen? ⟨gl,j,none⟩=false /\
  OwnE i64E 0 w (.slice sA (lvl L j).length sc) (lvl L j)/\(∀k,(Value.slice sA (lvl L j).length sc).ownBlock=some k->F k/\k≠gl/\k≠g):=by
 have hj':j<vs.length:=by rw[h.lev.len];exact hj
 have hl:0<vs.length:=by omega
 obtain⟨gl,c,e,_,hg,_,_⟩:=h.lev.row.pos hl
 rw[h.lev.len] at e
 have ol:=h.lev.each j hj'
 have c1:=h.lev.row
 rw[e] at c1
 have c2:=c1.cellAt hj' 0 (by decide)
 rw[show j * slE.k+0=j by show j * 1+0=j;omega] at c2
 have f2:=c1.frozenAt j
 have hap:=h.lev.apart j hj'
 have hfv:=h.lev.fv j hj'
 have hg2:=h.g2 j hj'
 obtain⟨s,hs⟩:∃s,vs[j]=s:=⟨_,rfl⟩
 rw[hs] at ol c2 hap hfv hg2
 obtain⟨sA,sn,sc⟩:=s
 obtain⟨_,_,es,_,_,_⟩:=ol.form
 injection es with es1 es2 es3
 subst es2
 refine⟨gl,c,sA,sc,e,hg,fun e2=>h.g1 (by rw[e,e2];rfl),h.lev.fl gl (by rw[e];rfl),by rw[List.getElem?_eq_getElem hj',hs],c2.trans rfl,f2,ol,fun k hk=>⟨hfv k hk,fun e2=>hap k hk (by rw[e,e2];rfl),fun e2=>hg2 (by rw[<-e2];exact hk)⟩⟩
def fullI(k:Nat)(L:LL):Int:=match fullN k L with|none=>-1|some h=>(h:Int)
theorem fullI_some{k h:Nat}{L:LL}(h1:h<L.length)(h2:room k L.length h<(lvl L h).length)(h3:∀j,j<h->(lvl L j).length<=room k L.length j):fullI k L=h:=by
 unfold fullI
 rw[fullN_is h1 h2 h3]
theorem fullI_none{k:Nat}{L:LL}(h:∀j,j<L.length->(lvl L j).length<=room k L.length j):fullI k L=-1:=by
 unfold fullI
 rw[fullN_is_none h]
theorem full_any{F:Nat->Prop}{g k n led:Nat}{lv:Value}{vs:List Sv}{L:LL}(w:World)(hs:Kst F w g k n led lv vs L)(h2:2<=k)(hk:k<=1000000)(hL:L.length<=1000)(hl:cnt L<=1000000000) :
 Calls Tryz.prog 149 #[.pointer (some ⟨g,0,none⟩)] w fun e w'=>e=.returned (.int .i64 (fullI k L))/\w=w':=by
 have HR:=Lib.hid (fun h hh=>room_any h w hs h2 hk (by omega) hh)
 obtain⟨A,c,elv,hc1,hc2,_⟩:=hs.form
 have c1:=hs.cell1
 have HS:=Lib.hid hs
 have HC:=Lib.hid (fun j=>Nat.le_trans (lvl_le_cnt L j) hl)
 have HRL:=Lib.hid (fun j=>room_le (k:=k) (len:=L.length) (h:=j) h2)
 clear hs
 subst elv
 go_enter Tryz.func149,Tryz.ntmps149
 go_wp2_with fail
 go_loopg [3,4,10] L.length (fun q _ _ i wr=>(∃j:Nat,q=L.length - j/\j<=L.length/\i=.int .i64 (j:Int)/\Hid (∀i,i<j->(lvl L i).length<=room k L.length i))/\w=wr)
 case atStart=>exact⟨⟨0,by omega,by omega,rfl,Lib.hid (fun i hi=>absurd hi (by omega))⟩,rfl⟩
 case round=>
  obtain⟨⟨j,hq,hj,rfl,HI⟩,rfl⟩:=hrel
  have HQ:=Lib.hid hq
  clear hq
  by_cases hjl:j<L.length
  ·obtain⟨gl,cc,sA,sc,elv,hgl,_,_,_,c2,_,_,_⟩:=HS.out.at_ hjl
   injection elv with elv e2 e3
   subst elv;subst e3
   have HB:=Lib.hid (HC.out j)
   have HRJ:=Lib.hid (HR.out j (by omega))
   obtain⟨r,hr⟩:∃r,room k L.length j=r:=⟨_,rfl⟩
   obtain⟨x,hx⟩:∃x,(lvl L j).length=x:=⟨_,rfl⟩
   have hrk:r<=k:=by rw[<-hr];exact HRL.out j
   rw[hr] at HRJ
   rw[hx] at c2 HB
   have hxb:=HB.out
   have HRE:=Lib.hid hr
   have HXE:=Lib.hid hx
   clear hr hx
   by_cases hgt:(x:Int) > (r:Int)
   ·go_wp2_with fail
    refine(HRJ.out).mono ?_
    rintro e w1 ⟨rfl,rfl⟩
    go_wp2_with fail
    refine bodyPost_ret (by simp[results,Tryz.results149,go_sem, *];try rfl) rfl ?_
    exact⟨by rw[fullI_some hjl (by rw[HRE.out,HXE.out];omega) HI.out],rfl⟩
   ·go_wp2_with fail
    refine(HRJ.out).mono ?_
    rintro e w1 ⟨rfl,rfl⟩
    go_wp2_with fail
    go_roundg (L.length - (j+1))
    case measure=>have:=HQ.out;omega
    case rel=>
     refine⟨⟨j+1,rfl,by omega,by go_num,Lib.hid fun i hi=>?_⟩,rfl⟩
     rcases Nat.lt_or_ge i j with h1|h1
     ·exact HI.out i h1
     ·obtain rfl:i=j:=by omega
      rw[HRE.out,HXE.out];omega
  ·have HE:=Lib.hid (fullI_none (k:=k) (L:=L) (fun i hi=>HI.out i (by omega)))
   go_wp2_with fail
   refine bodyPost_ret (by simp[results,Tryz.results149,go_sem, *];try rfl) rfl ?_
   exact⟨by rw[HE.out],rfl⟩
end Go.Proofs.YtingnldfpokckaaGreat.K
