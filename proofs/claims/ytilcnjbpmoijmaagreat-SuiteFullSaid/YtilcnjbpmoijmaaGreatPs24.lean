/- Parts of a proof: what its theorem reaches, words cut short. No condition of its own. -/
import Derived.Test.YtilcnjbpmoijmaaGreatPs23
set_option maxRecDepth 100000
set_option maxHeartbeats 16000000
set_option linter.unusedVariables false
set_option linter.unusedSimpArgs false
namespace Go.Proofs.YtilcnjbpmoijmaaGreat.K
open Go.RowKit
open Go.RowKit
def u8E:Lie Int where
 k:=1
 t:=5
 enc x:=[.int .u8 x]
 len _:=rfl
 one x u hu:=by
  simp only[List.mem_cons,List.not_mem_nil,or_false] at hu
  subst hu;rfl
theorem _root_.Go.Proofs.YtilcnjbpmoijmaaGreat.RdE.stay{α:Type}{E:Lie α}{w w':World}{v:Value}{l:List α}(h:RdE E w v l)(hk:∀k,v.ownBlock=some k->w'.heap[k]?=w.heap[k]?)(hz:w.heap.size<=w'.heap.size):RdE E w' v l:=by
 obtain⟨A,c,rfl,h1,h2,h3⟩:=h.form
 refine RdE.of_form h1 h2 fun h0=>?_
 obtain⟨g,off,rfl,hg,hc⟩:=h3 h0
 exact⟨g,off,rfl,by omega,fun j hj i hi=>(World.cell?_of_block (hk g rfl)).trans (hc j hj i hi)⟩
def Byt(B:List Int):Prop:=B.length<=1000000/\∀x∈B,0<=x/\x<=255
structure RCt(t:TypeId)(w:World)(g:Nat)(v:Value)(B:List Int)(a:Nat):Prop where
 blk:Blk w g t #[v,.int .i64 a]
 rd:RdE u8E w v B
 ne:v.ownBlock≠some g
 at_:a<=8 * B.length
 byt:Byt B
theorem RCt.stay{t:TypeId}{w w':World}{g:Nat}{v:Value}{B:List Int}{a:Nat}(h:RCt t w g v B a)(hg:w'.heap[g]?=w.heap[g]?)(hk:∀k,v.ownBlock=some k->w'.heap[k]?=w.heap[k]?)(hz:w.heap.size<=w'.heap.size):RCt t w' g v B a:=
 ⟨hg.trans h.blk,h.rd.stay hk hz,h.ne,h.at_,h.byt⟩
abbrev BR:=RCt 206
open Go.RowKit
theorem u8I:(Tryz.prog.info? 5).map (fun i=>(i.zero,i.size,i.bytes))=some (some (.int .u8 0),1,1):=by kernel_rfl
theorem clone_u8(v:Value)(l:List Int)(w:World)(h:RdE u8E w v l)(hlen:l.length<=1000000000000) :
 Calls Tryz.prog 107 #[v] w fun e w'=>∃s:Sv,e=.returned (svV s)/\OwnE u8E w.heap.size w' (svV s) l/\Below w.heap.size w w':=by
 obtain⟨i0,hi0,hiz,his,hib⟩:=info_parts u8I
 have HI:=Lib.hid hi0
 have HZ:=Lib.hid hiz
 have HSZ:=Lib.hid his
 have HBY:=Lib.hid hib
 clear hi0 hiz his hib
 obtain⟨A,c,rfl,hn,hc,hp⟩:=h.form
 have HR:=Lib.hid h
 clear h
 by_cases hnil:A=none
 ·subst hnil
  have h0:l=[]:=by
   rcases Nat.eq_zero_or_pos l.length with h0|h0
   ·exact List.eq_nil_of_length_eq_zero h0
   ·obtain⟨g,off,e,_⟩:=hp h0;cases e
  subst h0
  clear hp
  have he:(binOp .eql 47 (.slice none 0 c) (.slice none 0 0)).run Tryz.prog w=.ok (.bool true) w:=Lib.run_eql_slice_nil w _ _ _ _ _ _ _ Tryz.underlying47
  go_enter Tryz.func107,Tryz.ntmps107
  go_wp2_with fail
  go_ret
  exact⟨(none,0,0),rfl,OwnE.nil_ _ _,by(repeat' (first|(with_reducible exact Below.refl _ _)|(with_reducible refine Below.alloc ?_ ?_ _)|(with_reducible refine Below.drew ?_)|(with_reducible refine below_drewN ?_ _)|(with_reducible refine Below.setCell ?_ ?_ _)|(with_reducible refine below_of (by assumption) ?_ ?_)|go_size))⟩
 ·obtain⟨a,rfl⟩:∃a,A=some a:=by
   cases A with
   | none=>exact absurd rfl hnil
   | some a=>exact⟨a,rfl⟩
  clear hnil hp
  have he:(binOp .eql 47 (.slice (some a) l.length c) (.slice none 0 0)).run Tryz.prog w=.ok (.bool false) w:=Lib.run_eql_slice_nil w _ _ _ _ _ _ _ Tryz.underlying47
  go_enter Tryz.func107,Tryz.ntmps107
  go_wp2_with (at_builtin;refine wpList_append_E u8E (ts:=47) i0 _ 1 Tryz.underlying47 HI.out HZ.out HSZ.out HBY.out rfl (by decide) (by decide) rfl (.tmp 5) (.tmp 6) rfl w.heap.size _ [] rfl (OwnE.lit (E:=u8E) w [] _ rfl _ rfl (by decide)) _ l rfl (HR.out.keep (by(repeat' (first|(with_reducible exact Below.refl _ _)|(with_reducible refine Below.alloc ?_ ?_ _)|(with_reducible refine Below.drew ?_)|(with_reducible refine below_drewN ?_ _)|(with_reducible refine Below.setCell ?_ ?_ _)|(with_reducible refine below_of (by assumption) ?_ ?_)|go_size)))) (by simp;omega) (by simp) ?_;intro v1 w7 o1 g1 a1)
  have HB7:Below w.heap.size w w7:=(Below.alloc (Below.refl _ _) (Nat.le_refl _) _).grown g1 (by simp) (fun k hk=>by have:=Option.some.inj (show some w.heap.size=some k from hk);omega)
  simp only[List.nil_append] at o1
  obtain⟨A1,c1,rfl,_,_,_⟩:=o1.form
  go_wp2_with fail
  go_ret
  exact⟨(A1,_,c1),rfl,o1,HB7⟩
structure KC(w:World)(g r:Nat)(v:Value)(B:List Int)(a:Nat):Prop where
 blk:Blk w g 139 #[.pointer (some ⟨r,0,none⟩)]
 rd:BR w r v B a
 ne:g≠r
 nv:v.ownBlock≠some g
theorem bnew_any(v:Value)(B:List Int)(w:World)(h:RdE u8E w v B)(hb:Byt B) :
 Calls Tryz.prog 63 #[v] w fun e w'=>∃r v',e=.returned (.pointer (some ⟨r,0,none⟩))/\w.heap.size<=r/\BR w' r v' B 0/\(∀k,v'.ownBlock=some k->w.heap.size<=k/\k<w'.heap.size)/\Below w.heap.size w w':=by
 have HL:=Lib.hid (clone_u8 v B w h (by have:=hb.1;omega))
 have HB:=Lib.hid hb
 clear h hb
 go_enter Tryz.func63,Tryz.ntmps63
 go_wp2_with fail
 refine(HL.out).mono ?_
 rintro e w1 ⟨s,rfl,o1,b1⟩
 obtain⟨A1,c1,e1,_,_,_⟩:=o1.form
 rw[e1] at o1 |-
 have O1:=Lib.hid o1
 have hz:=b1.size
 clear o1 e1
 go_wp2_with fail
 refine bodyPost_ret (by simp[results,Tryz.results63,go_sem, *];try rfl) rfl ?_
 refine⟨_,.slice A1 B.length c1,rfl,hz,⟨Blk.new _ _ _,RdE.keep O1.out.rd ((Below.refl _ _).alloc (Nat.le_refl _) _),fun e=>?_,Nat.zero_le _,HB.out⟩,fun k e=>?_,b1.alloc hz _⟩
 ·have:=(O1.out.lt _ e).2;omega
 ·have:=O1.out.lt k e
  refine⟨this.1,?_⟩
  simp;omega
theorem knew_any(v:Value)(B:List Int)(w:World)(h:RdE u8E w v B)(hb:Byt B) :
 Calls Tryz.prog 24 #[v] w fun e w'=>∃g r v',e=.returned (.pointer (some ⟨g,0,none⟩))/\w.heap.size<=g/\w.heap.size<=r/\KC w' g r v' B 0/\(∀k,v'.ownBlock=some k->w.heap.size<=k/\k<w'.heap.size)/\Below w.heap.size w w':=by
 have HL:=Lib.hid (bnew_any v B w h hb)
 clear h hb
 go_enter Tryz.func24,Tryz.ntmps24
 go_wp2_with fail
 refine(HL.out).mono ?_
 rintro e w1 ⟨r,v',rfl,hr,h1,h2,b1⟩
 have H1:=Lib.hid h1
 have H2:=Lib.hid h2
 have hz:=b1.size
 clear h1 h2
 go_wp2_with fail
 refine bodyPost_ret (by simp[results,Tryz.results24,go_sem, *];try rfl) rfl ?_
 have hrl:=H1.out.blk.lt
 refine⟨_,r,v',rfl,hz,hr,⟨Blk.new _ _ _,H1.out.stay ?_ (fun k e=>?_) (by simp),by omega,fun e=>?_⟩,fun k e=>?_,b1.alloc hz _⟩
 ·exact Below.heap_alloc _ _ _ hrl
 ·exact Below.heap_alloc _ _ _ (H2.out k e).2
 ·have:=(H2.out _ e).2;omega
 ·have:=H2.out k e
  refine⟨this.1,?_⟩
  simp;omega
open Go.RowKit
theorem StG.at_{t:TypeId}{a:Value}{rest:List Value}{F:Nat->Prop}{w:World}{g:Nat}{lv:Value}{vs:List Sv}{L:LL}(h:StG t a rest F w g lv vs L){j:Nat}(hj:j<L.length) :
 ∃gl c sA sc,lv=.slice (some ⟨gl,0,none⟩) L.length c/\gl<w.heap.size/\gl≠g/\F gl/\vs[j]?=some (sA,(lvl L j).length,sc)/\w.cell? ⟨gl,j,none⟩=some (.slice sA (lvl L j).length sc)/\w.frozen? ⟨gl,j,none⟩=false /\
  OwnE i64E 0 w (.slice sA (lvl L j).length sc) (lvl L j)/\(∀k,(Value.slice sA (lvl L j).length sc).ownBlock=some k->F k/\k≠gl/\k≠g):=by
 have hj':j<vs.length:=by rw[h.lev.len];exact hj
 have hl:0<vs.length:=by omega
 obtain⟨gl,c,e,_,hg,_,_⟩:=h.lev.row.pos hl
 rw[h.lev.len] at e
 have ol:=h.lev.each j hj'
 have c1:=h.lev.row
 rw[e] at c1
 have c2:=c1.cellAt hj' 0 (by decide)
 rw[show j * slE.k+0=j by show j * 1+0=j;omega] at c2
 have f2:=c1.frozenAt j
 have hap:=h.lev.apart j hj'
 have hfv:=h.lev.fv j hj'
 have hg2:=h.g2 j hj'
 obtain⟨s,hs⟩:∃s,vs[j]=s:=⟨_,rfl⟩
 rw[hs] at ol c2 hap hfv hg2
 obtain⟨sA,sn,sc⟩:=s
 obtain⟨_,_,es,_,_,_⟩:=ol.form
 injection es with es1 es2 es3
 subst es2
 refine⟨gl,c,sA,sc,e,hg,fun e2=>h.g1 (by rw[e,e2];rfl),h.lev.fl gl (by rw[e];rfl),by rw[List.getElem?_eq_getElem hj',hs],c2.trans rfl,f2,ol,fun k hk=>⟨hfv k hk,fun e2=>hap k hk (by rw[e,e2];rfl),fun e2=>hg2 (by rw[<-e2];exact hk)⟩⟩
def fullI(k:Nat)(L:LL):Int:=match fullN k L with|none=>-1|some h=>(h:Int)
theorem fullI_some{k h:Nat}{L:LL}(h1:h<L.length)(h2:room k L.length h<(lvl L h).length)(h3:∀j,j<h->(lvl L j).length<=room k L.length j):fullI k L=h:=by
 unfold fullI
 rw[fullN_is h1 h2 h3]
theorem fullI_none{k:Nat}{L:LL}(h:∀j,j<L.length->(lvl L j).length<=room k L.length j):fullI k L=-1:=by
 unfold fullI
 rw[fullN_is_none h]
theorem full_any{F:Nat->Prop}{g k n led:Nat}{lv:Value}{vs:List Sv}{L:LL}(w:World)(hs:Kst F w g k n led lv vs L)(h2:2<=k)(hk:k<=1000000)(hL:L.length<=1000)(hl:cnt L<=1000000000) :
 Calls Tryz.prog 222 #[.pointer (some ⟨g,0,none⟩)] w fun e w'=>e=.returned (.int .i64 (fullI k L))/\w=w':=by
 have HR:=Lib.hid (fun h hh=>room_any h w hs h2 hk (by omega) hh)
 obtain⟨A,c,elv,hc1,hc2,_⟩:=hs.form
 have c1:=hs.cell1
 have HS:=Lib.hid hs
 have HC:=Lib.hid (fun j=>Nat.le_trans (lvl_le_cnt L j) hl)
 have HRL:=Lib.hid (fun j=>room_le (k:=k) (len:=L.length) (h:=j) h2)
 clear hs
 subst elv
 go_enter Tryz.func222,Tryz.ntmps222
 go_wp2_with fail
 go_loopg [3,4,10] L.length (fun q _ _ i wr=>(∃j:Nat,q=L.length - j/\j<=L.length/\i=.int .i64 (j:Int)/\Hid (∀i,i<j->(lvl L i).length<=room k L.length i))/\w=wr)
 case atStart=>exact⟨⟨0,by omega,by omega,rfl,Lib.hid (fun i hi=>absurd hi (by omega))⟩,rfl⟩
 case round=>
  obtain⟨⟨j,hq,hj,rfl,HI⟩,rfl⟩:=hrel
  have HQ:=Lib.hid hq
  clear hq
  by_cases hjl:j<L.length
  ·obtain⟨gl,cc,sA,sc,elv,hgl,_,_,_,c2,_,_,_⟩:=HS.out.at_ hjl
   injection elv with elv e2 e3
   subst elv;subst e3
   have HB:=Lib.hid (HC.out j)
   have HRJ:=Lib.hid (HR.out j (by omega))
   obtain⟨r,hr⟩:∃r,room k L.length j=r:=⟨_,rfl⟩
   obtain⟨x,hx⟩:∃x,(lvl L j).length=x:=⟨_,rfl⟩
   have hrk:r<=k:=by rw[<-hr];exact HRL.out j
   rw[hr] at HRJ
   rw[hx] at c2 HB
   have hxb:=HB.out
   have HRE:=Lib.hid hr
   have HXE:=Lib.hid hx
   clear hr hx
   by_cases hgt:(x:Int) > (r:Int)
   ·go_wp2_with fail
    refine(HRJ.out).mono ?_
    rintro e w1 ⟨rfl,rfl⟩
    go_wp2_with fail
    refine bodyPost_ret (by simp[results,Tryz.results222,go_sem, *];try rfl) rfl ?_
    exact⟨by rw[fullI_some hjl (by rw[HRE.out,HXE.out];omega) HI.out],rfl⟩
   ·go_wp2_with fail
    refine(HRJ.out).mono ?_
    rintro e w1 ⟨rfl,rfl⟩
    go_wp2_with fail
    go_roundg (L.length - (j+1))
    case measure=>have:=HQ.out;omega
    case rel=>
     refine⟨⟨j+1,rfl,by omega,by go_num,Lib.hid fun i hi=>?_⟩,rfl⟩
     rcases Nat.lt_or_ge i j with h1|h1
     ·exact HI.out i h1
     ·obtain rfl:i=j:=by omega
      rw[HRE.out,HXE.out];omega
  ·have HE:=Lib.hid (fullI_none (k:=k) (L:=L) (fun i hi=>HI.out i (by omega)))
   go_wp2_with fail
   refine bodyPost_ret (by simp[results,Tryz.results222,go_sem, *];try rfl) rfl ?_
   exact⟨by rw[HE.out],rfl⟩
open Go.RowKit
structure PkOk(s:KS):Prop where
 srt:∀j,Srt (lvl s.1 j)
 top:Top s.1
 wt:wt s.1<=281474976710656
 cnt:cnt s.1<=1000000
 led:s.2.1<=4611686018427387904
theorem PkOk.len{s:KS}(h:PkOk s):s.1.length<=49:=top_len h.top h.wt
end Go.Proofs.YtilcnjbpmoijmaaGreat.K
