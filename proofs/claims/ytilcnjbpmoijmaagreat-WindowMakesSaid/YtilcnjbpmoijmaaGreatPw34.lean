/- Parts of a proof. No condition. -/
import Derived.Test.YtilcnjbpmoijmaaGreatPw33
set_option maxRecDepth 100000
set_option maxHeartbeats 16000000
set_option linter.unusedVariables false
set_option linter.unusedSimpArgs false
namespace Go.Proofs.YtilcnjbpmoijmaaGreat.K
open Tryz
open Go.RowKit
variable{F F1:Nat->Prop}{w w' wr:World}{base cg g h j k led n r:Nat}{cv lv:Value}{vs:List Sv}{L:LL}{s s0:KS}{B l:List Int}
structure KC(w:World)(g r:Nat)(v:Value)(B:List Int)(a:Nat):Prop where
 blk:dK w g 139 #[.pointer (some ⟨r,0,none⟩)]
 rd:BR w r v B a
 ne:g≠r
 nv:v.ownBlock≠some g
theorem X8(r:Nat)(v:Value)(B:List Int)(a:Nat)(w:World)(h:BR w r v B a) :
 aH 365 #[.pointer (some ⟨r,0,none⟩)] w fun e w'=>e=.returned (.int .i64 (8 * (B.length:Int) - a))/\∃n,w'=w.drewN n:=by
 obtain⟨A,c,rfl,hc1,hc2,hf⟩:=h.rd.form;have c0:=h.blk.cell 0;have c1:=h.blk.cell 1;have hb1:=h.byt.1;have hat:=h.at_;simp only[aK,aN,aJ] at c0 c1;clear h hf
 go_enter func365,ntmps365
 go_wp2_with fail
 go_quiet (fail)
 go_wp2_with fail;refine bodyPost_ret (by simp[results,Tryz.results365,go_sem, *];try rfl) rfl ?_
 exact⟨rfl,_,rfl⟩
theorem aq7:(List.range 256).all (fun(y:Nat)=>bits .or .u32 0 (bits .and .u8 (y:Int) 1 % 4294967296) == ((y % 2:Nat):Int))=true:=by kernel_rfl
theorem ae5{y:Int}(h:0<=y/\y<=255):bits .or .u32 0 (bits .and .u8 y 1 % 4294967296)=y % 2:=by
 obtain⟨n,rfl⟩:∃n:Nat,y=n:=⟨y.toNat,ae⟩
 have h1:=List.all_eq_true.1 aq7 n (List.mem_range.2 ae)
 have h2:=eq_of_beq h1;rw[h2];omega
theorem group_any(r:Nat)(v:Value)(B:List Int)(a:Nat)(w:World)(h:BR w r v B a) :
 aH 299 #[.pointer (some ⟨r,0,none⟩),.int .i64 1] w fun e w'=>∃q:Int,e=.returned (.tuple #[.int .u32 (iW B a:Nat),.int .i64 q])/\BR w' r v B (qc B a)/\Touch (fun k=>k=r) w w':=by
 have HL:=aI (X8 r v B a w h);have HH:=aI h;obtain⟨A,c,rfl,hc1,hc2,hf⟩:=h.rd.form;have hgw:=h.blk.lt;have c0:=h.blk.cell 0;have c1:=h.blk.cell 1;have f1:=h.blk.frozen 1;have hb1:=h.byt.1;have hat:=h.at_;simp only[aK,aN,aJ] at c0 c1;have HF:=aI hf;clear h hf
 by_cases hlt:a<8 * B.length
 ·have hl8:a / 8<B.length:=ae
  obtain⟨gb,off,rfl,hgb,cb⟩:=HF.o.u8 hl8;have hx:=HH.o.byt.2 _ (bf hl8);obtain⟨x,hxe⟩:=aF (B[a / 8]);rw[hxe] at cb hx;have HX:=aI hxe;clear hxe;have hge:¬8 * (B.length:Int) - a<1:=ae
  go_enter func299,ntmps299
  go_wp2_with fail;refine(HL.o).mono ?_
  rintro e w1 ⟨rfl,n,rfl⟩
  go_wp2_with fail
  go_loopg [6,7,19] 1 (fun q t6 _ t19 wr=>(q=1/\t6=.int .u32 0/\t19=.int .i64 0/\Hid (wr=w.drewN n))\/(q=0/\t6=.int .u32 (iW B a:Nat)/\t19=.int .i64 1/\Hid (BR wr r (Value.slice (some ⟨gb,off,none⟩) B.length c) B (a+1))/\Hid (Touch (fun k=>k=r) w wr)))
  case atStart=>exact .inl ⟨rfl,rfl,rfl,aI rfl⟩
  case round=>
   rcases hrel with⟨hq,rfl,rfl,HW⟩|⟨hq,rfl,rfl,HB,HT⟩
   ·have HQ:=aI hq
    clear hq;obtain⟨⟨rfl⟩⟩:Nonempty (Hid (wr=w.drewN n)):=⟨HW⟩
    go_wp2_with fail
    go_quiet (fail)
    have hy:0<=x / 2 ^ (a % 8)/\x / 2 ^ (a % 8)<=255:=by
     have hp:(0:Int)<2 ^ (a % 8):=Int.pow_pos af
     exact⟨Int.ediv_nonneg hx.1 ae,Int.le_trans (Int.ediv_le_self _ hx.1) hx.2⟩
    have HC:x / 2 ^ (a % 8) % 2=((iW B a:Nat):Int):=by
     unfold iW;rw[if_pos hlt];simp only[List.getD];rw[a_ hl8,Option.getD_some,HX.o];omega
    rw[ae5 hy,HC];clear HC hy;obtain⟨y,hy⟩:=aF (iW B a);rw[hy];have HY:=aI hy;clear hy
    go_wp2_with fail
    go_roundg 0
    case measure=>have:=HQ.o;omega
    case rel=>
     refine .inr ⟨rfl,by rw[HY.o],rfl,aI ?_,aI ?_⟩
     ·exact(HH.o.drewN _).step hlt
     ·exact Touch.setCell (F:=fun k=>k=r) (Touch.drewN (Touch.refl _ _) _) (.inl rfl) _
   ·have hc2:qc B a=a+1:=by unfold qc;rw[if_pos hlt]
    have HC2:=aI hc2;clear hc2 hq;obtain⟨y,hy⟩:=aF (iW B a);rw[hy];have HY:=aI hy;clear hy
    go_wp2_with fail;refine bodyPost_ret (by simp[results,Tryz.results299,go_sem, *];try rfl) rfl ?_
    refine⟨0,by rw[HY.o],?_,HT.o⟩
    rw[HC2.o];exact HB.o
 ·have hge:8 * (B.length:Int) - a<1:=ae
  go_enter func299,ntmps299
  go_wp2_with fail;refine(HL.o).mono ?_
  rintro e w1 ⟨rfl,n,rfl⟩
  go_wp2_with fail;refine bodyPost_ret (by simp[results,Tryz.results299,go_sem, *];try rfl) rfl ?_
  have h1:qc B a=a:=by unfold qc;rw[if_neg hlt]
  have h2:iW B a=0:=by unfold iW;rw[if_neg hlt]
  rw[h1,h2];exact⟨20,rfl,HH.o.drewN _,(Touch.refl _ _).drewN _⟩
theorem aq8(r:Nat)(v:Value)(B:List Int)(a:Nat)(w:World)(h:BR w r v B a) :
 aH 223 #[.pointer (some ⟨r,0,none⟩)] w fun e w'=>∃q:Int,e=.returned (.tuple #[.int .u32 (iW B a:Nat),.int .i64 q])/\BR w' r v B (qc B a)/\Touch (fun k=>k=r) w w':=by
 have HL:=aI (group_any r v B a w h);clear h
 go_enter func223,ntmps223
 go_wp2_with fail;refine(HL.o).mono ?_
 rintro e w1 ⟨q,rfl,h1,h2⟩;have H1:=aI h1;have H2:=aI h2;clear h1 h2
 go_wp2_with fail;refine bodyPost_ret (by simp[results,Tryz.results223,go_sem, *];try rfl) rfl ?_
 exact⟨q,rfl,H1.o,H2.o⟩
theorem X9(g r:Nat)(v:Value)(B:List Int)(a:Nat)(w:World)(h:KC w g r v B a) :
 aH 142 #[.pointer (some ⟨g,0,none⟩)] w fun e w'=>e=.returned (.int .i64 (iW B a:Nat))/\KC w' g r v B (qc B a)/\Touch (fun k=>k=r) w w':=by
 have HL:=aI (aq8 r v B a w h.rd);have c0:=h.blk.cell 0;simp only[aK,aJ] at c0;have HH:=aI h;have hle:=Bj B a;clear h;obtain⟨y,hy⟩:=aF (iW B a);rw[hy] at HL hle;rw[hy];clear hy
 go_enter func142,ntmps142
 go_wp2_with fail;refine(HL.o).mono ?_
 rintro e w1 ⟨q,rfl,h1,h2⟩;have H1:=aI h1;have H2:=aI h2;clear h1 h2
 go_wp2_with fail;refine bodyPost_ret (by simp[results,Tryz.results142,go_sem, *];try rfl) rfl ?_
 refine⟨rfl,⟨?_,H1.o,HH.o.ne,HH.o.nv⟩,H2.o⟩
 exact(H2.o.block g HH.o.blk.lt (fun e=>HH.o.ne e)).trans HH.o.blk
open Tryz
open Go.RowKit
theorem qQ.at_{t:TypeId}{a:Value}{rest:List Value}(h:qQ t a rest F w g lv vs L)(hj:j<L.length) :
 ∃gl c sA sc,lv=.slice (some ⟨gl,0,none⟩) L.length c/\gl<w.heap.size/\gl≠g/\F gl/\vs[j]?=some (sA,(lvl L j).length,sc)/\w.cell? ⟨gl,j,none⟩=some (.slice sA (lvl L j).length sc)/\w.frozen? ⟨gl,j,none⟩=false /\
  dL jq 0 w (.slice sA (lvl L j).length sc) (lvl L j)/\(∀k,(Value.slice sA (lvl L j).length sc).ownBlock=some k->F k/\k≠gl/\k≠g):=by
 have hj':j<vs.length:=by rw[h.gW.len];exact hj
 have hl:0<vs.length:=ae
 obtain⟨gl,c,e,_,hg,_,_⟩:=h.gW.row.pos hl;rw[h.gW.len] at e;have ol:=h.gW.each j hj';have c1:=h.gW.row;rw[e] at c1;have c2:=c1.cellAt hj' 0 af
 rw[show j * Dk.k+0=j by show j * 1+0=j;omega] at c2
 have f2:=c1.frozenAt j;have hap:=h.gW.apart j hj';have hfv:=h.gW.fv j hj';have hg2:=h.g2 j hj';obtain⟨s,hs⟩:=aF (vs[j]);rw[hs] at ol c2 hap hfv hg2;obtain⟨sA,sn,sc⟩:=s;obtain⟨_,_,es,_,_,_⟩:=ol.form;injection es with es1 es2 es3;subst es2;refine⟨gl,c,sA,sc,e,hg,fun e2=>h.g1 (by rw[e,e2];rfl),h.gW.fl gl (by rw[e];rfl),by rw[a_ hj',hs],c2.trans rfl,f2,ol,fun k hk=>⟨hfv k hk,fun e2=>hap k hk (by rw[e,e2];rfl),fun e2=>hg2 (by rw[<-e2];exact hk)⟩⟩
def uu(k:Nat)(L:LL):Int:=match iH k L with|none=>-1|some h=>(h:Int)
theorem TN(h1:h<L.length)(h2:room k L.length h<(lvl L h).length)(h3:∀j,j<h->(lvl L j).length<=room k L.length j):uu k L=h:=by
 unfold uu;rw[ac7 h1 h2 h3]
theorem TP(h:∀j,j<L.length->(lvl L j).length<=room k L.length j):uu k L=-1:=by
 unfold uu;rw[xA h]
theorem G8(w:World)(hs:xB F w g k n led lv vs L)(h2:2<=k)(hk:k<=1000000)(hL:L.length<=1000)(hl:cnt L<=1000000000) :
 aH 222 #[.pointer (some ⟨g,0,none⟩)] w fun e w'=>e=.returned (.int .i64 (uu k L))/\w=w':=by
 have HR:=aI (fun h hh=>OD h w hs h2 hk ae hh)
 obtain⟨A,c,Am,hc1,hc2,_⟩:=hs.form;have c1:=hs.cell1;have HS:=aI hs;have HC:=aI (fun j=>bJ (iG L j) hl)
 have HRL:=aI (fun j=>room_le (k:=k) (len:=L.length) (h:=j) h2)
 clear hs;subst Am
 go_enter func222,ntmps222
 go_wp2_with fail
 go_loopg [3,4,10] L.length (fun q _ _ i wr=>(∃j:Nat,q=L.length - j/\j<=L.length/\i=.int .i64 (j:Int)/\Hid (∀i,i<j->(lvl L i).length<=room k L.length i))/\w=wr)
 case atStart=>exact⟨⟨0,ae,ae,rfl,aI (fun i hi=>absurd hi ae)⟩,rfl⟩
 case round=>
  obtain⟨⟨j,hq,hj,rfl,HI⟩,rfl⟩:=hrel;have HQ:=aI hq;clear hq
  by_cases hjl:j<L.length
  ·obtain⟨gl,cc,sA,sc,Am,hgl,_,_,_,c2,_,_,_⟩:=HS.o.at_ hjl
   injection Am with Am e2 e3;subst Am;subst e3;have HB:=aI (HC.o j);have HRJ:=aI (HR.o j ae)
   obtain⟨r,hr⟩:=aF (room k L.length j);obtain⟨x,hx⟩:=aF ((lvl L j).length);have hrk:r<=k:=by rw[<-hr];exact HRL.o j
   rw[hr] at HRJ;rw[hx] at c2 HB;have hxb:=HB.o;have HRE:=aI hr;have HXE:=aI hx;clear hr hx
   by_cases hgt:(x:Int) > (r:Int)
   ·go_wp2_with fail
    refine(HRJ.o).mono ?_
    rintro e w1 ⟨rfl,rfl⟩
    go_wp2_with fail;refine bodyPost_ret (by simp[results,Tryz.results222,go_sem, *];try rfl) rfl ?_
    exact⟨by rw[TN hjl (by rw[HRE.o,HXE.o];omega) HI.o],rfl⟩
   ·go_wp2_with fail
    refine(HRJ.o).mono ?_
    rintro e w1 ⟨rfl,rfl⟩
    go_wp2_with fail
    go_roundg (L.length - (j+1))
    case measure=>have:=HQ.o;omega
    case rel=>
     refine⟨⟨j+1,rfl,ae,ai,aI fun i hi=>?_⟩,rfl⟩
     rcases bV i j with h1|h1
     ·exact HI.o i h1
     ·obtain rfl:i=j:=ae
      rw[HRE.o,HXE.o];omega
  ·have HE:=aI (TP (k:=k) (L:=L) (fun i hi=>HI.o i ae))
   go_wp2_with fail;refine bodyPost_ret (by simp[results,Tryz.results222,go_sem, *];try rfl) rfl ?_
   exact⟨by rw[HE.o],rfl⟩
open Tryz
open Go.RowKit
structure kS(s:KS):Prop where
 iU:∀j,r_ (lvl s.1 j)
 top:QD s.1
 wt:wt s.1<=281474976710656
 cnt:cnt s.1<=1000000
 led:s.2.1<=4611686018427387904
theorem kS.len(h:kS s):s.1.length<=49:=aq2 h.top h.wt
theorem ae6(h:r_ l):r_ (GM l):=h.sublist (List.drop_sublist ..)
theorem ae7(hh:h<L.length)(c j:Nat):lvl (mM L h c) j=if j=h+1 then insL (lvl L (h+1)) (upV (lvl L h) c) else if j=h then GM (lvl L h) else lvl L j:=by
 unfold mM;rw[wS,oK _ _ _ _ hh,oK _ _ _ _ hh,if_neg (show ¬h+1=h by omega)]
theorem kS.step(hp:kS s)(e:iH k s.1=some h):kS (uo B h s):=by
 obtain⟨h1,h2,_⟩:=kR e;have hr:=Ll (k:=k) h1;have hc:=Jt h1 (iW B s.2.2);refine⟨fun j=>?_,hp.top.pack h1 ae _,?_,?_,?_⟩
 ·show r_ (lvl (mM s.1 h (iW B s.2.2)) j)
  rw[ae7 h1]
  split
  ·exact GI (hp.iU _) _
  ·split
   ·exact ae6 (hp.iU _)
   ·exact hp.iU j
 ·show Go.Proofs.YtilcnjbpmoijmaaGreat.K.wt (mM s.1 h (iW B s.2.2))<=_
  rw[Ov h1];exact hp.wt
 ·show Go.Proofs.YtilcnjbpmoijmaaGreat.K.cnt (mM s.1 h (iW B s.2.2))<=_
  have:=hp.cnt;omega
 ·show min _ _<=_
  omega
theorem _root_.Go.Proofs.YtilcnjbpmoijmaaGreat.dL.ef{α:Type}{E:DN α}{c:Nat}{A:Option Addr}{l:List α}(h:dL E base w (.slice A n c) l):kG E w A l:=by
 obtain⟨A',c',e,_,_,hf⟩:=h.form;injection e with e;subst e;exact hf
theorem _root_.Go.Proofs.YtilcnjbpmoijmaaGreat.dL.by3{ga sc m:Nat}(h:dL jq base w (.slice (some ⟨ga,0,none⟩) l.length sc) l)(hm:m<=l.length) :
 iM jq w (.slice (if sc=m then some ⟨ga,0,none⟩ else some ⟨ga,m,none⟩) (l.length - m) (sc - m)) (l.drop m):=by
 obtain⟨A',c',e,h1,h2,hf⟩:=h.form;injection e with e1 e2 e3;subst e1;subst e3;rw[<-bu]
 by_cases hc:sc=m
 ·rw[if_pos hc]
  have:l.drop m=[]:=List.drop_eq_nil_of_le ae
  rw[this];exact iM.jY ag ae kG.nil
 ·rw[if_neg hc]
  refine iM.jY (by rw[bu];omega) ae ?_
  have:=hf.drop rfl m
  rwa [show 0+m * jq.k=m by show 0+m * 1=m;omega] at this
theorem aq9(hh:h<=48):IntKind.u64.wrap (1 * 2 ^ h)=((2 ^ h:Nat):Int):=by
 have h1:2 ^ h<=281474976710656:=Nat.pow_le_pow_right af hh
 have h2:(2:Int) ^ h=((2 ^ h:Nat):Int):=by rw[Int.natCast_pow];rfl
 rw[Int.one_mul,h2,dD];generalize 2 ^ h=z at h1;omega
def upT(l:List Int)(c i:Nat):List Int:=(List.range i).map fun i=>l.getD (2 * i+c) 0
theorem ae8(l:List Int)(c i:Nat):upT l c (i+1)=upT l c i++[l.getD (2 * i+c) 0]:=by unfold upT;rw[List.range_succ,List.map_append];rfl
theorem TR(l:List Int)(c i:Nat):(upT l c i).length=i:=by simp[upT]
theorem ar0(l:List Int)(c:Nat):upT l c (l.length / 2)=upV l c:=rfl
theorem KC.stay{w w':World}{g r:Nat}{v:Value}{B:List Int}{a:Nat}(h:KC w g r v B a)(hg:w'.heap[g]?=w.heap[g]?)(hr:w'.heap[r]?=w.heap[r]?)(hk:∀k,v.ownBlock=some k->w'.heap[k]?=w.heap[k]?)(hz:w.heap.size<=w'.heap.size):KC w' g r v B a:=
 ⟨hg.trans h.blk,h.rd.stay hr hk hz,h.ne,h.nv⟩
structure Po(F:Nat->Prop)(w:World)(g k n cg r:Nat)(cv:Value)(B:List Int)(s0:KS)(F1:Nat->Prop)(wr:World)(lv:Value)(vs:List Sv)(s:KS):Prop where
 st:xB F1 wr g k n s.2.1 lv vs s.1
 co:KC wr cg r cv B s.2.2
 ok:kS s
 eq:jo k B s0=jo k B s
 sub:∀k,F1 k->F k\/w.heap.size<=k
 sup:∀k,F k->F1 k
 touch:Touch (fun k=>F k\/k=r) w wr
structure Jw(F:Nat->Prop)(w:World)(cg r:Nat)(cv:Value):Prop where
 fg:¬F cg
 fr:¬F r
 fv:∀k,cv.ownBlock=some k->¬F k/\k<w.heap.size
 lg:cg<w.heap.size
 lr:r<w.heap.size
theorem ae9(w:World)(hs:xB F w g k n s0.2.1 lv vs s0.1)(hc:KC w cg r cv B s0.2.2)(hf:Jw F w cg r cv)(hok:kS s0)(h2:2<=k)(hk:k<=1000000) :
 aH 141 #[.pointer (some ⟨g,0,none⟩),.func (.func 142) #[.pointer (some ⟨cg,0,none⟩)] #[]] w fun e w'=>e=.returned (.tuple #[])/\∃F' GV vs',Po F w g k n cg r cv B s0 F' w' GV vs' (jo k B s0)/\iH k (jo k B s0).1=none:=by
 have HP0:Hid (Po F w g k n cg r cv B s0 F w lv vs s0):=aI ⟨hs,hc,hok,rfl,fun k hk=>.inl hk,fun k hk=>hk,Touch.refl _ _⟩
 have HFU:=aI (G8 w hs h2 hk (by have:=hok.len;omega) (by have:=hok.cnt;omega))
 have DZ:=aI hf;clear hs hc hok hf
 go_enter func141,ntmps141
 go_wp2_with fail;refine(HFU.o).mono ?_
 rintro e w1 ⟨rfl,rfl⟩
 go_wp2_with fail
 go_loopg [4,5,6,7,8,9,29] (cnt s0.1) (fun q t4 _ _ _ _ _ _ wr=>∃F1 X7 vs1 s,q=cnt s.1/\t4=.int .i64 (uu k s.1)/\Hid (Po F w g k n cg r cv B s0 F1 wr X7 vs1 s))
 case atStart=>exact⟨F,lv,vs,s0,rfl,rfl,HP0⟩
 case round=>
  obtain⟨F1,X7,vs1,s,hq,rfl,Pq⟩:=hrel;have HQ:=aI hq;clear hq
  cases hfu:iH k s.1 with
  | none=>
   have e1:uu k s.1=-1:=by unfold uu;rw[hfu]
   rw[e1];have HFN:=aI hfu;clear hfu e1
   go_wp2_with fail
   go_end0
   refine⟨rfl,F1,X7,vs1,?_⟩
   have e2:=Pq.o.eq;rw[qf HFN.o] at e2;rw[e2];exact⟨Pq.o,HFN.o⟩
  | some h=>
   have e1:uu k s.1=h:=by unfold uu;rw[hfu]
   rw[e1];obtain⟨hh,hgt,_⟩:=kR hfu;have HFN:=aI hfu;clear hfu e1;have hlen:=Pq.o.ok.len;have hrg:=Ll (k:=k) hh;obtain⟨gl,cc,sA,sc,Am,hgl,ae4,Pn,hvs,c2,f2,ol,hown⟩:=Pq.o.st.at_ hh;subst Am;have k1:=Pq.o.st.cell1;have hx2:2<=(lvl s.1 h).length:=ae
   have hxc:=iG s.1 h;have hcn:=Pq.o.ok.cnt;obtain⟨l,hl⟩:=aF (lvl s.1 h);rw[hl] at c2 ol hown hvs hx2 hxc;have HL:=aI hl;obtain⟨ga,c5,es,_,ci4,hc5,hc6⟩:=ol.pos ae
   injection es with es1 es2 es3;subst es1;subst es3;have OL:=aI ol;have HOWN:=aI hown;have HVS:=aI hvs;have Vy:=aI (X9 cg r cv B s.2.2 wr Pq.o.co);have HCO:=aI Pq.o.co;clear hl ol hown hvs hgt hrg;have eg:=enters_of func142 (by kernel_rfl) rfl
   have zK:∀kk,F1 kk->kk≠r/\kk≠cg/\cv.ownBlock≠some kk:=fun kk hk1=>by
    have a1:=DZ.o.lr;have a2:=DZ.o.lg
    rcases Pq.o.sub kk hk1 with h1|h1
    ·exact⟨fun e=>DZ.o.fr (e▸h1),fun e=>DZ.o.fg (e▸h1),fun e=>(DZ.o.fv kk e).1 h1⟩
    ·exact⟨by omega,ae,fun e=>by have:=(DZ.o.fv kk e).2;omega⟩
   have HFR:=aI zK;clear zK
   go_wp2_with fail;refine(Vy.o).mono ?_
   rintro e w2 ⟨rfl,bo7,ht2⟩;have by4:=aI bo7;have af0:Hid (xB F1 w2 g k n s.2.1 (.slice (some ⟨gl,0,none⟩) s.1.length cc) vs1 s.1):=aI (Pq.o.st.stay (fun kk hk1=>ht2.block kk (Pq.o.st.low kk hk1) (HFR.o kk hk1).1) ht2.size)
   have bg0:Hid (Touch (fun k=>F k\/k=r) w w2):=aI (Pq.o.touch.trans ht2 fun i hi=>.inl (.inr hi))
   have xq:=aI Pq.o.ok;have HEQ:=aI Pq.o.eq;have ar1:=aI Pq.o.sub;have by5:=aI Pq.o.sup;have C2:=aI ((cZ (a:=⟨gl,h,none⟩) (ht2.block gl hgl (HFR.o gl Pn).1)).trans c2);have FF2:=aI ((World.frozen?_of_block (a:=⟨gl,h,none⟩) (ht2.block gl hgl (HFR.o gl Pn).1)).trans f2);have AQ:gl<w2.heap.size:=bF hgl ht2.size;have ci5:g<w2.heap.size:=af0.o.blk.lt;have OL2:Hid (dL jq 0 w2 (.slice (some ⟨ga,0,none⟩) l.length sc) l):=aI (OL.o.stay fun kk e=>ht2.block kk (OL.o.lt kk e).2 (HFR.o kk (HOWN.o kk e).1).1)
   have by6:=Bj B s.2.2;obtain⟨y,hy⟩:=aF (iW B s.2.2);rw[hy] at by6 |-;have HY:=aI hy;have hz2:=ht2.size;have hlc:l.length<=1000000:=ae
   clear bo7 ht2 hy Vy Pq OL HCO k1 c2 f2 hgl hz2;obtain⟨i0,hi0,hiz,his,hib⟩:=info_parts be6;have HI:=aI hi0;have HZ:=aI hiz;have HSZ:=aI his;have HBY:=aI hib;clear hi0 hiz his hib
   go_wp2_with fail
   go_loopg [8,9,29] (l.length / 2) (fun q u _ i wx=>∃j:Nat,q=l.length / 2 - j/\j<=l.length / 2/\i=.int .i64 (j:Int)/\Hid (dL jq w2.heap.size wx u (upT l y j))/\Hid (Below w2.heap.size w2 wx))
   case atStart=>exact⟨0,rfl,ae,rfl,aI (dL.nil_ _ _),aI (aO _ _)⟩
   case round=>
    obtain⟨j,hq,hj,rfl,HO,HB⟩:=hrel;have Cf:=aI hq;clear hq
    by_cases hjl:j<l.length / 2
    ·have hpos:2 * j+y<l.length:=ae
     have HL2:=aI OL2.o.ef;obtain⟨ga',off,eA,hga,ca⟩:=(HL2.o.keep HB.o).i64 hpos;injection eA with eA;injection eA with eA1 eA2;subst eA1;subst eA2;rw[Nat.zero_add] at ca;have hul:(upT l y j).length=j:=TR l y j;have HUS:Hid (upT l y (j+1)=upT l y j++[l[2 * j+y]]):=aI (by rw[ae8,List.getD,a_ hpos];rfl)
     obtain⟨x,hx⟩:=aF (l[2 * j+y]);rw[hx] at ca HUS;obtain⟨u,hu⟩:=aF (upT l y j);rw[hu] at HO hul HUS;have hzx:=HB.o.size;obtain⟨a5,c5,rfl,_,_,_⟩:=HO.o.form;rw[hul] at HO |-;clear hx hu
     go_wp2_with (at_builtin;refine jJ jq (ts:=182) i0 _ 8 underlying182 HI.o HZ.o HSZ.o HBY.o rfl af  af rfl (.tmp 32) (.tmp 40) rfl w2.heap.size (.slice a5 j c5) u rfl (HO.o.alloc _) _ [x] rfl (iM.fK (E:=jq) _ x _ rfl _ rfl _ rfl) ah  ah ?_;intro v8 w8 o8 g8 a8)
     have Ir:Hid (Below w2.heap.size w2 w8):=aI ((HB.o.alloc hzx _).grown g8 ah (fun k hk=>(HO.o.lt k hk).1))
     have O8:=aI o8;clear o8 g8 a8
     go_wp2_with fail
     go_roundg (l.length / 2 - (j+1))
     case measure=>have:=Cf.o;omega
     case rel=>exact⟨j+1,rfl,ae,ai,aI (by rw[HUS.o];exact O8.o),Ir⟩
    ·obtain rfl:j=l.length / 2:=ae
     rw[ar0] at HO;have hzx:=HB.o.size;have K1:Hid (wr.cell? ⟨g,1,none⟩=some (.slice (some ⟨gl,0,none⟩) s.1.length cc)):=aI (af0.o.keep HB.o).cell1;have C3:Hid (wr.cell? ⟨gl,h,none⟩=some _):=aI ((cZ (a:=⟨gl,h,none⟩) (HB.o.block gl AQ)).trans C2.o);have F3:Hid (wr.frozen? ⟨gl,h,none⟩=false):=aI ((World.frozen?_of_block (a:=⟨gl,h,none⟩) (HB.o.block gl AQ)).trans FF2.o);have OL3:=aI (OL2.o.keep HB.o);have hgr:g<wr.heap.size:=ae
     have af1:gl<wr.heap.size:=ae
     obtain⟨m,hm⟩:=aF (2 * (l.length / 2));have HW:Hid (IntKind.i64.wrap (2 * ((l.length:Int) / 2))=(m:Int)):=aI (by rw[IntWalk.i64_in _ ae];omega)
     have hml:m<=l.length:=ae
     have hmi:(m:Int)<=(l.length:Int):=ae
     have HM:=aI hm;have HRD:=aI (OL3.o.by3 hml);clear hm
     go_upto_region 12 with fail;have mW:=aI (fun(w':World) (hS':Below wr.heap.size wr w')=>(aP ((hS'.cell (p:=⟨g,1,none⟩) hgr).trans K1.o) (HW.o)))
     refine KO (fun w'=>Below wr.heap.size wr w') 11 (KI 0 9 (KJ 9 (KI 10 1 (KJ 11 [])))) ((aO _ _).drew) ?_
     iterate 9 refine uF ?_
     refine Iq fun K hK=>?_
     go_simp;refine(Bv _ (l.drop m) _ (HRD.o.keep (aO _ _).drew) (by rw[bu];omega)).mono ?_
     rintro e w7 ⟨⟨A7,n7,c7⟩,rfl,o7,b7⟩;obtain⟨_,_,es,_,_,_⟩:=o7.form;injection es with _ es2 _;rw[bu] at es2;subst es2;have AZ:Below wr.heap.size wr w7:=((aO wr.heap.size wr).drew).trans b7;have O7:=aI o7;clear o7 b7;simp only[jr];refine hK _ _ (AZ) ?_
     clear hK K;refine uF ?_
     refine KN fun K hK=>?_
     have c9:=(cZ (a:=⟨gl,h,none⟩) (AZ.block gl af1)).trans C3.o;have f9:=(World.frozen?_of_block (a:=⟨gl,h,none⟩) (AZ.block gl af1)).trans F3.o
     go_simp;refine hK _ _ ?_
     clear hK K;refine ja ?_
     clear c9 f9;generalize (if sc=m then some (⟨ga,0,none⟩:Addr) else some (⟨ga,m,none⟩:Addr))=oA
     have bg1:=af0.o.keep HB.o;have hv3:h<vs1.length:=by rw[bg1.gW.len];exact hh
     have by7:vs1[h]=(some ⟨ga,0,none⟩,l.length,sc):=by
      have:=HVS.o;rw[a_ hv3] at this;exact Option.some.inj this
     have hodd:l.drop m=GM (lvl s.1 h):=by rw[HL.o,<-HM.o];rfl
     have gW:=qQ.level (s':=(A7,l.length - m,c7)) (l':=GM (lvl s.1 h)) (w1:=w7) bg1 hh rfl (by rw[<-hodd];exact O7.o.more (df _)) (fun kk h1 _=>AZ.block kk h1) AZ.size (.inr fun kk e=>(O7.o.lt kk e).1)
     have tJ:=aI gW;have HT7:Hid (Touch (fun k=>F k\/k=r) w (w7.setCell ⟨gl,h,none⟩ (jr (A7,l.length - m,c7)))):=aI (Touch.setCell ((bg0.o.trans (Touch.of_below (F:=fun _=>False) HB.o (aS _)) (fun _ hf=>hf.elim)).trans (Touch.of_below (F:=fun _=>False) AZ (aS _)) (fun _ hf=>hf.elim)) (by
      rcases ar1.o gl Pn with h1|h1
      ·exact .inl (.inl h1)
      ·exact .inr h1) _)
     have ay0:∀kk,(jr (A7,l.length - m,c7)).ownBlock=some kk->wr.heap.size<=kk:=fun kk e=>(O7.o.lt kk e).1
     have VC:=aI ay0;have HO8:Hid (dL jq w2.heap.size (w7.setCell ⟨gl,h,none⟩ (jr (A7,l.length - m,c7))) u8 (upV l y)):=aI ((HO.o.keep AZ).far (fun e=>by have:=(HO.o.lt gl e).1;omega) _)
     have bo8:KC (w7.setCell ⟨gl,h,none⟩ (jr (A7,l.length - m,c7))) cg r cv B (qc B s.2.2):=by
      have hb:∀kk,kk<w2.heap.size->kk≠gl->(w7.setCell ⟨gl,h,none⟩ (jr (A7,l.length - m,c7))).heap[kk]?=w2.heap[kk]?:=fun kk h1 h2=>
       (bM w7 ⟨gl,h,none⟩ _ kk h2).trans ((AZ.block kk ae).trans (HB.o.block kk h1))
      have hzw:w.heap.size<=w2.heap.size:=bg0.o.size;have a1:=DZ.o.lr;have a2:=DZ.o.lg;have a3:=HFR.o gl Pn;have YN:=AZ.size;refine by4.o.stay (hb cg ae (fun e=>a3.2.1 e.symm)) (hb r ae (fun e=>a3.1 e.symm)) (fun kk e=>hb kk (by have:=(DZ.o.fv kk e).2;omega) (fun e2=>a3.2.2 (by rw[e,e2]))) ah
     have bg2:=aI bo8;have YN:=AZ.size;have hzw:w.heap.size<=w2.heap.size:=bg0.o.size;obtain⟨w8,hw8⟩:∃x,w7.setCell ⟨gl,h,none⟩ (jr (A7,l.length - m,c7))=x:=⟨_,rfl⟩;rw[hw8] at tJ HT7 HO8 bg2;have hz8:w8.heap.size=w7.heap.size:=by rw[<-hw8];simp
     show Exit.then _ _ Exit.normal _ (w7.setCell ⟨gl,h,none⟩ (jr (A7,l.length - m,c7)))
     rw[hw8];clear gW hw8 ay0 bo8 bg1 AZ O7 HRD OL3 K1 C3 F3 hodd by7 hv3;have k3:=tJ.o.Dl;have f3:=tJ.o.blk.frozen 3;have Pv:=xq.o.led;have bo9:h<=48:=ae
     obtain⟨p,hp⟩:=aF (2 ^ h);have hpb:p<=281474976710656:=by rw[<-hp];exact Nat.pow_le_pow_right af bo9
     have HPW:Hid (IntKind.u64.wrap (1 * 2 ^ h)=(p:Int)):=aI (by rw[<-hp];exact aq9 bo9)
     have HPE:=aI hp;clear hp
     go_upto_region 13 with fail;have mW:=aI (fun(w':World) (hS':Below w8.heap.size w8 w')=>(aP (HPW.o) ((hS'.cell (p:=⟨g,3,none⟩) tJ.o.blk.lt).trans k3)))
     refine KO (fun w'=>Below w8.heap.size w8 w') 11 (KI 0 9 (plp 9 1 (KI 10 1 (KJ 11 [])))) ((aO _ _).drew) ?_
     iterate 9 refine uF ?_
     refine Rl ?_
     refine uF ?_
     refine KN fun K hK=>?_
     have k9:(w8.drew).cell? ⟨g,3,none⟩=_:=k3;have f9:(w8.drew).frozen? ⟨g,3,none⟩=false:=f3
     go_simp;refine hK _ _ ?_
     clear hK K;refine ja ?_
     have HVV:min (IntKind.u64.wrap ((s.2.1:Int)+IntKind.u64.wrap (2 ^ h))) 4611686018427387904=((min (s.2.1+p) 4611686018427387904:Nat):Int):=by
      have e1:=HPW.o;rw[Int.one_mul] at e1;rw[e1,dD];omega
     rw[HVV];have TS:xB _ ((w8.setCell ⟨g,3,none⟩ (.int .u64 (min (s.2.1+p) 4611686018427387904:Nat))).drew) g k n (min (s.2.1+p) 4611686018427387904) _ _ _:=(tJ.o.be3 _).keep (aO _ _).drew;have bp0:=aI TS;have bp1:=af0.o.fg;have HT9:Hid (Touch (fun k=>F k\/k=r) w ((w8.setCell ⟨g,3,none⟩ (.int .u64 (min (s.2.1+p) 4611686018427387904:Nat))).drew)):=aI (Touch.drew (Touch.setCell HT7.o (by
      rcases ar1.o g bp1 with h1|h1
      ·exact .inl (.inl h1)
      ·exact .inr h1) _))
     have hub:∀kk,u8.ownBlock=some kk->w2.heap.size<=kk/\kk<wr.heap.size:=HO.o.lt;have Zv:Hid (dL jq w2.heap.size ((w8.setCell ⟨g,3,none⟩ (.int .u64 (min (s.2.1+p) 4611686018427387904:Nat))).drew) u8 (upV l y)):=aI ((HO8.o.far (fun e=>by have:=(hub g e).1;omega) _).drew)
     have bp2:KC ((w8.setCell ⟨g,3,none⟩ (.int .u64 (min (s.2.1+p) 4611686018427387904:Nat))).drew) cg r cv B (qc B s.2.2):=by
      have hb:∀kk,kk≠g->((w8.setCell ⟨g,3,none⟩ (.int .u64 (min (s.2.1+p) 4611686018427387904:Nat))).drew).heap[kk]?=w8.heap[kk]?:=fun kk h2=>bM w8 ⟨g,3,none⟩ _ kk h2
      have a3:=HFR.o g bp1;exact bg2.o.stay (hb cg (fun e=>a3.2.1 e.symm)) (hb r (fun e=>a3.1 e.symm)) (fun kk e=>hb kk (fun e2=>a3.2.2 (by rw[e,e2]))) (by simp[World.drew])
     have bp3:=aI bp2;have U8:((w8.setCell ⟨g,3,none⟩ (.int .u64 (min (s.2.1+p) 4611686018427387904:Nat))).drew).heap.size=w7.heap.size:=by rw[<-hz8];simp[World.drew]
     obtain⟨w9,Vo⟩:∃x,(w8.setCell ⟨g,3,none⟩ (.int .u64 (min (s.2.1+p) 4611686018427387904:Nat))).drew=x:=⟨_,rfl⟩;rw[Vo] at bp0 HT9 Zv bp3 U8;show Exit.then _ _ Exit.normal _ ((w8.setCell ⟨g,3,none⟩ (.int .u64 (min (s.2.1+p) 4611686018427387904:Nat))).drew)
     rw[Vo];clear Vo TS bp2 HVV k3 f3 tJ HT7 HO8 bg2;have hfx:∀kk,(F1 kk\/(jr (A7,l.length - m,c7)).ownBlock=some kk)->u8.ownBlock≠some kk:=fun kk h1 e=>by
      have h4:=hub kk e
      rcases h1 with h1|h1
      ·have:=af0.o.low kk h1;omega
      ·have:=VC.o kk h1;omega
     have has:Aside (fun kk=>F1 kk\/(jr (A7,l.length - m,c7)).ownBlock=some kk) w9 u8 (upV l y):=Aside.uK Zv.o fun kk e h1=>hfx kk h1 e
     have hl1:lvl (s.1.set h (GM (lvl s.1 h))) (h+1)=lvl s.1 (h+1):=by rw[oK _ _ _ _ hh,if_neg ae]
     have ad9:=aI (put_any (h+1) u8 (upV l y) w9 bp0.o has (by rw[hl1];exact xq.o.iU _) ae (by rw[bK];omega) (by rw[hl1];have:=iG s.1 (h+1);omega) (by rw[sZ];omega))
     have HPS:Hid (vJ (s.1.set h (GM (lvl s.1 h))) (h+1) (upV l y)=(uo B h s).1):=aI (by rw[<-HL.o,<-HY.o];rfl)
     have HLD:Hid (min (s.2.1+p) 4611686018427387904=(uo B h s).2.1):=aI (by rw[<-HPE.o];rfl)
     have by9:Hid (qc B s.2.2=(uo B h s).2.2):=aI rfl;have bp4:=aI (xq.o.step (B:=B) HFN.o);have HCN:=aI (rG (B:=B) HFN.o);have bz0:=aI (HEQ.o.trans (GR (B:=B) HFN.o));have ci6:wr.heap.size<=w7.heap.size:=YN;have HNQ:=HQ;clear has hfx hl1 hub
     go_wp2_with fail;refine(ad9.o).mono ?_
     rintro e w10 ⟨rfl,F3,lv3,vs3,q1,q2,q3,q4⟩;have Q1:=aI q1;have Q2:=aI q2;have Q4:=aI q4;rw[HPS.o,HLD.o] at q3;have Q3:=aI q3;have bg3:=bp4.o;have bz1:=aI (G8 w10 q3 h2 hk (by have:=bg3.len;omega) (by have:=bg3.cnt;omega))
     clear q1 q2 q3 q4 bg3 ad9
     go_wp2_with fail;refine(bz1.o).mono ?_
     rintro e w11 ⟨rfl,rfl⟩
     go_wp2_with fail
     go_roundg (cnt (uo B h s).1)
     case measure=>have:=HQ.o;have:=HCN.o;omega
     case rel=>
      refine⟨F3,lv3,vs3,uo B h s,rfl,rfl,aI ⟨Q3.o,?_,bp4.o,bz0.o,?_,?_,?_⟩⟩
      ·rw[<-by9.o]
       have a1:=DZ.o.lr;have a2:=DZ.o.lg;have hn:∀kk,kk<w.heap.size->(∀k1,F1 k1->kk≠k1)->w10.heap[kk]?=w9.heap[kk]?:=fun kk h1 h2=>Q4.o.block kk ae fun h3=>by
        rcases h3 with h3|h3
        ·exact h2 kk h3 rfl
        ·have:=VC.o kk h3;omega
       exact bp3.o.stay (hn cg a2 fun k1 h1 e=>(HFR.o k1 h1).2.1 e.symm) (hn r a1 fun k1 h1 e=>(HFR.o k1 h1).1 e.symm) (fun kk e=>hn kk (DZ.o.fv kk e).2 fun k1 h1 e2=>(HFR.o k1 h1).2.2 (by rw[e,e2])) Q4.o.size
      ·intro kk h3
       rcases Q1.o kk h3 with h4|h4
       ·rcases h4 with h4|h4
        ·exact ar1.o kk h4
        ·have:=VC.o kk h4
         exact .inr ae
       ·exact .inr ae
      ·exact fun kk h3=>Q2.o kk (.inl (by5.o kk h3))
      ·refine HT9.o.trans Q4.o fun kk h3=>?_
       rcases h3 with h4|h4
       ·rcases ar1.o kk h4 with h5|h5
        ·exact .inl (.inl h5)
        ·exact .inr h5
       ·have:=VC.o kk h4
        exact .inr ae
open Tryz
open Go.RowKit
theorem Jw.next(h:Jw F w cg r cv)(hs:∀k,F1 k->F k\/w.heap.size<=k)(hz:w.heap.size<=wr.heap.size):Jw F1 wr cg r cv:=by
 have a1:=h.lr;have a2:=h.lg;refine⟨fun e=>?_,fun e=>?_,fun k e=>⟨fun e2=>?_,?_⟩,ae,ae⟩
 ·rcases hs cg e with e|e
  ·exact h.fg e
  ·omega
 ·rcases hs r e with e|e
  ·exact h.fr e
  ·omega
 ·have:=h.fv k e
  rcases hs k e2 with e3|e3
  ·exact this.1 e3
  ·omega
 ·have:=(h.fv k e).2;omega
theorem KC.touch{a:Nat}(h:KC w cg r cv B a)(hf:Jw F w cg r cv)(ht:Touch F w w'):KC w' cg r cv B a:=
 h.stay (ht.block cg hf.lg hf.fg) (ht.block r hf.lr hf.fr) (fun k e=>ht.block k (hf.fv k e).2 (hf.fv k e).1) ht.size
theorem Po.back{F':Nat->Prop}(h:Po F1 wr g k n cg r cv B s0 F' w' lv vs s)
 (h1:∀k,F1 k->F k\/w.heap.size<=k) (h2:∀k,F k->F1 k) (ht:Touch F w wr):Po F w g k n cg r cv B s0 F' w' lv vs s:=by
 have hz:=ht.size;refine⟨h.st,h.co,h.ok,h.eq,fun kk e=>?_,fun kk e=>h.sup kk (h2 kk e),?_⟩
 ·rcases h.sub kk e with e|e
  ·exact h1 kk e
  ·exact .inr ae
 ·refine(ht.mono (G:=fun k=>F k\/k=r) fun _ hi=>.inl hi).trans h.touch fun i hi=>?_
  rcases hi with hi|hi
  ·rcases h1 i hi with e|e
   ·exact .inl (.inl e)
   ·exact .inr e
  ·exact .inl (.inr hi)
theorem Px(h:∀i,r_ (lvl L i))(j:Nat)(vs:List Int):∀i,r_ (lvl (vJ L j vs) i):=fun i=>by
 rw[wS]
 split
 ·exact GI (h _) _
 ·exact h i
theorem af2{a:Nat}(h:kS (L,led,a))(v:Int)(c:Nat)(hc:wt L+c<=281474976710656)(hn:cnt L<=900000):kS (nT L v c,led,a):=by
 refine⟨?_,h.top.add v c,?_,?_,h.led⟩
 ·exact Bo (P:=fun L=>∀i,r_ (lvl L i)) (fun L h hp=>Px hp h [v]) 64 0 c L h.iU
 ·show wt (nT L v c)<=_
  rw[Vs _ _ ae];exact hc
 ·show cnt (nT L v c)<=_
  have:=ac8 L v c;omega
open Tryz
open Go.RowKit
open Tryz
open Go.RowKit
theorem xC(h:j<L.length):su 1 (L.take (j+1))=su 1 (L.take j)+(lvl L j).length * 2 ^ j:=by
 rw[bg h,p_,bG,Nat.min_eq_left ae,nZ h]
 simp[su]
theorem Du(L:LL)(j:Nat):su 1 (L.take j)<=wt L:=by
 unfold wt
 conv=>rhs;rw[<-List.take_append_drop j L,p_]
 omega
theorem bp5(h:j<=49):2 ^ j<=562949953421312:=bJ (Nat.pow_le_pow_right af h) af
theorem xO(w:World)(hs:Rst F w g k led lv vs L)(hw:wt L<=281474976710656)(hL:L.length<=49) :
 aH 62 #[.pointer (some ⟨g,0,none⟩)] w fun e w'=>e=.returned (.int .u64 (wt L:Nat))/\w=w':=by
 obtain⟨A,c,Am,hc1,hc2,_⟩:=hs.form;have c1:=hs.cell1;have HS:=aI hs;have HTL:=aI (fun j=>bJ (Du L j) hw)
 have HC:=aI (show su 1 (L.take L.length)=wt L by rw[List.take_length];rfl)
 clear hs;subst Am
 go_enter func62,ntmps62
 go_wp2_with fail
 go_loopg [3,4,5] L.length (fun q n p i wr=>(∃j:Nat,q=L.length - j/\j<=L.length/\n=.int .u64 ((su 1 (L.take j):Nat):Int)/\p=.int .u64 ((2 ^ j:Nat):Int)/\i=.int .i64 (j:Int))/\w=wr)
 case atStart=>exact⟨⟨0,ae,ae,rfl,rfl,rfl⟩,rfl⟩
 case round=>
  obtain⟨⟨j,hq,hj,rfl,rfl,rfl⟩,rfl⟩:=hrel;have HQ:=aI hq;clear hq;have hpb:=bp5 (j:=j) (by omega)
  have HPE:Hid (2 ^ (j+1)=2 * 2 ^ j):=aI (by rw[Nat.pow_succ];omega)
  by_cases hjl:j<L.length
  ·obtain⟨gl,cc,sA,sc,Am,hgl,_,_,_,c2,_,_,_⟩:=HS.o.at_ hjl
   injection Am with Am e2 e3;subst Am;subst e3;have HT1:Hid (su 1 (L.take (j+1))=su 1 (L.take j)+(lvl L j).length * 2 ^ j):=aI (xC hjl);have hb:=HTL.o (j+1);obtain⟨t1,ht1⟩:=aF (su 1 (L.take (j+1)));obtain⟨t0,ht0⟩:=aF (su 1 (L.take j));obtain⟨x,hx⟩:=aF ((lvl L j).length);obtain⟨p,hp⟩:=aF (2 ^ j);rw[hx] at c2;rw[ht1] at hb;rw[ht1,ht0,hx,hp] at HT1;rw[hp] at hpb HPE;rw[ht0,hp];have bz2:=aI ht1;obtain⟨m,hm⟩:=aF (x * p);rw[hm] at HT1;have hmi:(x:Int) * (p:Int)=(m:Int):=by rw[<-hm];simp
   have hmb:m+t0=t1:=by have:=HT1.o;omega
   have HXB:x<=18446744073709551615:=by
    obtain⟨_,_,e,h1,h2,_⟩:=((HS.o.gW.each j (by rw[HS.o.gW.len];exact hjl))).form
    omega
   clear hx hp ht0 ht1 hm
   go_wp2_with fail
   go_roundg (L.length - (j+1))
   case measure=>have:=HQ.o;omega
   case rel=>exact⟨⟨j+1,rfl,ae,by rw[bz2.o];go_num,by rw[HPE.o];go_num,ai⟩,rfl⟩
  ·obtain rfl:j=L.length:=ae
   rw[HC.o]
   go_wp2_with fail;refine bodyPost_ret (by simp[results,Tryz.results62,go_sem, *];try rfl) rfl ?_
   exact⟨rfl,rfl⟩
section
variable {F : Nat -> Prop} {g k n led : Nat} {lv : Value} {vs : List Sv} {L : LL}
theorem size_any(w:World)(hs:xB F w g k n led lv vs L) :
 aH 101 #[.pointer (some ⟨g,0,none⟩)] w fun e w'=>e=.returned (.int .i64 (k:Nat))/\w=w':=by
 have c0:=hs.cell0;clear hs
 go_enter func101,ntmps101
 go_wp2_with fail;refine bodyPost_ret (by simp[results,Tryz.results101,go_sem, *];try rfl) rfl ?_
 exact⟨rfl,rfl⟩
theorem total_any(w:World)(hs:xB F w g k n led lv vs L) :
 aH 58 #[.pointer (some ⟨g,0,none⟩)] w fun e w'=>e=.returned (.int .u64 (n:Nat))/\w=w':=by
 have c0:=hs.cell2;clear hs
 go_enter func58,ntmps58
 go_wp2_with fail;refine bodyPost_ret (by simp[results,Tryz.results58,go_sem, *];try rfl) rfl ?_
 exact⟨rfl,rfl⟩
theorem TU(w:World)(hs:xB F w g k n led lv vs L) :
 aH 175 #[.pointer (some ⟨g,0,none⟩)] w fun e w'=>e=.returned (.int .u64 (led:Nat))/\w=w':=by
 have c0:=hs.Dl;clear hs
 go_enter func175,ntmps175
 go_wp2_with fail;refine bodyPost_ret (by simp[results,Tryz.results175,go_sem, *];try rfl) rfl ?_
 exact⟨rfl,rfl⟩
theorem Dv(L:LL)(j:Nat):cnt (L.take j)<=cnt L:=by
 conv=>rhs;rw[<-List.take_append_drop j L,sW]
 omega
end
end Go.Proofs.YtilcnjbpmoijmaaGreat.K
