/- Parts of a proof: what its theorem reaches, words cut short. No condition of its own. -/
import Derived.Test.YtkiebccnpheloaaGreatPk33
set_option maxRecDepth 100000
set_option maxHeartbeats 16000000
set_option linter.unusedVariables false
set_option linter.unusedSimpArgs false
namespace Go.Proofs.YtkiebccnpheloaaGreat.K
open Go.RowKit
theorem u8I:(Tryz.prog.info? 5).map (fun i=>(i.zero,i.size,i.bytes))=some (some (.int .u8 0),1,1):=by kernel_rfl
theorem Yg(v:Value)(l:List Int)(w:World)(h:gz Ru w v l)(hlen:l.length<=1000000000000) :
 Calls Tryz.prog 59 #[v] w fun e w'=>∃s:Sv,e=.returned (gX s)/\dI Ru w.heap.size w' (gX s) l/\Below w.heap.size w w':=by
 obtain⟨i0,hi0,hiz,his,hib⟩:=info_parts u8I;have HI:=aB hi0;have HZ:=aB hiz;have Nw:=aB his;have Gy:=aB hib;clear hi0 hiz his hib;obtain⟨A,c,rfl,hn,hc,hp⟩:=h.form;have HR:=aB h;clear h
 by_cases hnil:A=none
 ·subst hnil
  have h0:l=[]:=by
   rcases bT l.length with h0|h0
   ·exact aW h0
   ·obtain⟨g,off,e,_⟩:=hp h0;cases e
  subst h0;clear hp;have he:(binOp .eql 22 (.slice none 0 c) (.slice none 0 0)).run Tryz.prog w=.ok (.bool true) w:=Lib.run_eql_slice_nil w _ _ _ _ _ _ _ Tryz.underlying22
  go_enter Tryz.func59,Tryz.ntmps59
  go_wp2_with fail
  go_ret;exact⟨(none,0,0),rfl,dI.nil_ _ _,bw⟩
 ·obtain⟨a,rfl⟩:∃a,A=some a:=by
   cases A with
   | none=>exact absurd rfl hnil
   | some a=>exact⟨a,rfl⟩
  clear hnil hp;have he:(binOp .eql 22 (.slice (some a) l.length c) (.slice none 0 0)).run Tryz.prog w=.ok (.bool false) w:=Lib.run_eql_slice_nil w _ _ _ _ _ _ _ Tryz.underlying22
  go_enter Tryz.func59,Tryz.ntmps59
  go_wp2_with (at_builtin;refine dV Ru (ts:=22) i0 _ 1 Tryz.underlying22 HI.out HZ.out Nw.out Gy.out rfl af  af rfl (.tmp 5) (.tmp 6) rfl w.heap.size _ [] rfl (dI.lit (E:=Ru) w [] _ rfl _ rfl af) _ l rfl (HR.out.keep (bw)) ah ag ?_;intro v1 w7 o1 g1 a1)
  have yT:Below w.heap.size w w7:=(dB (aH _ _) (aK _) _).grown g1 ag (fun k hk=>by have:=Option.some.inj (show some w.heap.size=some k from hk);omega)
  simp only[List.nil_append] at o1;obtain⟨A1,c1,rfl,_,_,_⟩:=o1.form
  go_wp2_with fail
  go_ret;exact⟨(A1,_,c1),rfl,o1,yT⟩
structure KC(w:World)(g r:Nat)(v:Value)(B:List Int)(a:Nat):Prop where
 blk:dH w g 173 #[.pointer (some ⟨r,0,none⟩)]
 rd:BR w r v B a
 ne:g≠r
 nv:v.ownBlock≠some g
theorem UH(r:Nat)(v:Value)(B:List Int)(a:Nat)(w:World)(h:BR w r v B a) :
 Calls Tryz.prog 442 #[.pointer (some ⟨r,0,none⟩)] w fun e w'=>e=.returned (.int .i64 (8 * (B.length:Int) - a))/\∃n,w'=w.drewN n:=by
 obtain⟨A,c,rfl,hc1,hc2,hf⟩:=h.rd.form;have c0:=h.blk.cell 0;have c1:=h.blk.cell 1;have hb1:=h.byt.1;have hat:=h.at_;simp only[aF,aG,aC] at c0 c1;clear h hf
 go_enter Tryz.func442,Tryz.ntmps442
 go_wp2_with fail
 go_quiet (fail)
 go_wp2_with fail;refine bodyPost_ret (by simp[results,Tryz.results442,go_sem, *];try rfl) rfl ?_
 exact⟨rfl,_,rfl⟩
theorem ad8:(List.range 256).all (fun(y:Nat)=>bits .or .u32 0 (bits .and .u8 (y:Int) 1 % 4294967296) == ((y % 2:Nat):Int))=true:=by kernel_rfl
theorem Yh{y:Int}(h:0<=y/\y<=255):bits .or .u32 0 (bits .and .u8 y 1 % 4294967296)=y % 2:=by
 obtain⟨n,rfl⟩:∃n:Nat,y=n:=⟨y.toNat,ae⟩
 have h1:=List.all_eq_true.1 ad8 n (List.mem_range.2 ae)
 have h2:=eq_of_beq h1;rw[h2];omega
theorem group_any(r:Nat)(v:Value)(B:List Int)(a:Nat)(w:World)(h:BR w r v B a) :
 Calls Tryz.prog 364 #[.pointer (some ⟨r,0,none⟩),.int .i64 1] w fun e w'=>∃q:Int,e=.returned (.tuple #[.int .u32 (fP B a:Nat),.int .i64 q])/\BR w' r v B (iJ B a)/\Touch (fun k=>k=r) w w':=by
 have HL:=aB (UH r v B a w h);have HH:=aB h;obtain⟨A,c,rfl,hc1,hc2,hf⟩:=h.rd.form;have hgw:=h.blk.lt;have c0:=h.blk.cell 0;have c1:=h.blk.cell 1;have f1:=h.blk.frozen 1;have hb1:=h.byt.1;have hat:=h.at_;simp only[aF,aG,aC] at c0 c1;have HF:=aB hf;clear h hf
 by_cases hlt:a<8 * B.length
 ·have hl8:a / 8<B.length:=ae
  obtain⟨gb,off,rfl,hgb,cb⟩:=HF.out.u8 hl8;have hx:=HH.out.byt.2 _ (bu hl8);obtain⟨x,hxe⟩:∃x,B[a / 8]=x:=⟨_,rfl⟩;rw[hxe] at cb hx;have HX:=aB hxe;clear hxe;have hge:¬8 * (B.length:Int) - a<1:=ae
  go_enter Tryz.func364,Tryz.ntmps364
  go_wp2_with fail;refine(HL.out).mono ?_
  rintro e w1 ⟨rfl,n,rfl⟩
  go_wp2_with fail
  go_loopg [6,7,19] 1 (fun q t6 _ t19 wr=>(q=1/\t6=.int .u32 0/\t19=.int .i64 0/\Hid (wr=w.drewN n))\/(q=0/\t6=.int .u32 (fP B a:Nat)/\t19=.int .i64 1/\Hid (BR wr r (Value.slice (some ⟨gb,off,none⟩) B.length c) B (a+1))/\Hid (Touch (fun k=>k=r) w wr)))
  case atStart=>exact .inl ⟨rfl,rfl,rfl,aB rfl⟩
  case round=>
   rcases hrel with⟨hq,rfl,rfl,HW⟩|⟨hq,rfl,rfl,HB,HT⟩
   ·have HQ:=aB hq
    clear hq;obtain⟨⟨rfl⟩⟩:Nonempty (Hid (wr=w.drewN n)):=⟨HW⟩
    go_wp2_with fail
    go_quiet (fail)
    have hy:0<=x / 2 ^ (a % 8)/\x / 2 ^ (a % 8)<=255:=by
     have hp:(0:Int)<2 ^ (a % 8):=Int.pow_pos af
     exact⟨Int.ediv_nonneg hx.1 ae,Int.le_trans (Int.ediv_le_self _ hx.1) hx.2⟩
    have HC:x / 2 ^ (a % 8) % 2=((fP B a:Nat):Int):=by
     unfold fP;rw[if_pos hlt];simp only[List.getD];rw[aY hl8,Option.getD_some,HX.out];omega
    rw[Yh hy,HC];clear HC hy;obtain⟨y,hy⟩:∃y,fP B a=y:=⟨_,rfl⟩;rw[hy];have HY:=aB hy;clear hy
    go_wp2_with fail
    go_roundg 0
    case measure=>have:=HQ.out;omega
    case rel=>
     refine .inr ⟨rfl,by rw[HY.out],rfl,aB ?_,aB ?_⟩
     ·exact(HH.out.drewN _).step hlt
     ·exact Touch.setCell (F:=fun k=>k=r) (Touch.drewN (Touch.refl _ _) _) (.inl rfl) _
   ·have hc2:iJ B a=a+1:=by unfold iJ;rw[if_pos hlt]
    have HC2:=aB hc2;clear hc2 hq;obtain⟨y,hy⟩:∃y,fP B a=y:=⟨_,rfl⟩;rw[hy];have HY:=aB hy;clear hy
    go_wp2_with fail;refine bodyPost_ret (by simp[results,Tryz.results364,go_sem, *];try rfl) rfl ?_
    refine⟨0,by rw[HY.out],?_,HT.out⟩
    rw[HC2.out];exact HB.out
 ·have hge:8 * (B.length:Int) - a<1:=ae
  go_enter Tryz.func364,Tryz.ntmps364
  go_wp2_with fail;refine(HL.out).mono ?_
  rintro e w1 ⟨rfl,n,rfl⟩
  go_wp2_with fail;refine bodyPost_ret (by simp[results,Tryz.results364,go_sem, *];try rfl) rfl ?_
  have h1:iJ B a=a:=by unfold iJ;rw[if_neg hlt]
  have h2:fP B a=0:=by unfold fP;rw[if_neg hlt]
  rw[h1,h2];exact⟨20,rfl,HH.out.drewN _,(Touch.refl _ _).drewN _⟩
theorem ad9(r:Nat)(v:Value)(B:List Int)(a:Nat)(w:World)(h:BR w r v B a) :
 Calls Tryz.prog 266 #[.pointer (some ⟨r,0,none⟩)] w fun e w'=>∃q:Int,e=.returned (.tuple #[.int .u32 (fP B a:Nat),.int .i64 q])/\BR w' r v B (iJ B a)/\Touch (fun k=>k=r) w w':=by
 have HL:=aB (group_any r v B a w h);clear h
 go_enter Tryz.func266,Tryz.ntmps266
 go_wp2_with fail;refine(HL.out).mono ?_
 rintro e w1 ⟨q,rfl,h1,h2⟩;have H1:=aB h1;have H2:=aB h2;clear h1 h2
 go_wp2_with fail;refine bodyPost_ret (by simp[results,Tryz.results266,go_sem, *];try rfl) rfl ?_
 exact⟨q,rfl,H1.out,H2.out⟩
theorem UI(g r:Nat)(v:Value)(B:List Int)(a:Nat)(w:World)(h:KC w g r v B a) :
 Calls Tryz.prog 171 #[.pointer (some ⟨g,0,none⟩)] w fun e w'=>e=.returned (.int .i64 (fP B a:Nat))/\KC w' g r v B (iJ B a)/\Touch (fun k=>k=r) w w':=by
 have HL:=aB (ad9 r v B a w h.rd);have c0:=h.blk.cell 0;simp only[aF,aC] at c0;have HH:=aB h;have hle:=uH B a;clear h;obtain⟨y,hy⟩:∃y,fP B a=y:=⟨_,rfl⟩;rw[hy] at HL hle;rw[hy];clear hy
 go_enter Tryz.func171,Tryz.ntmps171
 go_wp2_with fail;refine(HL.out).mono ?_
 rintro e w1 ⟨q,rfl,h1,h2⟩;have H1:=aB h1;have H2:=aB h2;clear h1 h2
 go_wp2_with fail;refine bodyPost_ret (by simp[results,Tryz.results171,go_sem, *];try rfl) rfl ?_
 refine⟨rfl,⟨?_,H1.out,HH.out.ne,HH.out.nv⟩,H2.out⟩
 exact(H2.out.block g HH.out.blk.lt (fun e=>HH.out.ne e)).trans HH.out.blk
theorem Yi(v:Value)(B:List Int)(w:World)(h:gz Ru w v B)(hb:Byt B) :
 Calls Tryz.prog 90 #[v] w fun e w'=>∃r v',e=.returned (.pointer (some ⟨r,0,none⟩))/\w.heap.size<=r/\BR w' r v' B 0/\(∀k,v'.ownBlock=some k->w.heap.size<=k/\k<w'.heap.size)/\Below w.heap.size w w':=by
 have HL:=aB (Yg v B w h (by have:=hb.1;omega))
 have HB:=aB hb;clear h hb
 go_enter Tryz.func90,Tryz.ntmps90
 go_wp2_with fail;refine(HL.out).mono ?_
 rintro e w1 ⟨s,rfl,o1,b1⟩;obtain⟨A1,c1,e1,_,_,_⟩:=o1.form;rw[e1] at o1 |-;have O1:=aB o1;have hz:=b1.size;clear o1 e1
 go_wp2_with fail;refine bodyPost_ret (by simp[results,Tryz.results90,go_sem, *];try rfl) rfl ?_
 refine⟨_,.slice A1 B.length c1,rfl,hz,⟨dH.new _ _ _,gz.keep O1.out.rd ((aH _ _).alloc (aK _) _),fun e=>?_,bW _,HB.out⟩,fun k e=>?_,b1.alloc hz _⟩
 ·have:=(O1.out.lt _ e).2;omega
 ·have:=O1.out.lt k e
  refine⟨this.1,?_⟩
  simp;omega
theorem Yj(v:Value)(B:List Int)(w:World)(h:gz Ru w v B)(hb:Byt B) :
 Calls Tryz.prog 34 #[v] w fun e w'=>∃g r v',e=.returned (.pointer (some ⟨g,0,none⟩))/\w.heap.size<=g/\w.heap.size<=r/\KC w' g r v' B 0/\(∀k,v'.ownBlock=some k->w.heap.size<=k/\k<w'.heap.size)/\Below w.heap.size w w':=by
 have HL:=aB (Yi v B w h hb);clear h hb
 go_enter Tryz.func34,Tryz.ntmps34
 go_wp2_with fail;refine(HL.out).mono ?_
 rintro e w1 ⟨r,v',rfl,hr,h1,h2,b1⟩;have H1:=aB h1;have H2:=aB h2;have hz:=b1.size;clear h1 h2
 go_wp2_with fail;refine bodyPost_ret (by simp[results,Tryz.results34,go_sem, *];try rfl) rfl ?_
 have hrl:=H1.out.blk.lt;refine⟨_,r,v',rfl,hz,hr,⟨dH.new _ _ _,H1.out.stay ?_ (fun k e=>?_) ag,ae,fun e=>?_⟩,fun k e=>?_,b1.alloc hz _⟩
 ·exact Below.heap_alloc _ _ _ hrl
 ·exact Below.heap_alloc _ _ _ (H2.out k e).2
 ·have:=(H2.out _ e).2;omega
 ·have:=H2.out k e
  refine⟨this.1,?_⟩
  simp;omega
open Go.RowKit
theorem mZ.at_{t:TypeId}{a:Value}{rest:List Value}{F:Nat->Prop}{w:World}{g:Nat}{lv:Value}{vs:List Sv}{L:LL}(h:mZ t a rest F w g lv vs L){j:Nat}(hj:j<L.length) :
 ∃gl c sA sc,lv=.slice (some ⟨gl,0,none⟩) L.length c/\gl<w.heap.size/\gl≠g/\F gl/\vs[j]?=some (sA,(lvl L j).length,sc)/\w.cell? ⟨gl,j,none⟩=some (.slice sA (lvl L j).length sc)/\w.frozen? ⟨gl,j,none⟩=false /\
  dI fZ 0 w (.slice sA (lvl L j).length sc) (lvl L j)/\(∀k,(Value.slice sA (lvl L j).length sc).ownBlock=some k->F k/\k≠gl/\k≠g):=by
 have hj':j<vs.length:=by rw[h.fJ.len];exact hj
 have hl:0<vs.length:=ae
 obtain⟨gl,c,e,_,hg,_,_⟩:=h.fJ.row.pos hl;rw[h.fJ.len] at e;have ol:=h.fJ.each j hj';have c1:=h.fJ.row;rw[e] at c1;have c2:=c1.cellAt hj' 0 af
 rw[show j * wI.k+0=j by show j * 1+0=j;omega] at c2
 have f2:=c1.frozenAt j;have hap:=h.fJ.apart j hj';have hfv:=h.fJ.fv j hj';have hg2:=h.g2 j hj';obtain⟨s,hs⟩:∃s,vs[j]=s:=⟨_,rfl⟩;rw[hs] at ol c2 hap hfv hg2;obtain⟨sA,sn,sc⟩:=s;obtain⟨_,_,es,_,_,_⟩:=ol.form;injection es with es1 es2 es3;subst es2;refine⟨gl,c,sA,sc,e,hg,fun e2=>h.g1 (by rw[e,e2];rfl),h.fJ.fl gl (by rw[e];rfl),by rw[aY hj',hs],c2.trans rfl,f2,ol,fun k hk=>⟨hfv k hk,fun e2=>hap k hk (by rw[e,e2];rfl),fun e2=>hg2 (by rw[<-e2];exact hk)⟩⟩
def rJ(k:Nat)(L:LL):Int:=match gZ k L with|none=>-1|some h=>(h:Int)
theorem PE{k h:Nat}{L:LL}(h1:h<L.length)(h2:room k L.length h<(lvl L h).length)(h3:∀j,j<h->(lvl L j).length<=room k L.length j):rJ k L=h:=by
 unfold rJ;rw[KQ h1 h2 h3]
theorem PG{k:Nat}{L:LL}(h:∀j,j<L.length->(lvl L j).length<=room k L.length j):rJ k L=-1:=by
 unfold rJ;rw[pW h]
theorem DZ{F:Nat->Prop}{g k n led:Nat}{lv:Value}{vs:List Sv}{L:LL}(w:World)(hs:rV F w g k n led lv vs L)(h2:2<=k)(hk:k<=1000000)(hL:L.length<=1000)(hl:cnt L<=1000000000) :
 Calls Tryz.prog 265 #[.pointer (some ⟨g,0,none⟩)] w fun e w'=>e=.returned (.int .i64 (rJ k L))/\w=w':=by
 have HR:=aB (fun h hh=>KX h w hs h2 hk ae hh)
 obtain⟨A,c,p_,hc1,hc2,_⟩:=hs.form;have c1:=hs.cell1;have HS:=aB hs;have HC:=aB (fun j=>bG (fB L j) hl)
 have HRL:=aB (fun j=>room_le (k:=k) (len:=L.length) (h:=j) h2)
 clear hs;subst p_
 go_enter Tryz.func265,Tryz.ntmps265
 go_wp2_with fail
 go_loopg [3,4,10] L.length (fun q _ _ i wr=>(∃j:Nat,q=L.length - j/\j<=L.length/\i=.int .i64 (j:Int)/\Hid (∀i,i<j->(lvl L i).length<=room k L.length i))/\w=wr)
 case atStart=>exact⟨⟨0,ae,ae,rfl,aB (fun i hi=>absurd hi ae)⟩,rfl⟩
 case round=>
  obtain⟨⟨j,hq,hj,rfl,HI⟩,rfl⟩:=hrel;have HQ:=aB hq;clear hq
  by_cases hjl:j<L.length
  ·obtain⟨gl,cc,sA,sc,p_,hgl,_,_,_,c2,_,_,_⟩:=HS.out.at_ hjl
   injection p_ with p_ e2 e3;subst p_;subst e3;have HB:=aB (HC.out j);have HRJ:=aB (HR.out j ae)
   obtain⟨r,hr⟩:∃r,room k L.length j=r:=⟨_,rfl⟩;obtain⟨x,hx⟩:∃x,(lvl L j).length=x:=⟨_,rfl⟩;have hrk:r<=k:=by rw[<-hr];exact HRL.out j
   rw[hr] at HRJ;rw[hx] at c2 HB;have hxb:=HB.out;have HRE:=aB hr;have HXE:=aB hx;clear hr hx
   by_cases hgt:(x:Int) > (r:Int)
   ·go_wp2_with fail
    refine(HRJ.out).mono ?_
    rintro e w1 ⟨rfl,rfl⟩
    go_wp2_with fail;refine bodyPost_ret (by simp[results,Tryz.results265,go_sem, *];try rfl) rfl ?_
    exact⟨by rw[PE hjl (by rw[HRE.out,HXE.out];omega) HI.out],rfl⟩
   ·go_wp2_with fail
    refine(HRJ.out).mono ?_
    rintro e w1 ⟨rfl,rfl⟩
    go_wp2_with fail
    go_roundg (L.length - (j+1))
    case measure=>have:=HQ.out;omega
    case rel=>
     refine⟨⟨j+1,rfl,ae,ai,aB fun i hi=>?_⟩,rfl⟩
     rcases bJ i j with h1|h1
     ·exact HI.out i h1
     ·obtain rfl:i=j:=ae
      rw[HRE.out,HXE.out];omega
  ·have HE:=aB (PG (k:=k) (L:=L) (fun i hi=>HI.out i ae))
   go_wp2_with fail;refine bodyPost_ret (by simp[results,Tryz.results265,go_sem, *];try rfl) rfl ?_
   exact⟨by rw[HE.out],rfl⟩
open Go.RowKit
structure ja(s:KS):Prop where
 gY:∀j,qA (lvl s.1 j)
 top:KU s.1
 wt:wt s.1<=281474976710656
 cnt:cnt s.1<=1000000
 led:s.2.1<=4611686018427387904
theorem ja.len{s:KS}(h:ja s):s.1.length<=49:=ad6 h.top h.wt
theorem Yk{l:List Int}(h:qA l):qA (mr l):=h.sublist (List.drop_sublist ..)
theorem Yl{L:LL}{h:Nat}(hh:h<L.length)(c j:Nat):lvl (kZ L h c) j=if j=h+1 then insL (lvl L (h+1)) (XQ (lvl L h) c) else if j=h then mr (lvl L h) else lvl L j:=by
 unfold kZ;rw[kK,nI _ _ _ _ hh,nI _ _ _ _ hh,if_neg (show ¬h+1=h by omega)]
theorem ja.step{k:Nat}{B:List Int}{s:KS}{h:Nat}(hp:ja s)(e:gZ k s.1=some h):ja (jD B h s):=by
 obtain⟨h1,h2,_⟩:=jW e;have hr:=AZ (k:=k) h1;have hc:=Gx h1 (fP B s.2.2);refine⟨fun j=>?_,hp.top.pack h1 ae _,?_,?_,?_⟩
 ·show qA (lvl (kZ s.1 h (fP B s.2.2)) j)
  rw[Yl h1]
  split
  ·exact DI (hp.gY _) _
  ·split
   ·exact Yk (hp.gY _)
   ·exact hp.gY j
 ·show Go.Proofs.YtkiebccnpheloaaGreat.K.wt (kZ s.1 h (fP B s.2.2))<=_
  rw[KR h1];exact hp.wt
 ·show Go.Proofs.YtkiebccnpheloaaGreat.K.cnt (kZ s.1 h (fP B s.2.2))<=_
  have:=hp.cnt;omega
 ·show min _ _<=_
  omega
theorem _root_.Go.Proofs.YtkiebccnpheloaaGreat.dI.ef{α:Type}{E:Io α}{base n c:Nat}{w:World}{A:Option Addr}{l:List α}(h:dI E base w (.slice A n c) l):jl E w A l:=by
 obtain⟨A',c',e,_,_,hf⟩:=h.form;injection e with e;subst e;exact hf
theorem _root_.Go.Proofs.YtkiebccnpheloaaGreat.dI.bg2{base ga sc m:Nat}{w:World}{l:List Int}(h:dI fZ base w (.slice (some ⟨ga,0,none⟩) l.length sc) l)(hm:m<=l.length) :
 gz fZ w (.slice (if sc=m then some ⟨ga,0,none⟩ else some ⟨ga,m,none⟩) (l.length - m) (sc - m)) (l.drop m):=by
 obtain⟨A',c',e,h1,h2,hf⟩:=h.form;injection e with e1 e2 e3;subst e1;subst e3;rw[<-bn]
 by_cases hc:sc=m
 ·rw[if_pos hc]
  have:l.drop m=[]:=List.drop_eq_nil_of_le ae
  rw[this];exact gz.iO ag ae jl.nil
 ·rw[if_neg hc]
  refine gz.iO (by rw[bn];omega) ae ?_
  have:=hf.drop rfl m
  rwa [show 0+m * fZ.k=m by show 0+m * 1=m;omega] at this
theorem ae0{h:Nat}(hh:h<=48):IntKind.u64.wrap (1 * 2 ^ h)=((2 ^ h:Nat):Int):=by
 have h1:2 ^ h<=281474976710656:=Nat.pow_le_pow_right af hh
 have h2:(2:Int) ^ h=((2 ^ h:Nat):Int):=by rw[Int.natCast_pow];rfl
 rw[Int.one_mul,h2,df];generalize 2 ^ h=z at h1;omega
def Rw(l:List Int)(c i:Nat):List Int:=(List.range i).map fun i=>l.getD (2 * i+c) 0
theorem Le(l:List Int)(c i:Nat):Rw l c (i+1)=Rw l c i++[l.getD (2 * i+c) 0]:=by unfold Rw;rw[List.range_succ,List.map_append];rfl
theorem D7(l:List Int)(c i:Nat):(Rw l c i).length=i:=by simp[Rw]
theorem Rx(l:List Int)(c:Nat):Rw l c (l.length / 2)=XQ l c:=rfl
theorem KC.stay{w w':World}{g r:Nat}{v:Value}{B:List Int}{a:Nat}(h:KC w g r v B a)(hg:w'.heap[g]?=w.heap[g]?)(hr:w'.heap[r]?=w.heap[r]?)(hk:∀k,v.ownBlock=some k->w'.heap[k]?=w.heap[k]?)(hz:w.heap.size<=w'.heap.size):KC w' g r v B a:=
 ⟨hg.trans h.blk,h.rd.stay hr hk hz,h.ne,h.nv⟩
structure IM(F:Nat->Prop)(w:World)(g k n cg r:Nat)(cv:Value)(B:List Int)(s0:KS)(F1:Nat->Prop)(wr:World)(lv:Value)(vs:List Sv)(s:KS):Prop where
 st:rV F1 wr g k n s.2.1 lv vs s.1
 co:KC wr cg r cv B s.2.2
 ok:ja s
 eq:gB k B s0=gB k B s
 sub:∀k,F1 k->F k\/w.heap.size<=k
 sup:∀k,F k->F1 k
 touch:Touch (fun k=>F k\/k=r) w wr
structure D8(F:Nat->Prop)(w:World)(cg r:Nat)(cv:Value):Prop where
 fg:¬F cg
 fr:¬F r
 fv:∀k,cv.ownBlock=some k->¬F k/\k<w.heap.size
 lg:cg<w.heap.size
 lr:r<w.heap.size
theorem Lh{F:Nat->Prop}{g k n cg r:Nat}{cv lv:Value}{vs:List Sv}{B:List Int}{s0:KS}(w:World)(hs:rV F w g k n s0.2.1 lv vs s0.1)(hc:KC w cg r cv B s0.2.2)(hf:D8 F w cg r cv)(hok:ja s0)(h2:2<=k)(hk:k<=1000000) :
 Calls Tryz.prog 170 #[.pointer (some ⟨g,0,none⟩),.func (.func 171) #[.pointer (some ⟨cg,0,none⟩)] #[]] w fun e w'=>e=.returned (.tuple #[])/\∃F' pX vs',IM F w g k n cg r cv B s0 F' w' pX vs' (gB k B s0)/\gZ k (gB k B s0).1=none:=by
 have HP0:Hid (IM F w g k n cg r cv B s0 F w lv vs s0):=aB ⟨hs,hc,hok,rfl,fun k hk=>.inl hk,fun k hk=>hk,Touch.refl _ _⟩
 have HFU:=aB (DZ w hs h2 hk (by have:=hok.len;omega) (by have:=hok.cnt;omega))
 have qE:=aB hf;clear hs hc hok hf
 go_enter Tryz.func170,Tryz.ntmps170
 go_wp2_with fail;refine(HFU.out).mono ?_
 rintro e w1 ⟨rfl,rfl⟩
 go_wp2_with fail
 go_loopg [4,5,6,7,8,9,29] (cnt s0.1) (fun q t4 _ _ _ _ _ _ wr=>∃F1 oP vs1 s,q=cnt s.1/\t4=.int .i64 (rJ k s.1)/\Hid (IM F w g k n cg r cv B s0 F1 wr oP vs1 s))
 case atStart=>exact⟨F,lv,vs,s0,rfl,rfl,HP0⟩
 case round=>
  obtain⟨F1,oP,vs1,s,hq,rfl,rW⟩:=hrel;have HQ:=aB hq;clear hq
  cases hfu:gZ k s.1 with
  | none=>
   have e1:rJ k s.1=-1:=by unfold rJ;rw[hfu]
   rw[e1];have Jl:=aB hfu;clear hfu e1
   go_wp2_with fail
   go_end0
   refine⟨rfl,F1,oP,vs1,?_⟩
   have e2:=rW.out.eq;rw[rD Jl.out] at e2;rw[e2];exact⟨rW.out,Jl.out⟩
  | some h=>
   have e1:rJ k s.1=h:=by unfold rJ;rw[hfu]
   rw[e1];obtain⟨hh,hgt,_⟩:=jW hfu;have Jl:=aB hfu;clear hfu e1;have hlen:=rW.out.ok.len;have hrg:=AZ (k:=k) hh;obtain⟨gl,cc,sA,sc,p_,hgl,Py,wJ,hvs,c2,f2,ol,hown⟩:=rW.out.st.at_ hh;subst p_;have k1:=rW.out.st.cell1;have hx2:2<=(lvl s.1 h).length:=ae
   have hxc:=fB s.1 h;have hcn:=rW.out.ok.cnt;obtain⟨l,hl⟩:∃l,lvl s.1 h=l:=⟨_,rfl⟩;rw[hl] at c2 ol hown hvs hx2 hxc;have HL:=aB hl;obtain⟨ga,c5,es,_,bg3,hc5,hc6⟩:=ol.pos ae
   injection es with es1 es2 es3;subst es1;subst es3;have OL:=aB ol;have HOWN:=aB hown;have HVS:=aB hvs;have UJ:=aB (UI cg r cv B s.2.2 wr rW.out.co);have HCO:=aB rW.out.co;clear hl ol hown hvs hgt hrg;have eg:=enters_of Tryz.func171 (by kernel_rfl) rfl
   have Pj:∀kk,F1 kk->kk≠r/\kk≠cg/\cv.ownBlock≠some kk:=fun kk hk1=>by
    have a1:=qE.out.lr;have a2:=qE.out.lg
    rcases rW.out.sub kk hk1 with h1|h1
    ·exact⟨fun e=>qE.out.fr (e▸h1),fun e=>qE.out.fg (e▸h1),fun e=>(qE.out.fv kk e).1 h1⟩
    ·exact⟨by omega,ae,fun e=>by have:=(qE.out.fv kk e).2;omega⟩
   have PH:=aB Pj;clear Pj
   go_wp2_with fail;refine(UJ.out).mono ?_
   rintro e w2 ⟨rfl,Ym,ht2⟩;have ae1:=aB Ym;have D9:Hid (rV F1 w2 g k n s.2.1 (.slice (some ⟨gl,0,none⟩) s.1.length cc) vs1 s.1):=aB (rW.out.st.stay (fun kk hk1=>ht2.block kk (rW.out.st.low kk hk1) (PH.out kk hk1).1) ht2.size)
   have UK:Hid (Touch (fun k=>F k\/k=r) w w2):=aB (rW.out.touch.trans ht2 fun i hi=>.inl (.inr hi))
   have oN:=aB rW.out.ok;have HEQ:=aB rW.out.eq;have PI:=aB rW.out.sub;have bg4:=aB rW.out.sup;have C2:=aB ((bM (a:=⟨gl,h,none⟩) (ht2.block gl hgl (PH.out gl wJ).1)).trans c2);have FF2:=aB ((World.frozen?_of_block (a:=⟨gl,h,none⟩) (ht2.block gl hgl (PH.out gl wJ).1)).trans f2);have Ad:gl<w2.heap.size:=aU hgl ht2.size;have bn1:g<w2.heap.size:=D9.out.blk.lt;have OL2:Hid (dI fZ 0 w2 (.slice (some ⟨ga,0,none⟩) l.length sc) l):=aB (OL.out.stay fun kk e=>ht2.block kk (OL.out.lt kk e).2 (PH.out kk (HOWN.out kk e).1).1)
   have ap1:=uH B s.2.2;obtain⟨y,hy⟩:∃y,fP B s.2.2=y:=⟨_,rfl⟩;rw[hy] at ap1 |-;have HY:=aB hy;have hz2:=ht2.size;have hlc:l.length<=1000000:=ae
   clear Ym ht2 hy UJ rW OL HCO k1 c2 f2 hgl hz2;obtain⟨i0,hi0,hiz,his,hib⟩:=info_parts XW;have HI:=aB hi0;have HZ:=aB hiz;have Nw:=aB his;have Gy:=aB hib;clear hi0 hiz his hib
   go_wp2_with fail
   go_loopg [8,9,29] (l.length / 2) (fun q u _ i wx=>∃j:Nat,q=l.length / 2 - j/\j<=l.length / 2/\i=.int .i64 (j:Int)/\Hid (dI fZ w2.heap.size wx u (Rw l y j))/\Hid (Below w2.heap.size w2 wx))
   case atStart=>exact⟨0,rfl,ae,rfl,aB (dI.nil_ _ _),aB (aH _ _)⟩
   case round=>
    obtain⟨j,hq,hj,rfl,HO,HB⟩:=hrel;have JP:=aB hq;clear hq
    by_cases hjl:j<l.length / 2
    ·have hpos:2 * j+y<l.length:=ae
     have HL2:=aB OL2.out.ef;obtain⟨ga',off,eA,hga,ca⟩:=(HL2.out.keep HB.out).i64 hpos;injection eA with eA;injection eA with Yn Yo;subst Yn;subst Yo;rw[Nat.zero_add] at ca;have hul:(Rw l y j).length=j:=D7 l y j;have HUS:Hid (Rw l y (j+1)=Rw l y j++[l[2 * j+y]]):=aB (by rw[Le,List.getD,aY hpos];rfl)
     obtain⟨x,hx⟩:∃x,l[2 * j+y]=x:=⟨_,rfl⟩;rw[hx] at ca HUS;obtain⟨u,hu⟩:∃u,Rw l y j=u:=⟨_,rfl⟩;rw[hu] at HO hul HUS;have hzx:=HB.out.size;obtain⟨a5,c5,rfl,_,_,_⟩:=HO.out.form;rw[hul] at HO |-;clear hx hu
     go_wp2_with (at_builtin;refine dV fZ (ts:=236) i0 _ 8 Tryz.underlying236 HI.out HZ.out Nw.out Gy.out rfl af  af rfl (.tmp 32) (.tmp 40) rfl w2.heap.size (.slice a5 j c5) u rfl (HO.out.alloc _) _ [x] rfl (gz.dY (E:=fZ) _ x _ rfl _ rfl _ rfl) ah  ah ?_;intro v8 w8 o8 g8 a8)
     have zJ:Hid (Below w2.heap.size w2 w8):=aB ((HB.out.alloc hzx _).grown g8 ah (fun k hk=>(HO.out.lt k hk).1))
     have O8:=aB o8;clear o8 g8 a8
     go_wp2_with fail
     go_roundg (l.length / 2 - (j+1))
     case measure=>have:=JP.out;omega
     case rel=>exact⟨j+1,rfl,ae,ai,aB (by rw[HUS.out];exact O8.out),zJ⟩
    ·obtain rfl:j=l.length / 2:=ae
     rw[Rx] at HO;have hzx:=HB.out.size;have K1:Hid (wr.cell? ⟨g,1,none⟩=some (.slice (some ⟨gl,0,none⟩) s.1.length cc)):=aB (D9.out.keep HB.out).cell1;have C3:Hid (wr.cell? ⟨gl,h,none⟩=some _):=aB ((bM (a:=⟨gl,h,none⟩) (HB.out.block gl Ad)).trans C2.out);have F3:Hid (wr.frozen? ⟨gl,h,none⟩=false):=aB ((World.frozen?_of_block (a:=⟨gl,h,none⟩) (HB.out.block gl Ad)).trans FF2.out);have OL3:=aB (OL2.out.keep HB.out);have hgr:g<wr.heap.size:=ae
     have ae2:gl<wr.heap.size:=ae
     obtain⟨m,hm⟩:∃m,2 * (l.length / 2)=m:=⟨_,rfl⟩;have HW:Hid (IntKind.i64.wrap (2 * ((l.length:Int) / 2))=(m:Int)):=aB (by rw[IntWalk.i64_in _ ae];omega)
     have hml:m<=l.length:=ae
     have Ir:(m:Int)<=(l.length:Int):=ae
     have HM:=aB hm;have HRD:=aB (OL3.out.bg2 hml);clear hm
     go_upto_region 12 with fail;refine fM (fun w'=>Below wr.heap.size wr w') 11 [(0,1),(1,1),(2,1),(3,1),(4,1),(5,1),(6,1),(7,1),(8,1),(9,0),(10,1),(11,0)] (by kernel_rfl) (by kernel_rfl) ((aH _ _).drew) ?_
     iterate 9
      refine dX ax  ax (fun R hR=>?_)
      apply aJ
      refine⟨fun w' hS'=>?_,?_⟩
      ·have k1:=(hS'.cell (p:=⟨g,1,none⟩) hgr).trans K1.out
       have hw:=HW.out
       go_simp;exact⟨rfl,rfl⟩
      go_simp;refine hR _ ?_;clear hR R
     refine lG ax  ax  ax (fun K hK=>?_)
     go_simp;refine(y8 _ (l.drop m) _ (HRD.out.keep (aH _ _).drew) (by rw[bn];omega)).mono ?_
     rintro e w7 ⟨⟨A7,n7,c7⟩,rfl,o7,b7⟩;obtain⟨_,_,es,_,_,_⟩:=o7.form;injection es with _ es2 _;rw[bn] at es2;subst es2;have yT:Below wr.heap.size wr w7:=((aH wr.heap.size wr).drew).trans b7;have O7:=aB o7;clear o7 b7;simp only[gX];refine hK _ _ (yT) ?_
     clear hK K
     iterate 1
      refine dX ax  ax (fun R hR=>?_)
      apply aJ
      refine⟨fun w' hS'=>?_,?_⟩
      ·have k1:=(hS'.cell (p:=⟨g,1,none⟩) hgr).trans K1.out
       have hw:=HW.out
       go_simp;exact⟨rfl,rfl⟩
      go_simp;refine hR _ ?_;clear hR R
     refine iP ax  ax  ax (fun K hK=>?_)
     have c9:=(bM (a:=⟨gl,h,none⟩) (yT.block gl ae2)).trans C3.out;have f9:=(World.frozen?_of_block (a:=⟨gl,h,none⟩) (yT.block gl ae2)).trans F3.out
     go_simp;refine hK _ _ ?_
     clear hK K;refine iQ ?_
     clear c9 f9;generalize (if sc=m then some (⟨ga,0,none⟩:Addr) else some (⟨ga,m,none⟩:Addr))=oA
     have ap2:=D9.out.keep HB.out;have hv3:h<vs1.length:=by rw[ap2.fJ.len];exact hh
     have ap3:vs1[h]=(some ⟨ga,0,none⟩,l.length,sc):=by
      have:=HVS.out;rw[aY hv3] at this;exact Option.some.inj this
     have hodd:l.drop m=mr (lvl s.1 h):=by rw[HL.out,<-HM.out];rfl
     have fJ:=mZ.level (s':=(A7,l.length - m,c7)) (l':=mr (lvl s.1 h)) (w1:=w7) ap2 hh rfl (by rw[<-hodd];exact O7.out.more (bW _)) (fun kk h1 _=>yT.block kk h1) yT.size (.inr fun kk e=>(O7.out.lt kk e).1)
     have oI:=aB fJ;have HT7:Hid (Touch (fun k=>F k\/k=r) w (w7.setCell ⟨gl,h,none⟩ (gX (A7,l.length - m,c7)))):=aB (Touch.setCell ((UK.out.trans (Touch.of_below (F:=fun _=>False) HB.out (aK _)) (fun _ hf=>hf.elim)).trans (Touch.of_below (F:=fun _=>False) yT (aK _)) (fun _ hf=>hf.elim)) (by
      rcases PI.out gl wJ with h1|h1
      ·exact .inl (.inl h1)
      ·exact .inr h1) _)
     have aj3:∀kk,(gX (A7,l.length - m,c7)).ownBlock=some kk->wr.heap.size<=kk:=fun kk e=>(O7.out.lt kk e).1
     have Ry:=aB aj3;have HO8:Hid (dI fZ w2.heap.size (w7.setCell ⟨gl,h,none⟩ (gX (A7,l.length - m,c7))) u8 (XQ l y)):=aB ((HO.out.keep yT).far (fun e=>by have:=(HO.out.lt gl e).1;omega) _)
     have aw9:KC (w7.setCell ⟨gl,h,none⟩ (gX (A7,l.length - m,c7))) cg r cv B (iJ B s.2.2):=by
      have hb:∀kk,kk<w2.heap.size->kk≠gl->(w7.setCell ⟨gl,h,none⟩ (gX (A7,l.length - m,c7))).heap[kk]?=w2.heap[kk]?:=fun kk h1 h2=>
       (bF w7 ⟨gl,h,none⟩ _ kk h2).trans ((yT.block kk ae).trans (HB.out.block kk h1))
      have hzw:w.heap.size<=w2.heap.size:=UK.out.size;have a1:=qE.out.lr;have a2:=qE.out.lg;have a3:=PH.out gl wJ;have hz7:=yT.size;refine ae1.out.stay (hb cg ae (fun e=>a3.2.1 e.symm)) (hb r ae (fun e=>a3.1 e.symm)) (fun kk e=>hb kk (by have:=(qE.out.fv kk e).2;omega) (fun e2=>a3.2.2 (by rw[e,e2]))) ah
     have ap4:=aB aw9;have hz7:=yT.size;have hzw:w.heap.size<=w2.heap.size:=UK.out.size;obtain⟨w8,hw8⟩:∃x,w7.setCell ⟨gl,h,none⟩ (gX (A7,l.length - m,c7))=x:=⟨_,rfl⟩;rw[hw8] at oI HT7 HO8 ap4;have hz8:w8.heap.size=w7.heap.size:=by rw[<-hw8];simp
     show Exit.then _ _ Exit.normal _ (w7.setCell ⟨gl,h,none⟩ (gX (A7,l.length - m,c7)))
     rw[hw8];clear fJ hw8 aj3 aw9 ap2 yT O7 HRD OL3 K1 C3 F3 hodd ap3 hv3;have k3:=oI.out.zN;have f3:=oI.out.blk.frozen 3;have IP:=oN.out.led;have ap5:h<=48:=ae
     obtain⟨p,hp⟩:∃p,2 ^ h=p:=⟨_,rfl⟩;have hpb:p<=281474976710656:=by rw[<-hp];exact Nat.pow_le_pow_right af ap5
     have HPW:Hid (IntKind.u64.wrap (1 * 2 ^ h)=(p:Int)):=aB (by rw[<-hp];exact ae0 ap5)
     have HPE:=aB hp;clear hp
     go_upto_region 13 with fail;refine fM (fun w'=>Below w8.heap.size w8 w') 11 [(0,1),(1,1),(2,1),(3,1),(4,1),(5,1),(6,1),(7,1),(8,1),(9,2),(10,1),(11,0)] (by kernel_rfl) (by kernel_rfl) ((aH _ _).drew) ?_
     iterate 9
      refine dX ax  ax (fun R hR=>?_)
      apply aJ
      refine⟨fun w' hS'=>?_,?_⟩
      ·have hw:=HPW.out
       have k3':=(hS'.cell (p:=⟨g,3,none⟩) oI.out.blk.lt).trans k3
       go_simp;exact⟨rfl,rfl⟩
      go_simp;refine hR _ ?_;clear hR R
     iterate 1
      refine kG ax  ax (fun R hR=>?_)
      apply aJ
      refine⟨fun w'=>?_,?_⟩
      ·go_simp
       exact⟨rfl,rfl⟩
      go_simp;refine hR _ ?_;clear hR R
     iterate 1
      refine dX ax  ax (fun R hR=>?_)
      apply aJ
      refine⟨fun w' hS'=>?_,?_⟩
      ·have hw:=HPW.out
       have k3':=(hS'.cell (p:=⟨g,3,none⟩) oI.out.blk.lt).trans k3
       go_simp;exact⟨rfl,rfl⟩
      go_simp;refine hR _ ?_;clear hR R
     refine iP ax  ax  ax (fun K hK=>?_)
     have k9:(w8.drew).cell? ⟨g,3,none⟩=_:=k3;have f9:(w8.drew).frozen? ⟨g,3,none⟩=false:=f3
     go_simp;refine hK _ _ ?_
     clear hK K;refine iQ ?_
     have HVV:min (IntKind.u64.wrap ((s.2.1:Int)+IntKind.u64.wrap (2 ^ h))) 4611686018427387904=((min (s.2.1+p) 4611686018427387904:Nat):Int):=by
      have e1:=HPW.out;rw[Int.one_mul] at e1;rw[e1,df];omega
     rw[HVV];have PK:rV _ ((w8.setCell ⟨g,3,none⟩ (.int .u64 (min (s.2.1+p) 4611686018427387904:Nat))).drew) g k n (min (s.2.1+p) 4611686018427387904) _ _ _:=(oI.out.ao3 _).keep (aH _ _).drew;have ax0:=aB PK;have ax1:=D9.out.fg;have HT9:Hid (Touch (fun k=>F k\/k=r) w ((w8.setCell ⟨g,3,none⟩ (.int .u64 (min (s.2.1+p) 4611686018427387904:Nat))).drew)):=aB (Touch.drew (Touch.setCell HT7.out (by
      rcases PI.out g ax1 with h1|h1
      ·exact .inl (.inl h1)
      ·exact .inr h1) _))
     have hub:∀kk,u8.ownBlock=some kk->w2.heap.size<=kk/\kk<wr.heap.size:=HO.out.lt;have HO9:Hid (dI fZ w2.heap.size ((w8.setCell ⟨g,3,none⟩ (.int .u64 (min (s.2.1+p) 4611686018427387904:Nat))).drew) u8 (XQ l y)):=aB ((HO8.out.far (fun e=>by have:=(hub g e).1;omega) _).drew)
     have ax2:KC ((w8.setCell ⟨g,3,none⟩ (.int .u64 (min (s.2.1+p) 4611686018427387904:Nat))).drew) cg r cv B (iJ B s.2.2):=by
      have hb:∀kk,kk≠g->((w8.setCell ⟨g,3,none⟩ (.int .u64 (min (s.2.1+p) 4611686018427387904:Nat))).drew).heap[kk]?=w8.heap[kk]?:=fun kk h2=>bF w8 ⟨g,3,none⟩ _ kk h2
      have a3:=PH.out g ax1;exact ap4.out.stay (hb cg (fun e=>a3.2.1 e.symm)) (hb r (fun e=>a3.1 e.symm)) (fun kk e=>hb kk (fun e2=>a3.2.2 (by rw[e,e2]))) (by simp[World.drew])
     have ax3:=aB ax2;have Xa:((w8.setCell ⟨g,3,none⟩ (.int .u64 (min (s.2.1+p) 4611686018427387904:Nat))).drew).heap.size=w7.heap.size:=by rw[<-hz8];simp[World.drew]
     obtain⟨w9,KN⟩:∃x,(w8.setCell ⟨g,3,none⟩ (.int .u64 (min (s.2.1+p) 4611686018427387904:Nat))).drew=x:=⟨_,rfl⟩;rw[KN] at ax0 HT9 HO9 ax3 Xa;show Exit.then _ _ Exit.normal _ ((w8.setCell ⟨g,3,none⟩ (.int .u64 (min (s.2.1+p) 4611686018427387904:Nat))).drew)
     rw[KN];clear KN PK ax2 HVV k3 f3 oI HT7 HO8 ap4;have hfx:∀kk,(F1 kk\/(gX (A7,l.length - m,c7)).ownBlock=some kk)->u8.ownBlock≠some kk:=fun kk h1 e=>by
      have h4:=hub kk e
      rcases h1 with h1|h1
      ·have:=D9.out.low kk h1;omega
      ·have:=Ry.out kk h1;omega
     have has:Aside (fun kk=>F1 kk\/(gX (A7,l.length - m,c7)).ownBlock=some kk) w9 u8 (XQ l y):=Aside.nU HO9.out fun kk e h1=>hfx kk h1 e
     have hl1:lvl (s.1.set h (mr (lvl s.1 h))) (h+1)=lvl s.1 (h+1):=by rw[nI _ _ _ _ hh,if_neg ae]
     have ax4:=aB (put_any (h+1) u8 (XQ l y) w9 ax0.out has (by rw[hl1];exact oN.out.gY _) ae (by rw[bU];omega) (by rw[hl1];have:=fB s.1 (h+1);omega) (by rw[rC];omega))
     have Xc:Hid (jP (s.1.set h (mr (lvl s.1 h))) (h+1) (XQ l y)=(jD B h s).1):=aB (by rw[<-HL.out,<-HY.out];rfl)
     have HLD:Hid (min (s.2.1+p) 4611686018427387904=(jD B h s).2.1):=aB (by rw[<-HPE.out];rfl)
     have bg5:Hid (iJ B s.2.2=(jD B h s).2.2):=aB rfl;have Yp:=aB (oN.out.step (B:=B) Jl.out);have HCN:=aB (nT (B:=B) Jl.out);have ap6:=aB (HEQ.out.trans (wG (B:=B) Jl.out));have bn2:wr.heap.size<=w7.heap.size:=hz7;have HNQ:=HQ;clear has hfx hl1 hub
     go_wp2_with fail;refine(ax4.out).mono ?_
     rintro e w10 ⟨rfl,F3,lv3,vs3,q1,q2,q3,q4⟩;have Q1:=aB q1;have Q2:=aB q2;have Q4:=aB q4;rw[Xc.out,HLD.out] at q3;have Q3:=aB q3;have ap7:=Yp.out;have bg6:=aB (DZ w10 q3 h2 hk (by have:=ap7.len;omega) (by have:=ap7.cnt;omega))
     clear q1 q2 q3 q4 ap7 ax4
     go_wp2_with fail;refine(bg6.out).mono ?_
     rintro e w11 ⟨rfl,rfl⟩
     go_wp2_with fail
     go_roundg (cnt (jD B h s).1)
     case measure=>have:=HQ.out;have:=HCN.out;omega
     case rel=>
      refine⟨F3,lv3,vs3,jD B h s,rfl,rfl,aB ⟨Q3.out,?_,Yp.out,ap6.out,?_,?_,?_⟩⟩
      ·rw[<-bg5.out]
       have a1:=qE.out.lr;have a2:=qE.out.lg;have hn:∀kk,kk<w.heap.size->(∀k1,F1 k1->kk≠k1)->w10.heap[kk]?=w9.heap[kk]?:=fun kk h1 h2=>Q4.out.block kk ae fun h3=>by
        rcases h3 with h3|h3
        ·exact h2 kk h3 rfl
        ·have:=Ry.out kk h3;omega
       exact ax3.out.stay (hn cg a2 fun k1 h1 e=>(PH.out k1 h1).2.1 e.symm) (hn r a1 fun k1 h1 e=>(PH.out k1 h1).1 e.symm) (fun kk e=>hn kk (qE.out.fv kk e).2 fun k1 h1 e2=>(PH.out k1 h1).2.2 (by rw[e,e2])) Q4.out.size
      ·intro kk h3
       rcases Q1.out kk h3 with h4|h4
       ·rcases h4 with h4|h4
        ·exact PI.out kk h4
        ·have:=Ry.out kk h4
         exact .inr ae
       ·exact .inr ae
      ·exact fun kk h3=>Q2.out kk (.inl (bg4.out kk h3))
      ·refine HT9.out.trans Q4.out fun kk h3=>?_
       rcases h3 with h4|h4
       ·rcases PI.out kk h4 with h5|h5
        ·exact .inl (.inl h5)
        ·exact .inr h5
       ·have:=Ry.out kk h4
        exact .inr ae
end Go.Proofs.YtkiebccnpheloaaGreat.K
