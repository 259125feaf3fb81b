/- Parts of a proof: what its theorem reaches, words cut short. No condition of its own. -/
import Derived.Test.YtkiebccnpheloaaGreatPk47
set_option maxRecDepth 100000
set_option maxHeartbeats 16000000
set_option linter.unusedVariables false
set_option linter.unusedSimpArgs false
namespace Go.Proofs.YtkiebccnpheloaaGreat.D
open Go.RowKit Go.Lib
theorem Vu(c:Int)(w:World):Calls Tryz.prog 398 #[.int .u32 c] w fun e w'=>e=.returned (.int .u32 (crS c))/\w=w':=by
 unfold crS
 by_cases h:bits .and .u32 c 1=1
 ·rw[if_pos h]
  go_enter Tryz.func398,Tryz.ntmps398
  go_wp2_with fail
  go_ret;exact⟨rfl,rfl⟩
 ·rw[if_neg h]
  go_enter Tryz.func398,Tryz.ntmps398
  go_wp2_with fail
  go_ret;exact⟨rfl,rfl⟩
def Ny(k:Nat)(w:World)(g:Nat):Prop:=dH w g 436 ((qL k).map (Value.int .u32)).toArray
theorem Ny.next{k g:Nat}{w:World}(h:Ny k w g)(hk:k<256):Ny (k+1) (w.setCell ⟨g,k,none⟩ (.int .u32 (ZO k))) g:=by
 have h1:=dH.dP h k (.int .u32 (ZO k));unfold Ny;rw[<-Vt hk,List.map_set]
 rwa [bP] at h1
theorem Ny.at_{k g i:Nat}{w:World}(h:Ny k w g)(hi:i<256)(hk:k<=256):∃v,w.cell? ⟨g,i,none⟩=some v:=by
 have h1:=dH.cell h i;rw[aF,List.getElem?_map,aY (by rw[Ho hk];exact hi)] at h1
 exact⟨_,h1⟩
theorem Ny.tab{g i:Nat}{w:World}(h:Ny 256 w g)(hi:i<256):w.cell? ⟨g,i,none⟩=some (.int .u32 (ZO i)):=by
 have h1:=dH.cell h i;have hl:i<(qL 256).length:=by rw[Ho ae];exact hi
 have h2:=Zf hi;rw[aY hl] at h2;rw[aF,List.getElem?_map,aY hl] at h1;rw[h1];simp only[Option.getD_some] at h2;rw[h2];rfl
theorem Vw(g:Nat)(w:World)(h:Ny 0 w g):Calls Tryz.prog 341 #[.pointer (some ⟨g,0,none⟩)] w fun e w'=>e=.returned (.tuple #[])/\Ny 256 w' g/\Touch (fun k=>k=g) w w':=by
 have H:=aB h;clear h
 go_enter Tryz.func341,Tryz.ntmps341
 go_wp2_with fail
 go_loopg [2,3,4,9] 256 (fun q _ _ t4 _ wr=>∃i:Nat,q=256 - i/\i<=256/\t4=.int .i64 (i:Int)/\Hid (Ny i wr g)/\Hid (Touch (fun k=>k=g) w wr))
 case atStart=>exact⟨0,rfl,ae,rfl,H,aB (Touch.refl _ _)⟩
 case round=>
  obtain⟨i,hq,hi,rfl,HB,HT⟩:=hrel;have HQ:=aB hq;clear hq
  by_cases hlt:i<256
  ·have ZI:(i:Int)<256:=ae
   have ei:IntKind.u32.wrap (i:Int)=i:=by show(i:Int) % 4294967296=i;omega
   go_wp2_with fail
   go_loopg [3,9] 8 (fun q c t9 wx=>(∃j:Nat,q=8 - j/\j<=8/\t9=.int .i64 (j:Int)/\c=.int .u32 (crN j i))/\wr=wx)
   case atStart=>exact⟨⟨0,rfl,ae,rfl,rfl⟩,rfl⟩
   case round=>
    obtain⟨⟨j,hq,hj,rfl,rfl⟩,rfl⟩:=hrel;have JP:=aB hq;clear hq
    by_cases hjl:j<8
    ·have hji:(j:Int)<8:=ae
     have C:=aB (Vu (crN j i) wr)
     go_wp2_with fail;refine(C.out).mono ?_
     rintro e w' ⟨rfl,rfl⟩
     go_wp2_with fail
     go_roundg (8 - (j+1))
     case measure=>have:=JP.out;omega
     case rel=>exact⟨⟨j+1,rfl,ae,ai,rfl⟩,rfl⟩
    ·obtain rfl:j=8:=ae
     obtain⟨v,hv⟩:=HB.out.at_ hlt hi;have hf:=dH.frozen HB.out i;obtain⟨y,hy⟩:∃y,crN 8 i=y:=⟨_,rfl⟩;have HN:=aB (HB.out.next hlt);unfold ZO at HN;rw[hy] at HN |-;clear hy
     go_wp2_with fail
     go_roundg (256 - (i+1))
     case measure=>have:=HQ.out;omega
     case rel=>exact⟨i+1,rfl,ae,ai,HN,aB (HT.out.setCell (.inl rfl) _)⟩
  ·obtain rfl:i=256:=ae
   go_wp2_with fail;refine bodyPost_end (v:=.tuple #[]) (by simp[results,Tryz.results341,go_sem, *];try rfl) rfl ?_
   exact⟨rfl,HB.out,HT.out⟩
theorem Zg{l:List Int}{j:Nat}(h:j<l.length)(c:Int):RX c (l.take (j+1))=bits .xor .u32 (RX c (l.take j) / 256) (ZO (bits .xor .u8 (RX c (l.take j) % 256) l[j])):=by
 rw[aT h,MR]
theorem Vx(g:Nat)(c:Int)(v:Value)(bs:List Int)(w:World)(h:Ny 256 w g)(hr:iH .u8 w v bs)(hl:bs.length<=1000000000000)(c0:0<=c)(c1:c<4294967296) :
 Calls Tryz.prog 468 #[.pointer (some ⟨g,0,none⟩),.int .u32 c,v] w fun e w'=>e=.returned (.int .u32 (RX c bs))/\w=w':=by
 have H:=aB h;obtain⟨A,k,rfl,_,_,hf⟩:=hr.form;have HF:=aB hf;clear h hr hf
 go_enter Tryz.func468,Tryz.ntmps468
 go_wp2_with fail
 go_loopg [1,8,11] bs.length (fun q t1 _ t11 wr=>(∃j:Nat,q=bs.length - j/\j<=bs.length/\t11=.int .i64 (j:Int)/\t1=.int .u32 (RX c (bs.take j)))/\w=wr)
 case atStart=>exact⟨⟨0,rfl,ae,rfl,rfl⟩,rfl⟩
 case round=>
  obtain⟨⟨j,hq,hj,rfl,rfl⟩,rfl⟩:=hrel;have HQ:=aB hq;clear hq
  by_cases hlt:j<bs.length
  ·have ZI:(j:Int)<(bs.length:Int):=ae
   obtain⟨gb,ob,rfl,hgb,e0⟩:=HF.out.at_ hlt;have HC:=aB (Zg hlt c);have hb:=Ze (bs.take j) c0 c1;obtain⟨x,hx⟩:∃x,RX c (bs.take j)=x:=⟨_,rfl⟩;obtain⟨y,hy⟩:∃y,bs[j]=y:=⟨_,rfl⟩;rw[hx,hy] at HC;rw[hx] at hb |-;rw[hy] at e0;clear hx hy;have hi:=Ql .xor (x % 256) y;obtain⟨i,hi2⟩:∃i:Nat,bits .xor .u8 (x % 256) y=(i:Int):=⟨(bits .xor .u8 (x % 256) y).toNat,ae⟩
   have hi3:i<256:=ae
   have HI:=aB hi2;rw[hi2] at HC;have ht:=H.out.tab hi3;have ew:IntKind.u8.wrap x=x % 256:=rfl;clear hi;have hii:(i:Int)<256:=ae
   go_wp2_with fail
   go_roundg (bs.length - (j+1))
   case measure=>have:=HQ.out;omega
   case rel=>exact⟨⟨j+1,rfl,ae,ai,by rw[HC.out]⟩,rfl⟩
  ·obtain rfl:j=bs.length:=ae
   rw[List.take_length]
   go_wp2_with fail
   go_ret;exact⟨rfl,rfl⟩
theorem Vy(g:Nat)(c:Int)(v:Value)(bs:List Int)(w:World)(h:Ny 256 w g)(hr:iH .u8 w v bs)(hl:bs.length<=1000000000000) :
 Calls Tryz.prog 399 #[.pointer (some ⟨g,0,none⟩),.int .u32 c,v] w fun e w'=>e=.returned (.int .u32 (bits .xor .u32 4294967295 (RX (bits .xor .u32 4294967295 c) bs)))/\w=w':=by
 have hs:IntKind.u32.signed=false:=rfl;have hm:IntKind.u32.max=4294967295:=rfl;have F:=aB (Vx g _ v bs w h hr hl (mF .xor 4294967295 c).1 (mF .xor 4294967295 c).2);clear h hr
 go_enter Tryz.func399,Tryz.ntmps399
 go_wp2_with fail;refine(F.out).mono ?_
 rintro e w' ⟨rfl,rfl⟩
 go_wp2_with fail
 go_ret;exact⟨rfl,rfl⟩
theorem MS(g:Nat)(v:Value)(bs:List Int)(w:World)(h:Ny 256 w g)(hr:iH .u8 w v bs)(hl:bs.length<=1000000000000) :
 Calls Tryz.prog 342 #[.pointer (some ⟨g,0,none⟩),v] w fun e w'=>e=.returned (.int .u32 (Vs bs))/\w=w':=by
 have F:=aB (Vy g 0 v bs w h hr hl);clear h hr
 go_enter Tryz.func342,Tryz.ntmps342
 go_upto_region 1 with fail
 go_wp2_with (go_at_call 399;refine(F.out).mono ?_;rintro e w' ⟨rfl,rfl⟩)
 go_ret;exact⟨rfl,rfl⟩
theorem bk3:Tryz.zeroCells436=((qL 0).map (Value.int .u32)).toArray:=by kernel_rfl
theorem MV(w:World):Calls Tryz.prog 236 #[] w fun e w'=>∃g,e=.returned (.pointer (some ⟨g,0,none⟩))/\Ny 256 w' g/\w.heap.size<=g/\Below w.heap.size w w':=by
 go_enter Tryz.func236,Tryz.ntmps236
 go_upto_region 3 with fail;rw[bk3];have hb1:Below w.heap.size w (w.alloc (.cells ((qL 0).map (Value.int .u32)).toArray 436)):=bw;have C:=aB (Vw w.heap.size (w.alloc (.cells ((qL 0).map (Value.int .u32)).toArray 436)) (dH.new _ _ _));generalize w.alloc (.cells ((qL 0).map (Value.int .u32)).toArray 436)=w1 at *
 go_wp2_with fail;refine(C.out).mono ?_
 rintro e w2 ⟨rfl,h2,h3⟩;have hb2:Below w.heap.size w w2:=hb1.trans (h3.below (fun k hk=>by rw[show k=_ from hk];exact aK _) hb1.size)
 have H2:=aB h2;clear h2 h3
 go_wp2_with fail
 go_ret;exact⟨_,rfl,H2.out,aK _,hb2⟩
open Go.RowKit Go.Lib
def FC(K:Nat)(n:Int):List Int:=(List.range K).map (fun i:Nat=>n / 2 ^ (8 * i) % 256)
theorem uP(K:Nat)(n:Int):(FC K n).length=K:=by simp[FC]
theorem Zh{K j:Nat}(n:Int)(h:j<K):(FC K n)[j]?=some (n / 2 ^ (8 * j) % 256):=by simp[FC,h]
theorem bb7:FL 3 119 4:=Gu 3 119 4 af
theorem Vz(g base K:Nat)(n:Int)(bs:List Int)(w:World)(h:Wr 332 base w g bs)(n0:0<=n)(n1:n<18446744073709551616)(hK:K<=8)(hl:bs.length<=1000000000000) :
 Calls Tryz.prog 412 #[.pointer (some ⟨g,0,none⟩),.int .u64 n,.int .i64 K] w fun e w'=>e=.returned (.tuple #[])/\Wr 332 base w' g (bs++FC K n)/\Below base w w':=by
 have H:=aB h;have hlt:=h.lt;clear h
 go_enter Tryz.func412,Tryz.ntmps412
 go_wp2_with fail
 go_loopg [6,8] K (fun q _ i wr=>∃j:Nat,q=K - j/\j<=K/\i=.int .i64 (j:Int)/\Hid (Wr 332 base wr g (bs++(FC K n).take j))/\Below base w wr)
 case atStart=>exact⟨0,rfl,ae,rfl,by rw[List.take_zero,List.append_nil];exact H,aH _ _⟩
 case round=>
  obtain⟨j,hq,hj,rfl,hw,hb⟩:=hrel;have HQ:=aB hq;have hz:=hb.size;clear hq
  by_cases hlj:j<K
  ·have hji:(j:Int)<(K:Int):=ae
   obtain⟨s,hs⟩:∃s,8 * j=s:=⟨_,rfl⟩;have bg0:s<64:=ae
   have ES:Hid (IntKind.i64.wrap (8 * (j:Int))=(s:Int)):=aB ak
   have hbyte:(FC K n)[j]?=some (n / 2 ^ s % 256):=by rw[Zh n hlj,hs]
   have eb:IntKind.u8.wrap (n / 2 ^ s)=n / 2 ^ s % 256:=rfl;obtain⟨y,hy⟩:∃y,n / 2 ^ s % 256=y:=⟨_,rfl⟩;rw[hy] at hbyte eb;have Nv:Hid ((FC K n).take (j+1)=(FC K n).take j++[y]):=aB (by rw[List.take_add_one,hbyte];rfl)
   clear hy;obtain⟨hbg,v,hB,hO⟩:=hw.out;have HB:=aB hB;have HO:=aB hO;have hlen:(bs++(FC K n).take j).length+1<=1099511627776:=by
    have h1:=uP K n;rw[aI,bg];omega
   clear hB hO hs hbyte;have hsI:(s:Int)<64:=ae
   have Bd:dH wr.drew g 332 #[v]:=HB.out.drew;generalize (FC K n).take j=T at *;obtain⟨A0,k0,hv0,_,_,_⟩:=(dN.rd HO.out).form;obtain⟨N0,hN0⟩:∃N,(bs++T).length=N:=⟨_,rfl⟩;rw[hN0] at hv0;subst hv0;have HN0:=aB hN0;clear hN0;have HBa:Hid (dH (wr.alloc (.cells #[.int .u8 y] 5)).drew g 332 #[.slice A0 N0 k0]):=aB (HB.out.alloc _).drew;have Q9:Hid (dI bE base (wr.alloc (.cells #[.int .u8 y] 5)).drew (.slice A0 N0 k0) (bs++T)):=aB (dI.alloc (dR.1 HO.out) _).drew;have hba:Below base w (wr.alloc (.cells #[.int .u8 y] 5)).drew:=(hb.alloc ae _).drew
   go_upto_region 3 with fail;refine dJ (fun w'=>dH w' g 332 #[.slice A0 N0 k0]) 12 [(0,true),(1,true),(2,true),(3,true),(4,true),(5,true),(6,true),(7,true),(8,true),(9,true),(10,false),(11,false)] (by kernel_rfl) (by kernel_rfl) (Bd) ?_
   iterate 10
    refine dK ax  ax (fun R hR=>?_)
    apply aJ
    refine⟨fun w' hS'=>?_,?_⟩
    ·have c0:=dH.cell hS' 0
     simp only[aF,aC] at c0;have es:=ES.out
     go_simp;exact⟨rfl,rfl⟩
    go_simp;refine hR _ ?_;clear hR R
   refine d_ ax  ax (fun K hK=>?_)
   go_simp;refine hK _ _ (Bd.alloc _) ?_
   clear hK K;refine d_ ax  ax (fun K hK=>?_)
   refine apW wC (.tmp 15) (.tmp 21) rfl Q9.out rfl _ [y] rfl (dI.one (E:=bE) wr.drew y _ rfl _ rfl).rd hlen aj ?_
   intro v1 w1 o1 g1 _;have B1:=jH HBa.out Q9.out af g1
   have hb1:Below base w w1:=hba.grown g1 (by have:=hba.size;omega) (fun k hk=>(dI.lt Q9.out k hk).1)
   have P1:=aB (qm (i:=0) HBa.out Q9.out af g1 o1)
   obtain⟨A1,c1,ev1,_,_,_⟩:=o1.form;obtain⟨N1,hN1⟩:∃N,(bs++T++[y]).length=N:=⟨_,rfl⟩;rw[hN1] at ev1;subst ev1;clear hN1 o1 g1;refine hK _ _ (B1) ?_
   clear hK K;refine dQ ?_
   simp only[bD,bQ];have c0:=B1.cell 0;have f0:=B1.frozen 0;simp only[aF,aC] at c0
   go_wp2_with fail;refine dO ?_
   go_wp2_with fail
   go_roundg (K - (j+1))
   case measure=>have:=HQ.out;omega
   case rel=>
    refine⟨j+1,rfl,ae,ai,?_,hb1.setCell ae _⟩
    rw[Nv.out,<-aS];exact aB ⟨hbg,_,P1.out.1,dR.2 P1.out.2⟩
  ·obtain rfl:j=K:=ae
   have KN:=hw;rw[bH (by rw[uP];exact aK _)] at KN
   go_wp2_with fail;refine bodyPost_end (v:=.tuple #[]) (by simp[results,Tryz.results412,go_sem, *];try rfl) rfl ?_
   exact⟨rfl,KN.out,hb⟩
theorem MW(w:World):Calls Tryz.prog 247 #[.string ⟨#[119]⟩] w fun e w'=>e=.returned (.bool true)/\Below w.heap.size w w':=by
 have FOw:=fun w=>aB (fF 3 119 4 w bb7)
 go_enter Tryz.func247,Tryz.ntmps247
 go_wp2_with fail
 go_loopg [11] 1 (fun q i wr=>∃j:Nat,q=1 - j/\j<=1/\i=.int .i64 j/\Below w.heap.size w wr)
 case atStart=>exact⟨0,rfl,ae,rfl,aH _ _⟩
 case round=>
  obtain⟨j,hq,hj,rfl,hb⟩:=hrel;have HQ:=aB hq;have hz:=hb.size;clear hq
  rcases(show j=0\/j=1 by omega) with rfl|rfl
  ·go_wp2_with (go_at_call 248;refine((FOw _).out).mono ?_;rintro e w1 ⟨rfl,hb1⟩;have hz1:=hb1.size)
   go_roundg 0
   case measure=>have:=HQ.out;omega
   case rel=>exact⟨1,rfl,ae,ai,bw⟩
  ·go_wp2_with fail
   go_ret;exact⟨rfl,hb⟩
def zZ(xa:Int):Nat->List Int
 | 0=>[]
 | _=>FC 4 xa
theorem VA(xa:Int)(j:Nat):(zZ xa j).length<=10:=by
 have hxa:=uP 4 xa
 match j with
 | 0=>simp[zZ]
 | n+1=>simp only[zZ,aI,aP,bf];omega
theorem VB(xa:Int)(v:Value)(w:World)(hr:iH .u64 w v [xa])(xa0:0<=xa)(xa1:xa<4294967296) :
 Calls Tryz.prog 147 #[.string ⟨#[119]⟩,v] w fun e w'=>∃v,e=.returned (.tuple #[v,.int .i64 0])/\OwnB w.heap.size w' v (zZ xa 1)/\Below w.heap.size w w':=by
 obtain⟨AA,cn,rfl,hn,hc,hp⟩:=hr.form;obtain⟨gn,on,rfl,hgn,qZ⟩:=hp.at_ (j:=0) (by simp)
 simp only[aP,bf,List.getElem_cons_zero,List.getElem_cons_succ,Nat.add_zero] at hn qZ |-;have Xo:=aB qZ;have FOw:=fun w=>aB (fF 3 119 4 w bb7)
 have efw:oO 3=412:=rfl;rw[efw] at FOw;have ai9:∀args w,(callFunc 412 args).run Tryz.prog w=.ok (.enter 412 args) w:=fun _ _=>rfl
 have Nu:Hid (zZ xa 0++(FC 4 xa)=zZ xa 1):=aB rfl;have vC:=aB (VA xa);have D0:Hid (xa / 4294967296=0):=aB ae
 clear hr hp efw qZ
 go_enter Tryz.func147,Tryz.ntmps147
 go_wp2_with fail;refine(MW w).mono ?_
 rintro e w1 ⟨rfl,hb1⟩;have hz1:=hb1.size
 go_wp2_with fail;obtain⟨g,hg⟩:∃g,w1.heap.size=g:=⟨_,rfl⟩;have W0:=aB (Wr.new 332 w1 w.heap.size hz1);have hb2:Below w.heap.size w (w1.alloc (.cells #[.slice none 0 0] 332)):=bw;rw[hg] at W0 |-;generalize w1.alloc (.cells #[.slice none 0 0] 332)=w2 at *;clear hg
 go_loopg [25] 1 (fun q i wr=>∃j:Nat,q=1 - j/\j<=1/\i=.int .i64 j/\Hid (Wr 332 w.heap.size wr g (zZ xa j))/\Below w.heap.size w wr)
 case atStart=>exact⟨0,rfl,ae,rfl,W0,hb2⟩
 case round=>
  obtain⟨j,hq,hj,rfl,hw,hb⟩:=hrel;have HQ:=aB hq;have hz:=hb.size;clear hq
  rcases(show j=0\/j=1 by omega) with rfl|rfl
  ·have CQ:=(hb.cell (p:=⟨gn,on,none⟩) hgn).trans Xo.out
   have dq1:=D0.out;have dq2:IntKind.i64.wrap 32=32:=rfl
   go_wp2_with (first
    | (go_at_call 248;refine((FOw _).out).mono ?_;rintro e w3 ⟨rfl,hb3⟩;have hz3:=hb3.size)
    | (go_at_fn 412;refine((Vz g w.heap.size 4 xa (zZ xa 0) _ ((hw.out.keep hb3).keep ((aH _ _).alloc (aK _) _)) xa0 ae  ae (by have:=vC.out 0;omega)).mono ?_);rintro e w4 ⟨rfl,k1,k2⟩;have mG:=k2.size;rw[Nu.out] at k1;have K1:=aB k1;clear k1))
   go_roundg 0
   case measure=>have:=HQ.out;omega
   case rel=>exact⟨1,rfl,ae,ai,K1,bw⟩
  ·obtain⟨hbg,v,hB,hO⟩:=hw.out
   have c0:=hB.cell 0;simp only[aF,aC] at c0;have HO:=aB hO;clear hB hO
   go_wp2_with fail
   go_ret2
   exact⟨v,rfl,HO.out,hb⟩
theorem MX(w:World):Calls Tryz.prog 247 #[.string ⟨#[98,98,118]⟩] w fun e w'=>e=.returned (.bool true)/\Below w.heap.size w w':=by
 have X_:=fun w=>aB (fF 0 98 1 w XB)
 have Uw:=fun w=>aB (fF 7 118 0 w ac9)
 go_enter Tryz.func247,Tryz.ntmps247
 go_wp2_with fail
 go_loopg [11] 3 (fun q i wr=>∃j:Nat,q=3 - j/\j<=3/\i=.int .i64 j/\Below w.heap.size w wr)
 case atStart=>exact⟨0,rfl,ae,rfl,aH _ _⟩
 case round=>
  obtain⟨j,hq,hj,rfl,hb⟩:=hrel;have HQ:=aB hq;have hz:=hb.size;clear hq
  rcases(show j=0\/j=1\/j=2\/j=3 by omega) with rfl|rfl|rfl|rfl
  ·go_wp2_with (go_at_call 248;refine((X_ _).out).mono ?_;rintro e w1 ⟨rfl,hb1⟩;have hz1:=hb1.size)
   go_roundg 2
   case measure=>have:=HQ.out;omega
   case rel=>exact⟨1,rfl,ae,ai,bw⟩
  ·go_wp2_with (go_at_call 248;refine((X_ _).out).mono ?_;rintro e w1 ⟨rfl,hb1⟩;have hz1:=hb1.size)
   go_roundg 1
   case measure=>have:=HQ.out;omega
   case rel=>exact⟨2,rfl,ae,ai,bw⟩
  ·go_wp2_with (go_at_call 248;refine((Uw _).out).mono ?_;rintro e w1 ⟨rfl,hb1⟩;have hz1:=hb1.size)
   go_roundg 0
   case measure=>have:=HQ.out;omega
   case rel=>exact⟨3,rfl,ae,ai,bw⟩
  ·go_wp2_with fail
   go_ret;exact⟨rfl,hb⟩
def lu(xa xb xc:Int):Nat->List Int
 | 0=>[]
 | 1=>[xa]
 | 2=>[xa]++[xb]
 | _=>[xa]++[xb]++fC xc
theorem Hq(xa xb xc:Int)(j:Nat):(lu xa xb xc j).length<=30:=by
 have hxc:=dM xc
 match j with
 | 0=>simp[lu]
 | 1=>simp only[lu,aI,aP,bf];omega
 | 2=>simp only[lu,aI,aP,bf];omega
 | n+3=>simp only[lu,aI,aP,bf];omega
theorem VC(xa xb xc:Int)(v:Value)(w:World)(hr:iH .u64 w v [xa,xb,xc])(xa0:0<=xa)(xa1:xa<256)(xb0:0<=xb)(xb1:xb<256)(xc0:0<=xc)(xc1:xc<18446744073709551616) :
 Calls Tryz.prog 147 #[.string ⟨#[98,98,118]⟩,v] w fun e w'=>∃v,e=.returned (.tuple #[v,.int .i64 0])/\OwnB w.heap.size w' v (lu xa xb xc 3)/\Below w.heap.size w w':=by
 obtain⟨AA,cn,rfl,hn,hc,hp⟩:=hr.form;obtain⟨gn,on,rfl,hgn,qZ⟩:=hp.at_ (j:=0) (by simp)
 obtain⟨g',o',e',_,rf⟩:=hp.at_ (j:=1) (by simp)
 simp only[bC,Addr.mk.injEq,and_true] at e';obtain⟨rfl,rfl⟩:=e';obtain⟨g',o',e',_,pU⟩:=hp.at_ (j:=2) (by simp)
 simp only[bC,Addr.mk.injEq,and_true] at e';obtain⟨rfl,rfl⟩:=e';simp only[aP,bf,List.getElem_cons_zero,List.getElem_cons_succ,Nat.add_zero] at hn qZ rf pU |-;have Xo:=aB qZ;have CN1:=aB rf;have CN2:=aB pU;have X_:=fun w=>aB (fF 0 98 1 w XB)
 have efb:oO 0=412:=rfl;rw[efb] at X_;have Uw:=fun w=>aB (fF 7 118 0 w ac9)
 have efv:oO 7=416:=rfl;rw[efv] at Uw;have aw8:∀args w,(callFunc 416 args).run Tryz.prog w=.ok (.enter 416 args) w:=fun _ _=>rfl
 have ai9:∀args w,(callFunc 412 args).run Tryz.prog w=.ok (.enter 412 args) w:=fun _ _=>rfl
 have Nu:Hid (lu xa xb xc 0++[xa]=lu xa xb xc 1):=aB rfl;have AU:Hid (lu xa xb xc 1++[xb]=lu xa xb xc 2):=aB rfl;have xu:Hid (lu xa xb xc 2++(fC xc)=lu xa xb xc 3):=aB rfl;have vC:=aB (Hq xa xb xc);have D0:Hid (xa / 256=0):=aB ae
 have D1:Hid (xb / 256=0):=aB ae
 clear hr hp efb efv qZ rf pU
 go_enter Tryz.func147,Tryz.ntmps147
 go_wp2_with fail;refine(MX w).mono ?_
 rintro e w1 ⟨rfl,hb1⟩;have hz1:=hb1.size
 go_wp2_with fail;obtain⟨g,hg⟩:∃g,w1.heap.size=g:=⟨_,rfl⟩;have W0:=aB (Wr.new 332 w1 w.heap.size hz1);have hb2:Below w.heap.size w (w1.alloc (.cells #[.slice none 0 0] 332)):=bw;rw[hg] at W0 |-;generalize w1.alloc (.cells #[.slice none 0 0] 332)=w2 at *;clear hg
 go_loopg [25] 3 (fun q i wr=>∃j:Nat,q=3 - j/\j<=3/\i=.int .i64 j/\Hid (Wr 332 w.heap.size wr g (lu xa xb xc j))/\Below w.heap.size w wr)
 case atStart=>exact⟨0,rfl,ae,rfl,W0,hb2⟩
 case round=>
  obtain⟨j,hq,hj,rfl,hw,hb⟩:=hrel;have HQ:=aB hq;have hz:=hb.size;clear hq
  rcases(show j=0\/j=1\/j=2\/j=3 by omega) with rfl|rfl|rfl|rfl
  ·have CQ:=(hb.cell (p:=⟨gn,on,none⟩) hgn).trans Xo.out
   have dq1:=D0.out;have dq2:IntKind.i64.wrap 8=8:=rfl
   go_wp2_with (first
    | (go_at_call 248;refine((X_ _).out).mono ?_;rintro e w3 ⟨rfl,hb3⟩;have hz3:=hb3.size)
    | (go_at_fn 412;refine((y_ g w.heap.size xa (lu xa xb xc 0) _ ((hw.out.keep hb3).keep ((aH _ _).alloc (aK _) _)) xa0 xa1 (by have:=vC.out 0;omega)).mono ?_);rintro e w4 ⟨rfl,k1,k2⟩;have mG:=k2.size;rw[Nu.out] at k1;have K1:=aB k1;clear k1))
   go_roundg 2
   case measure=>have:=HQ.out;omega
   case rel=>exact⟨1,rfl,ae,ai,K1,bw⟩
  ·have CQ:=(hb.cell (p:=⟨gn,on+1,none⟩) hgn).trans CN1.out
   have dq1:=D1.out;have dq2:IntKind.i64.wrap 8=8:=rfl
   go_wp2_with (first
    | (go_at_call 248;refine((X_ _).out).mono ?_;rintro e w3 ⟨rfl,hb3⟩;have hz3:=hb3.size)
    | (go_at_fn 412;refine((y_ g w.heap.size xb (lu xa xb xc 1) _ ((hw.out.keep hb3).keep ((aH _ _).alloc (aK _) _)) xb0 xb1 (by have:=vC.out 1;omega)).mono ?_);rintro e w4 ⟨rfl,k1,k2⟩;have mG:=k2.size;rw[AU.out] at k1;have K1:=aB k1;clear k1))
   go_roundg 1
   case measure=>have:=HQ.out;omega
   case rel=>exact⟨2,rfl,ae,ai,K1,bw⟩
  ·have CQ:=(hb.cell (p:=⟨gn,on+2,none⟩) hgn).trans CN2.out
   go_wp2_with (first
    | (go_at_call 248;refine((Uw _).out).mono ?_;rintro e w3 ⟨rfl,hb3⟩;have hz3:=hb3.size)
    | (go_at_fn 416;refine((lY g w.heap.size xc 0 (lu xa xb xc 2) _ ((hw.out.keep hb3).keep ((aH _ _).alloc (aK _) _)) xc0 xc1 (by have:=vC.out 2;omega)).mono ?_);rintro e w4 ⟨rfl,k1,k2⟩;have mG:=k2.size;rw[xu.out] at k1;have K1:=aB k1;clear k1))
   go_roundg 0
   case measure=>have:=HQ.out;omega
   case rel=>exact⟨3,rfl,ae,ai,K1,bw⟩
  ·obtain⟨hbg,v,hB,hO⟩:=hw.out
   have c0:=hB.cell 0;simp only[aF,aC] at c0;have HO:=aB hO;clear hB hO
   go_wp2_with fail
   go_ret2
   exact⟨v,rfl,HO.out,hb⟩
open Go.RowKit Go.Lib
theorem rM{w:World}{v:Value}{l:List Int}:iH .u8 w v l<->gz bE w v l:=by
 unfold iH gz;rw[IE];rfl
def LsB(w:World)(g:Nat)(L:List (List Int)):Prop:=g<w.heap.size/\∀j (h:j<L.length),∃A c,w.cell? ⟨g,j,none⟩=some (.slice A (L[j]).length c)/\gz bE w (.slice A (L[j]).length c) L[j]
theorem LsB.keep{w w':World}{g:Nat}{L:List (List Int)}(h:LsB w g L)(hb:Below w.heap.size w w'):LsB w' g L:=
 ⟨aU h.1 hb.size,fun j hj=>by
  obtain⟨A,c,h1,h2⟩:=h.2 j hj;exact⟨A,c,(hb.cell (p:=⟨g,j,none⟩) h.1).trans h1,h2.keep hb⟩⟩
theorem as2(n:Nat)(w:World)(hn:n<=1099511627776) :
 Calls Tryz.prog 367 #[.slice none 0 0,.int .i64 n] w fun e w'=>∃v,e=.returned v/\dI bE w.heap.size w' v []/\Below w.heap.size w w':=by
 obtain⟨i0,hi,hz0,hz1,hz2⟩:=info_parts bI
 by_cases h0:n=0
 ·subst h0
  go_enter Tryz.func367,Tryz.ntmps367
  go_wp2_with fail
  go_ret;exact⟨_,rfl,dI.nil_ _ _,bw⟩
 ·have hold:(Builtin.firstCells i0.size 0 (.slice none 0 0)).run Tryz.prog w.drew=.ok #[] w.drew:=run_firstCells_none w.drew i0.size 0 0 0
  have hrz:∀ty,(Builtin.append_ #[22,3] ty #[.slice none 0 0,.int .i64 (n:Int)]).run Tryz.prog w =
   .ok (.slice (some ⟨w.heap.size,0,none⟩) n (grownCap w n 0 5)) (w.drew.alloc (.cells (([]:List Value).toArray++Builtin.zeroCells (Value.int .u8 0).cells n++Builtin.zeroCells (Value.int .u8 0).cells (grownCap w n 0 5 - n)) 5)):=fun ty=>by
   have h:=Lib.run_append_grow_zeros w 22 3 ty 5 i0 _ .i64 .i64 Tryz.underlying22 Tryz.underlying3 hi hz0 none 0 0 [] hold n ae  ae  ae  ae (by rw[hz2];omega) (growslice_fits ae (by rw[hz2];omega))
   simpa using h
  have hGn:n<=grownCap w n 0 5:=grownCap_ge w _ _ _;have hG63:grownCap w n 0 5<=maxLen:=grownCap_le_maxLen w n 0 5 (by unfold maxLen;omega)
  obtain⟨G,hG⟩:∃G,grownCap w n 0 5=G:=⟨_,rfl⟩;rw[hG] at hrz hGn hG63;obtain⟨Z,hZ⟩:∃Z:Array Value,(([]:List Value).toArray++Builtin.zeroCells (Value.int .u8 0).cells n++Builtin.zeroCells (Value.int .u8 0).cells (G - n))=Z:=⟨_,rfl⟩;rw[hZ] at hrz;have hZs:Z.size=G * 1:=by
   rw[<-hZ,Array.size_append,Array.size_append,size_zeroCells,size_zeroCells];simp only[Value.cells,List.size_toArray,aP,bf];omega
  have HZ:=aB hZs;have HG:=aB hG63;have hG':G<=9223372036854775807:=by unfold maxLen at hG63;omega
  clear hZ hZs hG hold hi hz0 hz1 hz2 hG63
  go_enter Tryz.func367,Tryz.ntmps367
  go_wp2_with (at_builtin;refine Lib.wpList_append_run _ rfl _ _ _ _ rfl _ _ rfl rfl _ _ (hrz _) ?_)
  go_ret;refine⟨_,rfl,?_,bw⟩
  exact⟨by simp[cellsE],.inr ⟨w.heap.size,G,Z,rfl,aK _,heap_alloc_new _ _,bW _,HG.out,HZ.out,by simp[cellsE]⟩⟩
theorem EC{L:List (List Int)}{i:Nat}(h:i<L.length):(L.take (i+1)).flatten=(L.take i).flatten++L[i]:=by
 rw[aT h,List.flatten_append];simp
theorem ED(L:List (List Int))(i:Nat):(L.take i).flatten.length<=L.flatten.length:=by
 have h:L.flatten=(L.take i).flatten++(L.drop i).flatten:=by rw[<-List.flatten_append,List.take_append_drop]
 rw[h,aI];omega
theorem Zi(g:Nat)(L:List (List Int))(w:World)(h:LsB w g L)(hL:L.length<=1000)(hlen:L.flatten.length<=1000000000) :
 Calls Tryz.prog 272 #[.slice (some ⟨g,0,none⟩) L.length L.length] w fun e w'=>∃v,e=.returned v/\dI bE w.heap.size w' v L.flatten/\Below w.heap.size w w':=by
 obtain⟨i0,hi0,hiz,his,hib⟩:=info_parts bI;have HI:=aB hi0;have HZ0:=aB hiz;have Nw:=aB his;have Gy:=aB hib;clear hi0 hiz his hib;have H:=aB h;clear h
 go_enter Tryz.func272,Tryz.ntmps272
 go_wp2_with fail
 go_loopg [3,5,11] L.length (fun q sz _ i wr=>(∃j z:Nat,q=L.length - j/\j<=L.length/\i=.int .i64 (j:Int)/\sz=.int .i64 (z:Int)/\Hid ((L.take j).flatten.length=z))/\w=wr)
 case atStart=>exact⟨⟨0,0,rfl,ae,rfl,rfl,rfl⟩,rfl⟩
 case round=>
  obtain⟨⟨j,z,hk,hj,rfl,rfl,HZ⟩,rfl⟩:=hrel;have HK:=aB hk;clear hk;have hz0:z<=1000000000:=by have:=ED L j;have:=HZ.out;omega
  by_cases hlt:j<L.length
  ·obtain⟨sA,sc,c2,r0⟩:=H.out.2 j hlt
   have HT:Hid ((L.take (j+1)).flatten.length=z+(L[j]).length):=aB (by rw[EC hlt,aI,HZ.out])
   have ht:z+(L[j]).length<=1000000000:=by have:=ED L (j+1);have:=HT.out;omega
   obtain⟨x,hx⟩:∃x,(L[j]).length=x:=⟨_,rfl⟩;rw[hx] at c2 HT ht;clear r0 hx
   go_wp2_with fail
   go_roundg (L.length - (j+1))
   case measure=>have:=HK.out;omega
   case rel=>exact⟨⟨j+1,z+x,rfl,ae,ai,ai,HT⟩,rfl⟩
  ·have hjL:j=L.length:=ae
   clear HK
   go_wp2_with fail;refine(as2 z w ae).mono ?_
   rintro e w1 ⟨v1,rfl,o1,hb1⟩;have O1:=aB o1;have HB1:=aB hb1;clear o1 hb1
   go_wp2_with fail
   go_loopg [6,8,27] L.length (fun q ns _ i wx=>∃k:Nat,q=L.length - k/\k<=L.length/\i=.int .i64 (k:Int)/\Hid (dI bE w.heap.size wx ns (L.take k).flatten)/\Hid (Below w.heap.size w wx))
   case atStart=>exact⟨0,rfl,ae,rfl,O1,HB1⟩
   case round=>
    obtain⟨k,hk,hk2,rfl,HO,HB2⟩:=hrel;have HK:=aB hk;have hz2:=HB2.out.size;clear hk
    by_cases hlt2:k<L.length
    ·obtain⟨sA,sc,c2,r0⟩:=(H.out.keep HB2.out).2 k hlt2
     have R0:=aB r0;have HT:=aB (EC hlt2);have ht:(L.take k).flatten.length+(L[k]).length<=1000000000:=by
      have h1:=ED L (k+1);rw[HT.out,aI] at h1;omega
     obtain⟨l,hl⟩:∃l,L[k]=l:=⟨_,rfl⟩;rw[hl] at c2 R0 HT ht;obtain⟨o,ho⟩:∃o,(L.take k).flatten=o:=⟨_,rfl⟩;rw[ho] at HO HT ht;clear r0 hl ho;obtain⟨A5,c5,rfl,_,_,_⟩:=HO.out.form
     go_wp2_with (at_builtin;refine pY wC rfl (.tmp 31) (.tmp 32) rfl HO.out rfl _ l rfl R0.out ae  ae ?_;intro v8 w8 o8 g8 a8)
     have zJ:Hid (Below w.heap.size w w8):=aB (HB2.out.grown g8 ae (fun x hx=>(HO.out.lt x hx).1))
     have O8:=aB o8;clear o8 g8 a8
     go_wp2_with fail
     go_roundg (L.length - (k+1))
     case measure=>have:=HK.out;omega
     case rel=>exact⟨k+1,rfl,ae,ai,aB (by rw[HT.out];exact O8.out),zJ⟩
    ·obtain rfl:k=L.length:=ae
     have ho:=HO.out;rw[List.take_length] at ho;have AU:=aB ho;clear ho HO
     go_wp2_with fail
     go_ret;exact⟨_,rfl,AU.out,HB2.out⟩
open Go.RowKit Go.Lib
theorem as3(l:List Int):0<=Vs l/\Vs l<4294967296:=mF _ _ _
def qM(b:List Int):List Int:=b++FC 4 (Vs b)
theorem Qm(base:Nat)(v:Value)(b:List Int)(w:World)(h:dI bE base w v b)(hbz:base<=w.heap.size)(hl:b.length<=1000000000) :
 Calls Tryz.prog 271 #[v] w fun e w'=>∃u,e=.returned u/\dI bE base w' u (qM b)/\Below base w w':=by
 obtain⟨A,k,rfl,_,_,_⟩:=h.form;have H:=aB h;clear h
 go_enter Tryz.func271,Tryz.ntmps271
 go_upto_region 1 with fail
 go_wp2_with fail;refine(MV w).mono ?_
 rintro e w1 ⟨g,rfl,hc,_,hb1⟩;have HC:=aB hc;have hz1:=hb1.size;have O1:=aB (H.out.keep hb1);clear hc;have S:=aB (MS g _ b w1 HC.out (rM.2 O1.out.rd) ae)
 go_wp2_with fail;refine(S.out).mono ?_
 rintro e w' ⟨rfl,rfl⟩;obtain⟨c0,c1⟩:=as3 b;have HS:Hid (qM b=b++FC 4 (Vs b)):=aB rfl;obtain⟨c,hc⟩:∃c,Vs b=c:=⟨_,rfl⟩;rw[hc] at c0 c1 HS;rw[hc];have ew:IntKind.u64.wrap c=c:=by rw[eH];omega
 clear hc S
 go_upto_region 2 with(fail);have hba:Below w.heap.size w (w1.alloc (.cells #[.int .u64 c] 53)):=hb1.alloc hz1 _;refine(VB c _ _ (iH.dY _ _ w1 c _ rfl) c0 c1).mono ?_
 rintro e w2 ⟨s,rfl,os,hb2⟩;have hb3:Below w.heap.size w w2:=hba.trans (hb2.mono hba.size);have OS:Hid (dI bE w.heap.size w2 s (FC 4 c)):=aB (dI.more (dR.1 os) hba.size);have O2:=aB (H.out.keep hb3);have hz3:=hb3.size;have h4:=uP 4 c;clear os hb2 hba
 go_wp2_with (at_builtin;refine pY wC rfl (.tmp 14) (.tmp 15) rfl O2.out rfl _ (FC 4 c) rfl OS.out.rd ae  ae ?_;intro v8 w8 o8 g8 a8)
 have zJ:Hid (Below base w w8):=aB ((hb3.mono hbz).grown g8 ae (fun x hx=>(O2.out.lt x hx).1))
 have O8:=aB o8;clear o8 g8 a8
 go_wp2_with fail
 go_ret;exact⟨_,rfl,by rw[HS.out];exact O8.out,zJ.out⟩
def EE(k:Int)(t:List Int):List Int:=[81,83,2]++([k]++[0]++fC t.length)++t
def lK(k:Int)(t:List Int):List Int:=qM (EE k t)
theorem MZ(k:Int)(l u:Value)(t:List Int)(w:World)(hl:iH .u64 w l [k,0,(t.length:Int)])(hu:iH .u8 w u t)(k0:0<=k)(k1:k<256)(ht:t.length<=100000000) :
 Calls Tryz.prog 179 #[.int .u8 2,.string ⟨#[98,98,118]⟩,l,u] w fun e w'=>∃v,e=.returned (.tuple #[v,.int .i64 0])/\dI bE w.heap.size w' v (lK k t)/\Below w.heap.size w w':=by
 obtain⟨A,c,rfl,_,_,_⟩:=hl.form;obtain⟨Au,cu,rfl,_,_,_⟩:=hu.form;have P:=aB (VC k 0 t.length _ w hl k0 k1 ae  ae  ae  ae)
 have HU:=aB hu;clear hl hu
 go_enter Tryz.func179,Tryz.ntmps179
 go_wp2_with fail;refine(P.out).mono ?_
 rintro e w1 ⟨h,rfl,oh,hb1⟩;obtain⟨Ah,ch,rfl,_,_,_⟩:=(dR.1 oh).form;have OH:=aB (dR.1 oh);have hz1:=hb1.size;clear oh P
 go_upto_region 4 with fail;obtain⟨hh,hhe⟩:∃q,lu k 0 t.length 3=q:=⟨_,rfl⟩;have HH:=aB hhe;have Xb:hh.length<=30:=by rw[<-hhe];exact Hq _ _ _ _
 rw[hhe] at OH |-;clear hhe;obtain⟨b,hb⟩:∃b,w1.heap.size=b:=⟨_,rfl⟩;obtain⟨wa,jM⟩:∃q,(w1.alloc (.cells #[.int .u8 81,.int .u8 83,.int .u8 2] 5)).alloc (.cells #[.slice (some ⟨b,0,none⟩) 3 3,.slice Ah hh.length ch,.slice Au t.length cu] 22)=q:=⟨_,rfl⟩;have B1:Below w1.heap.size w1 wa:=by rw[<-jM];exact bw
 have hza:wa.heap.size=b+2:=by rw[<-jM,<-hb];simp
 have X0:dI bE b wa (.slice (some ⟨b,0,none⟩) 3 3) [81,83,2]:=by
  have h:=(dI.lit (E:=bE) w1 [81,83,2] 5 rfl #[.int .u8 81,.int .u8 83,.int .u8 2] rfl ag).alloc (.cells #[.slice (some ⟨b,0,none⟩) 3 3,.slice Ah hh.length ch,.slice Au t.length cu] 22)
  rw[jM,hb] at h;exact h
 have X1:dH wa (b+1) 22 #[.slice (some ⟨b,0,none⟩) 3 3,.slice Ah hh.length ch,.slice Au t.length cu]:=by
  have h:=dH.new (w1.alloc (.cells #[.int .u8 81,.int .u8 83,.int .u8 2] 5)) 22 #[.slice (some ⟨b,0,none⟩) 3 3,.slice Ah hh.length ch,.slice Au t.length cu];rw[jM,aO,hb] at h;exact h
 have LS:Hid (LsB wa (b+1) [[81,83,2],hh,t]):=aB ⟨by omega,fun j hj=>by
  have hc:=X1.cell j
  rcases(by simp only[aP,bf] at hj;omega:j=0\/j=1\/j=2) with rfl|rfl|rfl
  ·exact⟨_,_,hc,X0.rd⟩
  ·exact⟨_,_,hc,(OH.out.keep B1).rd⟩
  ·exact⟨_,_,hc,rM.1 (HU.out.keep (hb1.trans (B1.mono hb1.size)))⟩⟩
 have HE:Hid (EE k t=[[81,83,2],hh,t].flatten):=aB (by rw[<-HH.out];simp[EE,lu])
 have HL:([[81,83,2],hh,t]:List (List Int)).flatten.length<=1000000000:=ah
 have C:=aB (Zi (b+1) [[81,83,2],hh,t] wa LS.out ag HL)
 have ha:Below w.heap.size w wa:=hb1.trans (B1.mono hb1.size);rw[<-HE.out] at C HL;clear X0 X1 B1
 go_wp2_with fail;refine(C.out).mono ?_
 rintro e w2 ⟨v2,rfl,o2,hb2⟩;have hb3:Below w.heap.size w w2:=ha.trans (hb2.mono ha.size);have S:=aB (Qm wa.heap.size v2 (EE k t) w2 o2 hb2.size HL);have HB2:=aB hb2;clear o2 jM hb2
 go_wp2_with fail;refine(S.out).mono ?_
 rintro e w3 ⟨v3,rfl,o3,hb4⟩;have hb5:Below w.heap.size w w3:=hb3.trans (hb4.mono ha.size);have O3:=aB o3;clear o3
 go_wp2_with fail
 go_ret2
 exact⟨_,rfl,dI.more O3.out ha.size,hb5⟩
theorem Zj(w:World)(a b c:Int):iH .u64 (w.alloc (.cells #[.int .u64 a,.int .u64 b,.int .u64 c] 53)) (.slice (some ⟨w.heap.size,0,none⟩) 3 3) [a,b,c]:=by
 have h:dN 53 .u64 w.heap.size (w.alloc (.cells #[.int .u64 a,.int .u64 b,.int .u64 c] 53)) (.slice (some ⟨w.heap.size,0,none⟩) 3 3) [a,b,c]:=
  ⟨rfl,.inr ⟨w.heap.size,3,_,rfl,aK _,heap_alloc_new _ _,ag,by unfold maxLen;omega,rfl,ag⟩⟩
 exact h.rd
theorem H_(k:Int)(u:Value)(t:List Int)(w:World)(hu:iH .u8 w u t)(k0:1<=k)(k1:k<=4)(ht:t.length<=1048576) :
 Calls Tryz.prog 178 #[.int .u8 k,u] w fun e w'=>e=.returned (.bool true)/\w=w':=by
 obtain⟨A,c,rfl,_,_,_⟩:=hu.form;clear hu;have h1:(t.length:Int)<=1048576:=ae
 have h2:k>=1:=k0
 go_enter Tryz.func178,Tryz.ntmps178
 go_wp2_with fail
 go_ret;exact⟨rfl,rfl⟩
theorem M_(k:Int)(u:Value)(t:List Int)(w:World)(hu:iH .u8 w u t)(k0:1<=k)(k1:k<=4)(ht:t.length<=1048576) :
 Calls Tryz.prog 83 #[.int .u8 k,u,.bool false] w fun e w'=>∃v,e=.returned (.tuple #[v,.int .i64 0])/\dI bE w.heap.size w' v (lK k t)/\Below w.heap.size w w':=by
 have M:=aB (H_ k u t w hu k0 k1 ht);obtain⟨A,c,rfl,_,_,_⟩:=hu.form;have HU:=aB hu;have e1:IntKind.u64.wrap k=k:=by rw[eH];omega
 have e2:IntKind.u64.wrap (t.length:Int)=t.length:=by rw[eH];omega
 clear hu
 go_enter Tryz.func83,Tryz.ntmps83
 go_wp2_with fail;refine(M.out).mono ?_
 rintro e w' ⟨rfl,rfl⟩
 go_wp2_with fail;have hb1:Below w.heap.size w (w.alloc (.cells #[.int .u64 k,.int .u64 0,.int .u64 t.length] 53)):=bw;have L:=Zj w k 0 t.length;refine(MZ k _ _ t _ L (HU.out.keep hb1) ae  ae  ae).mono ?_
 rintro e w3 ⟨v3,rfl,o3,hb3⟩;have hb5:Below w.heap.size w w3:=hb1.trans (hb3.mono hb1.size);have O3:=aB o3;clear o3 L hb3
 go_wp2_with fail
 go_ret2
 exact⟨_,rfl,dI.more O3.out hb1.size,hb5⟩
end Go.Proofs.YtkiebccnpheloaaGreat.D
