/- Parts of a proof: what its theorem reaches, words cut short. No condition of its own. -/
import Derived.Test.YtkiebccnpheloaaGreatPk34
set_option maxRecDepth 100000
set_option maxHeartbeats 16000000
set_option linter.unusedVariables false
set_option linter.unusedSimpArgs false
namespace Go.Proofs.YtkiebccnpheloaaGreat.K
open Go.RowKit
theorem D8.next{F F1:Nat->Prop}{w wr:World}{cg r:Nat}{cv:Value}(h:D8 F w cg r cv)(hs:∀k,F1 k->F k\/w.heap.size<=k)(hz:w.heap.size<=wr.heap.size):D8 F1 wr cg r cv:=by
 have a1:=h.lr;have a2:=h.lg;refine⟨fun e=>?_,fun e=>?_,fun k e=>⟨fun e2=>?_,?_⟩,ae,ae⟩
 ·rcases hs cg e with e|e
  ·exact h.fg e
  ·omega
 ·rcases hs r e with e|e
  ·exact h.fr e
  ·omega
 ·have:=h.fv k e
  rcases hs k e2 with e3|e3
  ·exact this.1 e3
  ·omega
 ·have:=(h.fv k e).2;omega
theorem KC.touch{F:Nat->Prop}{w w':World}{cg r a:Nat}{cv:Value}{B:List Int}(h:KC w cg r cv B a)(hf:D8 F w cg r cv)(ht:Touch F w w'):KC w' cg r cv B a:=
 h.stay (ht.block cg hf.lg hf.fg) (ht.block r hf.lr hf.fr) (fun k e=>ht.block k (hf.fv k e).2 (hf.fv k e).1) ht.size
theorem IM.back{F F1:Nat->Prop}{w wr w':World}{g k n cg r:Nat}{cv lv:Value}{B:List Int}{s0 s:KS}{F':Nat->Prop}{vs:List Sv}(h:IM F1 wr g k n cg r cv B s0 F' w' lv vs s)
 (h1:∀k,F1 k->F k\/w.heap.size<=k) (h2:∀k,F k->F1 k) (ht:Touch F w wr):IM F w g k n cg r cv B s0 F' w' lv vs s:=by
 have hz:=ht.size;refine⟨h.st,h.co,h.ok,h.eq,fun kk e=>?_,fun kk e=>h.sup kk (h2 kk e),?_⟩
 ·rcases h.sub kk e with e|e
  ·exact h1 kk e
  ·exact .inr ae
 ·refine(ht.mono (G:=fun k=>F k\/k=r) fun _ hi=>.inl hi).trans h.touch fun i hi=>?_
  rcases hi with hi|hi
  ·rcases h1 i hi with e|e
   ·exact .inl (.inl e)
   ·exact .inr e
  ·exact .inl (.inr hi)
theorem and_one(m:Nat)(h:m<18446744073709551616):bits .and .u64 (m:Int) 1=((m % 2:Nat):Int):=by
 have h1:=bits_and_u64_nat m 1 h ae
 rw[Nat.and_one_is_mod] at h1;exact h1
structure ae3(F:Nat->Prop)(w:World)(g k n led:Nat)(v:Int)(c:Nat)(L:LL)(j:Nat)(F1:Nat->Prop)(wr:World)(lv:Value)(vs:List Sv)(L1:LL):Prop where
 st:rV F1 wr g k n led lv vs L1
 eq:gW L v c=nM (64 - j) j (c / 2 ^ j) L1 v
 gY:∀i,qA (lvl L1 i)
 len:L1.length<=49
 cnt:cnt L1<=cnt L+j
 sub:∀k,F1 k->F k\/w.heap.size<=k
 sup:∀k,F k->F1 k
 touch:Touch F w wr
theorem x8{L:LL}(h:∀i,qA (lvl L i))(j:Nat)(vs:List Int):∀i,qA (lvl (jP L j vs) i):=fun i=>by
 rw[kK]
 split
 ·exact DI (h _) _
 ·exact h i
theorem tN{L:LL}{led a:Nat}(h:ja (L,led,a))(v:Int)(c:Nat)(hc:wt L+c<=281474976710656)(hn:cnt L<=900000):ja (gW L v c,led,a):=by
 refine⟨?_,h.top.add v c,?_,?_,h.led⟩
 ·exact yZ (P:=fun L=>∀i,qA (lvl L i)) (fun L h hp=>x8 hp h [v]) 64 0 c L h.gY
 ·show wt (gW L v c)<=_
  rw[IK _ _ ae];exact hc
 ·show cnt (gW L v c)<=_
  have:=XU L v c;omega
theorem ae4{F:Nat->Prop}{g k n led cg r a c:Nat}{cv lv:Value}{vs:List Sv}{B:List Int}{L:LL}(v:Int)(w:World)(hs:rV F w g k n led lv vs L)(hco:KC w cg r cv B a)(hf:D8 F w cg r cv)(hok:ja (L,led,a))
 (hn:n=wt L) (hc0:0<c) (hc:n+c<=281474976710656) (hcn:cnt L<=900000) (h2:2<=k) (hk:k<=1000000) :
 Calls Tryz.prog 134 #[.pointer (some ⟨g,0,none⟩),.int .i64 v,.int .u64 c,.pointer (some ⟨cg,0,none⟩)] w fun e w'=>e=.returned (.int .i64 0)/\∃F' pX vs',IM F w g k (n+c) cg r cv B (gW L v c,led,a) F' w' pX vs' (gB k B (gW L v c,led,a))/\gZ k (gB k B (gW L v c,led,a)).1=none:=by
 have HA0:Hid (ae3 F w g k (n+c) led v c L 0 F (w.setCell ⟨g,2,none⟩ (.int .u64 (n+c:Nat))) lv vs L):=aB ⟨hs.Ph _,by simp[gW],hok.gY,hok.len,aK _,fun _ h=>.inl h,fun _ h=>h,Touch.setCell (Touch.refl _ _) (.inl hs.fg) _⟩
 have k2:=hs.cell2;have f2:=hs.blk.frozen 2;have HCO:=aB hco;have HF:=aB hf;have oN:=aB hok;have qF:=aB (tN hok v c ae hcn)
 clear hs hco hf hok hn;have hc1:¬(c:Int)=0:=ae
 have hc2:¬(c:Int) > 281474976710656 - (n:Int):=ae
 go_enter Tryz.func134,Tryz.ntmps134
 go_wp2_with fail
 go_loopg [9] 64 (fun q i wr=>∃(j:Nat) (F1:Nat->Prop) (oP:Value) (vs1:List Sv) (L1:LL),q=64 - j/\j<=49/\i=.int .i64 (j:Int)/\Hid (ae3 F w g k (n+c) led v c L j F1 wr oP vs1 L1))
 case atStart=>
  have HA1:=HA0.out;rw[dh] at HA1;exact⟨0,F,lv,vs,L,rfl,ae,rfl,aB HA1⟩
 case round=>
  obtain⟨j,F1,oP,vs1,L1,hq,hj,rfl,HA⟩:=hrel;have HQ:=aB hq;clear hq;obtain⟨m,hm⟩:∃m,c / 2 ^ j=m:=⟨_,rfl⟩;have hmc:m<=c:=by rw[<-hm];exact Nat.div_le_self ..
  have Ir:(c:Int) / 2 ^ j=(m:Int):=by
   rw[<-hm,Int.natCast_ediv,Int.natCast_pow];rfl
  have HM:=aB hm;have Iu:=aB Ir;clear Ir;have hsz:=HA.out.touch.size
  by_cases hm0:m=0
  ·have Yq:¬(m:Int) > 0:=ae
   have hEQ:L1=gW L v c:=by rw[HA.out.eq,HM.out,hm0,yY]
   subst hEQ;have HP:=aB (Lh (s0:=(gW L v c,led,a)) wr HA.out.st (HCO.out.touch HF.out HA.out.touch) (HF.out.next HA.out.sub hsz) qF.out h2 hk)
   go_wp2_with (first|(have Ir:=Iu.out;rw[Ir]))
   refine(HP.out).mono ?_
   rintro e w2 ⟨rfl,F2,Af,vs2,q1,q2⟩;have Q1:=aB q1;have Q2:=aB q2;clear q1 q2 HP
   go_wp2_with fail;refine bodyPost_ret (by simp[results,Tryz.results134,go_sem, *];try rfl) rfl ?_
   exact⟨rfl,F2,Af,vs2,Q1.out.back HA.out.sub HA.out.sup HA.out.touch,Q2.out⟩
  ·have Yq:(m:Int) > 0:=ae
   have ax5:j<=48:=by
    rcases bJ j 49 with h1|h1
    ·omega
    ·have h3:2 ^ 49<=2 ^ j:=Nat.pow_le_pow_right af h1
     have h4:c / 2 ^ j=0:=Nat.div_eq_of_lt ae
     have:=HM.out;omega
   have hmd:c / 2 ^ (j+1)=m / 2:=by rw[Nat.pow_succ,<-Nat.div_div_eq_div_mul,HM.out]
   have VL:Hid (nM (64 - j) j m L1 v=nM (64 - (j+1)) (j+1) (m / 2) (if m % 2=1 then jP L1 j [v] else L1) v):=aB (by
    rw[show 64 - j=(64 - (j+1))+1 by omega,nM,if_neg hm0])
   have Rz:=aB hmd;have HAN:=aB (and_one m ae)
   clear hmd;have ax6:j+1<=49:=ae
   by_cases hm1:m % 2=1
   ·have IQ:((m % 2:Nat):Int)=1:=ae
    have EO:=aB (put_any j (.slice (some ⟨wr.heap.size,0,none⟩) 1 1) [v] (wr.alloc (.cells #[.int .i64 v] 2)) (HA.out.st.keep ((aH _ _).alloc (aK _) _)) (Aside.nU (dI.one (E:=fZ) wr v _ rfl _ rfl) fun kk e h1=>by
     have e:=Option.some.inj (show some wr.heap.size=some kk from e)
     have:=HA.out.st.low kk h1;omega) (HA.out.gY j) ae (by have:=HA.out.len;omega) (by have:=fB L1 j;have:=HA.out.cnt;omega) ag)
    have Ir:=Iu.out;have han:bits .and .u64 (m:Int) 1=1:=by rw[HAN.out];exact IQ
    go_wp2_with fail;refine(EO.out).mono ?_
    rintro e w2 ⟨rfl,F2,Af,vs2,q1,q2,q3,q4⟩;have Q1:=aB q1;have Q2:=aB q2;have Q3:=aB q3;have Q4:=aB q4;have PL:(wr.alloc (.cells #[.int .i64 v] 2)).heap.size=wr.heap.size+1:=ag
    rw[PL] at q1;have Q1:=aB q1;clear q1 q2 q3 q4 EO PL
    go_wp2_with fail
    go_roundg (64 - (j+1))
    case measure=>have:=HQ.out;omega
    case rel=>
     refine⟨j+1,F2,Af,vs2,jP L1 j [v],rfl,ae,ai,aB ⟨Q3.out,?_,x8 HA.out.gY j [v],?_,?_,?_,?_,?_⟩⟩
     ·rw[HA.out.eq,HM.out,Rz.out,VL.out,if_pos hm1]
     ·rw[fV];have:=HA.out.len;omega
     ·rw[nJ];have:=HA.out.cnt;simp;omega
     ·intro kk hk1
      rcases Q1.out kk hk1 with h1|h1
      ·exact HA.out.sub kk h1
      ·exact .inr ae
     ·exact fun kk hk1=>Q2.out kk (HA.out.sup kk hk1)
     ·exact(HA.out.touch.alloc _).trans Q4.out fun i hi=>HA.out.sub i hi
   ·have IQ:((m % 2:Nat):Int)=0:=ae
    have Ir:=Iu.out;have han:bits .and .u64 (m:Int) 1=0:=by rw[HAN.out];exact IQ
    go_wp2_with fail
    go_roundg (64 - (j+1))
    case measure=>have:=HQ.out;omega
    case rel=>
     refine⟨j+1,F1,oP,vs1,L1,rfl,ae,ai,aB ⟨HA.out.st,?_,HA.out.gY,HA.out.len,?_,HA.out.sub,HA.out.sup,HA.out.touch⟩⟩
     ·rw[HA.out.eq,HM.out,Rz.out,VL.out,if_neg hm1]
     ·have:=HA.out.cnt;omega
theorem add_zero(g:Nat)(v:Int)(q:Value)(w:World) :
 Calls Tryz.prog 134 #[.pointer (some ⟨g,0,none⟩),.int .i64 v,.int .u64 0,q] w fun e w'=>e=.returned (.int .i64 4)/\w=w':=by
 go_enter Tryz.func134,Tryz.ntmps134
 go_wp2_with fail
 go_ret;exact⟨rfl,rfl⟩
theorem add_over{F:Nat->Prop}{g k n led:Nat}{lv:Value}{vs:List Sv}{L:LL}(v:Int)(c:Nat)(q:Value)(w:World)(hs:rV F w g k n led lv vs L)(hn:n<=281474976710656)(hc:281474976710656<n+c)(bg7:c<18446744073709551616) :
 Calls Tryz.prog 134 #[.pointer (some ⟨g,0,none⟩),.int .i64 v,.int .u64 c,q] w fun e w'=>e=.returned (.int .i64 6)/\w=w':=by
 have k2:=hs.cell2;have h1:¬(c:Int)=0:=ae
 have h2:(c:Int) > 281474976710656 - (n:Int):=ae
 clear hs
 go_enter Tryz.func134,Tryz.ntmps134
 go_wp2_with fail
 go_ret;exact⟨rfl,rfl⟩
open Go.RowKit
structure zh(F:Nat->Prop)(w:World)(g k cg:Nat)(cv:Value)(B:List Int)(s0:KS)(F1:Nat->Prop)(wr:World)(lv:Value)(vs:List Sv)(s:KS):Prop where
 st:DR F1 wr g k s.2.1 lv vs s.1
 co:RC wr cg cv B s.2.2
 ok:ja s
 eq:gB k B s0=gB k B s
 sub:∀k,F1 k->F k\/w.heap.size<=k
 touch:Touch (fun k=>F k\/k=cg) w wr
theorem zh.drew{F F1:Nat->Prop}{w wr:World}{g k cg:Nat}{cv lv:Value}{B:List Int}{s0 s:KS}{vs:List Sv}(h:zh F w g k cg cv B s0 F1 wr lv vs s):zh F w g k cg cv B s0 F1 wr.drew lv vs s:=
 ⟨h.st.keep (aH _ _).drew,h.co.stay rfl (fun _ _=>rfl) (aK _),h.ok,h.eq,h.sub,h.touch.drew⟩
structure zO(F:Nat->Prop)(w:World)(cg:Nat)(cv:Value):Prop where
 fg:¬F cg
 fv:∀k,cv.ownBlock=some k->¬F k/\k<w.heap.size
 lg:cg<w.heap.size
structure PM(F:Nat->Prop)(w:World)(g k led cg ga sc:Nat)(cv lv:Value)(B:List Int)(a:Nat)(l:List Int)(F1:Nat->Prop)(wr:World)(vs:List Sv)(M:LL):Prop where
 st:DR F1 wr g k led lv vs M
 fa:¬F1 ga
 ol:dI fZ 0 wr (.slice (some ⟨ga,0,none⟩) l.length sc) l
 co:RC wr cg cv B a
 sub:∀k,F1 k->F k\/w.heap.size<=k
 touch:Touch (fun k=>F k\/k=cg) w wr
theorem mZ.less{t:TypeId}{a:Value}{rest:List Value}{F:Nat->Prop}{w:World}{g ga:Nat}{lv:Value}{vs:List Sv}{L:LL}(h:mZ t a rest F w g lv vs L)(h0:ga≠g)(h1:lv.ownBlock≠some ga)(h2:∀i (hi:i<vs.length),(gX vs[i]).ownBlock≠some ga) :
 mZ t a rest (fun k=>F k/\k≠ga) w g lv vs L:=
 ⟨h.blk,⟨h.fJ.row,h.fJ.len,h.fJ.each,h.fJ.apart,h.fJ.diff,fun k e=>⟨h.fJ.fl k e,fun e2=>h1 (e2▸e)⟩,fun i hi k e=>⟨h.fJ.fv i hi k e,fun e2=>h2 i hi (e2▸e)⟩⟩,⟨h.fg,fun e=>h0 e.symm⟩,h.g1,h.g2,fun k hk=>h.low k hk.1⟩
theorem PM.turn{F:Nat->Prop}{w:World}{g k led led' cg ga sc:Nat}{cv lv pX:Value}{B:List Int}{a:Nat}{l:List Int}{F1 F2:Nat->Prop}{wr wx:World}{vs vs':List Sv}{M M':LL}(h:PM F w g k led cg ga sc cv lv B a l F1 wr vs M)
 (hf:zO F w cg cv) (ht:Touch F1 wr wx) (hs:DR F2 wx g k led' pX vs' M') (hsub:∀k,F2 k->F1 k\/wr.heap.size<=k):PM F w g k led' cg ga sc cv pX B a l F2 wx vs' M':=by
 have hga:=(h.ol.lt ga rfl).2;have hz:=h.touch.size;have hc:=hf.lg;have hn:∀kk,kk<w.heap.size->¬F kk->¬F1 kk:=fun kk h1 h2 e=>by
  rcases h.sub kk e with e|e
  ·exact h2 e
  ·omega
 refine⟨hs,fun e=>?_,h.ol.stay fun kk e=>?_,h.co.stay (ht.block cg ae (hn cg hc hf.fg)) (fun kk e=>ht.block kk (by have:=(hf.fv kk e).2;omega) (hn kk (hf.fv kk e).2 (hf.fv kk e).1)) ht.size,fun kk e=>?_,?_⟩
 ·rcases hsub ga e with e|e
  ·exact h.fa e
  ·omega
 ·have e:=Option.some.inj (show some ga=some kk from e)
  subst e;exact ht.block ga hga h.fa
 ·rcases hsub kk e with e|e
  ·exact h.sub kk e
  ·exact .inr ae
 ·refine h.touch.trans ht fun i hi=>?_
  rcases h.sub i hi with e|e
  ·exact .inl (.inl e)
  ·exact .inr e
def RD(M:LL)(h:Nat)(l:List Int)(y j:Nat):LL:=if j=0 then M else jP M (h+1) (Rw l y j)
theorem Yr{M:LL}{h:Nat}{l:List Int}{y j:Nat}(hj:2 * j+y<l.length):jP (RD M h l y j) (h+1) [l[2 * j+y]]=RD M h l y (j+1):=by
 have e:Rw l y (j+1)=Rw l y j++[l[2 * j+y]]:=by rw[Le,List.getD,aY hj];rfl
 unfold RD;rw[if_neg (show ¬j+1=0 by omega),e]
 by_cases h0:j=0
 ·subst h0;rw[if_pos rfl];rfl
 ·rw[if_neg h0,Gw]
theorem PN{M:LL}{h:Nat}{l:List Int}{y j:Nat}(hh:h<M.length):(RD M h l y j).length<=M.length+1:=by
 unfold RD
 split
 ·omega
 ·rw[fV];omega
theorem ae5(M:LL)(h:Nat)(l:List Int)(y j:Nat):cnt (RD M h l y j)<=cnt M+j:=by
 unfold RD
 split
 ·omega
 ·rw[nJ,D7];omega
theorem GL{F:Nat->Prop}{g k cg:Nat}{cv lv:Value}{vs:List Sv}{B:List Int}{s0:KS}(w:World)(hs:DR F w g k s0.2.1 lv vs s0.1)(hc:RC w cg cv B s0.2.2)(hf:zO F w cg cv)(hok:ja s0)(h2:2<=k)(hk:k<=1000000) :
 Calls Tryz.prog 193 #[.pointer (some ⟨g,0,none⟩),.pointer (some ⟨cg,0,none⟩)] w fun e w'=>e=.returned (.tuple #[])/\∃F' pX vs',zh F w g k cg cv B s0 F' w' pX vs' (gB k B s0):=by
 have HP0:Hid (zh F w g k cg cv B s0 F w lv vs s0):=aB ⟨hs,hc,hok,rfl,fun k hk=>.inl hk,Touch.refl _ _⟩
 have qE:=aB hf;clear hs hc hok hf
 go_enter Tryz.func193,Tryz.ntmps193
 go_wp2_with fail
 go_loopg [4,5,6,7,8,9] (100 * cnt s0.1+s0.1.length) (fun q t4 _ _ _ _ _ wr=>∃F1 oP vs1 s,∃h:Nat,q=100 * cnt s.1+(s.1.length - h)/\t4=.int .i64 h/\h<=s.1.length/\Hid (∀j,j<h->(lvl s.1 j).length<=room k s.1.length j)/\Hid (zh F w g k cg cv B s0 F1 wr oP vs1 s))
 case atStart=>exact⟨F,lv,vs,s0,0,rfl,rfl,bW _,aB fun j hj=>absurd hj ae,HP0⟩
 case round=>
  obtain⟨F1,oP,vs1,s,h,hq,rfl,Xb,PO,rW⟩:=hrel;have HQ:=aB hq;clear hq;have hlen:=rW.out.ok.len;have k1:=rW.out.st.cell1;have k0:=rW.out.st.cell0;obtain⟨A1,cA,p_,hcA,bn3,_⟩:=rW.out.st.form
  by_cases hh:h<s.1.length
  ·obtain⟨gl,cc,sA,sc,bg8,hgl,Py,wJ,hvs,c2,f2,ol,hown⟩:=rW.out.st.at_ hh
   subst bg8;injection p_ with e1 e2 e3;subst e1;subst e3;have hgr:=rW.out.st.blk.lt;have hxc:=fB s.1 h;have hcn:=rW.out.ok.cnt;have HRM:=aB (fun W=>Ur k s.1.length h W h2 hk ae  ae)
   have hrl:=AZ (k:=k) hh;have hrk:=room_le (k:=k) (len:=s.1.length) (h:=h) h2;obtain⟨rm,hrm⟩:∃rm,room k s.1.length h=rm:=⟨_,rfl⟩;rw[hrm] at HRM hrl hrk;obtain⟨l,hl⟩:∃l,lvl s.1 h=l:=⟨_,rfl⟩;rw[hl] at c2 ol hown hvs hxc;have HRE:=aB hrm;have HL:=aB hl;have OL:=aB ol;have HOWN:=aB hown;have HVS:=aB hvs;have K1:=aB k1;have K0:=aB k0;have C2:=aB c2;have FF2:=aB f2;clear hl ol hown hvs hrm k0 c2 f2
   go_upto_region 2 with fail;clear k1;have lS:=aB (fun w' (hS':(fun w'=>Below wr.heap.size wr w') w')=>(aN ((hS'.cell (p:=⟨g,0,none⟩) hgr).trans K0.out) (aN ((hS'.cell (p:=⟨g,1,none⟩) hgr).trans K1.out) ((hS'.cell (p:=⟨gl,h,none⟩) hgl).trans C2.out))))
   refine dD (fun w'=>Below wr.heap.size wr w') [(0,true),(1,true),(2,true),(3,true),(4,true),(5,true),(6,true),(7,true),(8,true),(9,true),(10,true),(11,true),(12,true),(13,true),(14,true),(15,true),(16,true),(17,true),(18,false),(19,true)] (by kernel_rfl) (by kernel_rfl) ((aH _ _).drew) ?_
   iterate 18
    refine dC ax  ax (fun R hR=>?_)
    apply aJ
    refine⟨fun w' hS'=>?_,?_⟩
    ·obtain⟨k0,k1,k2⟩:=lS.out w' hS'
     go_simp;exact⟨rfl,rfl⟩
    go_simp;refine hR _ ?_;clear hR R
   refine dE ax  ax (fun K hK=>?_)
   go_simp;refine(HRM.out _).mono ?_
   rintro e w2 ⟨rfl,hw2⟩;subst hw2;refine hK _ _ ((aH _ _).drew) ?_
   clear hK K
   iterate 1
    refine dC ax  ax (fun R hR=>?_)
    apply aJ
    refine⟨fun w' hS'=>?_,?_⟩
    ·obtain⟨k0,k1,k2⟩:=lS.out w' hS'
     go_simp;exact⟨rfl,rfl⟩
    go_simp;refine hR _ ?_;clear hR R
   refine dF ?_
   by_cases hgt:(l.length:Int)<=(rm:Int)
   ·go_wp2_with fail
    go_roundg (100 * cnt s.1+(s.1.length - (h+1)))
    case measure=>have:=HQ.out;omega
    case rel=>
     refine⟨F1,_,vs1,s,h+1,rfl,ai,ae,aB fun j hj=>?_,aB rW.out.drew⟩
     rcases bJ j h with h1|h1
     ·exact PO.out j h1
     ·obtain rfl:j=h:=ae
      rw[HL.out,HRE.out];omega
   ·have Jl:Hid (gZ k s.1=some h):=aB (KQ hh (by rw[HL.out,HRE.out];omega) PO.out)
    have hx2:2<l.length:=ae
    have hlc:l.length<=1000000:=ae
    have UJ:=aB (UG cg cv B s.2.2 wr.drew rW.out.drew.co);have k1:wr.drew.cell? ⟨g,1,none⟩=_:=K1.out;have c2:wr.drew.cell? ⟨gl,h,none⟩=_:=C2.out
    go_wp2_with fail;refine(UJ.out).mono ?_
    rintro e w2 ⟨rfl,Ym,ht2⟩;have Pj:∀kk,F1 kk->kk≠cg/\cv.ownBlock≠some kk:=fun kk hk1=>by
     have a2:=qE.out.lg
     rcases rW.out.sub kk hk1 with h1|h1
     ·exact⟨fun e=>qE.out.fg (e▸h1),fun e=>(qE.out.fv kk e).1 h1⟩
     ·exact⟨by omega,fun e=>by have:=(qE.out.fv kk e).2;omega⟩
    have PH:=aB Pj;have ae1:=aB Ym;have D9:Hid (DR F1 w2 g k s.2.1 (.slice (some ⟨gl,0,none⟩) s.1.length cc) vs1 s.1):=aB (rW.out.drew.st.stay (fun kk hk1=>ht2.block kk (rW.out.st.low kk hk1) (PH.out kk hk1).1) ht2.size)
    have UK:Hid (Touch (fun k=>F k\/k=cg) w w2):=aB (rW.out.drew.touch.trans ht2 fun i hi=>.inl (.inr hi))
    have oN:=aB rW.out.ok;have HEQ:=aB rW.out.eq;have PI:=aB rW.out.sub;have Ad:gl<w2.heap.size:=aU hgl ht2.size;have OL2:Hid (dI fZ 0 w2 (.slice sA l.length sc) l):=aB (OL.out.stay fun kk e=>ht2.block kk (OL.out.lt kk e).2 (PH.out kk (HOWN.out kk e).1).1)
    have f2:w2.frozen? ⟨gl,h,none⟩=false:=(World.frozen?_of_block (a:=⟨gl,h,none⟩) (ht2.block gl hgl (PH.out gl wJ).1)).trans FF2.out;have c2':w2.cell? ⟨gl,h,none⟩=_:=(bM (a:=⟨gl,h,none⟩) (ht2.block gl hgl (PH.out gl wJ).1)).trans C2.out;have k1':=D9.out.cell1;have ap1:=uH B s.2.2;obtain⟨y,hy⟩:∃y,fP B s.2.2=y:=⟨_,rfl⟩;rw[hy] at ap1 |-;have HY:=aB hy;obtain⟨ga,c5,es,_,bg3,hc5,hc6⟩:=OL2.out.pos ae
    injection es with es1 es2 es3;subst es1;subst es3
    -- the level laid empty
    have hnil:=mZ.level (s':=(none,0,0)) (l':=[]) (w1:=w2) D9.out hh rfl (dI.nil_ _ _) (fun _ _ _=>rfl) (aK _) (.inr fun kk e=>by simp[gX,Value.ownBlock] at e)
    have ax7:=aB hnil;have HQQ:=HQ;clear Pj Ym ht2 hy k1 c2 hnil UJ rW;have hown:=HOWN.out ga rfl;have hless:DR (fun kk=>(F1 kk\/(gX ((none,0,0):Sv)).ownBlock=some kk)/\kk≠ga) (w2.setCell ⟨gl,h,none⟩ (gX (none,0,0))) g k s.2.1 (.slice (some ⟨gl,0,none⟩) s.1.length cc) (vs1.set h (none,0,0)) (s.1.set h []):=
     mZ.less ax7.out hown.2.2 (fun e=>hown.2.1 (Option.some.inj (show some gl=some ga from e)).symm) fun i hi e=>by
      rw[List.getElem_set] at e
      split at e
      ·simp[gX,Value.ownBlock] at e
      ·rename_i hne
       rw[bU] at hi;have hv3:h<vs1.length:=by rw[D9.out.fJ.len];exact hh
       have ap3:vs1[h]=(some ⟨ga,0,none⟩,l.length,sc):=by
        have:=HVS.out;rw[aY hv3] at this;exact Option.some.inj this
       exact D9.out.fJ.diff h i hv3 hi hne ga (by rw[ap3];rfl) e
    have aj6:=aB hless;have bg9:ga≠gl:=hown.2.1;have ax8:Hid (dI fZ 0 (w2.setCell ⟨gl,h,none⟩ (gX (none,0,0))) (.slice (some ⟨ga,0,none⟩) l.length sc) l):=aB (OL2.out.far (p:=⟨gl,h,none⟩) (fun e=>bg9 (Option.some.inj (show some ga=some gl from e))) _)
    have ax9:Hid (RC (w2.setCell ⟨gl,h,none⟩ (gX (none,0,0))) cg cv B (iJ B s.2.2)):=aB (by
     have a3:=PH.out gl wJ;exact ae1.out.stay (bF w2 ⟨gl,h,none⟩ _ cg fun e=>a3.1 e.symm) (fun kk e=>bF w2 ⟨gl,h,none⟩ _ kk fun e2=>a3.2 (by rw[e,e2])) ag)
    have HT3:Hid (Touch (fun k=>F k\/k=cg) w (w2.setCell ⟨gl,h,none⟩ (gX (none,0,0)))):=aB (UK.out.setCell (by
     rcases PI.out gl wJ with h1|h1
     ·exact .inl (.inl h1)
     ·exact .inr h1) _)
    have aj7:∀kk,((F1 kk\/(gX ((none,0,0):Sv)).ownBlock=some kk)/\kk≠ga)->F kk\/w.heap.size<=kk:=fun kk hk1=>by
     rcases hk1.1 with h1|h1
     ·exact PI.out kk h1
     ·simp[gX,Value.ownBlock] at h1
    have aj8:=aB aj7;clear hless aj7 hown
    go_upto_if 57 with(fail)
    have Jk:Hid (PM F w g k s.2.1 cg ga sc cv (.slice (some ⟨gl,0,none⟩) s.1.length cc) B (iJ B s.2.2) l _ (w2.setCell ⟨gl,h,none⟩ (gX (none,0,0))) (vs1.set h (none,0,0)) (s.1.set h [])):=aB ⟨aj6.out,fun e=>e.2 rfl,ax8.out,ax9.out,aj8.out,HT3.out⟩
    clear aj6 ax8 ax9 aj8 HT3 ax7 OL2 ae1 D9 UK f2 c2' k1';obtain⟨w3,hw3⟩:∃x,w2.setCell ⟨gl,h,none⟩ (gX (none,0,0))=x:=⟨_,rfl⟩;rw[hw3] at Jk;show Code.wp _ _ _ _ (w2.setCell ⟨gl,h,none⟩ (gX (none,0,0)))
    rw[hw3];clear hw3
    go_cut [70] (fun _ wx=>∃(F2:Nat->Prop) (vs2:List Sv),Hid (PM F w g k s.2.1 cg ga sc cv (.slice (some ⟨gl,0,none⟩) s.1.length cc) B (iJ B s.2.2) l F2 wx vs2 (s.1.set h (mr l))))
    case first=>
     by_cases bn4:l.length % 2=1
     ·have ay0:(l.length:Int) % 2=1:=ae
      obtain⟨x,hx⟩:∃x,l[l.length - 1]' ae =x:=⟨_,rfl⟩
      have HOD:Hid (mr l=[x]):=aB (by
       unfold mr;have e:2 * (l.length / 2)=l.length - 1:=ae
       rw[e,List.drop_eq_getElem_cons ae,hx,List.drop_eq_nil_of_le ae])
      have K3:Hid (w3.cell? ⟨g,1,none⟩=some (.slice (some ⟨gl,0,none⟩) s.1.length cc)):=aB Jk.out.st.cell1;obtain⟨ga',off,eA,hga,ca⟩:=(Jk.out.ol.ef).i64 (j:=l.length - 1) (by omega)
      injection eA with eA;injection eA with Yn Yo;subst Yn;subst Yo;rw[Nat.zero_add,hx] at ca;have CA:=aB ca;obtain⟨gl',cc',sA',sc',bh0,bh2,_,_,_,c3,f3,_,_⟩:=Jk.out.st.at_ (j:=h) (by rw[bU];exact hh)
      injection bh0 with e1 e2 e3;clear e2 e3;injection e1 with e1;injection e1 with e1;subst e1;have C3:=aB c3;have F3:=aB f3;have hg3:=Jk.out.st.blk.lt;obtain⟨n1,hn1⟩:∃n1,l.length - 1=n1:=⟨_,rfl⟩;have HE:Hid ((l.length:Int) - 1=(n1:Int)):=aB ae
      have hlt1:n1<l.length:=ae
      have hlt2:(n1:Int)<(l.length:Int):=ae
      have HWN:Hid (IntKind.i64.wrap (n1:Int)=(n1:Int)):=aB (IntWalk.i64_in _ ae)
      rw[hn1] at CA;clear hx ca c3 f3 hn1
      go_upto_region 8 with fail;refine fM (fun w'=>Below w3.heap.size w3 w') 13 [(0,1),(1,1),(2,1),(3,1),(4,1),(5,1),(6,1),(7,1),(8,1),(9,1),(10,1),(11,0),(12,1),(13,0)] (by kernel_rfl) (by kernel_rfl) ((aH _ _).drew) ?_
      iterate 11
       refine dX ax  ax (fun R hR=>?_)
       apply aJ
       refine⟨fun w' hS'=>?_,?_⟩
       ·have k1':=(hS'.cell (p:=⟨g,1,none⟩) hg3).trans K3.out
        have ca':=(hS'.cell (p:=⟨ga,n1,none⟩) hga).trans CA.out;have he:=HE.out;have hwn:=HWN.out
        go_simp;exact⟨rfl,rfl⟩
       go_simp;refine hR _ ?_;clear hR R
      refine lG ax  ax  ax (fun K hK=>?_)
      go_simp;refine hK _ _ (((aH _ _).drew).alloc aj _) ?_
      clear hK K
      iterate 1
       refine dX ax  ax (fun R hR=>?_)
       apply aJ
       refine⟨fun w' hS'=>?_,?_⟩
       ·have k1':=(hS'.cell (p:=⟨g,1,none⟩) hg3).trans K3.out
        have ca':=(hS'.cell (p:=⟨ga,n1,none⟩) hga).trans CA.out;have he:=HE.out;have hwn:=HWN.out
        go_simp;exact⟨rfl,rfl⟩
       go_simp;refine hR _ ?_;clear hR R
      refine iP ax  ax  ax (fun K hK=>?_)
      have c9:=C3.out;have f9:=F3.out
      go_simp;refine hK _ _ ?_
      clear hK K;refine iQ ?_
      clear c9 f9;have Lj:=mZ.level (s':=(some ⟨w3.heap.size,0,none⟩,1,1)) (l':=[x]) (j:=h) (w1:=w3.alloc (.cells #[.int .i64 x] 2)) Jk.out.st (by rw[bU];exact hh) rfl ((dI.one (E:=fZ) w3 x _ rfl _ rfl).more (bW _)) (fun kk h1 _=>Below.heap_alloc w3 _ kk h1) ag (.inr fun kk e=>by have e:=Option.some.inj (show some w3.heap.size=some kk from e);omega)
      rw[World.setCell_alloc_past _ _ _ _ bh2,List.set_set,List.set_set] at Lj;have hft:=Jk.out.st.fJ.fl gl rfl;have hro:=Jk.out.turn qE.out (wx:=((w3.setCell ⟨gl,h,none⟩ (gX (some ⟨w3.heap.size,0,none⟩,1,1))).alloc (.cells #[.int .i64 x] 2)).drew) (Touch.drew (Touch.alloc (Touch.setCell (Touch.refl _ _) (.inl hft) _) _)) (Lj.keep (aH _ _).drew) (fun kk e=>by
       rcases e with e|e
       ·exact .inl e
       ·have e:=Option.some.inj (show some w3.heap.size=some kk from e)
        exact .inr ae)
      rw[<-HOD.out] at hro;have bh3:=aB hro;clear Lj hft hro
      go_wp2_with fail
      go_meet
      exact⟨_,_,bh3⟩
     ·have ay0:¬(l.length:Int) % 2=1:=ae
      have ho:mr l=[]:=by unfold mr;exact List.drop_eq_nil_of_le ae
      have HO:=aB ho;clear ho
      go_wp2_with fail
      go_meet
      exact⟨_,_,by rw[HO.out];exact Jk⟩
    case rest=>
     obtain⟨F3,vs3,ay1⟩:=hcut;have HF3:=aB (show PM F w g k s.2.1 cg ga sc cv (.slice (some ⟨gl,0,none⟩) s.1.length cc) B (iJ B s.2.2) l F3 wc vs3 (RD (s.1.set h (mr l)) h l y 0) from ay1.out)
     clear Jk ay1;have HML:Hid (∀j,(RD (s.1.set h (mr l)) h l y j).length<=50):=aB fun j=>by
      have:=PN (M:=s.1.set h (mr l)) (h:=h) (l:=l) (y:=y) (j:=j) (by rw[bU];exact hh)
      rw[bU] at this;omega
     have HMC:Hid (∀j,j<=l.length->cnt (RD (s.1.set h (mr l)) h l y j)<=3000000):=aB fun j hj=>by
      have:=ae5 (s.1.set h (mr l)) h l y j;have h3:=AY s.1 h hh (mr l);rw[tJ] at h3;omega
     go_wp2_with fail
     go_loopg [7] (l.length / 2) (fun q i wx=>∃(j:Nat) (F4:Nat->Prop) (lv4:Value) (vs4:List Sv),q=l.length / 2 - j/\j<=l.length / 2/\i=.int .i64 ((2 * j:Nat):Int)/\Hid (PM F w g k s.2.1 cg ga sc cv lv4 B (iJ B s.2.2) l F4 wx vs4 (RD (s.1.set h (mr l)) h l y j)))
     case atStart=>exact⟨0,F3,_,vs3,rfl,ae,rfl,HF3⟩
     case round=>
      obtain⟨j,F4,lv4,vs4,hq,hj,rfl,HR4⟩:=hrel;have HQ4:=aB hq;clear hq
      by_cases hjl:j<l.length / 2
      ·have hpos:2 * j+y<l.length:=ae
       obtain⟨ga',off,eA,hga,ca⟩:=(HR4.out.ol.ef).i64 hpos;injection eA with eA;injection eA with Yn Yo;subst Yn;subst Yo;rw[Nat.zero_add] at ca;have HUS:=aB (Yr (M:=s.1.set h (mr l)) (h:=h) hpos);obtain⟨x,hx⟩:∃x,l[2 * j+y]=x:=⟨_,rfl⟩;rw[hx] at ca HUS;obtain⟨m,hm⟩:∃m,2 * j=m:=⟨_,rfl⟩;rw[hm] at ca hpos |-;have EO:=aB (ql (h+1) x wr HR4.out.st ae (by have:=HML.out j;omega) (by have:=fB (RD (s.1.set h (mr l)) h l y j) (h+1);have:=HMC.out j ae ;omega))
       have hm2:(m:Int)+1<(l.length:Int):=ae
       have HM:=aB hm;clear hx hm
       go_wp2_with fail;refine(EO.out).mono ?_
       rintro e w5 ⟨rfl,F5,lv5,vs5,q1,q2,q3,q4⟩;have ap8:=HR4.out.turn qE.out q4 q3 q1;rw[HUS.out] at ap8;have bh4:=aB ap8;clear q1 q2 q3 q4 ap8 EO
       go_wp2_with fail
       go_roundg (l.length / 2 - (j+1))
       case measure=>have:=HQ4.out;omega
       case rel=>exact⟨j+1,F5,lv5,vs5,rfl,ae,by rw[<-HM.out];go_num,bh4⟩
      ·obtain rfl:j=l.length / 2:=ae
       obtain⟨m,hm⟩:∃m,2 * (l.length / 2)=m:=⟨_,rfl⟩;rw[hm];have hm2:¬(m:Int)+1<(l.length:Int):=ae
       have hmb:m<=l.length:=ae
       have Xc:Hid (RD (s.1.set h (mr l)) h l y (l.length / 2)=(jD B h s).1):=aB (by
        unfold RD;rw[if_neg ae,Rx,<-HL.out,<-HY.out];rfl)
       have IP:=oN.out.led;have ap5:h<=48:=ae
       have bh5:Hid (∀j,j<=h->2 ^ j<=281474976710656):=aB fun j hj=>bG (Nat.pow_le_pow_right af (show j<=48 by omega)) af
       have hr4:=HR4.out;rw[Xc.out] at hr4;have HR5:=aB hr4;clear hm hr4 HR4 HF3
       go_wp2_with fail
       go_loopg [8,9] h (fun q p i wx=>(∃j:Nat,q=h - j/\j<=h/\p=.int .u64 ((2 ^ j:Nat):Int)/\i=.int .i64 (j:Int))/\wr=wx)
       case atStart=>exact⟨⟨0,ae,ae,rfl,rfl⟩,rfl⟩
       case round=>
        obtain⟨⟨j,hq,hj,rfl,rfl⟩,rfl⟩:=hrel;have HQ5:=aB hq;have hpb:=bh5.out j hj;have HPE:Hid (2 ^ (j+1)=2 * 2 ^ j):=aB (by rw[Nat.pow_succ];omega)
        obtain⟨p,hp⟩:∃p,2 ^ j=p:=⟨_,rfl⟩;rw[hp] at hpb HPE |-;have HPP:=aB hp;clear hp hq
        by_cases hjh:j<h
        ·go_wp2_with fail
         go_roundg (h - (j+1))
         case measure=>have:=HQ5.out;omega
         case rel=>exact⟨⟨j+1,rfl,ae,by rw[HPE.out];go_num,ai⟩,rfl⟩
        ·obtain rfl:j=h:=ae
         have k2:=HR5.out.st.cell2;have f2:=HR5.out.st.blk.frozen 2;have HGL:=aB HR5.out.st.blk.lt;have HGF:=aB HR5.out.st.fg;have HLD:Hid (min (s.2.1+p) 4611686018427387904=(jD B j s).2.1):=aB (by rw[<-HPP.out];rfl)
         have HVV:Hid (min ((s.2.1:Int)+(p:Int)) 4611686018427387904=(((jD B j s).2.1:Nat):Int)):=aB (by
          rw[<-HLD.out];omega)
         have Yt:=HR5.out.turn qE.out (led':=(jD B j s).2.1) (wx:=wr.setCell ⟨g,2,none⟩ (.int .u64 (jD B j s).2.1)) (Touch.setCell (Touch.refl _ _) (.inl HGF.out) _) (HR5.out.st.Ph _) (fun kk e=>.inl e)
         have Yp:=aB (oN.out.step (B:=B) Jl.out);have HCN:=aB (nT (B:=B) Jl.out);have ap6:=aB (HEQ.out.trans (wG (B:=B) Jl.out));have DV:Hid (zh F w g k cg cv B s0 F4 (wr.setCell ⟨g,2,none⟩ (.int .u64 (jD B j s).2.1)) lv4 vs4 (jD B j s)):=aB ⟨Yt.st,Yt.co,Yp.out,ap6.out,Yt.sub,Yt.touch⟩;clear Yt HR5
         go_upto_region 19 with fail;rw[HVV.out];obtain⟨w6,hw6⟩:∃x,wr.setCell ⟨g,2,none⟩ (.int .u64 ((jD B j s).2.1:Nat))=x:=⟨_,rfl⟩;rw[hw6] at DV |-;clear hw6 k2 f2
         go_wp2_with fail
         go_roundg (100 * cnt (jD B j s).1+((jD B j s).1.length - 0))
         case measure=>have:=HQ.out;have:=HCN.out;have:=Yp.out.len;omega
         case rel=>exact⟨F4,lv4,vs4,jD B j s,0,rfl,rfl,bW _,aB fun j hj=>absurd hj ae,DV⟩
  ·have Jl:Hid (gZ k s.1=none):=aB (pW fun j hj=>PO.out j ae)
   have HE:=aB (rW.out.eq.trans (rD Jl.out));subst p_
   go_wp2_with fail
   go_end0
   have hp:=rW.out;rw[<-HE.out] at hp;exact⟨rfl,F1,_,vs1,hp⟩
end Go.Proofs.YtkiebccnpheloaaGreat.K
