/- Parts of a proof: what its theorem reaches, words cut short. No condition of its own. -/
import Derived.Test.YtkiebccnpheloaaGreatPk49
set_option maxRecDepth 100000
set_option maxHeartbeats 16000000
set_option linter.unusedVariables false
set_option linter.unusedSimpArgs false
namespace Go.Proofs.YtkiebccnpheloaaGreat.D
open Go.RowKit Go.Lib
theorem VG(k lim:Int)(v:Value)(t:List Int)(w:World)(hv:iH .u8 w v (lK k t))(hby:qQ (lK k t))(hk0:1<=k)(hk1:k<=4)(ht0:0<t.length)(ht1:t.length<=1000000)(hl0:(t.length:Int)<=lim)(hl1:lim<=1048576) :
 Calls Tryz.prog 61 #[v,.int .i64 lim] w fun e w'=>∃u,e=.returned (.tuple #[.int .u8 k,u,.int .i64 0])/\dI bE w.heap.size w' u t/\Below w.heap.size w w':=by
 have C:=aB (VE k lim v t w hv hby hk0 hk1 ht0 ht1 hl0 hl1);clear hv hby
 go_enter Tryz.func61,Tryz.ntmps61
 go_wp2_with fail;refine(C.out).mono ?_
 rintro e w1 ⟨x,r,u,rfl,hL,ho,hb⟩;have O:=aB ho;have HB:=aB hb;have c2:=aB (dH.cell hL 2);have c4:=aB (dH.cell hL 4);clear hL ho hb C
 go_upto_region 4 with fail;refine dD (fun w'=>w'=w1.drew) [(0,true),(1,true),(2,true),(3,true),(4,true),(5,true),(6,true),(7,true),(8,true),(9,true),(10,true)] (by kernel_rfl) (by kernel_rfl) (rfl) ?_
 iterate 11
  refine dC ax  ax (fun R hR=>?_)
  apply aJ
  refine⟨fun w' hS'=>?_,?_⟩
  ·subst hS'
   have c2':w1.drew.cell? ⟨x,2,none⟩=some (.int .u8 k):=c2.out;have c4':w1.drew.cell? ⟨x,4,none⟩=some u:=c4.out
   go_simp;exact⟨rfl,rfl⟩
  go_simp;refine hR _ ?_;clear hR R
 refine dF ?_
 go_wp2_with fail;refine bodyPost_ret (by simp[results,Tryz.results61,go_sem, *];try rfl) rfl ?_
 exact⟨_,rfl,O.out,HB.out.drew⟩
def iM.R_:iM->Nat
 | .h ..=>1
 | .d ..=>2
 | .t ..=>3
 | .k ..=>4
theorem ah1(sp:iM)(p:Nat):(sp.five p)[0]?=some (.int .u8 sp.R_):=by cases sp<;>rfl
theorem Zo(sp:iM):1<=(sp.R_:Int)/\(sp.R_:Int)<=4:=by cases sp<;>simp[iM.R_]
theorem Zp{sp:iM}{c:Js}{x:Nat}{F:Ft}(w:World)(h:iE sp c x F w)(ok:jg sp c)(hl:(jR sp c).length<=1000000) :
 Calls Tryz.prog 30 #[.pointer (some ⟨x,0,none⟩),.int .i64 2] w fun e w'=>∃v,e=.returned (.tuple #[v,.int .i64 0])/\dI bE w.heap.size w' v (lK sp.R_ (jR sp c))/\Below w.heap.size w w':=by
 have Bd:Below w.heap.size w w.drew:=(aH _ _).drew;have CT:=aB (yc w.drew ((fO sp c x).keep h Bd) ok);obtain⟨p,G,hB,_⟩:=h;have c0:=hB.cell 0;rw[ah1] at c0;have lx:=hB.lt;have C0:=aB c0;obtain⟨k0,k1⟩:=Zo sp;have CN:Hid (∀u W,iH .u8 W u (jR sp c)->_):=aB (fun u W hu=>M_ sp.R_ u (jR sp c) W hu k0 k1 ae)
 generalize jR sp c=tx at *;generalize ((sp.R_:Nat):Int)=kd at *;clear hB c0 ok
 go_enter Tryz.func30,Tryz.ntmps30
 go_upto_region 6 with fail;refine dD (Below w.heap.size w) [(0,true),(1,true),(2,true),(3,true),(4,true),(6,true),(7,true),(5,false),(8,false),(9,true),(10,true),(11,true),(12,true)] (by kernel_rfl) (by kernel_rfl) (Bd) ?_
 iterate 7
  refine dC ax  ax (fun R hR=>?_)
  apply aJ
  refine⟨fun w' hS'=>?_,?_⟩
  ·have c0:=(hS'.cell (p:=⟨x,0,none⟩) lx).trans C0.out
   go_simp;exact⟨rfl,rfl⟩
  go_simp;refine hR _ ?_;clear hR R
 refine dE ax  ax (fun K hK=>?_)
 go_simp;refine(CT.out).mono ?_
 rintro e w1 ⟨u,rfl,o1,hb1⟩;have B1:Below w.heap.size w w1:=Bd.trans hb1;have C1:=aB (CN.out u w1 (dN.rd o1));clear o1;refine hK _ _ (B1) ?_
 clear hK K;refine dE ax  ax (fun K hK=>?_)
 go_simp;refine(C1.out).mono ?_
 rintro e w2 ⟨v2,rfl,o2,hb2⟩;have B2:Below w.heap.size w w2:=B1.trans (hb2.mono B1.size);have O2:=aB (dI.more o2 B1.size);clear o2;refine hK _ _ (B2) ?_
 clear hK K
 iterate 4
  refine dC ax  ax (fun R hR=>?_)
  apply aJ
  refine⟨fun w' hS'=>?_,?_⟩
  ·have c0:=(hS'.cell (p:=⟨x,0,none⟩) lx).trans C0.out
   go_simp;exact⟨rfl,rfl⟩
  go_simp;refine hR _ ?_;clear hR R
 refine dF ?_
 go_wp2_with fail
 go_ret2
 exact⟨_,rfl,O2.out,B2⟩
theorem Zq{sp:iM}{c:Js}(lim:Int)(v:Value)(w:World)(hv:iH .u8 w v (lK sp.R_ (jR sp c)))(hby:qQ (lK sp.R_ (jR sp c)))(ht0:0<(jR sp c).length)(ht1:(jR sp c).length<=1000000)(hl0:((jR sp c).length:Int)<=lim)(hl1:lim<=1048576)
 (hr:∀(u:Value) (W:World),iH .u8 W u (jR sp c)->Calls Tryz.prog 15 #[.int .u8 sp.R_,u] W fun e w'=>∃x,e=.returned (.tuple #[.pointer (some ⟨x,0,none⟩),.int .i64 0])/\iE sp c x (Gr (fun _=>False) W w') w'/\Below W.heap.size W w') :
 Calls Tryz.prog 16 #[v,.int .i64 lim] w fun e w'=>∃x,e=.returned (.tuple #[.pointer (some ⟨x,0,none⟩),.int .i64 0])/\iE sp c x (Gr (fun _=>False) w w') w'/\Below w.heap.size w w':=by
 obtain⟨k0,k1⟩:=Zo sp;have C:=aB (VG sp.R_ lim v _ w hv hby k0 k1 ht0 ht1 hl0 hl1);have HR:=aB hr;clear hv hby hr
 go_enter Tryz.func16,Tryz.ntmps16
 go_wp2_with fail;refine(C.out).mono ?_
 rintro e w1 ⟨u,rfl,o1,hb1⟩;have CR:=aB (HR.out u w1 (rM.2 o1.rd));clear o1 C
 go_wp2_with fail;refine(CR.out).mono ?_
 rintro e w2 ⟨x,rfl,h2,hb2⟩;have H2:=aB ((fO sp c x).more h2 (G:=Gr (fun _=>False) w w2) (fun k hk=>hk.imp id (fun h=>⟨bG hb1.size h.1,h.2⟩)) (fun k hk=>hk.elim False.elim And.right))
 have HB:=aB (hb1.trans (hb2.mono hb1.size));clear h2
 go_wp2_with fail
 go_ret2
 exact⟨_,rfl,H2.out,HB.out⟩
end Go.Proofs.YtkiebccnpheloaaGreat.D
namespace Go.Proofs.YtkiebccnpheloaaGreat.K
open Go.RowKit
theorem Zr{F:Nat->Prop}{g k n led a c:Nat}{lv:Value}{vs:List Sv}{L:LL}(v:Int)(w:World)(hs:rV F w g k n led lv vs L)(hok:ja (L,led,a))
 (hn:n=wt L) (hc0:0<c) (hc:n+c<=281474976710656) (hcn:cnt L<=900000) (h2:2<=k) (hk:k<=1000000) (hfn:gZ k (gW L v c)=none) :
 Calls Tryz.prog 134 #[.pointer (some ⟨g,0,none⟩),.int .i64 v,.int .u64 c,.pointer none] w fun e w'=>e=.returned (.int .i64 0)/\∃F' pX vs',rV F' w' g k (n+c) led pX vs' (gW L v c)/\(∀x,F' x->F x\/w.heap.size<=x)/\(∀x,F x->F' x)/\Touch F w w':=by
 have HA0:Hid (ae3 F w g k (n+c) led v c L 0 F (w.setCell ⟨g,2,none⟩ (.int .u64 (n+c:Nat))) lv vs L):=aB ⟨hs.Ph _,by simp[gW],hok.gY,hok.len,aK _,fun _ h=>.inl h,fun _ h=>h,Touch.setCell (Touch.refl _ _) (.inl hs.fg) _⟩
 have k2:=hs.cell2;have f2:=hs.blk.frozen 2;have Jl:=aB hfn;have oN:=aB hok;have qF:=aB (tN hok v c ae hcn)
 clear hs hok hn hfn;have hc1:¬(c:Int)=0:=ae
 have hc2:¬(c:Int) > 281474976710656 - (n:Int):=ae
 go_enter Tryz.func134,Tryz.ntmps134
 go_wp2_with fail
 go_loopg [9] 64 (fun q i wr=>∃(j:Nat) (F1:Nat->Prop) (oP:Value) (vs1:List Sv) (L1:LL),q=64 - j/\j<=49/\i=.int .i64 (j:Int)/\Hid (ae3 F w g k (n+c) led v c L j F1 wr oP vs1 L1))
 case atStart=>
  have HA1:=HA0.out;rw[dh] at HA1;exact⟨0,F,lv,vs,L,rfl,ae,rfl,aB HA1⟩
 case round=>
  obtain⟨j,F1,oP,vs1,L1,hq,hj,rfl,HA⟩:=hrel;have HQ:=aB hq;clear hq;obtain⟨m,hm⟩:∃m,c / 2 ^ j=m:=⟨_,rfl⟩;have hmc:m<=c:=by rw[<-hm];exact Nat.div_le_self ..
  have Ir:(c:Int) / 2 ^ j=(m:Int):=by
   rw[<-hm,Int.natCast_ediv,Int.natCast_pow];rfl
  have HM:=aB hm;have Iu:=aB Ir;clear Ir;have hsz:=HA.out.touch.size
  by_cases hm0:m=0
  ·have Yq:¬(m:Int) > 0:=ae
   have hEQ:L1=gW L v c:=by rw[HA.out.eq,HM.out,hm0,yY]
   subst hEQ;have HP:=aB (G9 (.func (.func 171) #[.pointer none] #[]) wr HA.out.st h2 hk (by have:=qF.out.len;exact bG this af) (by have:=qF.out.cnt;exact bG this af) Jl.out)
   go_wp2_with (first|(have Ir:=Iu.out;rw[Ir]))
   refine(HP.out).mono ?_
   rintro e w2 ⟨rfl,hw⟩;subst hw;clear HP
   go_wp2_with fail;refine bodyPost_ret (by simp[results,Tryz.results134,go_sem, *];try rfl) rfl ?_
   exact⟨rfl,F1,oP,vs1,HA.out.st,HA.out.sub,HA.out.sup,HA.out.touch⟩
  ·have Yq:(m:Int) > 0:=ae
   have ax5:j<=48:=by
    rcases bJ j 49 with h1|h1
    ·omega
    ·have h3:2 ^ 49<=2 ^ j:=Nat.pow_le_pow_right af h1
     have h4:c / 2 ^ j=0:=Nat.div_eq_of_lt ae
     have:=HM.out;omega
   have hmd:c / 2 ^ (j+1)=m / 2:=by rw[Nat.pow_succ,<-Nat.div_div_eq_div_mul,HM.out]
   have VL:Hid (nM (64 - j) j m L1 v=nM (64 - (j+1)) (j+1) (m / 2) (if m % 2=1 then jP L1 j [v] else L1) v):=aB (by
    rw[show 64 - j=(64 - (j+1))+1 by omega,nM,if_neg hm0])
   have Rz:=aB hmd;have HAN:=aB (and_one m ae)
   clear hmd;have ax6:j+1<=49:=ae
   by_cases hm1:m % 2=1
   ·have IQ:((m % 2:Nat):Int)=1:=ae
    have EO:=aB (put_any j (.slice (some ⟨wr.heap.size,0,none⟩) 1 1) [v] (wr.alloc (.cells #[.int .i64 v] 2)) (HA.out.st.keep ((aH _ _).alloc (aK _) _)) (Aside.nU (dI.one (E:=fZ) wr v _ rfl _ rfl) fun kk e h1=>by
     have e:=Option.some.inj (show some wr.heap.size=some kk from e)
     have:=HA.out.st.low kk h1;omega) (HA.out.gY j) ae (by have:=HA.out.len;omega) (by have:=fB L1 j;have:=HA.out.cnt;omega) ag)
    have Ir:=Iu.out;have han:bits .and .u64 (m:Int) 1=1:=by rw[HAN.out];exact IQ
    go_wp2_with fail;refine(EO.out).mono ?_
    rintro e w2 ⟨rfl,F2,Af,vs2,q1,q2,q3,q4⟩;have Q1:=aB q1;have Q2:=aB q2;have Q3:=aB q3;have Q4:=aB q4;have PL:(wr.alloc (.cells #[.int .i64 v] 2)).heap.size=wr.heap.size+1:=ag
    rw[PL] at q1;have Q1:=aB q1;clear q1 q2 q3 q4 EO PL
    go_wp2_with fail
    go_roundg (64 - (j+1))
    case measure=>have:=HQ.out;omega
    case rel=>
     refine⟨j+1,F2,Af,vs2,jP L1 j [v],rfl,ae,ai,aB ⟨Q3.out,?_,x8 HA.out.gY j [v],?_,?_,?_,?_,?_⟩⟩
     ·rw[HA.out.eq,HM.out,Rz.out,VL.out,if_pos hm1]
     ·rw[fV];have:=HA.out.len;omega
     ·rw[nJ];have:=HA.out.cnt;simp;omega
     ·intro kk hk1
      rcases Q1.out kk hk1 with h1|h1
      ·exact HA.out.sub kk h1
      ·exact .inr ae
     ·exact fun kk hk1=>Q2.out kk (HA.out.sup kk hk1)
     ·exact(HA.out.touch.alloc _).trans Q4.out fun i hi=>HA.out.sub i hi
   ·have IQ:((m % 2:Nat):Int)=0:=ae
    have Ir:=Iu.out;have han:bits .and .u64 (m:Int) 1=0:=by rw[HAN.out];exact IQ
    go_wp2_with fail
    go_roundg (64 - (j+1))
    case measure=>have:=HQ.out;omega
    case rel=>
     refine⟨j+1,F1,oP,vs1,L1,rfl,ae,ai,aB ⟨HA.out.st,?_,HA.out.gY,HA.out.len,?_,HA.out.sub,HA.out.sup,HA.out.touch⟩⟩
     ·rw[HA.out.eq,HM.out,Rz.out,VL.out,if_neg hm1]
     ·have:=HA.out.cnt;omega
end Go.Proofs.YtkiebccnpheloaaGreat.K
namespace Go.Proofs.YtkiebccnpheloaaGreat.D
open Go.RowKit Go.Lib Go.Shelf
def mkV:Value:=.agg #[.func (.func 135) #[] #[],.func (.func 136) #[] #[],.func (.func 137) #[] #[],.func (.func 138) #[] #[],
 .func (.func 139) #[] #[],.func (.func 140) #[] #[],.func (.func 141) #[] #[],.func (.func 142) #[] #[]]
theorem EH(w:World):Calls Tryz.prog 58 #[] w fun e w'=>e=.returned mkV/\Below w.heap.size w w':=by
 unfold mkV
 go_enter Tryz.func58,Tryz.ntmps58
 go_wp2_with fail;refine bodyPost_ret (by simp[results,Tryz.results58,go_sem, *];try rfl) rfl ?_
 exact⟨rfl,bw⟩
section
variable {R : Nat -> World -> Prop} {lo hi dg ac sz : Int} {gr : Bool}
theorem uQ{kd:Int}{mf:Nat}(hkm:(kd=1/\mf=135)\/(kd=2/\mf=137)\/(kd=3/\mf=139)\/(kd=4/\mf=141))(w:World)(hm:∀y w1,Below w.heap.size w w1->w.heap.size<=y->dH w1 y 117 #[.int .u8 kd,.pointer none,.pointer none,.pointer none,.pointer none]->Calls Tryz.prog mf #[.pointer (some ⟨y,0,none⟩),gu kd lo hi dg gr ac sz] w1 fun e w'=>e=.returned (.int .i64 0)/\R y w'/\Touch (fun j=>j=y) w1 w')
 (hs:∀y w1,R y w1->Calls Tryz.prog 19 #[.pointer (some ⟨y,0,none⟩)] w1 fun e w'=>e=.returned (gu kd lo hi dg gr ac sz)/\Below w1.heap.size w1 w')
 (hk:∀y w1 w',R y w1->Below w1.heap.size w1 w'->R y w') :
 Calls Tryz.prog 21 #[gu kd lo hi dg gr ac sz] w fun e w'=>∃y,e=.returned (.tuple #[.pointer (some ⟨y,0,none⟩),.int .i64 0])/\R y w'/\Below w.heap.size w w':=by
 obtain⟨cs,hcs⟩:∃q:Array Value,q=#[.int .u8 kd,.int .i64 lo,.int .i64 hi,.int .i64 dg,.bool gr,.int .i64 ac,.int .i64 sz]:=⟨_,rfl⟩;obtain⟨fv,hfv⟩:∃q:Array Value,q=#[.int .u8 kd,.pointer none,.pointer none,.pointer none,.pointer none]:=⟨_,rfl⟩;have CK0:=fun W=>DC kd W ae  ae
 rcases hkm with⟨rfl,rfl⟩|⟨rfl,rfl⟩|⟨rfl,rfl⟩|⟨rfl,rfl⟩
 all_goals
  have HM:=aB hm;have HS:=aB hs;have HK:=aB hk;clear hm hs hk;unfold gu at *;obtain⟨b,hbb⟩:∃b,w.heap.size=b:=⟨_,rfl⟩;obtain⟨wa,jM⟩:∃z,w.alloc (.cells cs 34)=z:=⟨_,rfl⟩;have ha:Below w.heap.size w wa:=by rw[<-jM];exact bw
  have B0:Hid (dH wa b 34 cs):=by rw[<-jM,<-hbb];exact aB (dH.new _ _ _)
  subst hcs;have hz:wa.heap.size=b+1:=by rw[<-jM,<-hbb,aO]
  have s0:=B0.out.cell 0;simp only[aF,aC,aG] at s0;have CK:=aB (CK0 wa);have o_:=aB hbb
  go_enter Tryz.func21,Tryz.ntmps21
  go_upto_region 1 with fail;have HZ:=aB hz;clear jM hbb hz
  go_wp2_with fail;refine(CK.out).mono ?_
  rintro e w' ⟨rfl,rfl⟩;obtain⟨wb,hwb⟩:∃z,wa.alloc (.cells fv 117)=z:=⟨_,rfl⟩;have hab:Below wa.heap.size wa wb:=by rw[<-hwb];exact bw
  have hb:Below w.heap.size w wb:=ha.trans (hab.mono ha.size);have Y0:Hid (dH wb (b+1) 117 fv):=by rw[<-hwb,<-HZ.out];exact aB (dH.new _ _ _)
  subst hfv;have B1:=aB (B0.out.keep hab)
  go_upto_region 4 with fail;try rw[hwb]
  try rw[HZ.out]
  clear hwb s0 hab B0;have B0:=B1;have s0:=B0.out.cell 0;have s1:=B0.out.cell 1;have s2:=B0.out.cell 2;have s3:=B0.out.cell 3;have s4:=B0.out.cell 4;have s5:=B0.out.cell 5;have s6:=B0.out.cell 6;simp only[aF,aC,aG] at s0 s1 s2 s3 s4 s5 s6;have FS0:=aB s0;have FS1:=aB s1;have FS2:=aB s2;have FS3:=aB s3;have FS4:=aB s4;have FS5:=aB s5;have FS6:=aB s6;clear s0 s1 s2 s3 s4 s5 s6;have lb:b<wb.heap.size:=B0.out.lt;have nb:¬(b=b+1):=ae
  have hby:w.heap.size<=b+1:=by have:=o_.out;omega
  have T0:Touch (fun j=>j=b+1) wb wb.drew:=(Touch.refl _ wb).drew
  have Bd:Below wb.heap.size wb wb.drew:=(aH _ _).drew;have lS:=aB (fun w' (hS':(Touch (fun j=>j=b+1) wb) w')=>(aN (((eG hS' 0 lb nb).trans FS0.out)) (aN (((eG hS' 1 lb nb).trans FS1.out)) (aN (((eG hS' 2 lb nb).trans FS2.out)) (aN (((eG hS' 3 lb nb).trans FS3.out)) (aN (((eG hS' 4 lb nb).trans FS4.out)) (aN (((eG hS' 5 lb nb).trans FS5.out)) (((eG hS' 6 lb nb).trans FS6.out)))))))))
  refine dD (Touch (fun j=>j=b+1) wb) [(1,true),(2,true),(3,true),(6,true),(7,true),(0,false),(4,true),(5,true),(8,false),(9,true)] (by kernel_rfl) (by kernel_rfl) (T0) ?_
  iterate 5
   refine dC ax  ax (fun R hR=>?_)
   apply aJ
   refine⟨fun w' hS'=>?_,?_⟩
   ·obtain⟨s0,s1,s2,s3,s4,s5,s6⟩:=lS.out w' hS'
    go_simp;exact⟨rfl,rfl⟩
   go_simp;refine hR _ ?_;clear hR R
  refine dE ax  ax (fun K hK=>?_)
  go_simp;refine(EH wb.drew).mono ?_
  rintro e ws ⟨rfl,hbs⟩;have Bs:Below wb.heap.size wb ws:=Bd.trans hbs;have Ts:Touch (fun j=>j=b+1) wb ws:=Touch.of_below Bs (aK _)
  have hb1:Below w.heap.size w ws:=hb.trans (Bs.mono hb.size);have C8:=aB (HM.out (b+1) ws hb1 hby (Y0.out.keep Bs));unfold mkV;refine hK _ _ (Ts) ?_
  clear hK K
  iterate 2
   refine dC ax  ax (fun R hR=>?_)
   apply aJ
   refine⟨fun w' hS'=>?_,?_⟩
   ·obtain⟨s0,s1,s2,s3,s4,s5,s6⟩:=lS.out w' hS'
    go_simp;exact⟨rfl,rfl⟩
   go_simp;refine hR _ ?_;clear hR R
  refine dE ax  ax (fun K hK=>?_)
  go_simp;refine(C8.out).mono ?_
  rintro e wt ⟨rfl,hr,ht⟩;have Tt:Touch (fun j=>j=b+1) wb wt:=Ts.trans ht (fun _ h=>.inl h)
  have HR:=aB hr;have TT:=aB (hb.trans (Tt.below (fun j hj=>by rw[show j=b+1 from hj];exact hby) hb.size))
  refine hK _ _ (Tt) ?_
  clear hK K
  iterate 1
   refine dC ax  ax (fun R hR=>?_)
   apply aJ
   refine⟨fun w' hS'=>?_,?_⟩
   ·obtain⟨s0,s1,s2,s3,s4,s5,s6⟩:=lS.out w' hS'
    go_simp;exact⟨rfl,rfl⟩
   go_simp;refine hR _ ?_;clear hR R
  refine dF ?_
  have Td:Touch (fun j=>j=b+1) wb wt.drew:=Tt.drew
  have bd:Below wt.heap.size wt wt.drew:=(aH _ _).drew;have CS:=aB (HS.out (b+1) wt.drew (HK.out _ _ _ HR.out bd));have zt:=TT.out.size;clear C8
  go_upto_region 5 with fail;have lS:=aB (fun w' (hS':(Touch (fun j=>j=b+1) wb) w')=>(aN (((eG hS' 0 lb nb).trans FS0.out)) (aN (((eG hS' 1 lb nb).trans FS1.out)) (aN (((eG hS' 2 lb nb).trans FS2.out)) (aN (((eG hS' 3 lb nb).trans FS3.out)) (aN (((eG hS' 4 lb nb).trans FS4.out)) (aN (((eG hS' 5 lb nb).trans FS5.out)) (((eG hS' 6 lb nb).trans FS6.out)))))))))
  refine dD (Touch (fun j=>j=b+1) wb) [(0,true),(1,true),(2,true),(3,true),(5,true),(4,false),(6,true),(7,true)] (by kernel_rfl) (by kernel_rfl) (Td) ?_
  iterate 5
   refine dC ax  ax (fun R hR=>?_)
   apply aJ
   refine⟨fun w' hS'=>?_,?_⟩
   ·obtain⟨s0,s1,s2,s3,s4,s5,s6⟩:=lS.out w' hS'
    go_simp;exact⟨rfl,rfl⟩
   go_simp;refine hR _ ?_;clear hR R
  refine dE ax  ax (fun K hK=>?_)
  go_simp;refine(CS.out).mono ?_
  rintro e wu ⟨rfl,hbu⟩;have Tu:Touch (fun j=>j=b+1) wb wu:=tbl Td hbu
  have BU:=aB (TT.out.trans ((bd.trans hbu).mono zt));have RU:=aB (HK.out _ _ _ HR.out (bd.trans hbu));refine hK _ _ (Tu) ?_
  clear hK K
  iterate 2
   refine dC ax  ax (fun R hR=>?_)
   apply aJ
   refine⟨fun w' hS'=>?_,?_⟩
   ·obtain⟨s0,s1,s2,s3,s4,s5,s6⟩:=lS.out w' hS'
    go_simp;exact⟨rfl,rfl⟩
   go_simp;refine hR _ ?_;clear hR R
  refine dF ?_
  go_wp2_with fail;refine bodyPost_ret (by simp[results,Tryz.results21,go_sem, *];try rfl) rfl ?_
  exact⟨_,rfl,RU.out,BU.out⟩
end
open Go.RowKit Go.Lib Go.Shelf
section
variable {R : Nat -> World -> Prop}
theorem Qo(v:Value)(bs:List Int)(w:World)(hv:iH .u8 w v bs)(hlen:bs.length<=1000000000000)(hm:∀y v1 w1,Below w.heap.size w w1->w.heap.size<=y->dH w1 y 117 #[.int .u8 4,.pointer none,.pointer none,.pointer none,.pointer none]->iH .u8 w1 v1 bs->Calls Tryz.prog 142 #[.pointer (some ⟨y,0,none⟩),v1] w1 fun e w'=>e=.returned (.int .i64 0)/\R y w'/\Touch (fun j=>j=y) w1 w')
 (hs:∀y w1,R y w1->Calls Tryz.prog 18 #[.pointer (some ⟨y,0,none⟩)] w1 fun e w'=>∃v,e=.returned v/\OwnB w1.heap.size w' v bs/\Below w1.heap.size w1 w')
 (hk:∀y w1 w',R y w1->Below w1.heap.size w1 w'->R y w') :
 Calls Tryz.prog 15 #[.int .u8 4,v] w fun e w'=>∃y,e=.returned (.tuple #[.pointer (some ⟨y,0,none⟩),.int .i64 0])/\R y w'/\Below w.heap.size w w':=by
 have HM:=aB hm;have HS:=aB hs;have HK:=aB hk;have HV:=aB hv;clear hm hs hk hv;have CK:=aB (DC 4 w af  af)
 obtain⟨b,hbb⟩:∃b,w.heap.size=b:=⟨_,rfl⟩
 go_enter Tryz.func15,Tryz.ntmps15
 go_wp2_with fail;refine(CK.out).mono ?_
 rintro e w' ⟨rfl,rfl⟩;obtain⟨wb,hwb⟩:∃z,w.alloc (.cells #[.int .u8 4,.pointer none,.pointer none,.pointer none,.pointer none] 117)=z:=⟨_,rfl⟩;have hb:Below w.heap.size w wb:=by rw[<-hwb];exact bw
 have Y0:Hid (dH wb b 117 #[.int .u8 4,.pointer none,.pointer none,.pointer none,.pointer none]):=by rw[<-hwb,<-hbb];exact aB (dH.new _ _ _)
 have o_:=aB hbb
 go_upto_region 4 with fail;try rw[hwb]
 clear hwb hbb;have hby:w.heap.size<=b:=by have:=o_.out;omega
 have T0:Touch (fun j=>j=b) wb wb.drew:=(Touch.refl _ wb).drew
 have Bd:Below wb.heap.size wb wb.drew:=(aH _ _).drew;refine dD (Touch (fun j=>j=b) wb) [(1,true),(2,true),(5,true),(6,true),(0,false),(3,true),(4,true),(7,false),(8,false),(9,true)] (by kernel_rfl) (by kernel_rfl) (T0) ?_
 iterate 4
  refine dC ax  ax (fun R hR=>?_)
  apply aJ
  refine⟨fun w' hS'=>?_,?_⟩
  ·skip
   go_simp;exact⟨rfl,rfl⟩
  go_simp;refine hR _ ?_;clear hR R
 refine dE ax  ax (fun K hK=>?_)
 go_simp;refine(EH wb.drew).mono ?_
 rintro e ws ⟨rfl,hbs⟩;have Bs:Below wb.heap.size wb ws:=Bd.trans hbs;have Ts:Touch (fun j=>j=b) wb ws:=Touch.of_below Bs (aK _)
 have hb1:Below w.heap.size w ws:=hb.trans (Bs.mono hb.size);unfold mkV;have C7:=aB (Ic v bs ws (HV.out.keep hb1) hlen);refine hK _ _ (Ts) ?_
 clear hK K
 iterate 2
  refine dC ax  ax (fun R hR=>?_)
  apply aJ
  refine⟨fun w' hS'=>?_,?_⟩
  ·skip
   go_simp;exact⟨rfl,rfl⟩
  go_simp;refine hR _ ?_;clear hR R
 refine dE ax  ax (fun K hK=>?_)
 go_simp;refine(C7.out).mono ?_
 rintro e wc ⟨vc,rfl,oc,hbc⟩;have Bc:Below wb.heap.size wb wc:=Bs.trans (hbc.mono Bs.size);have Tc:Touch (fun j=>j=b) wb wc:=Touch.of_below Bc (aK _)
 have hb2:Below w.heap.size w wc:=hb.trans (Bc.mono hb.size);have C8:=aB (HM.out b vc wc hb2 hby (Y0.out.keep Bc) oc.rd);clear oc;refine hK _ _ (Tc) ?_
 clear hK K;refine dE ax  ax (fun K hK=>?_)
 go_simp;refine(C8.out).mono ?_
 rintro e wt ⟨rfl,hr,ht⟩;have Tt:Touch (fun j=>j=b) wb wt:=Tc.trans ht (fun _ h=>.inl h)
 have HR:=aB hr;have TT:=aB (hb.trans (Tt.below (fun j hj=>by rw[show j=b from hj];exact hby) hb.size))
 refine hK _ _ (Tt) ?_
 clear hK K
 iterate 1
  refine dC ax  ax (fun R hR=>?_)
  apply aJ
  refine⟨fun w' hS'=>?_,?_⟩
  ·skip
   go_simp;exact⟨rfl,rfl⟩
  go_simp;refine hR _ ?_;clear hR R
 refine dF ?_
 have CS:=aB (HS.out b wt HR.out);have zt:=TT.out.size;clear C8 C7
 go_wp2_with fail;refine(CS.out).mono ?_
 rintro e wu ⟨vu,rfl,ou,hbu⟩;have BU:=aB (TT.out.trans (hbu.mono zt));have RU:=aB (HK.out _ _ _ HR.out hbu);have CE:Hid (Calls Tryz.prog 60 #[vu,v] wu fun e w'=>e=.returned (.bool true)/\Below wu.heap.size wu w'):=aB ((yL vu v bs bs wu ou.rd (HV.out.keep BU.out) hlen hlen).mono (fun e w' h=>⟨by rw[h.1];simp,h.2⟩))
 clear ou
 go_wp2_with fail;refine(CE.out).mono ?_
 rintro e wz ⟨rfl,hbz⟩;have BZ:=aB (BU.out.trans (hbz.mono BU.out.size));have RZ:=aB (HK.out _ _ _ RU.out hbz)
 go_wp2_with fail;refine bodyPost_ret (by simp[results,Tryz.results15,go_sem, *];try rfl) rfl ?_
 exact⟨_,rfl,RZ.out,BZ.out⟩
end
open Go.RowKit Go.Lib Go.Shelf
theorem qN{sp:iM}{c:Js}{y i:Nat}{cs:Array Value}{w0 w1 w':World}{e:Ending}(h:vV y i cs (fun p w'=>∃x G,p=jF x/\uV sp c x G w'/\∀k,G k->w1.heap.size<=k) w1 e w')(hi:∀x,cs.setIfInBounds i (jF x)=sp.five x)(hyl:y<w1.heap.size)(hy0:w0.heap.size<=y) :
 e=.returned (.int .i64 0)/\(∃F,iE sp c y F w'/\∀k,F k->w0.heap.size<=k)/\Touch (fun j=>j=y) w1 w':=by
 obtain⟨rfl,p,wz,⟨x,G,rfl,hI,hG⟩,hb,hB,ht,ht2⟩:=h;rw[hi] at hB;have I:=(iq sp c x).far hI ht (fun k hk e=>by have:=hG k hk;rw[show k=y from e] at this;omega)
 refine⟨rfl,⟨fun k=>k=y\/G k,⟨x,G,hB,I,.inl rfl,fun hg=>by have:=hG y hg;omega,fun k hk=>.inr hk,fun k hk=>hk.elim (fun e=>by rw[e];exact hB.lt) ((iq sp c x).low I k)⟩,fun k hk=>hk.elim (fun e=>by rw[e];exact hy0) (fun h=>by have:=hG k h;omega)⟩,ht2⟩
theorem ug{sp:iM}{c:Js}{y:Nat}{w w':World}(h:∃F,iE sp c y F w'/\∀k,F k->w.heap.size<=k):iE sp c y (Gr (fun _=>False) w w') w':=by
 obtain⟨F,h1,h2⟩:=h;exact(fO sp c y).more h1 (fun k hk=>.inr ⟨h2 k hk,(fO sp c y).low h1 k hk⟩) (fun k hk=>hk.elim False.elim And.right)
theorem Jf{sp:iM}(w:World)(ok:uX sp):Calls Tryz.prog 21 #[sp.v] w fun e w'=>∃x,e=.returned (.tuple #[.pointer (some ⟨x,0,none⟩),.int .i64 0])/\iE sp sp.new x (Gr (fun _=>False) w w') w'/\Below w.heap.size w w':=by
 have hs:∀y w1,(∃F,iE sp sp.new y F w1/\∀k,F k->w.heap.size<=k)->Calls Tryz.prog 19 #[.pointer (some ⟨y,0,none⟩)] w1 fun e w'=>e=.returned sp.v/\Below w1.heap.size w1 w':=fun y w1 ⟨F,h,_⟩=>RS w1 h (En ok)
 have hk:∀y w1 w',(∃F,iE sp sp.new y F w1/\∀k,F k->w.heap.size<=k)->Below w1.heap.size w1 w'->(∃F,iE sp sp.new y F w'/\∀k,F k->w.heap.size<=k):=fun y w1 w' ⟨F,h,h2⟩ hb=>⟨F,(fO sp _ y).keep h hb,h2⟩
 cases sp with
 | h lo hi dg u m gr=>
  refine(uQ (.inl ⟨rfl,rfl⟩) w (fun y w1 hb hy hB=>?_) hs hk).mono (fun e w' ⟨x,h1,h2,h3⟩=>⟨x,h1,ug h2,h3⟩)
  refine(Kz hB (Q:=fun p w'=>∃x G,p=jF x/\uV (.h lo hi dg u m gr) (iM.h lo hi dg u m gr).new x G w'/\∀k,G k->w1.heap.size<=k) (fun wa jM=>?_)).mono (fun e w' h=>qN h (fun x=>rfl) hB.lt hy)
  refine(ad2 gr wa ok).mono ?_
  rintro e w' ⟨x,rfl,h1,h2⟩;exact⟨x,rfl,⟨x,_,rfl,h1,fun k hk=>hk.elim False.elim (fun h=>bG jM.size h.1)⟩,h2⟩
 | d a m=>
  refine(uQ (.inr (.inl ⟨rfl,rfl⟩)) w (fun y w1 hb hy hB=>?_) hs hk).mono (fun e w' ⟨x,h1,h2,h3⟩=>⟨x,h1,ug h2,h3⟩)
  refine(Oz hB (Q:=fun p w'=>∃x G,p=jF x/\uV (.d a m) (iM.d a m).new x G w'/\∀k,G k->w1.heap.size<=k) (fun wa jM=>?_)).mono (fun e w' h=>qN h (fun x=>rfl) hB.lt hy)
  refine(am4 a m wa ok.1 ok.2.1 ok.2.2.1 ok.2.2.2).mono ?_
  rintro e w' ⟨x,rfl,h1,h2⟩;exact⟨x,rfl,⟨x,_,rfl,h1,fun k hk=>hk.elim False.elim (fun h=>bG jM.size h.1)⟩,h2⟩
 | t d=>
  refine(uQ (.inr (.inr (.inl ⟨rfl,rfl⟩))) w (fun y w1 hb hy hB=>?_) hs hk).mono (fun e w' ⟨x,h1,h2,h3⟩=>⟨x,h1,ug h2,h3⟩)
  refine(Dz hB (Q:=fun p w'=>∃x G,p=jF x/\uV (.t d) (iM.t d).new x G w'/\∀k,G k->w1.heap.size<=k) (fun wa jM=>?_)).mono (fun e w' h=>qN h (fun x=>rfl) hB.lt hy)
  refine(Z_ d wa (by have:=ok.1;omega) (by have:=ok.2;omega)).mono ?_
  rintro e w' ⟨x,rfl,h0,h1,h2⟩;exact⟨x,rfl,⟨x,fun k=>k=x,rfl,h1,fun k hk=>by rw[show k=x from hk];exact bG jM.size h0⟩,h2⟩
 | k q=>
  refine(uQ (.inr (.inr (.inr ⟨rfl,rfl⟩))) w (fun y w1 hb hy hB=>?_) hs hk).mono (fun e w' ⟨x,h1,h2,h3⟩=>⟨x,h1,ug h2,h3⟩)
  refine(Ky hB (Q:=fun p w'=>∃x G,p=jF x/\uV (.k q) (iM.k q).new x G w'/\∀k,G k->w1.heap.size<=k) (fun wa jM=>?_)).mono (fun e w' h=>qN h (fun x=>rfl) hB.lt hy)
  refine(K.new_any q wa ok.1 ok.2).mono ?_
  rintro e w' ⟨rfl,rfl⟩;exact⟨_,rfl,⟨_,_,rfl,K.ae8 q wa,fun k hk=>by rw[show k=wa.heap.size from hk];exact jM.size⟩,bw⟩
theorem rY.right{q:Nat}{L:K.LL}{led:Nat}(h:rY q L led):K.iw q L led:=K.Vo h.fit h.q0 h.q1 h.emp
open Go.RowKit Go.Lib Go.Shelf
def rZ:iM:=.k 8
def Nb:iM:=.h 1 2000 3 0 11 true
def Nc:Js:=⟨0,[],St.zero,[[3]],0⟩
theorem Zt:uX Nb:=⟨by decide,af,af,af,af,au,au,af⟩
theorem Zu:uX rZ:=by unfold rZ uX;decide
theorem Qp:K.gW [] 3 1=[[3]]:=au
theorem Zv:rY 8 [] 0:=En (sp:=.k 8) Zu
theorem Zw:K.Fit 8 [[3]] 0:=by
 have h:=K.tN Zv.fit.ok 3 1 au  au
 rw[Qp] at h;exact⟨h,au⟩
theorem zx:jg rZ Nc:=by
 refine(show rY 8 [[3]] 0 from⟨Zw,af,af,(fun h=>by cases h),(fun j x hx=>?_)⟩)
 rcases j with _|j
 ·obtain rfl:x=3:=by simpa[K.lvl] using hx
  decide
 ·simp[K.lvl] at hx
theorem zy:jR rZ Nc=[8,0,1,1,6]:=au
theorem bc4:qQ (lK rZ.R_ (jR rZ Nc)):=by
 have h:(lK rZ.R_ (jR rZ Nc)).all (fun x=>decide (0<=x) && decide (x<=255))=true:=au
 intro x hx;have:=List.all_eq_true.1 h x hx
 simpa using this
theorem as9:LU rZ Nc=1:=au
theorem ak4:(jR Nb Nb.new).length=46:=au
theorem bc5:(jR Nb Nb.new).take 5=[1,208,15,3,1]:=au
theorem Qq{x:Nat}{F:Ft}(w:World)(h:iE rZ rZ.new x F w) :
 Calls Tryz.prog 56 #[.pointer (some ⟨x,0,none⟩),.int .i64 3,.int .u64 1,.pointer none] w fun e w'=>e=.returned (.int .i64 0)/\iE rZ Nc x (Gr F w w') w'/\Touch F w w':=by
 obtain⟨p,G,hB,hI,hFx,zS,hGF,hF⟩:=h;have low:=(iq rZ _ p).low hI;obtain⟨lv,vs,hs⟩:=hI;have e0:rZ.new.L=[]:=rfl;rw[e0] at hs;refine(Gt (Q:=fun v' w'=>v'=.int .i64 0/\iE rZ Nc x (Gr F w w') w'/\Touch F w w') hB ?_).mono ?_
 ·refine(K.Zr (a:=0) (c:=1) 3 w hs Zv.fit.ok rfl af au  au af  af (by rw[Qp];exact Zw.none)).mono ?_
  rintro e w' ⟨rfl,F',pX,vs',q1,q2,q3,q4⟩;rw[Qp] at q1;have hi:uV rZ Nc p (Gr G w w') w':=(rF p 8 _ _).gr (w:=w) ⟨pX,vs',q1⟩ q2 low q4.size;obtain⟨h1,h2⟩:=IV (H:=fun _=>False) hB hFx zS hGF hF hi (q4.mono fun _ h=>.inl h) (fun _ h=>h.elim)
  exact⟨_,rfl,rfl,h1,h2.mono fun k h=>h.elim id False.elim⟩
 ·rintro e w' ⟨v',rfl,rfl,h1,h2⟩
  exact⟨rfl,h1,h2⟩
theorem ah2(u:Value)(w:World)(h:iH .u8 w u (jR rZ Nc)):Calls Tryz.prog 15 #[.int .u8 rZ.R_,u] w fun e w'=>∃x,e=.returned (.tuple #[.pointer (some ⟨x,0,none⟩),.int .i64 0])/\iE rZ Nc x (Gr (fun _=>False) w w') w'/\Below w.heap.size w w':=by
 have hs:∀y w1,(∃F,iE rZ Nc y F w1/\∀k,F k->w.heap.size<=k)->Calls Tryz.prog 18 #[.pointer (some ⟨y,0,none⟩)] w1 fun e w'=>∃v,e=.returned v/\OwnB w1.heap.size w' v (jR rZ Nc)/\Below w1.heap.size w1 w':=fun y w1 ⟨F,h,_⟩=>yc w1 h zx
 have hk:∀y w1 w',(∃F,iE rZ Nc y F w1/\∀k,F k->w.heap.size<=k)->Below w1.heap.size w1 w'->(∃F,iE rZ Nc y F w'/\∀k,F k->w.heap.size<=k):=fun y w1 w' ⟨F,h,h2⟩ hb=>⟨F,(fO rZ _ y).keep h hb,h2⟩
 refine(Qo u _ w h (by rw[zy];decide) (fun y v1 w1 hb hy hB hr=>?_) hs hk).mono (fun e w' ⟨x,h1,h2,h3⟩=>⟨x,h1,ug h2,h3⟩)
 refine(Kw hB (Q:=fun p w'=>∃x G,p=jF x/\uV rZ Nc x G w'/\∀k,G k->w1.heap.size<=k) ?_).mono (fun e w' h=>qN h (fun x=>rfl) hB.lt hy)
 refine(K.Vj v1 w1 hr (rY.right zx) (rY.bd zx)).mono ?_
 rintro e w' ⟨x,F,rfl,h1,h2,h3⟩;exact⟨x,rfl,⟨x,F,rfl,h1,h2⟩,h3⟩
theorem Nh(w:World):Calls Tryz.prog 14 #[] w fun e w'=>e=.returned (.bool true)/\Below w.heap.size w w':=by
 have C0:=aB (Jf w Zu);have C1:=fun W=>aB (Jf W Zt)
 unfold rZ iM.v gu at C0;unfold Nb iM.v gu at C1;have hs1:strOfNums (jR rZ Nc)=⟨#[8,0,1,1,6]⟩:=by rw[zy];rfl
 have hs2:strOfNums ((jR Nb Nb.new).take 5)=⟨#[1,208,15,3,1]⟩:=by rw[bc5];rfl
 have HS:=aB (aN hs1 hs2);clear hs1 hs2
 go_enter Tryz.func14,Tryz.ntmps14
 go_wp2_with fail;refine(C0.out).mono ?_
 rintro e w1 ⟨x,rfl,hx,hb1⟩;have ZA:Hid (iE rZ rZ.new x (Gr (fun _=>False) w w1) w1):=aB hx
 have HB1:=aB hb1;clear hx hb1 C0
 go_wp2_with fail;refine((C1 w1).out).mono ?_
 rintro e w2 ⟨y,rfl,hy,hb2⟩;have HY2:Hid (iE Nb Nb.new y (Gr (fun _=>False) w1 w2) w2):=aB hy
 have HX2:=aB ((fO rZ _ x).keep ZA.out hb2);have HB2:=aB (HB1.out.trans (hb2.mono HB1.out.size));have C3:=aB (Qq w2 HX2.out);clear hy hb2 ZA C1
 go_wp2_with fail;refine(C3.out).mono ?_
 rintro e w3 ⟨rfl,hx,ht⟩;have HX3:=aB hx;have HY3:=aB ((fO Nb _ y).far HY2.out ht (fun k h1 h2=>by
  rcases h1 with h1|h1
  ·exact h1
  ·rcases h2 with h2|h2
   ·exact h2
   ·omega))
 have HB3:Hid (Below w.heap.size w w3):=aB (HB2.out.trans (ht.below (fun k h=>h.elim False.elim And.left) HB2.out.size))
 have C4:=aB (Zp w3 HX3.out zx (by rw[zy];decide))
 clear hx ht HX2 HY2 C3
 go_wp2_with fail;refine(C4.out).mono ?_
 rintro e w4 ⟨v4,rfl,o4,hb4⟩;have HB4:=aB (HB3.out.trans (hb4.mono HB3.out.size));have HX4:=aB ((fO rZ _ x).keep HX3.out hb4);have HY4:=aB ((fO Nb _ y).keep HY3.out hb4);have C5:=aB (Zq (sp:=rZ) (c:=Nc) 100 v4 w4 (rM.2 o4.rd) bc4 (by rw[zy];decide) (by rw[zy];decide) (by rw[zy];decide) af ah2)
 clear o4 hb4 C4 HX3 HY3
 go_wp2_with fail;refine(C5.out).mono ?_
 rintro e w5 ⟨z,rfl,hz,hb5⟩;have RI:=aB (HB4.out.trans (hb5.mono HB4.out.size));have HX5:=aB ((fO rZ _ x).keep HX4.out hb5);have HY5:=aB ((fO Nb _ y).keep HY4.out hb5);have HZ5:=aB hz;have C6:=aB (yc w5 HY5.out (En Zt));clear hz hb5 C5 HX4 HY4
 go_wp2_with fail;refine(C6.out).mono ?_
 rintro e w6 ⟨v6,rfl,o6,hb6⟩;have Gp:=aB (RI.out.trans (hb6.mono RI.out.size));have HX6:=aB ((fO rZ _ x).keep HX5.out hb6);have HZ6:=aB ((fO rZ _ z).keep HZ5.out hb6);have O6:=aB o6;have C7:=aB (yc w6 HX6.out zx);obtain⟨A6,c6,hv6,hc6,_,_⟩:=(dN.rd o6).form;rw[ak4] at hv6 hc6;subst hv6;clear o6 hb6 C6 HX5 HZ5
 go_wp2_with fail;refine(C7.out).mono ?_
 rintro e w7 ⟨v7,rfl,o7,hb7⟩;have cv:=zq (dN.rd o7);rw[HS.out.1] at cv;have yT:=aB (Gp.out.trans (hb7.mono Gp.out.size));have O67:=aB (dN.keep O6.out hb7);have C8:=aB (LX w7 ((fO rZ _ z).keep HZ6.out hb7) zx);rw[as9] at C8;clear o7 hb7 C7;have R6:iH .u8 w7 (.slice A6 5 c6) ((jR Nb Nb.new).take 5):=by
  obtain⟨A',c',e,_,h3,hf⟩:=(rM.1 (dN.rd O67.out)).form;injection e with e1 e2 e3;subst e1;subst e3;have hl:((jR Nb Nb.new).take 5).length=5:=by rw[bg,ak4];rfl
  have h4:=gz.iO (c:=c6) (by rw[hl];omega) h3 (hf.take 5)
  rw[hl] at h4;exact rM.2 h4
 have cv2:=zq R6;rw[HS.out.2] at cv2;have h5:(5:Int)<=(c6:Int):=ae
 clear R6
 go_wp2_with fail;refine(C8.out).mono ?_
 rintro e w8 ⟨rfl,rfl⟩
 go_wp2_with fail
 go_ret;exact⟨rfl,yT.out⟩
end Go.Proofs.YtkiebccnpheloaaGreat.D
