/- Parts of a proof: what its theorem reaches, words cut short. No condition of its own. -/
import Derived.Test.YtkiebccnpheloaaGreatPk21
set_option maxRecDepth 100000
set_option maxHeartbeats 16000000
set_option linter.unusedVariables false
set_option linter.unusedSimpArgs false
namespace Go.Proofs.YtkiebccnpheloaaGreat.D
open Go.RowKit Go.Lib
def nP(l:List Pr)(j:Nat):Pr:=l.getD j (0,0)
def pcP(l:List Pr):Nat->List Int
 | 0=>zg (nP l 0).1
 | j+1=>fC ((nP l (j+1)).1 - (nP l j).1 - 1)
def xN(l:List Pr):Nat->List Int
 | 0=>[]
 | j+1=>xN l j++pcP l j++fC (nP l j).2
def TR(a m:Nat)(l:List Pr)(f:Int):List Int:=iV a m l.length f 4++xN l l.length
theorem QX{l:List Pr}{j:Nat}(h:j<l.length):nP l j=l[j]:=by unfold nP;rw[List.getD_eq_getElem?_getD,aY h];rfl
theorem xO(l:List Pr)(j:Nat):(pcP l j).length<=10:=by
 cases j with
 | zero=>exact(dM _).2
 | succ j=>exact(dM _).2
theorem IA(l:List Pr):∀j,(xN l j).length<=20 * j
 | 0=>by simp[xN]
 | j+1=>by
  have h1:=IA l j;have h2:=xO l j;have h3:=dM (nP l j).2;simp only[xN,aI];omega
theorem Ku(c:UInt8)(m:Int)(out:List Int)(base:Nat)(vb:Value)(bs:List Int)(w:World)(hb0:base<=w.heap.size)(hO:OwnB base w vb bs)(hl:bs.length<=1000000000000)(hout:out.length<=1000)
 (hp:∀(v:Value) (w:World),iH .u64 w v [m]->Calls Tryz.prog 147 #[.string ⟨#[c]⟩,v] w fun e w'=>∃v,e=.returned (.tuple #[v,.int .i64 0])/\OwnB w.heap.size w' v out/\Below w.heap.size w w') :
 Calls Tryz.prog 151 #[vb,.string ⟨#[c]⟩,.int .u64 m] w fun e w'=>∃v,e=.returned v/\OwnB base w' v (bs++out)/\Touch (fun k=>vb.ownBlock=some k) w w':=by
 have HO:=aB hO;have HP:=aB hp;clear hO hp
 go_enter Tryz.func151,Tryz.ntmps151
 go_wp2_with fail;refine(HP.out _ _ (iH.dY _ _ _ _ _ rfl)).mono ?_
 rintro e w1 ⟨v1,rfl,o1,hb1⟩;have O1:=aB o1;have hz1:=hb1.size;have hb2:Below w.heap.size w w1:=bw;have hz2:=hb2.size;clear o1
 go_wp2_with (first
  | (at_builtin
     go_must (refine ji rfl (.tmp 16) (.tmp 17) rfl base vb bs rfl (dN.keep HO.out hb2) v1 out rfl (dN.rd O1.out) ae  ae ?_)
     intro v2 w2 o2 g2 a2;have hb3:Touch (fun k=>vb.ownBlock=some k) w w2:=(Touch.of_below hb2 (aK _)).grown g2 (fun k e=>.inl e)
     have O2:=aB o2;clear o2 g2 a2))
 go_ret;exact⟨v2,rfl,O2.out,hb3⟩
theorem yV(n:Int)(base:Nat)(vb:Value)(bs:List Int)(w:World)(hb0:base<=w.heap.size)(hO:OwnB base w vb bs)(hl:bs.length<=1000000000000)(n0:0<=n)(n1:n<18446744073709551616) :
 Calls Tryz.prog 151 #[vb,.string ⟨#[118]⟩,.int .u64 n] w fun e w'=>∃v,e=.returned v/\OwnB base w' v (bs++fC n)/\Touch (fun k=>vb.ownBlock=some k) w w':=
 Ku 118 n (fC n) base vb bs w hb0 hO hl (by have:=dM n;omega) (fun v w hr=>CV n v w hr n0 n1)
theorem TS(x n:Int)(base:Nat)(vb:Value)(bs:List Int)(w:World)(hb0:base<=w.heap.size)(hO:OwnB base w vb bs)(hl:bs.length<=1000000000000)(hn:n=ub x)(h0:-9223372036854775808<=x)(h1:x<=9223372036854775807) :
 Calls Tryz.prog 151 #[vb,.string ⟨#[122]⟩,.int .u64 n] w fun e w'=>∃v,e=.returned v/\OwnB base w' v (bs++zg x)/\Touch (fun k=>vb.ownBlock=some k) w w':=by
 subst hn;exact Ku 122 (ub x) (zg x) base vb bs w hb0 hO hl (by have:=dM (vg x);unfold zg;omega) (fun v w hr=>CZ x v w hr h0 h1)
theorem Dx(c n x:Int)(base:Nat)(vb:Value)(bs:List Int)(w:World)(hb0:base<=w.heap.size)(hO:OwnB base w vb bs)(hl:bs.length<=1000000000000)(hc:(c=118/\x=n/\0<=n/\n<18446744073709551616)\/(c=122/\n=ub x/\-9223372036854775808<=x/\x<=9223372036854775807)) :
 Calls Tryz.prog 278 #[vb,.int .u8 c,.int .u64 n] w fun e w'=>∃v,e=.returned v/\OwnB base w' v (bs++(if c=118 then fC x else zg x))/\Below base w w':=by
 have HO:=aB hO;have C1:=aB (xw c n x w hc);have hlen:(if c=118 then fC x else zg x).length<=10:=by split;exact(dM _).2;exact(dM _).2
 generalize (if c=118 then fC x else zg x)=out at *
 clear hO hc
 go_enter Tryz.func278,Tryz.ntmps278
 go_wp2_with fail;refine(C1.out).mono ?_
 rintro e w1 ⟨v1,rfl,o1,hb1⟩;have O1:=aB o1;have hz1:=hb1.size;clear o1
 go_wp2_with (first
  | (at_builtin
     go_must (refine ji rfl (.tmp 15) (.tmp 16) rfl base vb bs rfl (dN.keep HO.out hb1) v1 out rfl (dN.rd O1.out) ae  ae ?_)
     intro v2 w2 o2 g2 a2;have hb2:Below base w w2:=(hb1.mono hb0).grown g2 ae (fun k hk=>(dN.lt HO.out k hk).1)
     have O2:=aB o2;clear o2 g2 a2))
 go_ret;exact⟨v2,rfl,O2.out,hb2⟩
theorem oq(n:Int)(base:Nat)(vb:Value)(bs:List Int)(w:World)(hb0:base<=w.heap.size)(hO:OwnB base w vb bs)(hl:bs.length<=1000000000000)(n0:0<=n)(n1:n<18446744073709551616) :
 Calls Tryz.prog 278 #[vb,.int .u8 118,.int .u64 n] w fun e w'=>∃v,e=.returned v/\OwnB base w' v (bs++fC n)/\Below base w w':=by
 have h:=Dx 118 n n base vb bs w hb0 hO hl (.inl ⟨rfl,rfl,n0,n1⟩)
 rwa [if_pos rfl] at h
theorem Xp(x n:Int)(base:Nat)(vb:Value)(bs:List Int)(w:World)(hb0:base<=w.heap.size)(hO:OwnB base w vb bs)(hl:bs.length<=1000000000000)(hn:n=ub x)(h0:-9223372036854775808<=x)(h1:x<=9223372036854775807) :
 Calls Tryz.prog 278 #[vb,.int .u8 122,.int .u64 n] w fun e w'=>∃v,e=.returned v/\OwnB base w' v (bs++zg x)/\Below base w w':=by
 have h:=Dx 122 n x base vb bs w hb0 hO hl (.inr ⟨rfl,hn,h0,h1⟩)
 rwa [if_neg ae] at h
open Go.RowKit Go.Lib
theorem Kv(a b c d:Int):(iV a b c d 4).length<=40:=Gs a b c d 4
theorem Xq{l:List Pr}(ok:yw l){j:Nat}(h:j+1<l.length):l[j].1<l[j+1].1:=List.pairwise_iff_getElem.1 ok.gY j (j+1) _ h ae
theorem iH.ac0(t:TypeId)(k:IntKind)(w:World)(a b c d:Int)(H:Nat)(h:w.heap.size=H):iH k (w.alloc (.cells #[.int k a,.int k b,.int k c,.int k d] t)) (.slice (some ⟨H,0,none⟩) 4 4) [a,b,c,d]:=by
 subst h;have h:dN t k w.heap.size (w.alloc (.cells #[.int k a,.int k b,.int k c,.int k d] t)) (.slice (some ⟨w.heap.size,0,none⟩) 4 4) [a,b,c,d]:=
  ⟨rfl,.inr ⟨w.heap.size,4,_,rfl,aK _,heap_alloc_new _ _,ag,by unfold maxLen;omega,rfl,ag⟩⟩
 exact h.rd
theorem Ou{d a m:Nat}{l:List Pr}{F:Ft}(w:World)(h:vU d a m l F w)(ok:mg a m l) :
 Calls Tryz.prog 65 #[.pointer (some ⟨d,0,none⟩)] w fun e w'=>∃v,e=.returned (.tuple #[v,.int .i64 0])/\OwnB w.heap.size w' v (TR a m (dW m l).1 (dW m l).2)/\Below w.heap.size w w':=by
 have CP:=aB (Xl w h ok);have S:=pF d a m l;have CA:Hid (∀w1,Below w.heap.size w w1->_):=aB (fun w1 hb=>yU w1 (S.keep h hb))
 have CB:Hid (∀w1,Below w.heap.size w w1->_):=aB (fun w1 hb=>uC w1 (S.keep h hb))
 have CF:Hid (∀w1,Below w.heap.size w w1->_):=aB (fun w1 hb=>TN w1 (S.keep h hb))
 obtain⟨hq,_,hlm,f0,f1⟩:=ok.cut;have a0:=ok.a0;have a1:=ok.a1;have m0:=ok.m0;have m1:=ok.m1;generalize (dW m l).2=f at *;generalize (dW m l).1=q at *;have TU:=aB hq;have hlen:=hq.len;clear h ok S hq
 go_enter Tryz.func65,Tryz.ntmps65
 go_wp2_with fail;refine(CP.out).mono ?_
 rintro e w1 ⟨v,rfl,o1,hb1⟩;have O1:=aB o1;obtain⟨A,k,rfl,_,_,hf⟩:=o1.form;have HF:=aB hf;have hz1:=hb1.size;clear o1 hf
 go_wp2_with fail;refine(CA.out w1 hb1).mono ?_
 rintro e w' ⟨rfl,rfl⟩
 go_wp2_with fail;refine(CB.out w1 hb1).mono ?_
 rintro e w' ⟨rfl,rfl⟩
 go_wp2_with fail;refine(CF.out w1 hb1).mono ?_
 rintro e w' ⟨rfl,rfl⟩
 go_wp2_with fail;refine(TQ a m q.length f _ _ (iH.ac0 _ _ _ _ _ _ _ _ rfl) ae  ae  ae  ae  ae  ae  ae  ae).mono ?_
 rintro e w2 ⟨v2,rfl,o2,hb2⟩;have pO:Below w.heap.size w w2:=hb1.trans (((aH w1.heap.size w1).alloc (aK _) _ |>.trans (hb2.mono ag)).mono hz1)
 have O2:Hid (OwnB w1.heap.size w2 v2 (iV a m q.length f 4)):=aB (dN.lift o2 (fun g e=>by have:=(dN.lt o2 g e).1;simp at this;omega))
 have hG:=Kv a m q.length f;have HW:Hid (TR a m q f=iV a m q.length f 4++xN q q.length):=aB rfl;generalize iV a m q.length f 4=G at *;have hz2:=pO.size;have B12:Below w1.heap.size w1 w2:=(aH w1.heap.size w1).alloc (aK _) _ |>.trans (hb2.mono ag)
 clear o2 hb2
 go_wp2_with fail
 go_loopg [5,34] q.length (fun r y x wr=>∃(j:Nat) (b:Value),b=y/\r=q.length - j/\j<=q.length/\x=.int .i64 j/\Hid (OwnB w1.heap.size wr b (G++xN q j))/\Below w1.heap.size w1 wr)
 case atStart=>exact⟨0,_,rfl,ae,ae,rfl,aB (by simpa[xN] using O2.out),B12⟩
 case round=>
  obtain⟨j,b,rfl,hq,hj,rfl,HO,TY⟩:=hrel;have HQ:=aB hq;clear hq;have hzw:=TY.size;have hgl:=IA q j;have Ad:(G++xN q j).length<=100000000:=by rw[aI];omega
  by_cases hlt:j<q.length
  ·obtain⟨g,off,rfl,hg,Ji,J9⟩:=kY HF.out hlt
   have c0:=(TY.cell (p:=⟨g,off+j * 2,none⟩) hg).trans Ji;have c1:=(TY.cell (p:=⟨g,off+j * 2+1,none⟩) hg).trans J9;have hk:=TU.out.key _ (bu hlt);have hp:=TU.out.pos _ (bu hlt);have hp2:=pR TU.out.pos _ (bu hlt);have ht:=TU.out.tot;have hji:(j:Int)<(q.length:Int):=ae
   have HN:Hid (nP q j=q[j]):=aB (QX hlt);have HA:Below wr.heap.size wr (wr.alloc (.cells #[.int .i64 q[j].1,.int .u64 q[j].2] 222)):=bw;have HP:Hid (dH (wr.alloc (.cells #[.int .i64 q[j].1,.int .u64 q[j].2] 222)) wr.heap.size 222 #[.int .i64 q[j].1,.int .u64 q[j].2]):=aB (dH.new _ _ _);have hn2:q[j].2<18446744073709551616:=ae
   rcases bT j with rfl|hj0
   ·have Ov:Hid (xN q (0+1)=xN q 0++zg q[0].1++fC q[0].2):=aB (by rw[<-HN.out];rfl)
    have z0:((0:Nat):Int)=0:=rfl;simp only[Nat.zero_mul,Nat.add_zero] at c0 c1;have HZ:Hid (zg q[0].1=pcP q 0):=aB (by rw[<-HN.out];rfl)
    generalize q[0].1=x at *;generalize q[0].2=n at *;rw[z0];clear z0 Ji J9;obtain⟨w3,hw3⟩:∃w3,wr.alloc (.cells #[.int .i64 x,.int .u64 n] 222)=w3:=⟨_,rfl⟩;rw[hw3] at HA HP;have Ox:=TY.trans (HA.mono hzw);have xu:=aB (dN.keep HO.out HA);have hz3:=Ox.size;obtain⟨p,hpp⟩:∃p,wr.heap.size=p:=⟨_,rfl⟩;rw[hpp] at HP;have hp3:=HP.out.lt
    go_upto_region 10 with fail;have p0:=HP.out.cell 0;simp only[aF,aC,aG] at p0
    go_wp2_with fail;refine(TS x _ w1.heap.size _ (G++xN q 0) w3 hz3 xu.out ae (by rw[eH];rfl) ae  ae).mono ?_
    rintro e w4 ⟨v4,rfl,o4,t4⟩;have P4:Below w1.heap.size w1 w4:=Ox.trans (t4.below (fun k e=>(dN.lt xu.out k e).1) ae)
    have mG:=P4.size;have hpn:¬(b.ownBlock=some p):=fun e=>by have:=(dN.lt HO.out p e).2;omega
    have p1:=(eG t4 1 hp3 hpn).trans (HP.out.cell 1);simp only[aF,aC,aG] at p1;have O4:=aB o4;have am6:(zg x).length<=10:=by rw[HZ.out];exact xO q 0
    clear o4 t4
    go_wp2_with fail;refine(yV n w1.heap.size _ (G++xN q (0)++zg x) w4 mG O4.out (by simp only[aI] at Ad |-;omega) ae  ae).mono ?_
    rintro e w5 ⟨v5,rfl,o5,t5⟩;have P5:Below w1.heap.size w1 w5:=P4.trans (t5.below (fun k e=>(dN.lt O4.out k e).1) ae)
    have O5:=aB o5;clear o5 t5
    go_wp2_with fail
    go_roundg (q.length - (0+1))
    case measure=>have:=HQ.out;omega
    case rel=>exact⟨0+1,_,rfl,rfl,ae,ai,aB (by rw[Ov.out,<-aS,<-aS];exact O5.out),P5⟩
   ·obtain⟨s,rfl⟩:∃s,j=s+1:=⟨j - 1,ae⟩
    obtain⟨g',off',he,_,d0w,_⟩:=kY HF.out (j:=s) (by omega)
    cases he
    have D0:=aB d0w;have bf5:=Xq TU.out hlt;have hk2:=TU.out.key _ (bu (show s<q.length by omega))
    have HN2:Hid (nP q s=q[s]):=aB (QX ae)
    have Ov:Hid (xN q (s+1+1)=xN q (s+1)++fC (q[s+1].1 - q[s].1 - 1)++fC q[s+1].2):=aB (by rw[<-HN.out,<-HN2.out];rfl)
    have HZ:Hid (fC (q[s+1].1 - q[s].1 - 1)=pcP q (s+1)):=aB (by rw[<-HN.out,<-HN2.out];rfl)
    generalize q[s+1].1=x at *;generalize q[s+1].2=n at *;generalize q[s].1=y at *;have ZC:Hid (IntKind.i64.wrap (s:Int)=(s:Int)):=aB ak
    have HW1:Hid (IntKind.i64.wrap (x - y)=x - y):=aB ak
    have HW2:Hid (IntKind.i64.wrap (x - y - 1)=x - y - 1):=aB ak
    have HW3:Hid (IntKind.u64.wrap (x - y - 1)=x - y - 1):=aB (by rw[eH];omega)
    clear Ji J9 d0w;have hs1:((s+1:Nat):Int)≠0:=ae
    have hsq:(s:Int)<(q.length:Int):=ae
    obtain⟨w3,hw3⟩:∃w3,wr.alloc (.cells #[.int .i64 x,.int .u64 n] 222)=w3:=⟨_,rfl⟩;rw[hw3] at HA HP;have Ox:=TY.trans (HA.mono hzw);have xu:=aB (dN.keep HO.out HA);have hz3:=Ox.size;obtain⟨p,hpp⟩:∃p,wr.heap.size=p:=⟨_,rfl⟩;rw[hpp] at HP;have hp3:=HP.out.lt
    go_upto_region 12 with fail;clear c0 c1;have hpn:¬(b.ownBlock=some p):=fun e=>by have:=(dN.lt HO.out p e).2;omega
    have hbl:∀k,b.ownBlock=some k->w1.heap.size<=k:=fun k e=>(dN.lt xu.out k e).1
    refine dD (Touch (fun k=>b.ownBlock=some k) w3) [(0,true),(1,true),(2,true),(3,true),(4,true),(5,true),(6,true),(7,true),(8,true),(9,true),(10,true),(11,true),(12,false),(13,true)] (by kernel_rfl) (by kernel_rfl) ((Touch.refl _ _).drew) ?_
    iterate 12
     refine dC ax  ax (fun R hR=>?_)
     apply aJ
     refine⟨fun w' hS'=>?_,?_⟩
     ·have p0:=(eG hS' 0 hp3 hpn).trans (HP.out.cell 0)
      have d0:=((Ox.trans (hS'.below hbl ae)).cell (p:=⟨g,off+s * 2,none⟩) hg).trans D0.out
      have hws:=ZC.out;have ew1:=HW1.out;have ew2:=HW2.out;have ew3:=HW3.out;simp only[aF,aC,aG] at p0
      go_simp;exact⟨rfl,rfl⟩
     go_simp;refine hR _ ?_;clear hR R
    refine dE ax  ax (fun K hK=>?_)
    go_simp;refine(yV (x - y - 1) w1.heap.size b (G++xN q (s+1)) w3.drew hz3 (dN.drew xu.out) ae  ae  ae).mono ?_
    rintro e w4 ⟨v4,rfl,o4,t4'⟩;have t4:Touch (fun k=>b.ownBlock=some k) w3 w4:=((Touch.refl _ w3).drew).trans t4' (fun k e=>.inl e)
    clear t4';refine hK _ _ (t4) ?_
    clear hK K
    iterate 1
     refine dC ax  ax (fun R hR=>?_)
     apply aJ
     refine⟨fun w' hS'=>?_,?_⟩
     ·have p0:=(eG hS' 0 hp3 hpn).trans (HP.out.cell 0)
      have d0:=((Ox.trans (hS'.below hbl ae)).cell (p:=⟨g,off+s * 2,none⟩) hg).trans D0.out
      have hws:=ZC.out;have ew1:=HW1.out;have ew2:=HW2.out;have ew3:=HW3.out;simp only[aF,aC,aG] at p0
      go_simp;exact⟨rfl,rfl⟩
     go_simp;refine hR _ ?_;clear hR R
    refine dF ?_
    have P4:Below w1.heap.size w1 w4:=Ox.trans (t4.below hbl ae)
    have mG:=P4.size;have p1:=(eG t4 1 hp3 hpn).trans (HP.out.cell 1);simp only[aF,aC,aG] at p1;have O4:=aB o4;have am6:(fC (x - y - 1)).length<=10:=by rw[HZ.out];exact xO q (s+1)
    clear o4 t4
    go_wp2_with fail;refine(yV n w1.heap.size _ (G++xN q (s+1)++fC (x - y - 1)) w4 mG O4.out (by simp only[aI] at Ad |-;omega) ae  ae).mono ?_
    rintro e w5 ⟨v5,rfl,o5,t5⟩;have P5:Below w1.heap.size w1 w5:=P4.trans (t5.below (fun k e=>(dN.lt O4.out k e).1) ae)
    have O5:=aB o5;clear o5 t5
    go_wp2_with fail
    go_roundg (q.length - (s+1+1))
    case measure=>have:=HQ.out;omega
    case rel=>exact⟨s+1+1,_,rfl,rfl,ae,ai,aB (by rw[Ov.out,<-aS,<-aS];exact O5.out),P5⟩
  ·obtain rfl:j=q.length:=ae
   go_wp2_with fail
   go_ret2
   exact⟨_,rfl,by rw[HW.out];exact dN.lift HO.out (fun g e=>by have:=(dN.lt HO.out g e).1;omega),hb1.trans (TY.mono hz1)⟩
open Go.RowKit Go.Lib
theorem IB{a m:Nat}{q:List Pr}{f:Int}(v:Value)(w:World)(h:gz fU w v q)(hq:yw q)(a1:a<=5000)(m1:m<=4096)(f0:0<=f)(f1:f<=4611686018427387904) :
 Calls Tryz.prog 185 #[.int .i64 a,.int .i64 m,v,.int .u64 f] w fun e w'=>∃v,e=.returned v/\OwnB w.heap.size w' v (TR a m q f)/\Below w.heap.size w w':=by
 obtain⟨A,k,rfl,_,_,hf⟩:=h.form;have HF:=aB hf;have TU:=aB hq;have hlen:=hq.len;have ZF:Hid (iV a m q.length f 4=(([]++fC a)++fC m++fC q.length)++fC f):=aB rfl;have l1:=dM a;have l2:=dM m;have l3:=dM q.length;have l4:=dM f;clear h hf hq
 go_enter Tryz.func185,Tryz.ntmps185
 go_wp2_with fail;refine(oq a w.heap.size _ [] w (aK _) (dN.nil_ _ _ _ _) ag ae  ae).mono ?_
 rintro e w1 ⟨v1,rfl,o1,hb1⟩;have O1:=aB o1;have hz1:=hb1.size;clear o1
 go_wp2_with fail;refine(oq m w.heap.size _ _ w1 hz1 O1.out ah ae  ae).mono ?_
 rintro e w2 ⟨v2,rfl,o2,hb2⟩;have O2:=aB o2;have pO:=hb1.trans hb2;have hz2:=pO.size;clear o2
 go_wp2_with fail;refine(oq q.length w.heap.size _ _ w2 hz2 O2.out (by simp only[aI,bf];omega) ae  ae).mono ?_
 rintro e w3 ⟨v3,rfl,o3,hb3⟩;have O3:=aB o3;have aw0:=pO.trans hb3;have hz3:=aw0.size;clear o3
 go_wp2_with fail;refine(oq f w.heap.size _ _ w3 hz3 O3.out (by simp only[aI,bf];omega) ae  ae).mono ?_
 rintro e w4 ⟨v4,rfl,o4,hb4⟩;have bf6:=aw0.trans hb4;have O4:=aB o4;rw[<-ZF.out] at O4;clear o4 O1 O2 O3 ZF l1 l2 l3 l4;have hG:=Kv a m q.length f;have HW:Hid (TR a m q f=iV a m q.length f 4++xN q q.length):=aB rfl;generalize iV a m q.length f 4=G at *
 go_wp2_with fail
 go_loopg [9,10] q.length (fun r y x wr=>∃(j:Nat) (b:Value),b=y/\r=q.length - j/\j<=q.length/\x=.int .i64 j/\Hid (OwnB w.heap.size wr b (G++xN q j))/\Below w.heap.size w wr)
 case atStart=>exact⟨0,_,rfl,ae,ae,rfl,aB (by simpa[xN] using O4.out),bf6⟩
 case round=>
  obtain⟨j,b,rfl,hq,hj,rfl,HO,hb⟩:=hrel;have HQ:=aB hq;clear hq;have hzw:=hb.size;have hgl:=IA q j;have Ad:(G++xN q j).length<=100000000:=by rw[aI];omega
  by_cases hlt:j<q.length
  ·obtain⟨g,off,rfl,hg,Ji,J9⟩:=kY HF.out hlt
   have CC:=aB (aN Ji J9);have c0:=(hb.cell (p:=⟨g,off+j * 2,none⟩) hg).trans Ji;have hk:=TU.out.key _ (bu hlt);have hp:=TU.out.pos _ (bu hlt);have hp2:=pR TU.out.pos _ (bu hlt);have ht:=TU.out.tot;have hji:(j:Int)<(q.length:Int):=ae
   have HN:Hid (nP q j=q[j]):=aB (QX hlt);have hn2:q[j].2<18446744073709551616:=ae
   rcases bT j with rfl|hj0
   ·have Ov:Hid (xN q (0+1)=xN q 0++zg q[0].1++fC q[0].2):=aB (by rw[<-HN.out];rfl)
    have z0:((0:Nat):Int)=0:=rfl;have HZ:Hid (zg q[0].1=pcP q 0):=aB (by rw[<-HN.out];rfl)
    simp only[Nat.zero_mul,Nat.add_zero] at c0 CC;generalize q[0].1=x at *;generalize q[0].2=n at *;rw[z0];clear z0 Ji J9;have hj0:(0:Int)<(q.length:Int):=ae
    go_wp2_with fail;refine(Xp x _ w.heap.size _ (G++xN q 0) wr hzw HO.out ae (by rw[eH];rfl) ae  ae).mono ?_
    rintro e w6 ⟨v6,rfl,o6,hb6⟩;have O6:=aB o6;have Oy:=hb.trans hb6;have Ns:=Oy.size;have c1:=(Oy.cell (p:=⟨g,off+1,none⟩) hg).trans CC.out.2;have am6:(zg x).length<=10:=by rw[HZ.out];exact xO q 0
    clear o6
    go_wp2_with fail;refine(oq n w.heap.size _ (G++xN q 0++zg x) w6 Ns O6.out (by simp only[aI] at Ad |-;omega) ae  ae).mono ?_
    rintro e w7 ⟨v7,rfl,o7,hb7⟩;have O7:=aB o7;clear o7
    go_wp2_with fail
    go_roundg (q.length - (0+1))
    case measure=>have:=HQ.out;omega
    case rel=>exact⟨0+1,_,rfl,rfl,ae,ai,aB (by rw[Ov.out,<-aS,<-aS];exact O7.out),Oy.trans hb7⟩
   ·obtain⟨s,rfl⟩:∃s,j=s+1:=⟨j - 1,ae⟩
    obtain⟨g',off',he,_,d0w,_⟩:=kY HF.out (j:=s) (by omega)
    cases he
    have D0:=aB d0w;have bf5:=Xq TU.out hlt;have hk2:=TU.out.key _ (bu (show s<q.length by omega))
    have HN2:Hid (nP q s=q[s]):=aB (QX ae)
    have Ov:Hid (xN q (s+1+1)=xN q (s+1)++fC (q[s+1].1 - q[s].1 - 1)++fC q[s+1].2):=aB (by rw[<-HN.out,<-HN2.out];rfl)
    have HZ:Hid (fC (q[s+1].1 - q[s].1 - 1)=pcP q (s+1)):=aB (by rw[<-HN.out,<-HN2.out];rfl)
    generalize q[s+1].1=x at *;generalize q[s+1].2=n at *;generalize q[s].1=y at *;have ZC:Hid (IntKind.i64.wrap (s:Int)=(s:Int)):=aB ak
    have HW1:Hid (IntKind.i64.wrap (x - y)=x - y):=aB ak
    have HW2:Hid (IntKind.i64.wrap (x - y - 1)=x - y - 1):=aB ak
    have HW3:Hid (IntKind.u64.wrap (x - y - 1)=x - y - 1):=aB (by rw[eH];omega)
    clear Ji J9 d0w c0;have hs1:((s+1:Nat):Int)≠0:=ae
    have hsq:(s:Int)<(q.length:Int):=ae
    go_upto_region 10 with fail;refine dD (Below w.heap.size wr) [(0,true),(1,true),(2,true),(3,true),(4,true),(5,true),(6,true),(7,true),(8,true),(9,true),(10,true),(11,true),(12,true),(13,true),(14,true),(15,false),(16,true)] (by kernel_rfl) (by kernel_rfl) ((aH _ _).drew) ?_
    iterate 15
     refine dC ax  ax (fun R hR=>?_)
     apply aJ
     refine⟨fun w' hS'=>?_,?_⟩
     ·have hbw:=hb.trans hS'
      have c0:=(hbw.cell (p:=⟨g,off+(s+1) * 2,none⟩) hg).trans CC.out.1;have d0:=(hbw.cell (p:=⟨g,off+s * 2,none⟩) hg).trans D0.out;have hws:=ZC.out;have ew1:=HW1.out;have ew2:=HW2.out;have ew3:=HW3.out
      go_simp;exact⟨rfl,rfl⟩
     go_simp;refine hR _ ?_;clear hR R
    refine dE ax  ax (fun K hK=>?_)
    go_simp;refine(oq (x - y - 1) w.heap.size b (G++xN q (s+1)) wr.drew hzw (dN.drew HO.out) ae  ae  ae).mono ?_
    rintro e w6 ⟨v6,rfl,o6,hb6⟩;have B6:Below w.heap.size wr w6:=(aH _ _).drew.trans hb6;clear hb6;refine hK _ _ (B6) ?_
    clear hK K
    iterate 1
     refine dC ax  ax (fun R hR=>?_)
     apply aJ
     refine⟨fun w' hS'=>?_,?_⟩
     ·have hbw:=hb.trans hS'
      have c0:=(hbw.cell (p:=⟨g,off+(s+1) * 2,none⟩) hg).trans CC.out.1;have d0:=(hbw.cell (p:=⟨g,off+s * 2,none⟩) hg).trans D0.out;have hws:=ZC.out;have ew1:=HW1.out;have ew2:=HW2.out;have ew3:=HW3.out
      go_simp;exact⟨rfl,rfl⟩
     go_simp;refine hR _ ?_;clear hR R
    refine dF ?_
    have O6:=aB o6;have Oy:=hb.trans B6;have Ns:=Oy.size;have c1:=(Oy.cell (p:=⟨g,off+(s+1) * 2+1,none⟩) hg).trans CC.out.2;have am6:(fC (x - y - 1)).length<=10:=by rw[HZ.out];exact xO q (s+1)
    clear o6
    go_wp2_with fail;refine(oq n w.heap.size _ (G++xN q (s+1)++fC (x - y - 1)) w6 Ns O6.out (by simp only[aI] at Ad |-;omega) ae  ae).mono ?_
    rintro e w7 ⟨v7,rfl,o7,hb7⟩;have O7:=aB o7;clear o7
    go_wp2_with fail
    go_roundg (q.length - (s+1+1))
    case measure=>have:=HQ.out;omega
    case rel=>exact⟨s+1+1,_,rfl,rfl,ae,ai,aB (by rw[Ov.out,<-aS,<-aS];exact O7.out),Oy.trans hb7⟩
  ·obtain rfl:j=q.length:=ae
   go_wp2_with fail
   go_ret;exact⟨_,rfl,by rw[HW.out];exact HO.out,hb⟩
theorem TZ{a m:Nat}{l:List Pr}(v:Value)(w:World)(h:gz fU w v l)(ok:mg a m l) :
 Calls Tryz.prog 87 #[.int .i64 a,.int .i64 m,v] w fun e w'=>∃v,e=.returned v/\OwnB w.heap.size w' v (TR a m (dW m l).1 (dW m l).2)/\Below w.heap.size w w':=by
 have CK:=aB (TK v l m w h ok.pos ok.sum (by have:=ok.m0;omega) (by have:=ok.m1;omega) (by have:=ok.len;omega))
 obtain⟨hq,_,hlm,f0,f1⟩:=ok.cut;have CW:Hid (∀(v:Value) w,gz fU w v (dW m l).1->_):=aB (fun v w h=>IB v w h hq ok.a1 ok.m1 f0 f1)
 obtain⟨A,k,rfl,_,_,_⟩:=h.form;clear h ok hq hlm f0 f1;generalize (dW m l).2=f at *;generalize (dW m l).1=q at *
 go_enter Tryz.func87,Tryz.ntmps87
 go_wp2_with fail;refine(CK.out).mono ?_
 rintro e w1 ⟨v1,rfl,o1,hb1⟩;have O1:=aB o1;clear o1
 go_wp2_with fail;refine(CW.out v1 w1 O1.out).mono ?_
 rintro e w2 ⟨v2,rfl,o2,hb2⟩;have O2:=aB (dN.lift o2 (fun g e=>bG hb1.size (dN.lt o2 g e).1))
 clear o2
 go_wp2_with fail
 go_ret;exact⟨_,rfl,O2.out,hb1.trans (hb2.mono hb1.size)⟩
open Go.RowKit Go.Lib
def Dy(w:World)(g:Nat)(bs:List Int)(a:Nat)(v:Value)(e:Ending)(w':World):Prop:=e=.returned v/\dZ w' g bs a/\Touch (fun k=>k=g) w w'
theorem Xr{bs x r:List Int}{a:Nat}(ha:a<=bs.length)(h:bs.drop a=x++r):bs.length - r.length=a+x.length:=by
 have:=congrArg List.length h;rw[bn,aI] at this;omega
theorem am7{w:World}{g:Nat}{bs:List Int}{a:Nat}(h:dZ w g bs a):a<=bs.length:=by
 obtain⟨_,_,_,h⟩:=h;exact h
theorem T_{g a:Nat}{bs r:List Int}{n:Int}(w:World)(h:dZ w g bs a)(hb:qQ bs)(hlen:bs.length<=1000000000000)(hd:bs.drop a=fC n++r)(n0:0<=n)(n1:n<18446744073709551616) :
 Calls Tryz.prog 318 #[.pointer (some ⟨g,0,none⟩),.int .u8 118] w (Dy w g bs (a+(fC n).length) (.tuple #[.int .u64 n,.int .i64 0])):=by
 refine(vO g bs a w h hb hlen).mono ?_
 intro e w' hg;unfold nZ at hg;rw[hd,qh n0 n1] at hg;obtain⟨h1,h2,h3⟩:=hg;rw[Xr (am7 h) hd] at h2;exact⟨h1,h2,h3⟩
open Go.RowKit Go.Lib
open Go.RowKit Go.Lib Go.Shelf
def vV(y i:Nat)(cs:Array Value)(Q:Value->World->Prop)(w:World)(e:Ending)(w':World):Prop:=
 e=.returned (.int .i64 0)/\∃p w1,Q p w1/\Below w.heap.size w w1/\dH w' y 117 (cs.setIfInBounds i p)/\Touch (fun k=>k=y) w1 w'/\Touch (fun k=>k=y) w w'
section
variable {y : Nat} {kd p1 p2 p3 p4 : Value} {w : World} {Q : Value -> World -> Prop} {v : Value}
theorem Kw(hy:dH w y 117 #[kd,p1,p2,p3,p4])(h:Calls Tryz.prog 233 #[v] w fun e w'=>∃d,e=.returned (.tuple #[.pointer (some ⟨d,0,none⟩),.int .i64 0])/\Q (.pointer (some ⟨d,0,none⟩)) w'/\Below w.heap.size w w') :
 Calls Tryz.prog 142 #[.pointer (some ⟨y,0,none⟩),v] w (vV y 4 #[kd,p1,p2,p3,p4] Q w):=by
 have C:=aB h;have HY:=aB hy;clear h hy
 go_enter Tryz.func142,Tryz.ntmps142
 go_wp2_with fail;refine(C.out).mono ?_
 rintro e w1 ⟨d,rfl,hq,hb⟩;have L:=aB (HY.out.keep hb);have f1:=L.out.cell 4;have f2:=L.out.frozen 4;simp only[aF,aC,aG] at f1;have M:=aB (L.out.dP 4 (.pointer (some ⟨d,0,none⟩)));have T:=aB ((show Touch (fun k=>k=y) w1 w1 from Touch.refl _ w1).setCell (p:=⟨y,4,none⟩) (.inl rfl) (.pointer (some ⟨d,0,none⟩)))
 have T0:=aB ((Touch.of_below (F:=fun k=>k=y) hb (aK _)).setCell (p:=⟨y,4,none⟩) (.inl rfl) (.pointer (some ⟨d,0,none⟩)))
 have HQ:=aB hq;clear hq
 go_wp2_with fail
 go_ret;exact⟨rfl,_,w1,HQ.out,hb,M.out,T.out,T0.out⟩
end
open Go.RowKit Go.Lib Go.Shelf
def gu(kd lo hi dg:Int)(gr:Bool)(ac sz:Int):Value:=.agg #[.int .u8 kd,.int .i64 lo,.int .i64 hi,.int .i64 dg,.bool gr,.int .i64 ac,.int .i64 sz]
theorem uF{y i:Nat}{cs:Array Value}{Q:Value->World->Prop}{w wa w1:World}{p:Value}(hy:dH w1 y 117 cs)(ha:Below w.heap.size w wa)(hb:Below wa.heap.size wa w1)(hq:Q p w1) :
 vV y i cs Q w (.returned (.int .i64 0)) (w1.setCell ⟨y,i,none⟩ p):=by
 have hb':=ha.trans (hb.mono ha.size);exact⟨rfl,p,w1,hq,hb',hy.dP i p,(show Touch (fun k=>k=y) w1 w1 from Touch.refl _ w1).setCell (p:=⟨y,i,none⟩) (.inl rfl) p,(Touch.of_below (F:=fun k=>k=y) hb' (aK _)).setCell (p:=⟨y,i,none⟩) (.inl rfl) p⟩
section
variable {y : Nat} {k0 p1 p2 p3 p4 : Value} {w : World} {Q : Value -> World -> Prop} {kd lo hi dg ac sz : Int} {gr : Bool}
theorem Oz(hy:dH w y 117 #[k0,p1,p2,p3,p4])(h:∀wa,Below w.heap.size w wa->Calls Tryz.prog 228 #[.int .i64 ac,.int .i64 sz] wa fun e w'=>∃d,e=.returned (.tuple #[.pointer (some ⟨d,0,none⟩),.int .i64 0])/\Q (.pointer (some ⟨d,0,none⟩)) w'/\Below wa.heap.size wa w') :
 Calls Tryz.prog 137 #[.pointer (some ⟨y,0,none⟩),gu kd lo hi dg gr ac sz] w (vV y 2 #[k0,p1,p2,p3,p4] Q w):=by
 have C:=aB h;have HY:=aB hy;clear h hy;unfold gu;obtain⟨b,hbb⟩:∃b,w.heap.size=b:=⟨_,rfl⟩;obtain⟨wa,jM⟩:∃z,w.alloc (.cells #[.int .u8 kd,.int .i64 lo,.int .i64 hi,.int .i64 dg,.bool gr,.int .i64 ac,.int .i64 sz] 34)=z:=⟨_,rfl⟩;have ha:Below w.heap.size w wa:=by rw[<-jM];exact bw
 have B0:dH wa b 34 #[.int .u8 kd,.int .i64 lo,.int .i64 hi,.int .i64 dg,.bool gr,.int .i64 ac,.int .i64 sz]:=by rw[<-jM,<-hbb];exact dH.new _ _ _
 have j5:=B0.cell 5;have j6:=B0.cell 6;simp only[aF,aC,aG] at j5 j6;clear B0;have HA:=aB ha;clear ha
 go_enter Tryz.func137,Tryz.ntmps137
 go_wp2_with fail;refine(C.out wa HA.out).mono ?_
 rintro e w1 ⟨d,rfl,hq,hb⟩;have L:=aB ((HY.out.keep HA.out).keep hb);have f1:=L.out.cell 2;have f2:=L.out.frozen 2;simp only[aF,aC,aG] at f1;have M:=aB (uF (i:=2) L.out HA.out hb hq);clear hq
 go_wp2_with fail
 go_ret;exact M.out
theorem Dz(hy:dH w y 117 #[k0,p1,p2,p3,p4])(h:∀wa,Below w.heap.size w wa->Calls Tryz.prog 230 #[.int .i64 sz] wa fun e w'=>∃d,e=.returned (.tuple #[.pointer (some ⟨d,0,none⟩),.int .i64 0])/\Q (.pointer (some ⟨d,0,none⟩)) w'/\Below wa.heap.size wa w') :
 Calls Tryz.prog 139 #[.pointer (some ⟨y,0,none⟩),gu kd lo hi dg gr ac sz] w (vV y 3 #[k0,p1,p2,p3,p4] Q w):=by
 have C:=aB h;have HY:=aB hy;clear h hy;unfold gu;obtain⟨b,hbb⟩:∃b,w.heap.size=b:=⟨_,rfl⟩;obtain⟨wa,jM⟩:∃z,w.alloc (.cells #[.int .u8 kd,.int .i64 lo,.int .i64 hi,.int .i64 dg,.bool gr,.int .i64 ac,.int .i64 sz] 34)=z:=⟨_,rfl⟩;have ha:Below w.heap.size w wa:=by rw[<-jM];exact bw
 have B0:dH wa b 34 #[.int .u8 kd,.int .i64 lo,.int .i64 hi,.int .i64 dg,.bool gr,.int .i64 ac,.int .i64 sz]:=by rw[<-jM,<-hbb];exact dH.new _ _ _
 have j6:=B0.cell 6;simp only[aF,aC,aG] at j6;clear B0;have HA:=aB ha;clear ha
 go_enter Tryz.func139,Tryz.ntmps139
 go_wp2_with fail;refine(C.out wa HA.out).mono ?_
 rintro e w1 ⟨d,rfl,hq,hb⟩;have L:=aB ((HY.out.keep HA.out).keep hb);have f1:=L.out.cell 3;have f2:=L.out.frozen 3;simp only[aF,aC,aG] at f1;have M:=aB (uF (i:=3) L.out HA.out hb hq);clear hq
 go_wp2_with fail
 go_ret;exact M.out
theorem Ky(hy:dH w y 117 #[k0,p1,p2,p3,p4])(h:∀wa,Below w.heap.size w wa->Calls Tryz.prog 232 #[.int .i64 sz] wa fun e w'=>∃d,e=.returned (.tuple #[.pointer (some ⟨d,0,none⟩),.int .i64 0])/\Q (.pointer (some ⟨d,0,none⟩)) w'/\Below wa.heap.size wa w') :
 Calls Tryz.prog 141 #[.pointer (some ⟨y,0,none⟩),gu kd lo hi dg gr ac sz] w (vV y 4 #[k0,p1,p2,p3,p4] Q w):=by
 have C:=aB h;have HY:=aB hy;clear h hy;unfold gu;obtain⟨b,hbb⟩:∃b,w.heap.size=b:=⟨_,rfl⟩;obtain⟨wa,jM⟩:∃z,w.alloc (.cells #[.int .u8 kd,.int .i64 lo,.int .i64 hi,.int .i64 dg,.bool gr,.int .i64 ac,.int .i64 sz] 34)=z:=⟨_,rfl⟩;have ha:Below w.heap.size w wa:=by rw[<-jM];exact bw
 have B0:dH wa b 34 #[.int .u8 kd,.int .i64 lo,.int .i64 hi,.int .i64 dg,.bool gr,.int .i64 ac,.int .i64 sz]:=by rw[<-jM,<-hbb];exact dH.new _ _ _
 have j6:=B0.cell 6;simp only[aF,aC,aG] at j6;clear B0;have HA:=aB ha;clear ha
 go_enter Tryz.func141,Tryz.ntmps141
 go_wp2_with fail;refine(C.out wa HA.out).mono ?_
 rintro e w1 ⟨d,rfl,hq,hb⟩;have L:=aB ((HY.out.keep HA.out).keep hb);have f1:=L.out.cell 4;have f2:=L.out.frozen 4;simp only[aF,aC,aG] at f1;have M:=aB (uF (i:=4) L.out HA.out hb hq);clear hq
 go_wp2_with fail
 go_ret;exact M.out
theorem Kz(hy:dH w y 117 #[k0,p1,p2,p3,p4])(h:∀wa,Below w.heap.size w wa->Calls Tryz.prog 223 #[.agg #[.int .i64 lo,.int .i64 hi,.int .i64 dg],.bool gr] wa fun e w'=>∃d,e=.returned (.tuple #[.pointer (some ⟨d,0,none⟩),.int .i64 0])/\Q (.pointer (some ⟨d,0,none⟩)) w'/\Below wa.heap.size wa w') :
 Calls Tryz.prog 135 #[.pointer (some ⟨y,0,none⟩),gu kd lo hi dg gr ac sz] w (vV y 1 #[k0,p1,p2,p3,p4] Q w):=by
 have C:=aB h;have HY:=aB hy;clear h hy;unfold gu;obtain⟨b,hbb⟩:∃b,w.heap.size=b:=⟨_,rfl⟩;obtain⟨wa,jM⟩:∃z,w.alloc (.cells #[.int .u8 kd,.int .i64 lo,.int .i64 hi,.int .i64 dg,.bool gr,.int .i64 ac,.int .i64 sz] 34)=z:=⟨_,rfl⟩;have ha:Below w.heap.size w wa:=by rw[<-jM];exact bw
 have B0:dH wa b 34 #[.int .u8 kd,.int .i64 lo,.int .i64 hi,.int .i64 dg,.bool gr,.int .i64 ac,.int .i64 sz]:=by rw[<-jM,<-hbb];exact dH.new _ _ _
 have j1:=B0.cell 1;have j2:=B0.cell 2;have j3:=B0.cell 3;have j4:=B0.cell 4;simp only[aF,aC,aG] at j1 j2 j3 j4;clear B0;have HA:=aB ha;clear ha
 go_enter Tryz.func135,Tryz.ntmps135
 go_wp2_with fail;refine(C.out wa HA.out).mono ?_
 rintro e w1 ⟨d,rfl,hq,hb⟩;have L:=aB ((HY.out.keep HA.out).keep hb);have f1:=L.out.cell 1;have f2:=L.out.frozen 1;simp only[aF,aC,aG] at f1;have M:=aB (uF (i:=1) L.out HA.out hb hq);clear hq
 go_wp2_with fail
 go_ret;exact M.out
end
end Go.Proofs.YtkiebccnpheloaaGreat.D
