/- Parts of a proof. No condition. -/
import Derived.Test.YtilcnjbpmoijmaaGreatPw20
import Derived.Test.YtilcnjbpmoijmaaGreatPw11
set_option maxRecDepth 100000
set_option maxHeartbeats 16000000
set_option linter.unusedVariables false
set_option linter.unusedSimpArgs false
namespace Go.Proofs.YtilcnjbpmoijmaaGreat.D
open Tryz
open Go.RowKit Go.Lib
variable{a b g m:Nat}{l q:List Pr}{bs r:List Int}{w:World}{n:Int}{u:Value}
theorem KY{f:Int}(v:Value)(w:World)(h:iM fZ w v q)(hq:uI q)(a1:a<=5000)(m1:m<=4096)(f0:0<=f)(f1:f<=4611686018427387904) :
 aH 148 #[.int .i64 a,.int .i64 m,v,.int .u64 f] w fun e w'=>∃v,e=.returned v/\OwnB w.heap.size w' v (pR a m q f)/\Below w.heap.size w w':=by
 obtain⟨A,k,rfl,_,_,hf⟩:=h.form;have HF:=aI hf;have Ih:=aI hq;have hlen:=hq.len;have HO4:Hid (iF a m q.length f 4=(([]++eG a)++eG m++eG q.length)++eG f):=aI rfl;have l1:=dM a;have l2:=dM m;have l3:=dM q.length;have l4:=dM f;clear h hf hq
 go_enter func148,ntmps148
 go_wp2_with fail;refine(pU a w.heap.size _ [] w (aS _) (dP.nil_ _ _ _ _) ag ae  ae).mono ?_
 rintro e w1 ⟨v1,rfl,o1,hb1⟩;have O1:=aI o1;have hz1:=hb1.size;clear o1
 go_wp2_with fail;refine(pU m w.heap.size _ _ w1 hz1 O1.o ah ae  ae).mono ?_
 rintro e w2 ⟨v2,rfl,o2,hb2⟩;have O2:=aI o2;have jD:=hb1.trans hb2;have hz2:=jD.size;clear o2
 go_wp2_with fail;refine(pU q.length w.heap.size _ _ w2 hz2 O2.o (by simp only[aQ,bC];omega) ae  ae).mono ?_
 rintro e w3 ⟨v3,rfl,o3,hb3⟩;have O3:=aI o3;have Iw:=jD.trans hb3;have hz3:=Iw.size;clear o3
 go_wp2_with fail;refine(pU f w.heap.size _ _ w3 hz3 O3.o (by simp only[aQ,bC];omega) ae  ae).mono ?_
 rintro e w4 ⟨v4,rfl,o4,hb4⟩;have Gs:=Iw.trans hb4;have O4:=aI o4;rw[<-HO4.o] at O4;clear o4 O1 O2 O3 HO4 l1 l2 l3 l4;have hG:=zF a m q.length f;have HW:Hid (pR a m q f=iF a m q.length f 4++lW q q.length):=aI rfl;generalize iF a m q.length f 4=G at *
 go_wp2_with fail
 go_loopg [9,10] q.length (fun r y x wr=>∃(j:Nat) (b:Value),b=y/\r=q.length - j/\j<=q.length/\x=.int .i64 j/\Hid (OwnB w.heap.size wr b (G++lW q j))/\Below w.heap.size w wr)
 case atStart=>exact⟨0,_,rfl,ae,ae,rfl,aI (by simpa[lW] using O4.o),Gs⟩
 case round=>
  obtain⟨j,b,rfl,hq,hj,rfl,HO,hb⟩:=hrel;have HQ:=aI hq;clear hq;have hzw:=hb.size;have hgl:=zD q j;have AQ:(G++lW q j).length<=100000000:=by rw[aQ];omega
  by_cases hlt:j<q.length
  ·obtain⟨g,off,rfl,hg,Vb,WZ⟩:=jQ HF.o hlt
   have CC:=aI (aP Vb WZ);have c0:=(hb.cell (p:=⟨g,off+j * 2,none⟩) hg).trans Vb;have hk:=Ih.o.key _ (bf hlt);have hp:=Ih.o.pos _ (bf hlt);have hp2:=pK Ih.o.pos _ (bf hlt);have ht:=Ih.o.tot;have hji:(j:Int)<(q.length:Int):=ae
   have HN:Hid (nP q j=q[j]):=aI (xx hlt);have hn2:q[j].2<18446744073709551616:=ae
   rcases bQ j with rfl|hj0
   ·have Xj:Hid (lW q (0+1)=lW q 0++zg q[0].1++eG q[0].2):=aI (by rw[<-HN.o];rfl)
    have z0:((0:Nat):Int)=0:=rfl;have HZ:Hid (zg q[0].1=QC q 0):=aI (by rw[<-HN.o];rfl)
    simp only[Nat.zero_mul,Nat.add_zero] at c0 CC;generalize q[0].1=x at *;generalize q[0].2=n at *;rw[z0];clear z0 Vb WZ;have hj0:(0:Int)<(q.length:Int):=ae
    go_wp2_with fail;refine(aa0 x _ w.heap.size _ (G++lW q 0) wr hzw HO.o ae (by rw[fF];rfl) ae  ae).mono ?_
    rintro e w6 ⟨v6,rfl,o6,hb6⟩;have O6:=aI o6;have RQ:=hb.trans hb6;have WM:=RQ.size;have c1:=(RQ.cell (p:=⟨g,off+1,none⟩) hg).trans CC.o.2;have ba8:(zg x).length<=10:=by rw[HZ.o];exact zC q 0
    clear o6
    go_wp2_with fail;refine(pU n w.heap.size _ (G++lW q 0++zg x) w6 WM O6.o (by simp only[aQ] at AQ |-;omega) ae  ae).mono ?_
    rintro e w7 ⟨v7,rfl,o7,hb7⟩;have O7:=aI o7;clear o7
    go_wp2_with fail
    go_roundg (q.length - (0+1))
    case measure=>have:=HQ.o;omega
    case rel=>exact⟨0+1,_,rfl,rfl,ae,ai,aI (by rw[Xj.o,<-aX,<-aX];exact O7.o),RQ.trans hb7⟩
   ·obtain⟨s,rfl⟩:∃s,j=s+1:=⟨j - 1,ae⟩
    obtain⟨g',off',he,_,d0w,_⟩:=jQ HF.o (j:=s) (by omega)
    cases he
    have D0:=aI d0w;have bm0:=KU Ih.o hlt;have hk2:=Ih.o.key _ (bf (show s<q.length by omega))
    have KX:Hid (nP q s=q[s]):=aI (xx ae)
    have Xj:Hid (lW q (s+1+1)=lW q (s+1)++eG (q[s+1].1 - q[s].1 - 1)++eG q[s+1].2):=aI (by rw[<-HN.o,<-KX.o];rfl)
    have HZ:Hid (eG (q[s+1].1 - q[s].1 - 1)=QC q (s+1)):=aI (by rw[<-HN.o,<-KX.o];rfl)
    generalize q[s+1].1=x at *;generalize q[s+1].2=n at *;generalize q[s].1=y at *;have QB:Hid (IntKind.i64.wrap (s:Int)=(s:Int)):=aI ak
    have HW1:Hid (IntKind.i64.wrap (x - y)=x - y):=aI ak
    have HW2:Hid (IntKind.i64.wrap (x - y - 1)=x - y - 1):=aI ak
    have HW3:Hid (IntKind.u64.wrap (x - y - 1)=x - y - 1):=aI (by rw[fF];omega)
    clear Vb WZ d0w c0;have hs1:((s+1:Nat):Int)≠0:=ae
    have hsq:(s:Int)<(q.length:Int):=ae
    go_upto_region 10 with fail;refine jh (Below w.heap.size wr) (dV 0 15 (fJ 15 (dV 16 1 []))) ((aO _ _).drew) ?_
    iterate 15 refine eQ (h:=fun w' hS'=>by have hbw:=hb.trans hS';have c0:=(hbw.cell (p:=⟨g,off+(s+1) * 2,none⟩) hg).trans CC.o.1;have d0:=(hbw.cell (p:=⟨g,off+s * 2,none⟩) hg).trans D0.o;have hws:=QB.o;have ew1:=HW1.o;have ew2:=HW2.o;have ew3:=HW3.o;go_simp;exact⟨rfl,rfl⟩) ?_
    refine fO fun K hK=>?_
    go_simp;refine(pU (x - y - 1) w.heap.size b (G++lW q (s+1)) wr.drew hzw (dP.drew HO.o) ae  ae  ae).mono ?_
    rintro e w6 ⟨v6,rfl,o6,hb6⟩;have B6:Below w.heap.size wr w6:=(aO _ _).drew.trans hb6;clear hb6;refine hK _ _ (B6) ?_
    clear hK K;refine eQ (h:=fun w' hS'=>by have hbw:=hb.trans hS';have c0:=(hbw.cell (p:=⟨g,off+(s+1) * 2,none⟩) hg).trans CC.o.1;have d0:=(hbw.cell (p:=⟨g,off+s * 2,none⟩) hg).trans D0.o;have hws:=QB.o;have ew1:=HW1.o;have ew2:=HW2.o;have ew3:=HW3.o;go_simp;exact⟨rfl,rfl⟩) ?_
    refine dJ ?_
    have O6:=aI o6;have RQ:=hb.trans B6;have WM:=RQ.size;have c1:=(RQ.cell (p:=⟨g,off+(s+1) * 2+1,none⟩) hg).trans CC.o.2;have ba8:(eG (x - y - 1)).length<=10:=by rw[HZ.o];exact zC q (s+1)
    clear o6
    go_wp2_with fail;refine(pU n w.heap.size _ (G++lW q (s+1)++eG (x - y - 1)) w6 WM O6.o (by simp only[aQ] at AQ |-;omega) ae  ae).mono ?_
    rintro e w7 ⟨v7,rfl,o7,hb7⟩;have O7:=aI o7;clear o7
    go_wp2_with fail
    go_roundg (q.length - (s+1+1))
    case measure=>have:=HQ.o;omega
    case rel=>exact⟨s+1+1,_,rfl,rfl,ae,ai,aI (by rw[Xj.o,<-aX,<-aX];exact O7.o),RQ.trans hb7⟩
  ·obtain rfl:j=q.length:=ae
   go_wp2_with fail
   go_ret;exact⟨_,rfl,by rw[HW.o];exact HO.o,hb⟩
theorem Xk(v:Value)(w:World)(h:iM fZ w v l)(ok:kJ a m l) :
 aH 80 #[.int .i64 a,.int .i64 m,v] w fun e w'=>∃v,e=.returned v/\OwnB w.heap.size w' v (pR a m (dY m l).1 (dY m l).2)/\Below w.heap.size w w':=by
 have CK:=aI (W_ v l m w h ok.pos ok.sum (by have:=ok.m0;omega) (by have:=ok.m1;omega) (by have:=ok.len;omega))
 obtain⟨hq,_,hlm,f0,f1⟩:=ok.cut;have CW:Hid (∀(v:Value) w,iM fZ w v (dY m l).1->_):=aI (fun v w h=>KY v w h hq ok.a1 ok.m1 f0 f1)
 obtain⟨A,k,rfl,_,_,_⟩:=h.form;clear h ok hq hlm f0 f1;generalize (dY m l).2=f at *;generalize (dY m l).1=q at *
 go_enter func80,ntmps80
 go_wp2_with fail;refine(CK.o).mono ?_
 rintro e w1 ⟨v1,rfl,o1,hb1⟩;have O1:=aI o1;clear o1
 go_wp2_with fail;refine(CW.o v1 w1 O1.o).mono ?_
 rintro e w2 ⟨v2,rfl,o2,hb2⟩;have O2:=aI (dP.lift o2 (fun g e=>bJ hb1.size (dP.lt o2 g e).1))
 clear o2
 go_wp2_with fail
 go_ret;exact⟨_,rfl,O2.o,hb1.trans (hb2.mono hb1.size)⟩
open Tryz
open Go.RowKit Go.Lib
def RV(g:Nat):Value:=.agg #[.func (.func 267) #[.pointer (some ⟨g,0,none⟩)] #[]]
def qM(w:World)(g:Nat)(bs:List Int)(a:Nat)(v:Value)(e:Ending)(w':World):Prop:=e=.returned v/\dU w' g bs a/\Touch (fun k=>k=g) w w'
theorem N_{x:List Int}(ha:a<=bs.length)(h:bs.drop a=x++r):bs.length - r.length=a+x.length:=by
 have:=congrArg List.length h;rw[bu,aQ] at this;omega
theorem RS(h:dU w g bs a):a<=bs.length:=by
 obtain⟨_,_,_,h⟩:=h;exact h
theorem wM(w:World)(h:dU w g bs a)(hb:iD bs)(hlen:bs.length<=1000000000000)(hd:bs.drop a=eG n++r)(n0:0<=n)(n1:n<18446744073709551616) :
 aH 267 #[.pointer (some ⟨g,0,none⟩),.int .u8 118] w (qM w g bs (a+(eG n).length) (.tuple #[.int .u64 n,.int .i64 0])):=by
 refine(sJ g bs a w h hb hlen).mono ?_
 intro e w' hg;unfold nM at hg;rw[hd,gZ n0 n1] at hg;obtain⟨h1,h2,h3⟩:=hg;rw[N_ (RS h) hd] at h2;exact⟨h1,h2,h3⟩
theorem Xl{x:Int}(w:World)(h:dU w g bs a)(hb:iD bs)(hlen:bs.length<=1000000000000)(hd:bs.drop a=zg x++r)(x0:-9223372036854775808<=x)(x1:x<=9223372036854775807) :
 aH 267 #[.pointer (some ⟨g,0,none⟩),.int .u8 122] w (qM w g bs (a+(zg x).length) (.tuple #[.int .u64 (ub x),.int .i64 0])):=by
 refine(xR g bs a w h hb hlen).mono ?_
 intro e w' hg;unfold nM at hg;have hs:=jl x0 x1;have hd':bs.drop a=eG (qA x)++r:=hd;rw[hd',gZ hs.1 hs.2] at hg;obtain⟨h1,h2,h3⟩:=hg;rw[N_ (RS h) hd'] at h2;refine⟨?_,h2,h3⟩
 rw[h1];have:lC (qA x)=x:=by unfold lC qA;split<;>split<;>omega
 simp only[this]
theorem pV{lo hi:Int}(w:World)(h:dU w g bs a)(hb:iD bs)(hlen:bs.length<=1000000000000)(hd:bs.drop a=eG n++r)(n0:0<=n)(n1:n<18446744073709551616)(hlo:lo<=n)(hhi:n<=hi) :
 aH 281 #[RV g,.int .u8 118,.int .u64 lo,.int .u64 hi] w (qM w g bs (a+(eG n).length) (.int .u64 n)):=by
 have C:Hid (∀w1,Below w.heap.size w w1->_):=aI (fun w1 hb1=>wM w1 (h.keep hb1) hb hlen hd n0 n1)
 have eg:∀args w,(callFunc 267 args).run prog w=.ok (.enter 267 args) w:=fun _ _=>rfl
 have hl1:¬n<lo:=ae
 have hl2:¬n > hi:=ae
 clear h hb hd;unfold RV
 go_enter func281,ntmps281
 go_wp2_with fail;refine(C.o _ (bw)).mono ?_
 rintro e w2 ⟨rfl,r2,t2⟩;have R2:=aI r2;have T2:Hid (Touch (fun k=>k=g) w w2):=aI ((((Touch.refl _ _).alloc _).trans t2 (fun i hi=>.inl hi)))
 clear r2 t2
 go_wp2_with fail
 go_ret;exact⟨rfl,R2.o,T2.o⟩
theorem Jk(q:List Pr)(j:Nat):∀k,j<k->∃t,lW q k=lW q j++(QC q j++(eG (nP q j).2++t))
 | 0,h=>by omega
 | k+1,h=>by
  rcases Nat.lt_or_eq_of_le (Nat.le_of_lt_succ h) with h'|rfl
  ·obtain⟨t,ht⟩:=Jk q j k h'
   exact⟨t++(QC q k++eG (nP q k).2),by simp only[lW,ht,aX]⟩
  ·exact⟨[],by simp only[lW,List.append_nil,aX]⟩
theorem drop_at{bs:List Int}{q:List Pr}{r:List Int}{a j:Nat}(hd:bs.drop a=lW q q.length++r)(hj:j<q.length):∃t,bs.drop (a+(lW q j).length)=QC q j++(eG (nP q j).2++t)/\bs.drop (a+(lW q j).length+(QC q j).length)=eG (nP q j).2++t:=by
 obtain⟨t,ht⟩:=Jk q j q.length hj;have e:bs.drop (a+(lW q j).length)=QC q j++(eG (nP q j).2++(t++r)):=by
  rw[<-List.drop_drop,hd,ht,aX,List.drop_left];simp only[aX]
 refine⟨t++r,e,?_⟩
 rw[<-List.drop_drop,e,List.drop_left]
theorem OwnB.bw8{b':Nat}{v:Value}(h:OwnB b w v bs)(ho:dL fZ b' w u l){k:Nat}(hk:v.ownBlock=some k):u.ownBlock≠some k:=by
 intro e
 rcases h.2 with h2|⟨g1,cap,cur,rfl,e2,e3,r⟩
 ·rw[h2.1] at hk;cases hk
 ·rcases ho.2 with h4|⟨g2,cap2,xh,rfl,e5,e6,r2⟩
  ·rw[h4.1] at e;cases e
  ·cases hk
   cases e
   rw[e3] at e6;injection e6 with e6;injection e6 with _ e7;exact absurd e7 af
theorem Bg{w':World}(h:dU w g bs a)(ho:dL fZ b w u l)(hg:w.grownBy w' u.ownBlock):dU w' g bs a:=by
 obtain⟨v,h1,h2,h3⟩:=h;exact⟨v,(hg.block g h1.lt (fun e=>own_ne h1 ho af e.symm)).trans h1,dP.stay h2 (fun k hk=>hg.block k (dP.lt h2 k hk).2 (fun e=>OwnB.bw8 h2 ho hk e.symm)),h3⟩
theorem En{p:Nat}(h:dU w g bs a){T:TypeId}{cs:Array Value}(hB:dK w p T cs)(ht:T≠436)(ht':T≠5)(i:Nat)(u:Value):dU (w.setCell ⟨p,i,none⟩ u) g bs a:=by
 obtain⟨v,h1,h2,h3⟩:=h;have hne:g≠p:=fun e=>by
  subst e;unfold dK at h1 hB;rw[hB] at h1;injection h1 with h1;injection h1 with _ h1;exact ht h1
 exact⟨v,h1.far hne u,dP.stay h2 (fun k hk=>bM _ _ _ k (fun e=>hB.J9 h2 ht' (by rw[hk,e]))),h3⟩
theorem RX(w:World)(h:dU w g bs a)(hb:iD bs)(hlen:bs.length<=1000000000000)(hd:bs.drop a=lW q q.length++r)(hq:uI q) :
 aH 282 #[RV g,.int .i64 q.length] w fun e w'=>∃v,e=.returned v/\dL fZ w.heap.size w' v q/\dU w' g bs (a+(lW q q.length).length)/\Touch (fun k=>k=g) w w':=by
 have HB:=aI hb;have HD:=aI (fun j=>@drop_at bs q r a j hd)
 have Ih:=aI hq;have hql:=hq.len;have eg:∀args w,(callFunc 267 args).run prog w=.ok (.enter 267 args) w:=fun _ _=>rfl
 have HRV:Hid (RV g=.agg #[.func (.func 267) #[.pointer (some ⟨g,0,none⟩)] #[]]):=aI rfl;have H:=aI h;have hgl:=h.lt;rw[HRV.o];clear h hb hd hq
 go_enter func282,ntmps282
 go_wp2_with fail;obtain⟨w1,hw1⟩:∃w1,w1=w.alloc (.cells #[.func (.func 267) #[.pointer (some ⟨g,0,none⟩)] #[]] 376):=⟨_,rfl⟩;have hb1:Below w.heap.size w w1:=by rw[hw1];exact bw
 have BR:Hid (dK w1 w.heap.size 376 #[.func (.func 267) #[.pointer (some ⟨g,0,none⟩)] #[]]):=by show dK _ _ _ _;rw[hw1];exact dK.new _ _ _
 rw[<-hw1];obtain⟨rb,hrb⟩:=aF (w.heap.size);have HRB:=aI hrb;rw[hrb] at BR |-;have hrl:=BR.o.lt;clear hw1 hrb
 go_loopg [5,12] q.length (fun z y x wr=>∃(j:Nat) (u:Value),u=y/\z=q.length - j/\j<=q.length/\x=.int .i64 j/\Hid (dL fZ w1.heap.size wr u (q.take j))/\Hid (dU wr g bs (a+(lW q j).length))/\Hid (Touch (fun k=>k=g) w1 wr))
 case atStart=>exact⟨0,_,rfl,ae,ae,rfl,aI (dL.nil_ _ _),aI (H.o.keep hb1),aI (Touch.refl _ _)⟩
 case round=>
  obtain⟨j,u,rfl,hz,hj,rfl,HU,HR,HT⟩:=hrel;have HZ:=aI hz;clear hz;have hzw:=HT.o.size
  by_cases hlt:j<q.length
  ·obtain⟨t,d1,d2⟩:=HD.o j hlt
   have HN:Hid (nP q j=q[j]):=aI (xx hlt);have hk:=Ih.o.key _ (bf hlt);have hp:=Ih.o.pos _ (bf hlt);have hp2:=pK Ih.o.pos _ (bf hlt);have ht:=Ih.o.tot
   rcases bQ j with rfl|hj0
   ·obtain⟨a0,ha0⟩:=aF (a+(lW q 0).length)
    rw[ha0] at d1 d2 HR;simp only[QC,HN.o] at d1 d2;have Xj:Hid (a+(lW q (0+1)).length=a0+(zg q[0].1).length+(eG q[0].2).length):=aI (by rw[<-ha0,<-HN.o];simp only[lW,QC,aQ];omega)
    have rZ:Hid (q.take 0++[(q[0].1,q[0].2)]=q.take (0+1)):=aI (by rw[bg hlt])
    have D1:=aI d1;have D2:=aI d2;clear d1 d2 HN;generalize q[0].1=x at *;generalize q[0].2=n at *;have z0:((0:Nat):Int)=0:=rfl;rw[z0];clear z0
    go_upto_region 6 with fail;obtain⟨w3,hw3⟩:=aF (wr.alloc (.cells #[.int .i64 0,.int .u64 0] 178));have HA:Below wr.heap.size wr w3:=by rw[<-hw3];exact bw
    have HP:Hid (dK w3 wr.heap.size 178 #[.int .i64 0,.int .u64 0]):=by rw[<-hw3];exact aI (dK.new _ _ _)
    obtain⟨p,hpp⟩:=aF (wr.heap.size);have Iy:g≠p:=by have:=hb1.size;omega
    have hrg:¬(rb=g):=by have:=HRB.o;omega
    rw[hpp] at HP;rw[hw3,hpp];clear hw3;have hp3:=HP.o.lt;have br3:=(((BR.o.cell 0).symm.trans (dO HT.o 0 hrl hrg).symm).symm);have hrw:rb<wr.heap.size:=ae
    have BR3:=(HA.cell (p:=⟨rb,0,none⟩) hrw).trans br3;simp only[aK,aJ] at BR3
    go_wp2_with fail;refine(Xl w3 (HR.o.keep HA) HB.o hlen D1.o ae  ae).mono ?_
    rintro e w4 ⟨rfl,r4,t4⟩;have R4:=aI r4;have T4:=aI t4;have P4:Hid (dK w4 p 178 #[.int .i64 0,.int .u64 0]):=(t4.block p hp3 (fun e=>Iy e.symm)).trans HP.o
    clear r4 t4;have hwx:IntKind.i64.wrap (ub x)=x:=by rw[aW];unfold ub;omega
    have q0:=P4.o.cell 0;have q1:=P4.o.cell 1;have f0:=P4.o.frozen 0;simp only[aK,aJ,aN] at q0 q1;have hx1:decide (x < -1048576)=false:=ah
    have hx2:decide (x > 1048576)=false:=ah
    have P5:Hid (dK (w4.setCell ⟨p,0,none⟩ (.int .i64 x)) p 178 #[.int .i64 x,.int .u64 0]):=aI (P4.o.dQ 0 _);have R5:Hid (dU (w4.setCell ⟨p,0,none⟩ (.int .i64 x)) g bs _):=aI (En R4.o P4.o af  af 0 (.int .i64 x))
    have T5:Hid (Touch (fun k=>k=g\/k=p) w3 (w4.setCell ⟨p,0,none⟩ (.int .i64 x))):=aI ((T4.o.mono (fun i hi=>.inl hi)).setCell (.inl (.inr rfl)) _)
    have hrp:¬(rb=g\/rb=p):=ae
    have lL:Hid (dK (w4.setCell ⟨p,0,none⟩ (.int .i64 x)) rb 376 _):=aI ((T5.o.block rb (by have:=HA.size;omega) hrp).trans ((HA.block rb hrw).trans ((HT.o.block rb hrl hrg).trans BR.o)))
    have b5:=(lL.o.cell 0);simp only[aK,aJ] at b5
    go_wp2_with fail;generalize w4.setCell ⟨p,0,none⟩ (.int .i64 x)=w5 at *;have b5:=(lL.o.cell 0);simp only[aK,aJ] at b5;refine(pV w5 R5.o HB.o hlen D2.o ae  ae  ae  ae).mono ?_
    rintro e w6 ⟨rfl,r6,t6⟩;have R6:=aI r6;have T6:Hid (Touch (fun k=>k=g\/k=p) w3 w6):=aI (T5.o.trans t6 (fun i hi=>.inl (.inl hi)))
    have P6:Hid (dK w6 p 178 #[.int .i64 x,.int .u64 0]):=(t6.block p P5.o.lt (fun e=>Iy e.symm)).trans P5.o
    clear r6 t6;have q0:=P6.o.cell 0;have q1:=P6.o.cell 1;have f1:=P6.o.frozen 1;simp only[aK,aJ,aN] at q0 q1;have P7:Hid (dK (w6.setCell ⟨p,1,none⟩ (.int .u64 n)) p 178 #[.int .i64 x,.int .u64 n]):=aI (P6.o.dQ 1 _);have R7:Hid (dU (w6.setCell ⟨p,1,none⟩ (.int .u64 n)) g bs _):=aI (En R6.o P6.o af  af 1 (.int .u64 n))
    have T7:Hid (Touch (fun k=>k=g\/k=p) w3 (w6.setCell ⟨p,1,none⟩ (.int .u64 n))):=aI (T6.o.setCell (.inl (.inr rfl)) _)
    have U7:Hid (dL fZ w1.heap.size (w6.setCell ⟨p,1,none⟩ (.int .u64 n)) u (q.take 0)):=aI ((HU.o.keep HA).stay (fun k hk=>T7.o.block k (bF (HU.o.lt k hk).2 HA.size) (fun e=>by have h1:=(HU.o.lt k hk);have:=hb1.size;have:=HRB.o;rcases e with e|e<;>omega)))
    have YN:w3.heap.size<=(w6.setCell ⟨p,1,none⟩ (.int .u64 n)).heap.size:=T7.o.size;have hzA:=HA.size;obtain⟨s0,s1⟩:=P7.o.c2;obtain⟨w7,hw7⟩:=aF (w6.setCell ⟨p,1,none⟩ (.int .u64 n));rw[hw7] at P7 R7 T7 U7 YN s0 s1
    go_wp2_with (first
     | (at_builtin
        go_must (refine uk zq rfl (.tmp 56) (.tmp 58) rfl (U7.o.keep (bw)) rfl _ [(x,n)] rfl (iM.fK (E:=fZ) _ (x,n) _ rfl _ rfl _ rfl) (by simp only[bG,aU,bC];omega) aj ?_)
        intro v8 w8 o8 g8 _;have O8:Hid (dL fZ w1.heap.size w8 v8 (q.take (0+1))):=aI (by rw[<-rZ.o];exact o8)
        have R8:Hid (dU w8 g bs (a+(lW q (0+1)).length)):=aI (by rw[Xj.o];exact Bg (R7.o.keep (bw)) (U7.o.keep (bw)) g8)
        have T8:Hid (Touch (fun k=>k=g) w1 w8):=aI (by
         have t8:Touch (fun k=>k=g\/k=p\/u.ownBlock=some k) w3 w8:=((T7.o.mono (fun i hi=>hi.imp id .inl)).alloc _).grown g8 (fun k e=>.inl (.inr (.inr e)))
         exact(HT.o.trans (Touch.of_below (F:=fun k=>k=g) HA (aS _)) (fun i hi=>.inl hi)).trans t8 (fun i hi=>by
          rcases hi with h|h|h
          ·exact .inl h
          ·exact .inr ae
          ·exact .inr (HU.o.lt i h).1))
        obtain⟨A8,c8,rfl,_,_,_⟩:=o8.form;clear o8 g8))
    go_roundg (q.length - (0+1))
    case measure=>have:=HZ.o;omega
    case rel=>exact⟨0+1,_,rfl,rfl,ae,ai,O8,R8,T8⟩
   ·obtain⟨s,rfl⟩:∃s,j=s+1:=⟨j - 1,ae⟩
    have hsl0:s<q.length:=ae
    have bm0:=KU Ih.o hlt;have hk2:=Ih.o.key _ (bf hsl0);have KX:Hid (nP q s=q[s]):=aI (xx hsl0);obtain⟨a0,ha0⟩:=aF (a+(lW q (s+1)).length);rw[ha0] at d1 d2 HR;simp only[QC,HN.o,KX.o] at d1 d2;have Xj:Hid (a+(lW q (s+1+1)).length=a0+(eG (q[s+1].1 - q[s].1 - 1)).length+(eG q[s+1].2).length):=aI (by
     have e:lW q (s+1+1)=lW q (s+1)++eG (q[s+1].1 - q[s].1 - 1)++eG q[s+1].2:=by rw[<-HN.o,<-KX.o];rfl
     rw[e,<-ha0];simp only[aQ];omega)
    obtain⟨L,hL⟩:=aF (q.take (s+1));have rZ:Hid (L++[(q[s+1].1,q[s+1].2)]=q.take (s+1+1)):=aI (by rw[bg hlt,hL])
    have hLl:L.length=s+1:=by rw[<-hL,bG];omega
    rw[hL] at HU;obtain⟨Au,cu,rfl,_,_,hfu⟩:=HU.o.form;obtain⟨gu,ou,rfl,hgu,e0,e1⟩:=jQ hfu (j:=s) (by omega)
    have hy:L[s].1=q[s].1:=by
     have:L[s]=q[s]:=by
      have h1:(q.take (s+1))[s]'(by rw[bG];omega)=q[s]:=List.getElem_take
      simp only[hL] at h1;exact h1
     rw[this]
    rw[hy] at e0;have E0:=aI e0;have hsL:(s:Int)<(L.length:Int):=ae
    have hLb:L.length<=100000:=ae
    have hou:w1.heap.size<=gu:=by
     have:=HU.o.2
     rcases this with h|⟨g',cap,cur,h,h2,_⟩
     ·exact absurd h.1 ag
     ·injection h with h;injection h with h;injection h with h;omega
    have D1:=aI d1;have D2:=aI d2;clear d1 d2 HN KX e0 e1 hfu hy hLl hL;generalize q[s+1].1=x at *;generalize q[s+1].2=n at *;generalize q[s].1=y at *;have QB:Hid (IntKind.i64.wrap (s:Int)=(s:Int)):=aI ak
    have HW1:Hid (IntKind.i64.wrap (y+1)=y+1):=aI ak
    have HW2:Hid (IntKind.i64.wrap (x - y - 1)=x - y - 1):=aI ak
    have HW3:Hid (IntKind.i64.wrap (y+1+(x - y - 1))=x):=aI ak
    have hs1:((s+1:Nat):Int)≠0:=ae
    go_upto_region 6 with fail;obtain⟨w3,hw3⟩:=aF (wr.alloc (.cells #[.int .i64 0,.int .u64 0] 178));have HA:Below wr.heap.size wr w3:=by rw[<-hw3];exact bw
    have HP:Hid (dK w3 wr.heap.size 178 #[.int .i64 0,.int .u64 0]):=by rw[<-hw3];exact aI (dK.new _ _ _)
    obtain⟨p,hpp⟩:=aF (wr.heap.size);have hz1:=hb1.size;have Iy:g≠p:=ae
    have hrg:¬(rb=g):=by have:=HRB.o;omega
    have bm1:¬(gu=g\/gu=p):=ae
    have bm2:gu<w3.heap.size:=by have:=HA.size;omega
    have E3:=aI ((HA.cell (p:=⟨gu,ou+s * 2,none⟩) hgu).trans E0.o);rw[hpp] at HP;rw[hw3,hpp];clear hw3;have hp3:=HP.o.lt;have hrw:rb<wr.heap.size:=ae
    have hrp:¬(rb=g\/rb=p):=ae
    have hr3:rb<w3.heap.size:=by have:=HA.size;omega
    have HB3:Hid (dK w3 rb 376 _):=aI ((HA.block rb hrw).trans ((HT.o.block rb hrl hrg).trans BR.o))
    go_upto_region 12 with fail;refine jh (Touch (fun k=>k=g\/k=p) w3) (dV 0 8 (fJ 8 (dV 9 3 (fJ 12 [])))) ((Touch.refl _ _).drew) ?_
    iterate 8 refine eQ (h:=fun w' hS'=>by have k0:=(dO hS' (ou+s * 2) bm2 bm1).trans E3.o;have k1:=(dO hS' 0 hr3 hrp).trans (HB3.o.cell 0);have hws:=QB.o;have ew1:=HW1.o;have ew2:=HW2.o;have ew3:=HW3.o;simp only[aK,aJ] at k1;go_simp;exact⟨rfl,rfl⟩) ?_
    refine fO fun K hK=>?_
    go_simp;refine(pV w3.drew (dU.keep (HR.o.keep HA) (aO _ _).drew) HB.o hlen D1.o ae  ae  ae  ae).mono ?_
    rintro e w4 ⟨rfl,r4,t4⟩;have R4:=aI r4;have T4:Hid (Touch (fun k=>k=g\/k=p) w3 w4):=aI ((Touch.refl _ w3).drew.trans t4 (fun i hi=>.inl (.inl hi)))
    have P4:Hid (dK w4 p 178 #[.int .i64 0,.int .u64 0]):=(t4.block p hp3 (fun e=>Iy e.symm)).trans HP.o
    clear r4 t4;refine hK _ _ (T4.o) ?_
    clear hK K
    iterate 3 refine eQ (h:=fun w' hS'=>by have k0:=(dO hS' (ou+s * 2) bm2 bm1).trans E3.o;have k1:=(dO hS' 0 hr3 hrp).trans (HB3.o.cell 0);have hws:=QB.o;have ew1:=HW1.o;have ew2:=HW2.o;have ew3:=HW3.o;simp only[aK,aJ] at k1;go_simp;exact⟨rfl,rfl⟩) ?_
    refine fO fun K hK=>?_
    have q0:=P4.o.cell 0;have f0:=P4.o.frozen 0;simp only[aK,aJ] at q0;have ew3:=HW3.o
    go_simp;refine hK _ _ (T4.o.setCell (.inl (.inr rfl)) _) ?_
    clear hK K;refine dJ ?_
    have P5:Hid (dK (w4.setCell ⟨p,0,none⟩ (.int .i64 x)) p 178 #[.int .i64 x,.int .u64 0]):=aI (P4.o.dQ 0 _);have R5:Hid (dU (w4.setCell ⟨p,0,none⟩ (.int .i64 x)) g bs _):=aI (En R4.o P4.o af  af 0 (.int .i64 x))
    have T5:Hid (Touch (fun k=>k=g\/k=p) w3 (w4.setCell ⟨p,0,none⟩ (.int .i64 x))):=aI (T4.o.setCell (.inl (.inr rfl)) _)
    have lL:Hid (dK (w4.setCell ⟨p,0,none⟩ (.int .i64 x)) rb 376 _):=aI ((T5.o.block rb hr3 hrp).trans HB3.o);have b5:=(lL.o.cell 0);simp only[aK,aJ] at b5
    go_wp2_with fail;generalize w4.setCell ⟨p,0,none⟩ (.int .i64 x)=w5 at *;have b5:=(lL.o.cell 0);simp only[aK,aJ] at b5;refine(pV w5 R5.o HB.o hlen D2.o ae  ae  ae  ae).mono ?_
    rintro e w6 ⟨rfl,r6,t6⟩;have R6:=aI r6;have T6:Hid (Touch (fun k=>k=g\/k=p) w3 w6):=aI (T5.o.trans t6 (fun i hi=>.inl (.inl hi)))
    have P6:Hid (dK w6 p 178 #[.int .i64 x,.int .u64 0]):=(t6.block p P5.o.lt (fun e=>Iy e.symm)).trans P5.o
    clear r6 t6;have q0:=P6.o.cell 0;have q1:=P6.o.cell 1;have f1:=P6.o.frozen 1;simp only[aK,aJ,aN] at q0 q1;have P7:Hid (dK (w6.setCell ⟨p,1,none⟩ (.int .u64 n)) p 178 #[.int .i64 x,.int .u64 n]):=aI (P6.o.dQ 1 _);have R7:Hid (dU (w6.setCell ⟨p,1,none⟩ (.int .u64 n)) g bs _):=aI (En R6.o P6.o af  af 1 (.int .u64 n))
    have T7:Hid (Touch (fun k=>k=g\/k=p) w3 (w6.setCell ⟨p,1,none⟩ (.int .u64 n))):=aI (T6.o.setCell (.inl (.inr rfl)) _)
    have U7:Hid (dL fZ w1.heap.size (w6.setCell ⟨p,1,none⟩ (.int .u64 n)) (.slice (some ⟨gu,ou,none⟩) L.length cu) L):=aI ((HU.o.keep HA).stay (fun k hk=>T7.o.block k (bF (HU.o.lt k hk).2 HA.size) (fun e=>by have h1:=(HU.o.lt k hk);have:=hb1.size;have:=HRB.o;rcases e with e|e<;>omega)))
    have YN:w3.heap.size<=(w6.setCell ⟨p,1,none⟩ (.int .u64 n)).heap.size:=T7.o.size;have hzA:=HA.size;obtain⟨s0,s1⟩:=P7.o.c2;obtain⟨w7,hw7⟩:=aF (w6.setCell ⟨p,1,none⟩ (.int .u64 n));rw[hw7] at P7 R7 T7 U7 YN s0 s1
    go_wp2_with (first
     | (at_builtin
        go_must (refine uk zq rfl (.tmp 56) (.tmp 58) rfl (U7.o.keep (bw)) rfl _ [(x,n)] rfl (iM.fK (E:=fZ) _ (x,n) _ rfl _ rfl _ rfl) (by simp only[aU,bC];omega) aj ?_)
        intro v8 w8 o8 g8 _;have O8:Hid (dL fZ w1.heap.size w8 v8 (q.take ((s+1)+1))):=aI (by rw[<-rZ.o];exact o8)
        have R8:Hid (dU w8 g bs (a+(lW q ((s+1)+1)).length)):=aI (by rw[Xj.o];exact Bg (R7.o.keep (bw)) (U7.o.keep (bw)) g8)
        have T8:Hid (Touch (fun k=>k=g) w1 w8):=aI (by
         have t8:Touch (fun k=>k=g\/k=p\/(Value.slice (some ⟨gu,ou,none⟩) L.length cu).ownBlock=some k) w3 w8:=((T7.o.mono (fun i hi=>hi.imp id .inl)).alloc _).grown g8 (fun k e=>.inl (.inr (.inr e)))
         exact(HT.o.trans (Touch.of_below (F:=fun k=>k=g) HA (aS _)) (fun i hi=>.inl hi)).trans t8 (fun i hi=>by
          rcases hi with h|h|h
          ·exact .inl h
          ·exact .inr ae
          ·exact .inr (HU.o.lt i h).1))
        obtain⟨A8,c8,rfl,_,_,_⟩:=o8.form;rw[show(L++[(x,n)]).length=L.length+1 from ag] at O8
        clear o8 g8))
    go_roundg (q.length - ((s+1)+1))
    case measure=>have:=HZ.o;omega
    case rel=>exact⟨(s+1)+1,_,rfl,rfl,ae,ai,O8,R8,T8⟩
  ·obtain rfl:j=q.length:=ae
   rw[bP (aS _)] at HU
   go_wp2_with fail
   go_ret;exact⟨_,rfl,HU.o.more (by have:=HRB.o;omega),HR.o,(Touch.of_below (F:=fun k=>k=g) hb1 (aS _)).trans HT.o (fun i hi=>.inl hi)⟩
end Go.Proofs.YtilcnjbpmoijmaaGreat.D
