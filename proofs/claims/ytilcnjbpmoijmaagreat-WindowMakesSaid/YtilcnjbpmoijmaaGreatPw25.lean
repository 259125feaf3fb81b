/- Parts of a proof. No condition. -/
import Derived.Test.YtilcnjbpmoijmaaGreatPw24
import Derived.Test.YtilcnjbpmoijmaaGreatPw19
set_option maxRecDepth 100000
set_option maxHeartbeats 16000000
set_option linter.unusedVariables false
set_option linter.unusedSimpArgs false
namespace Go.Proofs.YtilcnjbpmoijmaaGreat.D
open Tryz
open Go.RowKit Go.Lib Go.Shelf
variable{dg hi j lo m u:Nat}
theorem Jn{B:Nat}(hl:1<=lo)(h63:lo<9223372036854775808)(hB:B=Lib.bitLen lo - 1)(h:j<=B):(1<lo / 2 ^ j<->j<B):=by
 have hp:=Nat.two_pow_pos j;have e:1<lo / 2 ^ j<->2 ^ (j+1)<=lo:=by
  rw[Nat.lt_iff_add_one_le,Nat.le_div_iff_mul_le hp,Nat.pow_succ,dC (2 ^ j)]
 rw[e,<-Gv ae]
 omega
theorem Om{N M:Nat}(h:N<18446744073709551616)(hM:M=Lib.bitLen N)(hj:j<=M):(2 ^ j<N+1<->j<M):=by
 rw[hM,Gv h];omega
theorem Gz(w:World)(ok:nY lo hi dg u m):aH 35 #[.agg #[.int .i64 lo,.int .i64 hi,.int .i64 dg]] w (aG w (.tuple #[.int .i64 u,.int .i64 m,.bool true])):=by
 obtain⟨d0,d1,l0,h0,h1,ue,me,um⟩:=ok;have hmb:=Gx d1;rw[<-me] at hmb;have hT:∀j,j<=5->0<10 ^ j/\10 ^ j<=100000:=fun j h=>⟨Nat.pow_pos ae,(Nat.pow_le_pow_right ae h:10 ^ j<=10 ^ 5)⟩
 have HT:=aI hT;have K_:=hT dg d1;have HU:Hid (∀j,j<=u->(1<lo / 2 ^ j<->j<u)):=aI (fun j h=>Jn l0 ae ue h)
 have HM:Hid (∀j,j<=m->(2 ^ j<2 * 10 ^ dg<->j<m)):=aI (fun j h=>by
  have:=Om (N:=2 * 10 ^ dg - 1) (j:=j) (by omega) me h
  rw[show 2 * 10 ^ dg - 1+1=2 * 10 ^ dg by omega] at this
  exact this)
 have c1:¬(hi:Int)<(lo:Int):=ae
 have c6:IntKind.i64.wrap ((hi:Int) - (lo:Int))=(hi:Int) - (lo:Int):=ak
 have c7:¬(hi:Int) - (lo:Int)<(lo:Int):=ae
 have c2:¬(dg:Int)<1:=ae
 have c3:¬(5:Int)<(dg:Int):=ae
 have c4:¬(lo:Int)<1:=ae
 clear hT ue me
 go_enter func35,ntmps35
 go_wp2_with fail;obtain⟨b,hb⟩:=aF (w.heap.size);obtain⟨w1,hw1⟩:=aF (w.alloc (.cells #[.int .i64 lo,.int .i64 hi,.int .i64 dg] 23));have hb1:Below w.heap.size w w1:=by rw[<-hw1];exact bw
 have B1:Hid (dK w1 b 23 #[.int .i64 lo,.int .i64 hi,.int .i64 dg]):=by rw[<-hw1,<-hb];exact aI (dK.new _ _ _)
 rw[hb,hw1];have k2:=B1.o.cell 2;simp only[aK,aJ,aN] at k2;clear hw1 hb c1 c2 c3 c4 c6 c7
 go_loopg [5,6] u (fun q x y wr=>(∃j:Nat,q=u - j/\j<=u/\x=.int .i64 j/\y=.int .i64 ((lo / 2 ^ j:Nat):Int))/\w1=wr)
 case atStart=>exact⟨⟨0,ae,ae,rfl,ag⟩,rfl⟩
 case round=>
  obtain⟨⟨j,hq,hj,rfl,rfl⟩,rfl⟩:=hrel;have HQ:=aI hq;clear hq;have hs:=HU.o j hj;have HN:Hid (lo / 2 ^ j / 2=lo / 2 ^ (j+1)):=aI (by rw[Nat.div_div_eq_div_mul,Nat.pow_succ])
  have hnl:lo / 2 ^ j<=lo:=Nat.div_le_self ..;generalize lo / 2 ^ j=n at *
  by_cases hlt:j<u
  ·have hn:(1:Int)<(n:Int):=by have:=hs.2 hlt;omega
   have hdv:(n:Int).tdiv 2=(n:Int) / 2:=Int.tdiv_eq_ediv_of_nonneg ae
   have hn9:n<9223372036854775808:=ae
   go_wp2_with fail
   go_roundg (u - (j+1))
   case measure=>have:=HQ.o;omega
   case rel=>exact⟨⟨j+1,rfl,ae,ai,by rw[<-HN.o];simp⟩,rfl⟩
  ·obtain rfl:j=u:=ae
   have hn:¬(1:Int)<(n:Int):=fun h=>by have:=hs.1 ae ;omega
   clear hs HN HU hnl
   go_wp2_with fail
   go_loopg [7,8] dg (fun q x y wr=>(∃i:Nat,q=dg - i/\i<=dg/\y=.int .i64 i/\x=.int .u64 ((2 * 10 ^ i:Nat):Int))/\w1=wr)
   case atStart=>exact⟨⟨0,ae,ae,rfl,rfl⟩,rfl⟩
   case round=>
    obtain⟨⟨i,hq,hi2,rfl,rfl⟩,rfl⟩:=hrel;have Cf:=aI hq;clear hq
    by_cases hlt2:i<dg
    ·have hii:(i:Int)<(dg:Int):=ae
     have hp:=HT.o i ae
     have HS:Hid (2 * 10 ^ (i+1)=10 * (2 * 10 ^ i)):=aI (by rw[Nat.pow_succ];omega)
     obtain⟨P,hP⟩:=aF (2 * 10 ^ i);have hPb:0<P/\P<=200000:=ae
     rw[hP] at HS |-;clear hp hP K_
     go_wp2_with fail
     go_roundg (dg - (i+1))
     case measure=>have:=Cf.o;omega
     case rel=>exact⟨⟨i+1,rfl,ae,ai,by rw[HS.o];go_num⟩,rfl⟩
    ·obtain rfl:i=dg:=ae
     obtain⟨N,hN⟩:=aF (2 * 10 ^ i);rw[hN] at HM |-;have hNb:N<=200000:=ae
     clear hN K_
     go_wp2_with fail
     go_loopg [9,10] m (fun q x y wr=>(∃t:Nat,q=m - t/\t<=m/\x=.int .i64 t/\y=.int .u64 ((2 ^ t:Nat):Int))/\w1=wr)
     case atStart=>exact⟨⟨0,ae,ae,rfl,rfl⟩,rfl⟩
     case round=>
      obtain⟨⟨t,hq,ht,rfl,rfl⟩,rfl⟩:=hrel;have HQ3:=aI hq;clear hq;have hs:=HM.o t ht;have h18:2 ^ t<=262144:=(pW ae :2 ^ t<=2 ^ 18)
      have HS:Hid (2 ^ (t+1)=2 * 2 ^ t):=aI (by rw[Nat.pow_succ];omega)
      generalize 2 ^ t=P at *
      by_cases hlt3:t<m
      ·have hPN:(P:Int)<(N:Int):=by have:=hs.2 hlt3;omega
       go_wp2_with fail
       go_roundg (m - (t+1))
       case measure=>have:=HQ3.o;omega
       case rel=>exact⟨⟨t+1,rfl,ae,ai,by rw[HS.o];go_num⟩,rfl⟩
      ·obtain rfl:t=m:=ae
       have hPN:¬(P:Int)<(N:Int):=fun h=>by have:=hs.1 ae ;omega
       have hum:(j:Int)+(t:Int)<=62:=ae
       have ew:IntKind.i64.wrap ((j:Int)+(t:Int))=(j:Int)+(t:Int):=ak
       go_wp2_with fail;refine bodyPost_ret (by simp[results,Tryz.results35,go_sem, *];try rfl) rfl ?_
       exact⟨rfl,hb1⟩
open Tryz
open Go.RowKit Go.Lib Go.Shelf
def Oo(y lo hi dg u m:Nat)(gr:Bool)(bk:Nat)(l:List Pr)(F:Ft)(w:World):Prop:=∃v,dK w y 130 #[.int .i64 lo,.int .i64 hi,.int .i64 dg,.int .i64 u,.int .i64 m,.bool gr,.int .i64 bk,v]/\dL fZ 0 w v l/\F y/\(∀k,v.ownBlock=some k->F k)/\∀k,F k->k<w.heap.size
theorem Oq(y lo hi dg u m:Nat)(gr:Bool)(bk:Nat)(l:List Pr):jV (Oo y lo hi dg u m gr bk l) where
 stay:=fun⟨v,h1,h2,h3,h4,h5⟩ hk hz=>⟨v,(hk y h3).trans h1,h2.stay fun k e=>hk k (h4 k e),h3,h4,fun k h=>bF (h5 k h) hz⟩
 more:=fun⟨v,h1,h2,h3,h4,_⟩ h hl=>⟨v,h1,h2,h y h3,fun k e=>h k (h4 k e),hl⟩
 low:=fun⟨_,_,_,_,_,h5⟩=>h5
theorem ap2(gr:Bool)(w:World)(ok:nY lo hi dg u m):aH 47 #[.agg #[.int .i64 lo,.int .i64 hi,.int .i64 dg],.bool gr] w fun e w'=>∃y,e=.returned (.pointer (some ⟨y,0,none⟩))/\Oo y lo hi dg u m gr (1+iP u m hi) [] (Gr (fun _=>False) w w') w'/\Below w.heap.size w w':=by
 have C1:Hid (∀w,_):=aI (fun w=>Gz w ok)
 have C2:Hid (∀w,_):=aI (fun w=>Dh u m hi w ok.um (by have:=ok.h1;omega))
 have HM:=qN (u:=u) (m:=m) (v:=hi) (by have:=ok.h1;omega)
 have hb:iP u m hi<=63:=by have:=ok.um;omega
 generalize iP u m hi=bk at *;clear ok HM
 go_enter func47,ntmps47
 go_wp2_with fail;obtain⟨b,hbb⟩:=aF (w.heap.size);obtain⟨w1,hw1⟩:=aF (w.alloc (.cells #[.int .i64 lo,.int .i64 hi,.int .i64 dg] 23));have hb1:Below w.heap.size w w1:=by rw[<-hw1];exact bw
 have B1:Hid (dK w1 b 23 #[.int .i64 lo,.int .i64 hi,.int .i64 dg]):=by rw[<-hw1,<-hbb];exact aI (dK.new _ _ _)
 have lJ:=aI hbb;rw[hw1,hbb];clear hw1 hbb;refine(C1.o w1).mono ?_
 rintro e w2 ⟨rfl,hb2⟩;have B2:=aI (B1.o.keep hb2);have jD:=hb1.trans (hb2.mono hb1.size);have hz:=jD.size;obtain⟨k0,k1,k2⟩:=B2.o.c3
 go_wp2_with fail;clear k0 k1 k2;refine jh (Below w2.heap.size w2) (dV 0 8 (fJ 8 (dV 9 2 (fJ 11 (dV 12 1 []))))) ((aO _ _).drew) ?_
 iterate 8 refine eQ (h:=fun w' hS'=>by have k0:=(B2.o.keep hS').cell 0;have k1:=(B2.o.keep hS').cell 1;have k2:=(B2.o.keep hS').cell 2;simp only[aK,aJ,aN] at k0 k1 k2;go_simp;exact⟨rfl,rfl⟩) ?_
 refine fO fun K hK=>?_
 go_simp;refine((C2.o w2.drew)).mono ?_
 rintro e w3 ⟨rfl,rfl⟩;refine hK _ _ ((aO _ _).drew) ?_
 clear hK K
 iterate 2 refine eQ (h:=fun w' hS'=>by have k0:=(B2.o.keep hS').cell 0;have k1:=(B2.o.keep hS').cell 1;have k2:=(B2.o.keep hS').cell 2;simp only[aK,aJ,aN] at k0 k1 k2;go_simp;exact⟨rfl,rfl⟩) ?_
 refine fO fun K hK=>?_
 go_simp;refine hK _ _ (((aO _ _).drew).alloc (aS _) _) ?_
 clear hK K;refine eQ (h:=fun w' hS'=>by have k0:=(B2.o.keep hS').cell 0;have k1:=(B2.o.keep hS').cell 1;have k2:=(B2.o.keep hS').cell 2;simp only[aK,aJ,aN] at k0 k1 k2;go_simp;exact⟨rfl,rfl⟩) ?_
 refine dJ ?_
 go_wp2_with fail
 go_ret;have ew:IntKind.i64.wrap (1+(bk:Int))=((1+bk:Nat):Int):=ak
 rw[ew];obtain⟨w5,hw5⟩:=aF ((w2.alloc (.cells #[.int .i64 lo,.int .i64 hi,.int .i64 dg,.int .i64 u,.int .i64 m,.bool gr,.int .i64 ((1+bk:Nat):Int),.slice none 0 0] 130)).drew);have hb5:Below w2.heap.size w2 w5:=by rw[<-hw5];exact((aO _ _).alloc (aS _) _).drew
 have B5:dK w5 w2.heap.size 130 #[.int .i64 lo,.int .i64 hi,.int .i64 dg,.int .i64 u,.int .i64 m,.bool gr,.int .i64 ((1+bk:Nat):Int),.slice none 0 0]:=by rw[<-hw5];exact(dK.new _ _ _:dK (w2.alloc _) _ _ _).drew
 have hl5:=B5.lt;rw[hw5];exact⟨_,rfl,⟨_,B5,dL.nil_ _ _,.inr ⟨hz,hl5⟩,(fun k e=>by cases e),fun k h=>h.elim False.elim And.right⟩,jD.trans (hb5.mono hz)⟩
open Tryz
open Go.RowKit Go.Lib Go.Shelf
def eY(u m hi bk:Nat):Nat:=if bk=1+iP u m hi then hi else uG u m bk
theorem Xt{y bk:Nat}{gr:Bool}{l:List Pr}{F:Ft}(w:World)(h:Oo y lo hi dg u m gr bk l F w)(ok:nY lo hi dg u m)(b0:1<=bk)(b1:bk<=64):aH 79 #[.pointer (some ⟨y,0,none⟩)] w (aG w (.int .i64 (eY u m hi bk))):=by
 have HE:Hid (eY u m hi bk=if bk=1+iP u m hi then hi else uG u m bk):=aI rfl
 rw[HE.o];have C1:Hid (∀w,_):=aI (fun w=>Dh u m hi w ok.um (by have:=ok.h1;omega))
 have C2:Hid (∀w,_):=aI (fun w=>aa9 u m bk w ok.um b0 b1)
 have HM:=qN (u:=u) (m:=m) (v:=hi) (by have:=ok.h1;omega)
 have hb:iP u m hi<=63:=by have:=ok.um;omega
 obtain⟨v,hB,_⟩:=h;have HB:=aI hB;generalize iP u m hi=B at *;generalize uG u m bk=T at *;have EW:Hid (IntKind.i64.wrap (1+(B:Int))=((1+B:Nat):Int)):=aI ak
 have k1':=hB.cell 1;simp only[aK,aJ,aN] at k1';clear ok HM hB HE;obtain⟨N,hN⟩:=aF (1+B);rw[hN] at EW |-;clear hN
 by_cases he:bk=N
 ·subst he
  rw[if_pos rfl];have hd:((bk:Int) == (bk:Int))=true:=ag
  go_enter func79,ntmps79
  go_wp2_with fail;refine jh (Below w.heap.size w) (dV 0 17 (fJ 17 (dV 18 2 []))) ((aO _ _).drew) ?_
  iterate 17 refine eQ (h:=fun w' hS'=>by have k1:=(HB.o.keep hS').cell 1;have k3:=(HB.o.keep hS').cell 3;have k4:=(HB.o.keep hS').cell 4;have k6:=(HB.o.keep hS').cell 6;have ew:=EW.o;simp only[aK,aJ,aN] at k1 k3 k4 k6;go_simp;exact⟨rfl,rfl⟩) ?_
  refine fO fun K hK=>?_
  go_simp;refine((C1.o w.drew)).mono ?_
  rintro e w3 ⟨rfl,rfl⟩;refine hK _ _ ((aO _ _).drew) ?_
  clear hK K
  iterate 2 refine eQ (h:=fun w' hS'=>by have k1:=(HB.o.keep hS').cell 1;have k3:=(HB.o.keep hS').cell 3;have k4:=(HB.o.keep hS').cell 4;have k6:=(HB.o.keep hS').cell 6;have ew:=EW.o;simp only[aK,aJ,aN] at k1 k3 k4 k6;go_simp;exact⟨rfl,rfl⟩) ?_
  refine dJ ?_
  have k1:=(HB.o.drew).cell 1;simp only[aK,aJ,aN] at k1
  go_wp2_with fail
  go_ret;exact⟨rfl,(aO _ _).drew⟩
 ·rw[if_neg he]
  have hd:((bk:Int) == (N:Int))=false:=ah
  go_enter func79,ntmps79
  go_wp2_with fail;refine jh (Below w.heap.size w) (dV 0 17 (fJ 17 (dV 18 2 []))) ((aO _ _).drew) ?_
  iterate 17 refine eQ (h:=fun w' hS'=>by have k1:=(HB.o.keep hS').cell 1;have k3:=(HB.o.keep hS').cell 3;have k4:=(HB.o.keep hS').cell 4;have k6:=(HB.o.keep hS').cell 6;have ew:=EW.o;simp only[aK,aJ,aN] at k1 k3 k4 k6;go_simp;exact⟨rfl,rfl⟩) ?_
  refine fO fun K hK=>?_
  go_simp;refine((C1.o w.drew)).mono ?_
  rintro e w3 ⟨rfl,rfl⟩;refine hK _ _ ((aO _ _).drew) ?_
  clear hK K
  iterate 2 refine eQ (h:=fun w' hS'=>by have k1:=(HB.o.keep hS').cell 1;have k3:=(HB.o.keep hS').cell 3;have k4:=(HB.o.keep hS').cell 4;have k6:=(HB.o.keep hS').cell 6;have ew:=EW.o;simp only[aK,aJ,aN] at k1 k3 k4 k6;go_simp;exact⟨rfl,rfl⟩) ?_
  refine dJ ?_
  go_wp2_with fail;refine jh (Below w.heap.size w) (dV 0 12 (fJ 12 (dV 13 1 []))) ((aO _ _).drew.drew) ?_
  iterate 12 refine eQ (h:=fun w' hS'=>by have k3:=(HB.o.keep hS').cell 3;have k4:=(HB.o.keep hS').cell 4;have k6:=(HB.o.keep hS').cell 6;simp only[aK,aJ,aN] at k3 k4 k6;go_simp;exact⟨rfl,rfl⟩) ?_
  refine fO fun K hK=>?_
  go_simp;refine((C2.o w.drew.drew)).mono ?_
  rintro e w3 ⟨rfl,rfl⟩;refine hK _ _ ((aO _ _).drew.drew) ?_
  clear hK K;refine eQ (h:=fun w' hS'=>by have k3:=(HB.o.keep hS').cell 3;have k4:=(HB.o.keep hS').cell 4;have k6:=(HB.o.keep hS').cell 6;simp only[aK,aJ,aN] at k3 k4 k6;go_simp;exact⟨rfl,rfl⟩) ?_
  refine dJ ?_
  go_wp2_with fail
  go_ret;exact⟨rfl,(aO _ _).drew.drew⟩
open Tryz
open Go.Lib
structure je(lo hi dg u m:Nat)(gr:Bool)(bk:Nat)(l:List Pr):Prop where
 sh:nY lo hi dg u m
 iU:gU l
 pos:gK l
 sum:tot l<=4611686018427387904
 key:∀p∈l,∃v:Nat,v<9223372036854775808/\p.1=Aj u m v/\1+iP u m v<=bk
 fst:1+iP u m hi<=bk
 mx:bk=1+iP u m hi\/∃p∈l,∃v:Nat,v<9223372036854775808/\p.1=Aj u m v/\bk=1+iP u m v
 grw:gr=false->bk=1+iP u m hi
section
variable {lo hi dg u m bk : Nat} {gr : Bool} {l : List Pr}
variable{v:Nat}
theorem nY.mb(h:nY lo hi dg u m):1<=m/\m<=18:=by rw[h.me];exact Gx h.d1
theorem ax5(h:nY lo hi dg u m)(hv:v<9223372036854775808):Aj u m v<=16777216:=by
 have h1:=Vj (u:=u) (m:=m) (v:=v) ae
 have hb:=qN (u:=u) (m:=m) hv;have hm:=h.mb;have h2:2 ^ m<=262144:=(Nat.pow_le_pow_right ae hm.2:2 ^ m<=2 ^ 18)
 have h3:2 ^ (m - 1)<=131072:=(Nat.pow_le_pow_right ae  ae :2 ^ (m - 1)<=2 ^ 17)
 have h4:iP u m v * 2 ^ (m - 1)<=63 * 131072:=Nat.mul_le_mul ae h3
 unfold Aj;omega
theorem je.b0(h:je lo hi dg u m gr bk l):1<=bk:=by have:=h.fst;omega
theorem je.b1(h:je lo hi dg u m gr bk l):bk<=64:=by
 have h0:=h.sh.um;have h2:=qN (u:=u) (m:=m) (v:=hi) (by have:=h.sh.h1;omega)
 rcases h.mx with e|⟨p,_,v,hv,_,e⟩
 ·omega
 ·have h1:=qN (u:=u) (m:=m) hv;omega
theorem je.kb(h:je lo hi dg u m gr bk l):∀p∈l,0<=p.1/\p.1<=16777216:=fun p hp=>by
 obtain⟨v,hv,e,_⟩:=h.key p hp;have:=ax5 h.sh hv;omega
theorem je.len(h:je lo hi dg u m gr bk l):l.length<=16777217:=by
 have:=KT h.iU h.kb ae
 omega
def hsE(u m:Nat)(gr:Bool)(bk:Nat)(l:List Pr)(v n:Int):Int:=if n=0 then 4 else if v<0 then 5 else if gr=false/\(uG u m bk:Int)<v then 5 else if 4611686018427387904<tot l+n then 6 else 0
def hsL(u m:Nat)(gr:Bool)(bk:Nat)(l:List Pr)(v n:Int):List Pr:=if hsE u m gr bk l v n=0 then gz (Aj u m v.toNat) n l else l
def hsB(u m:Nat)(gr:Bool)(bk:Nat)(l:List Pr)(v n:Int):Nat:=if hsE u m gr bk l v n=0 then max bk (1+iP u m v.toNat) else bk
theorem bb8(h:nY lo hi dg u m):je lo hi dg u m gr (1+iP u m hi) []:=⟨h,List.Pairwise.nil,ag,by simp[tot],ag,aS _,.inl rfl,fun _=>rfl⟩
theorem bb9{n:Nat}(hv:v<9223372036854775808)(h0:1<=n)(h:v<=uG u m n):1+iP u m v<=n:=by
 have h1:=qN (u:=u) (m:=m) hv;unfold uG at h
 split at h
 ·omega
 ·have:iP u m v<=n - 1:=(Gw ae).2 (by
   rw[show u+m+(n - 1)=n - 1+u+m by omega]
   have:=Nat.two_pow_pos (n - 1+u+m);omega)
  omega
theorem bc4{v n:Int}(h:je lo hi dg u m gr bk l)(v1:v<=9223372036854775807)(n0:0<=n):je lo hi dg u m gr (hsB u m gr bk l v n) (hsL u m gr bk l v n):=by
 unfold hsB hsL
 by_cases he:hsE u m gr bk l v n=0
 ·rw[if_pos he,if_pos he]
  unfold hsE at he
  by_cases a1:n=0
  ·rw[if_pos a1] at he;omega
  by_cases a2:v<0
  ·rw[if_neg a1,if_pos a2] at he;omega
  by_cases a3:gr=false/\(uG u m bk:Int)<v
  ·rw[if_neg a1,if_neg a2,if_pos a3] at he;omega
  by_cases a4:4611686018427387904<tot l+n
  ·rw[if_neg a1,if_neg a2,if_neg a3,if_pos a4] at he;omega
  obtain⟨x,rfl⟩:=Int.eq_ofNat_of_zero_le (a:=v) ae
  have hx:x<9223372036854775808:=ae
  simp only[di];refine⟨h.sh,Eh h.iU,put_pos ae h.pos,by rw[wJ];omega,fun p hp=>?_,by have:=h.fst;omega,?_,fun hg=>?_⟩
  ·rcases put_mem hp with e|hp
   ·exact⟨x,hx,e,ae⟩
   ·obtain⟨y,hy,e,hb⟩:=h.key p hp
    exact⟨y,hy,e,ae⟩
  ·have hkk:=pI (put_pos (k:=(Aj u m x:Int)) (n:=n) ae h.pos)
   rcases Nat.le_total (1+iP u m x) bk with hle|hle
   ·rw[Nat.max_eq_left hle]
    rcases h.mx with e|⟨p,hp,y,hy,e1,e2⟩
    ·exact .inl e
    ·refine .inr ?_
     have hc:=xX h.pos hp;obtain⟨q,hq,eq⟩:=(hkk p.1).2 (by rw[AX];split<;>omega)
     exact⟨q,hq,y,hy,eq.trans e1,e2⟩
   ·rw[Nat.max_eq_right hle]
    refine .inr ?_
    have hc:=jZ (k:=(Aj u m x:Int)) h.pos;obtain⟨q,hq,eq⟩:=(hkk (Aj u m x:Int)).2 (by rw[AX,if_pos rfl];omega)
    exact⟨q,hq,x,hx,eq,rfl⟩
  ·have hb:=h.grw hg
   have ht:x<=uG u m bk:=by
    rcases bV (uG u m bk) x with hh|hh
    ·exact absurd ⟨hg,ae⟩ a3
    ·exact hh
   have:=bb9 hx h.b0 ht;omega
 ·rw[if_neg he,if_neg he];exact h
def Xu(l t:List Pr):Int:=if 4611686018427387904<tot l+tot t then 6 else 0
def htL(l t:List Pr):List Pr:=if Xu l t=0 then gG l t else l
def htB(l t:List Pr)(bk bt:Nat):Nat:=if Xu l t=0 then max bk bt else bk
theorem ap3{bt:Nat}{t:List Pr}(h:je lo hi dg u m gr bk l)(k:je lo hi dg u m gr bt t):je lo hi dg u m gr (htB l t bk bt) (htL l t):=by
 unfold htB htL
 by_cases he:Xu l t=0
 ·rw[if_pos he,if_pos he]
  have hs:¬4611686018427387904<tot l+tot t:=fun hh=>by unfold Xu at he;rw[if_pos hh] at he;omega
  have hk:=Ej h.pos k.pos;refine⟨h.sh,nC h.iU,oH h.pos k.pos,by rw[sN];omega,fun p hp=>?_,by have:=h.fst;omega,?_,fun hg=>?_⟩
  ·rcases(hk p.1).1 ⟨p,hp,rfl⟩ with⟨q,hq,e⟩|⟨q,hq,e⟩
   ·obtain⟨y,hy,e1,hb⟩:=h.key q hq
    exact⟨y,hy,e.symm.trans e1,ae⟩
   ·obtain⟨y,hy,e1,hb⟩:=k.key q hq
    exact⟨y,hy,e.symm.trans e1,ae⟩
  ·rcases Nat.le_total bt bk with hle|hle
   ·rw[Nat.max_eq_left hle]
    rcases h.mx with e|⟨p,hp,y,hy,e1,e2⟩
    ·exact .inl e
    ·obtain⟨q,hq,e⟩:=(hk p.1).2 (.inl ⟨p,hp,rfl⟩)
     exact .inr ⟨q,hq,y,hy,e.trans e1,e2⟩
   ·rw[Nat.max_eq_right hle]
    rcases k.mx with e|⟨p,hp,y,hy,e1,e2⟩
    ·exact .inl e
    ·obtain⟨q,hq,e⟩:=(hk p.1).2 (.inr ⟨p,hp,rfl⟩)
     exact .inr ⟨q,hq,y,hy,e.trans e1,e2⟩
  ·have:=h.grw hg
   have:=k.grw hg;omega
 ·rw[if_neg he,if_neg he];exact h
end
open Tryz
variable{l:List Int}
def nn(v:Int):List Int:=jA 8 (qA v)
theorem Bh(v:Int):1<=(nn v).length/\(nn v).length<=9:=yQ 8 _
def oJ(g:Int):List Int:=if g=1 then [0] else if 1<g then [-g] else []
def Di:Int->List Pr->List Int
 | _,[]=>[]
 | a,p::l=>oJ (p.1 - a)++p.2::Di (p.1+1) l
def Jo(l:List Pr):List Int:=if l=[] then [0] else Di 0 l
def kH(l:List Int):List Int:=l.flatMap nn
def kQ(l:List Pr):List Int:=kH (Jo l)
def iQ:Nat->Int->List Int
 | 0,_=>[]
 | k+1,n=>iQ k (n / 256)++[n % 256]
theorem fD:∀(k:Nat) (n:Int),(iQ k n).length=k
 | 0,_=>rfl
 | k+1,n=>by rw[iQ,aQ,fD k];rfl
theorem vH:∀(k:Nat) (n:Int),iD (iQ k n)
 | 0,_=>fun b h=>by cases h
 | k+1,n=>(vH k _).append fun b h=>by
  have:b=n % 256:=by simpa using h
  omega
def Bi(lo reach dg c:Int):List Int:=iQ 4 478450451++iQ 4 c++iQ 4 0++iQ 4 dg++iQ 8 lo++iQ 8 reach++iQ 8 4607182418800017408
def hwB(lo reach dg:Int)(l:List Pr):List Int:=Bi lo reach dg (kQ l).length++kQ l
def wP(s:Int × List Pr)(n:Int):Int × List Pr:=if n<0 then(s.1 - n,s.2) else if 0<n then(s.1+1,s.2++[(s.1,n)]) else(s.1+1,s.2)
theorem bm7(s:Int × List Pr)(n:Int):s.1<(wP s n).1:=by unfold wP;(repeat' split)<;>simp<;>omega
theorem Lc:∀(l:List Int) (s:Int × List Pr),s.1<=(l.foldl wP s).1
 | [],_=>Int.le_refl _
 | n::l,s=>by
  have h1:=bm7 s n;have h2:=Lc l (wP s n);simp only[List.foldl_cons];omega
def ru(a:Int):List Pr->Int
 | []=>a
 | p::l=>ru (p.1+1) l
theorem bc5(a g:Int)(acc:List Pr)(h:0<=g):(oJ g).foldl wP (a,acc)=(a+g,acc):=by
 unfold oJ
 split
 ·rename_i e;subst e;simp[wP]
 ·split
  ·have h1:-g<0:=ae
   simp only[List.foldl_cons,List.foldl_nil,wP,if_pos h1,Prod.mk.injEq,and_true];omega
  ·have:g=0:=ae
   subst this;simp
theorem ax6:∀(l:List Pr) (a:Int) (acc:List Pr),gU l->gK l->(∀p∈l,a<=p.1)->(Di a l).foldl wP (a,acc)=(ru a l,acc++l)
 | [],a,acc,_,_,_=>by simp[Di,ru]
 | p::l,a,acc,s,hp,h=>by
  have s1:=aZ.1 s;have h0:=h p (aT ..);have p0:=hp p (aT ..);have h1:¬p.2<0:=ae
  have e:wP (a+(p.1 - a),acc) p.2=(p.1+1,acc++[p]):=by
   unfold wP;simp only[if_neg h1,if_pos p0];rw[show a+(p.1 - a)=p.1 by omega]
  rw[Di,List.foldl_append,bc5 _ _ _ ae,List.foldl_cons,e,ax6 l (p.1+1) _ s1.2 (fun q hq=>hp q (aY _ hq)) (fun q hq=>by have:=s1.1 q hq;omega)]
  simp[ru]
theorem ab2{M:Int}:∀{l:List Pr} {a:Int},a<=M->(∀p∈l,p.1<M)->ru a l<=M
 | [],_,h,_=>h
 | p::l,_,_,h=>ab2 (l:=l) (a:=p.1+1) (by have:=h p (aT ..);omega) (fun q hq=>h q (aY _ hq))
theorem ap4{l:List Pr}{M:Int}(s:gU l)(hp:gK l)(h0:∀p∈l,0<=p.1/\p.1<M)(hM:1<=M):((Jo l).foldl wP (0,[])).2=l/\∀j,(((Jo l).take j).foldl wP (0,[])).1<=M:=by
 have hall:((Jo l).foldl wP (0,[])).2=l/\((Jo l).foldl wP (0,[])).1<=M:=by
  unfold Jo
  split
  ·rename_i e;subst e;simp[wP];omega
  ·rw[ax6 l 0 [] s hp (fun p h=>(h0 p h).1)]
   exact⟨by simp,ab2 ae (fun p h=>(h0 p h).2)⟩
 refine⟨hall.1,fun j=>?_⟩
 have h1:=Lc ((Jo l).drop j) (((Jo l).take j).foldl wP (0,[]));rw[<-List.foldl_append,List.take_append_drop] at h1;have:=hall.2;omega
theorem bc6{j:Nat}(h:j<l.length)(s:Int × List Pr):(l.take (j+1)).foldl wP s=wP ((l.take j).foldl wP s) l[j]:=by rw[bg h,List.foldl_append];rfl
theorem Xv(l:List Int):0<=(l.foldl wP (0,[])).1:=Lc l (0,[])
theorem Ot(g:Int):(oJ g).length<=1:=by unfold oJ;(repeat' split)<;>simp
theorem Eo:∀(l:List Pr) (a:Int),(Di a l).length<=2 * l.length
 | [],_=>by simp[Di]
 | p::l,a=>by
  have h1:=Ot (p.1 - a);have h2:=Eo l (p.1+1);rw[Di,aQ,aU,aU];omega
theorem Vk(l:List Pr):(Jo l).length<=2 * l.length+1:=by
 unfold Jo;split
 ·simp
 ·have:=Eo l 0;omega
theorem zG:∀(l:List Int),l.length<=(kH l).length/\(kH l).length<=9 * l.length
 | []=>by simp[kH]
 | n::l=>by
  have h1:=Bh n;have h2:=zG l;have e:kH (n::l)=nn n++kH l:=rfl;rw[e,aQ,aU];omega
theorem jW(a b:List Int):kH (a++b)=kH a++kH b:=List.flatMap_append
theorem nR(l:List Pr):1<=(kQ l).length/\(kQ l).length<=18 * l.length+9:=by
 have h1:=Vk l;have h2:=zG (Jo l);have h3:1<=(Jo l).length:=by
  unfold Jo;split
  ·simp
  ·rename_i h
   cases l with
   | nil=>exact absurd rfl h
   | cons p l=>rw[Di,aQ,aU];omega
 unfold kQ;omega
theorem wQ(lo reach dg:Int)(l:List Pr):(hwB lo reach dg l).length=40+(kQ l).length:=by unfold hwB Bi;simp only[aQ,fD]
theorem ap5{g x:Int}(h:g<=16777216)(hx:x∈oJ g):-16777216<=x/\x<=0:=by
 unfold oJ at hx
 split at hx
 ·have:x=0:=by simpa using hx
  omega
 ·split at hx
  ·have:x=-g:=by simpa using hx
   omega
  ·cases hx
theorem ab3:∀{l:List Pr} {a:Int},0<=a->(∀p∈l,0<=p.1/\p.1<=16777216/\0<p.2/\p.2<=4611686018427387904)->∀x∈Di a l,-16777216<=x/\x<=4611686018427387904
 | [],_,_,_,x,hx=>by cases hx
 | p::l,a,ha,h,x,hx=>by
  have h0:=h p (aT ..);rw[Di] at hx
  rcases dB.1 hx with hx|hx
  ·have:=ap5 ae hx;omega
  ·rcases bn.1 hx with rfl|hx
   ·omega
   ·exact ab3 ae (fun q hq=>h q (aY _ hq)) x hx
theorem ab4{l:List Pr}(h:∀p∈l,0<=p.1/\p.1<=16777216/\0<p.2/\p.2<=4611686018427387904):∀x∈Jo l,-16777216<=x/\x<=4611686018427387904:=fun x hx=>by
 unfold Jo at hx
 split at hx
 ·have:x=0:=by simpa using hx
  omega
 ·exact ab3 (Int.le_refl _) h x hx
theorem bm8{v:Int}(h0:-9223372036854775808<=v)(h1:v<=9223372036854775807):iD (nn v):=by
 have:=jl h0 h1
 -- nine bytes: the last may be any byte
 have key:∀(k:Nat) (n:Int),0<=n->n<256 * 128 ^ k->iD (jA k n):=by
  intro k
  induction k with
  | zero=>intro n a b x hx;simp only[jA,List.mem_singleton] at hx;subst hx;simp at b;omega
  | succ k ih=>
   intro n a b x hx;unfold jA at hx
   split at hx
   ·rcases bn.1 hx with rfl|hx
    ·omega
    ·exact ih (n / 128) ae (Int.ediv_lt_of_lt_mul ae (by rw[bU,<-Int.pow_succ];exact b)) x hx
   ·simp only[List.mem_singleton] at hx;subst hx;omega
 exact key 8 _ this.1 ae
theorem bc7(h:∀x∈l,-9223372036854775808<=x/\x<=9223372036854775807):iD (kH l):=fun b hb=>by
 obtain⟨x,hx,hb⟩:=List.mem_flatMap.1 hb;exact bm8 (h x hx).1 (h x hx).2 b hb
def qO(m bk:Nat):Nat:=(bk+1) * 2 ^ (m - 1)
section
open Go.Lib
variable {lo hi dg u m bk : Nat} {gr : Bool} {l : List Pr}
theorem ab5{v:Nat}(hm:1<=m)(hv:v<9223372036854775808)(h:1+iP u m v<=bk):Aj u m v<qO m bk:=by
 have h1:=Vj (u:=u) (m:=m) (v:=v) ae
 rw[Oi hm] at h1;unfold Aj qO;have h2:iP u m v * 2 ^ (m - 1)+2 * 2 ^ (m - 1)<=(bk+1) * 2 ^ (m - 1):=by rw[<-Nat.add_mul];exact Nat.mul_le_mul_right _ ae
 omega
theorem je.pb(h:je lo hi dg u m gr bk l):∀p∈l,0<=p.1/\p.1<=16777216/\0<p.2/\p.2<=4611686018427387904:=fun p hp=>by
 have h1:=h.kb p hp;have h2:=h.pos p hp;have h3:=pK h.pos p hp;have:=h.sum;omega
theorem je.cells(h:je lo hi dg u m gr bk l):∀p∈l,0<=p.1/\p.1<(qO m bk:Int):=fun p hp=>by
 obtain⟨v,hv,e,hb⟩:=h.key p hp;have:=ab5 h.sh.mb.1 hv hb;omega
end
end Go.Proofs.YtilcnjbpmoijmaaGreat.D
