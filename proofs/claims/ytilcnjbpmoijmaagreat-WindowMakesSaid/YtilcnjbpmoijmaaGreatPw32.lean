/- Parts of a proof. No condition. -/
import Derived.Test.YtilcnjbpmoijmaaGreatPw31
set_option maxRecDepth 100000
set_option maxHeartbeats 16000000
set_option linter.unusedVariables false
set_option linter.unusedSimpArgs false
namespace Go.Proofs.YtilcnjbpmoijmaaGreat.D
open Tryz
open Go.RowKit Go.Lib Go.Shelf
variable{R bk dg hi j lo m u:Nat}{gr:Bool}{l:List Pr}
theorem iY.VA(t:TypeId)(k:IntKind)(w:World)(l:List Int)(cs:Array Value)(hc:cs=(l.map (Value.int k)).toArray)(n:Nat)(hn:n=l.length)(hl:l.length<=100)(H:Nat)(h:w.heap.size=H):iY k (w.alloc (.cells cs t)) (.slice (some ⟨H,0,none⟩) n n) l:=by
 subst hc hn h;refine⟨by simp,_,l.length,rfl,aS _,by unfold maxLen;omega,fun h0=>⟨w.heap.size,0,rfl,ag,fun j hj=>?_⟩⟩
 rw[Nat.zero_add];have hb:(w.alloc (.cells (l.map (Value.int k)).toArray t)).heap[w.heap.size]?=some (.cells (l.map (Value.int k)).toArray t (0,0)):=(dK.new w t (l.map (Value.int k)).toArray);rw[cell_of_row _ _ _ _ _ _ hb];simp
theorem O_(ok:nY lo hi dg u m)(b1:bk<=64):eY u m hi bk<=9223372036854775807:=by
 have:=ok.h1;unfold eY
 split
 ·exact ok.h1
 ·unfold uG
  split
  ·exact aS _
  ·rename_i h
   have h1:2 ^ (bk - 1+u+m)<=2 ^ 62:=pW ae
   have h2:(2:Nat) ^ 62=4611686018427387904:=af
   omega
theorem Pe{x:Nat}{F:Ft}(w:World)(h:qo x lo hi dg u m gr bk l F w)(ok:je lo hi dg u m gr bk l):aH 165 #[.pointer (some ⟨x,0,none⟩)] w fun e w'=>∃v,e=.returned (.tuple #[v,.int .i64 0])/\OwnB w.heap.size w' v (hwB lo (eY u m hi bk) dg l)/\Below w.heap.size w w':=by
 have S:=h_ x lo hi dg u m gr bk l;have C1:=aI (pX w h);have C2:Hid (∀w1,Below w.heap.size w w1->_):=aI (fun w1 hb=>OG w1 (S.keep h hb) ok)
 have C3:Hid (∀(v:Value) (w1:World),iM fZ w1 v l->_):=aI (fun v w1 hr=>TI v w1 hr ok)
 have C4:Hid (∀w1,Below w.heap.size w w1->_):=aI (fun w1 hb=>ac3 w1 (S.keep h hb) ok.sh ok.b0 ok.b1)
 have hrb:=O_ ok.sh ok.b1 (bk:=bk);have hcl:=nR l;have hll:=ok.len;have hlo:lo<=9223372036854775807:=by have:=ok.sh.h0;have:=ok.sh.h1;omega
 have hdg:=ok.sh.d1;have HB:Hid (hwB lo (eY u m hi bk) dg l=ig 478450451 (kQ l).length 0 dg lo (eY u m hi bk) 4607182418800017408 7++kQ l):=aI rfl;rw[HB.o];clear HB S h ok;generalize eY u m hi bk=R at *;generalize kQ l=CN at *;obtain⟨N,hN⟩:=aF (CN.length);have HN:=aI hN;rw[hN] at hcl |-;have CP:Hid (∀(v:Value) (w1:World),iY .u64 w1 v [478450451,(N:Int),0,(dg:Int),(lo:Int),(R:Int),4607182418800017408]->_):=aI (fun v w1 hr=>XO 478450451 N 0 dg lo R 4607182418800017408 v w1 hr ae  ae  ae  ae  ae  ae  ae  ae  ae  ae  ae  ae  ae  ae)
 have EU:Hid (IntKind.u64.wrap (N:Int)=(N:Int)/\IntKind.u64.wrap (dg:Int)=(dg:Int)/\IntKind.u64.wrap (lo:Int)=(lo:Int)/\IntKind.u64.wrap (R:Int)=(R:Int)):=aI ⟨by rw[fF];omega,by rw[fF];omega,by rw[fF];omega,by rw[fF];omega⟩
 have x_:=Jv 478450451 N 0 dg lo R 4607182418800017408 7;generalize ig 478450451 N 0 dg lo R 4607182418800017408 7=OP at *;clear hN
 go_enter func165,ntmps165
 go_wp2_with fail;refine(C1.o).mono ?_
 rintro e w1 ⟨rfl,hb1⟩
 go_wp2_with fail;refine(C2.o w1 hb1).mono ?_
 rintro e w2 ⟨v2,rfl,o2,hb2⟩;have B2:=hb1.trans (hb2.mono hb1.size)
 go_wp2_with fail;refine(C3.o v2 w2 o2.rd).mono ?_
 rintro e w3 ⟨v3,rfl,o3,hb3⟩;have B3:=B2.trans (hb3.mono B2.size);have O3:=aI o3;obtain⟨A3,c3,ev3,_,_,_⟩:=(dP.rd o3).form;rw[HN.o] at ev3;subst ev3;clear o2 o3
 go_upto_region 4 with fail;obtain⟨b4,hb4⟩:∃z,w3.heap.size=z:=⟨_,rfl⟩;obtain⟨w4,hw4⟩:∃z,w3.alloc (.cells #[.int .i64 lo,.int .i64 hi,.int .i64 dg] 23)=z:=⟨_,rfl⟩;have K4:Hid (dK w4 b4 23 #[.int .i64 lo,.int .i64 hi,.int .i64 dg]):=by rw[<-hw4,<-hb4];exact aI (dK.new _ _ _)
 have VB:Below w3.heap.size w3 w4:=by rw[<-hw4];exact bw
 have B4:Below w.heap.size w w4:=B3.trans (VB.mono B3.size);have O4:=aI (dP.keep O3.o VB);rw[hw4,hb4];clear hw4 hb4 VB;have XR:Below w4.heap.size w4 w4.drew:=(aO _ _).drew;refine jh (Below w4.heap.size w4) (dV 0 10 (fJ 10 (dV 11 1 (fJ 12 (fJ 13 (dV 14 5 [])))))) (XR) ?_
 iterate 10 refine eQ (h:=fun w' hS'=>by have k0:=(K4.o.keep hS').cell 0;have k2:=(K4.o.keep hS').cell 2;simp only[aK,aJ,aN] at k0 k2;obtain⟨e1,e2,e3,e4⟩:=EU.o;go_simp;exact⟨rfl,rfl⟩) ?_
 refine fO fun K hK=>?_
 go_simp;refine(C4.o w4.drew (B4.trans (XR.mono B4.size))).mono ?_
 rintro e w5 ⟨rfl,hb5⟩;have B5:Below w4.heap.size w4 w5:=XR.trans hb5;refine hK _ _ (B5) ?_
 clear hK K;refine eQ (h:=fun w' hS'=>by have k0:=(K4.o.keep hS').cell 0;have k2:=(K4.o.keep hS').cell 2;simp only[aK,aJ,aN] at k0 k2;obtain⟨e1,e2,e3,e4⟩:=EU.o;go_simp;exact⟨rfl,rfl⟩) ?_
 refine fO fun K hK=>?_
 go_simp;have B6:Below w4.heap.size w4 (w5.alloc (.cells #[.int .u64 478450451,.int .u64 N,.int .u64 0,.int .u64 dg,.int .u64 lo,.int .u64 R,.int .u64 4607182418800017408] 46)):=B5.alloc B5.size _;refine hK _ _ (B6) ?_
 clear hK K;refine fO fun K hK=>?_
 go_simp;refine(CP.o _ _ (iY.VA 46 .u64 w5 [478450451,(N:Int),0,(dg:Int),(lo:Int),(R:Int),4607182418800017408] _ rfl 7 rfl ag _ rfl)).mono ?_
 rintro e w7 ⟨v7,rfl,o7,hb7⟩;have O7:=aI o7;have B7:Below w4.heap.size w4 w7:=B6.trans (hb7.mono B6.size);clear o7;refine hK _ _ (B7) ?_
 clear hK K
 iterate 5 refine eQ (h:=fun w' hS'=>by have k0:=(K4.o.keep hS').cell 0;have k2:=(K4.o.keep hS').cell 2;simp only[aK,aJ,aN] at k0 k2;obtain⟨e1,e2,e3,e4⟩:=EU.o;go_simp;exact⟨rfl,rfl⟩) ?_
 refine dJ ?_
 have O47:=aI (dP.keep O4.o B7);have BW7:=B4.trans (B7.mono B4.size);have hop:OP.length+CN.length<=1099511627776:=by have:=HN.o;omega
 have hO7:=O7.o;rw[aV] at hO7;have HO7:=aI hO7;have WJ:w.heap.size<=w5.heap.size+1:=by have:=B4.size;have:=B5.size;omega
 have YN:w5.heap.size+1<=w7.heap.size:=by have:=hb7.size;rw[aV] at this;exact this
 clear hO7 O7
 go_wp2_with (at_builtin;refine uk Ak rfl (.tmp 35) (.tmp 36) rfl (dX.1 HO7.o) rfl _ CN rfl (dX.1 O47.o).rd hop YN ?_;intro v8 w8 o8 g8 _;have O8:=aI (dX.2 (o8.more WJ));have B8:Below w.heap.size w w8:=BW7.grown g8 BW7.size (fun k hk=>by have:=(dL.lt (dX.1 HO7.o) k hk).1;omega);clear o8 g8)
 go_ret2
 exact⟨_,rfl,O8.o,B8⟩
open Tryz
open Go.RowKit Go.Lib Go.Shelf
theorem rM(w:World):aH 270 #[.bool true] w fun e w'=>e=.returned (.tuple #[])/\w=w':=by
 go_enter func270,ntmps270
 go_wp2_with fail;refine bodyPost_end (v:=.tuple #[]) (by simp[results,Tryz.results270,go_sem, *];try rfl) rfl ?_
 exact⟨rfl,rfl⟩
theorem bf2{l:List Int}(h:j<l.length):(kH l).drop (kH (l.take j)).length=nn l[j]++(kH l).drop (kH (l.take (j+1))).length:=by
 have e1:kH l=kH (l.take j)++(nn l[j]++kH (l.drop (j+1))):=by
  conv=>lhs;rw[<-List.take_append_drop j l,jW,List.drop_eq_getElem_cons h]
  rfl
 have e2:kH (l.take (j+1))=kH (l.take j)++nn l[j]:=by rw[bg h,jW];simp[kH]
 have e3:kH l=kH (l.take (j+1))++kH (l.drop (j+1)):=by rw[<-jW,List.take_append_drop]
 rw[show(kH l).drop (kH (l.take (j+1))).length=kH (l.drop (j+1)) by rw[e3,List.drop_left]]
 conv=>lhs;rw[e1,List.drop_left]
theorem LG{l:List Int}(h:j<l.length):(kH (l.take (j+1))).length=(kH (l.take j)).length+(nn l[j]).length:=by
 rw[bg h,jW,aQ];simp[kH]
theorem st_len:∀(l:List Int) (s:Int × List Pr),(l.foldl wP s).2.length<=s.2.length+l.length
 | [],_=>by simp
 | n::l,s=>by
  have h1:=st_len l (wP s n);have h2:(wP s n).2.length<=s.2.length+1:=by unfold wP;(repeat' split)<;>simp
  rw[List.foldl_cons,aU];omega
theorem XV(M:Nat)(v:Value)(w:World)(h:iY .u8 w v (kQ l))(ok:je lo hi dg u m gr bk l)(hM:∀p∈l,p.1<(M:Int))(hM0:1<=M)(hM1:M<=100000000) :
 aH 271 #[v,.int .i64 M] w fun e w'=>∃v',e=.returned v'/\dL fZ w.heap.size w' v' l/\Below w.heap.size w w':=by
 have hcl:=nR l;have hll:=ok.len;have CN:=aI (uV v (kQ l) w h ae)
 have HT:=ap4 (M:=(M:Int)) ok.iU ok.pos (fun p hp=>⟨(ok.kb p hp).1,hM p hp⟩) ae
 have ax9:=aI HT;have HBD:=aI (ab4 ok.pb);have HC:Hid (kQ l=kH (Jo l)):=aI rfl;have hnl:=Vk l;rw[HC.o] at CN hcl;clear h ok hM HT HC;generalize Jo l=NS at *;have hlen:(kH NS).length<=1000000000000:=ae
 go_enter func271,ntmps271
 go_wp2_with fail;refine(CN.o).mono ?_
 rintro e w1 ⟨g,rfl,hg,hr,hb1⟩;have HR:=aI hr;clear hr
 go_wp2_with fail
 go_loopg [6,7] NS.length (fun q b s wr=>∃j:Nat,q=NS.length - j/\j<=NS.length/\s=.int .i64 (((NS.take j).foldl wP (0,[])).1)/\Hid (dL fZ (g+1) wr b ((NS.take j).foldl wP (0,[])).2)/\Hid (dU wr g (kH NS) (kH (NS.take j)).length)/\Below w.heap.size w wr)
 case atStart=>exact⟨0,rfl,ae,rfl,aI (dL.nil_ _ _),HR,hb1⟩
 case round=>
  obtain⟨j,hq,hj,rfl,HO,HRj,hb⟩:=hrel;have HQ:=aI hq;clear hq;have CL:=aI (mX g (kH NS) _ wr HRj.o hlen)
  by_cases hlt:j<NS.length
  ·have HAT:=aI (bf2 hlt)
   have HLN:=aI (LG hlt);have HST:=aI (bc6 hlt (0,[]));have hs1:=ax9.o.2 (j+1);have hacc:=st_len (NS.take j) (0,[]);have htj:=List.length_take_le j NS;have hs0:=Xv (NS.take j);have hbd:=HBD.o _ (bf hlt);have ch1:=Bh NS[j];have hle:=(RS HRj.o);have ch2:(kH (NS.take j)).length+(nn NS[j]).length<=(kH NS).length:=by
    have hl:=congrArg List.length HAT.o;rw[bu,aQ,bu] at hl;omega
   rw[HST.o] at hs1;generalize NS[j]=n at *;have CX:Hid (∀w3,dU w3 g (kH NS) (kH (NS.take j)).length->_):=aI (fun w3 h3=>XI (x:=n) w3 h3 hlen HAT.o ae  ae)
   rw[<-HLN.o] at CX;obtain⟨s0,bn8⟩:=aF ((NS.take j).foldl wP (0,[]));rw[bn8] at HO HST hs0 hs1 hacc |-;obtain⟨at_,acc⟩:=s0;simp only[bC] at HO hs0 hs1 hacc |-;obtain⟨A5,c5,ev5,_,_,_⟩:=HO.o.form;obtain⟨n5,hn5⟩:∃z,acc.length=z:=⟨_,rfl⟩;rw[hn5] at ev5;subst ev5;have hL0:(0:Int)<((kH NS).length:Int) - ((kH (NS.take j)).length:Int):=ae
   have EWn:Hid (wrap64 (ub n)=n):=aI (qB ae  ae)
   clear bn8
   go_wp2_with fail;refine(CL.o).mono ?_
   rintro e w' ⟨rfl,nq,rfl⟩
   go_wp2_with fail;refine(CX.o _ (HRj.o.drewN nq)).mono ?_
   rintro e w3 ⟨rfl,hr3,ht3⟩;have R3:=aI hr3;have hb3:Below w.heap.size w w3:=(below_drewN hb nq).trans (ht3.below (fun k hk=>by omega) hb.size)
   have O3:Hid (dL fZ (g+1) w3 (.slice A5 n5 c5) acc):=aI (HO.o.stay (fun k hk=>ht3.block k (HO.o.lt k hk).2 (fun e=>by have:=(HO.o.lt k hk).1;omega)))
   clear hr3 ht3;have CN0:=fun w=>aI (rM w)
   have ew:=EWn.o
   by_cases hn:n<0
   ·have hst:wP (at_,acc) n=(at_ - n,acc):=by unfold wP;rw[if_pos hn]
    rw[hst] at HST hs1;simp only at hs1;have E1:Hid (IntKind.i64.wrap (-n)=-n/\IntKind.i64.wrap ((M:Int) - at_)=(M:Int) - at_/\IntKind.i64.wrap (at_+-n)=at_ - n):=aI ⟨by rw[aW];omega,ak,ak⟩
    have hc1:0 < -n:=ae
    have hc2:-n<=(M:Int) - at_:=ae
    clear hst
    go_wp2_with (go_at_call 270;refine((CN0 _).o).mono ?_;rintro e w' ⟨rfl,rfl⟩;obtain⟨e1,e2,e3⟩:=E1.o)
    go_roundg (NS.length - (j+1))
    case measure=>have:=HQ.o;omega
    case rel=>exact⟨j+1,rfl,ae,by rw[HST.o],by rw[HST.o];exact O3,R3,hb3⟩
   ·have hc1:at_<(M:Int):=by
     unfold wP at hs1;rw[if_neg hn] at hs1
     split at hs1<;>simp only at hs1<;>omega
    have E1:Hid (IntKind.i64.wrap (at_+1)=at_+1):=aI ak
    have e1:=E1.o
    by_cases hp:0<n
    ·have hst:wP (at_,acc) n=(at_+1,acc++[(at_,n)]):=by unfold wP;rw[if_neg hn,if_pos hp]
     rw[hst] at HST;have hub:ub n=n:=by unfold ub;omega
     have HUB:=aI hub;have hlen5:acc.length+1<=1099511627776:=ae
     have hzg:g+1<=w3.heap.size:=by have:=R3.o.lt;omega
     clear hst hub hs1 hn5
     go_wp2_with (first|(go_at_call 270;refine((CN0 _).o).mono ?_;rintro e w' ⟨rfl,rfl⟩)|(at_builtin;refine uk zq rfl (.tmp 50) (.tmp 54) rfl (O3.o.alloc _) rfl _ [(at_,ub n)] rfl (iM.fK (E:=fZ) _ (at_,ub n) _ rfl _ rfl _ ag) hlen5 (by simp only[aV];omega) ?_;intro v6 w6 o6 g6 _;have O6:=aI o6;have hb6:Below w.heap.size w w6:=(hb3.alloc hb3.size (.cells #[.int .i64 at_,.int .u64 (ub n)] 178)).grown g6 (by simp only[aV];have:=hb3.size;omega) (fun k hk=>by have:=(O3.o.lt k hk).1;omega);have R6:Hid (dU w6 g (kH NS) (kH (NS.take (j+1))).length):=aI (Bg (R3.o.keep ((aO _ _).alloc (aS _) (.cells #[.int .i64 at_,.int .u64 (ub n)] 178))) (O3.o.alloc (.cells #[.int .i64 at_,.int .u64 (ub n)] 178)) g6);clear o6 g6))
     go_roundg (NS.length - (j+1))
     case measure=>have:=HQ.o;omega
     case rel=>exact⟨j+1,rfl,ae,by rw[HST.o],by rw[HST.o];rw[HUB.o] at O6;exact O6,R6,hb6⟩
    ·have hst:wP (at_,acc) n=(at_+1,acc):=by unfold wP;rw[if_neg hn,if_neg hp]
     rw[hst] at HST;clear hst hs1
     go_wp2_with (go_at_call 270;refine((CN0 _).o).mono ?_;rintro e w' ⟨rfl,rfl⟩)
     go_roundg (NS.length - (j+1))
     case measure=>have:=HQ.o;omega
     case rel=>exact⟨j+1,rfl,ae,by rw[HST.o],by rw[HST.o];exact O3,R3,hb3⟩
  ·obtain rfl:j=NS.length:=ae
   have hO9:=HO.o;rw[bP (aS _)] at CL hO9;rw[ax9.o.1] at hO9;have Zv:=aI hO9;have e0:((kH NS).length:Int) - ((kH NS).length:Int)=0:=ae
   rw[e0] at CL;clear hO9 HO
   go_wp2_with fail;refine(CL.o).mono ?_
   rintro e w' ⟨rfl,nq,rfl⟩
   go_wp2_with fail
   go_ret;exact⟨_,rfl,dL.more (dL.drewN Zv.o nq) ae,below_drewN hb nq⟩
open Tryz
open Go.Lib
theorem ae0(ok:je lo hi dg u m gr bk l):je lo (eY u m hi bk) dg u m false bk l/\eY u m (eY u m hi bk) bk=eY u m hi bk:=by
 have hum:=ok.sh.um;have h0:=ok.sh.h0;have h1:=ok.sh.h1;have key:hi<=eY u m hi bk/\eY u m hi bk<=9223372036854775807/\bk=1+iP u m (eY u m hi bk):=by
  by_cases h:bk=1+iP u m hi
  ·rw[eY,if_pos h];exact⟨aS _,h1,h⟩
  ·rw[eY,if_neg h]
   have hf:=ok.fst
   rcases ok.mx with h'|⟨p,hp,v,hv,_,hb⟩
   ·exact absurd h' h
   have hm:=qN (u:=u) (m:=m) hv;obtain⟨j,hj⟩:∃j,bk=j+2:=⟨bk - 2,ae⟩
   have hK:u+m+(j+1)<=63:=ae
   have hT:uG u m bk=2 ^ (u+m+(j+1)) - 1:=by
    unfold uG
    split
    ·rename_i h63
     have e:u+m+(j+1)=63:=ae
     rw[e]
    ·have e:bk - 1+u+m=u+m+(j+1):=ae
     rw[e]
   have hp0:2 ^ (u+m+(j+1))=2 * 2 ^ (u+m+j):=by rw[show u+m+(j+1)=(u+m+j)+1 by omega,Nat.pow_succ,dC]
   have hp1:1<=2 ^ (u+m+j):=Nat.pow_pos ae
   have hp2:2 ^ (u+m+(j+1))<=2 ^ 63:=Nat.pow_le_pow_right ae hK
   have hp3:(2:Nat) ^ 63=9223372036854775808:=af
   have hhi:hi<2 ^ (u+m+(j+1)):=(Gw ae).1 ae
   rw[hT];have a1:iP u m (2 ^ (u+m+(j+1)) - 1)<=j+1:=(Gw ae).2 ae
   have a2:¬iP u m (2 ^ (u+m+(j+1)) - 1)<=j:=fun hc=>by
    have:=(Gw (u:=u) (m:=m) (b:=j) (v:=2 ^ (u+m+(j+1)) - 1) ae).1 hc
    omega
   exact⟨by omega,ae,ae⟩
 obtain⟨k0,k1,k2⟩:=key;refine⟨⟨⟨ok.sh.d0,ok.sh.d1,ok.sh.l0,ae,k1,ok.sh.ue,ok.sh.me,ok.sh.um⟩,ok.iU,ok.pos,ok.sum,ok.key,ae,.inl k2,fun _=>k2⟩,?_⟩
 generalize eY u m hi bk=R at *;rw[eY,if_pos k2]
open Tryz
open Go.RowKit Go.Lib
def bn9(j:Nat):Nat:=if j<=4 then 4 * j else 16+8 * (j - 4)
theorem XW(v:Value)(w:World)(h:iY .u8 w v (hwB lo R dg l))(hdg:dg<4294967296)(hlo:lo<18446744073709551616)(hR:R<18446744073709551616)(hlen:(kQ l).length<=4000000000) :
 aH 201 #[.string ⟨#[87,87,87,87,81,81,81]⟩,v] w fun e w'=>∃v',e=.returned (.tuple #[v',.int .i64 40,.int .i64 0])/\dL QE w.heap.size w' v' [478450451,((kQ l).length:Int),0,(dg:Int),(lo:Int),(R:Int),4607182418800017408]/\Below w.heap.size w w':=by
 have hbl:=wQ lo R dg l;have X0:(hwB lo R dg l).drop 0=iQ 4 478450451++(iQ 4 (kQ l).length++(iQ 4 0++(iQ 4 dg++(iQ 8 lo++(iQ 8 R++(iQ 8 4607182418800017408++kQ l)))))):=by
  unfold hwB Bi;simp only[aX,cO]
 generalize hwB (lo:Int) R dg l=bs at *;generalize kQ l=K at *;have nx:∀{a k:Nat} {x r:List Int},x.length=k->bs.drop a=x++r->bs.drop (a+k)=r:=by
  intro a k x r hx e;rw[<-List.drop_drop,e,List.drop_left' hx]
 have X1:=nx (fD 4 _) X0;have X2:=nx (fD 4 _) X1;have X3:=nx (fD 4 _) X2;have X4:=nx (fD 4 _) X3;have X5:=nx (fD 8 _) X4;have X6:=nx (fD 8 _) X5;have hl:bs.length<=1000000000000:=ae
 refine Vw ⟨#[87,87,87,87,81,81,81]⟩ bs [478450451,(K.length:Int),0,(dg:Int),(lo:Int),(R:Int),4607182418800017408] bn9 v w h hl Dt rfl ag rfl (fun j _=>by simp only[aU,bC] at *;unfold bn9;split<;>omega) ?_
 intro j hj hj' g w1 hr;have hj7:j<7:=hj;obtain rfl|rfl|rfl|rfl|rfl|rfl|rfl:j=0\/j=1\/j=2\/j=3\/j=4\/j=5\/j=6:=ae
 ·exact wW (n:=478450451) w1 hr hl X0 ae  ae
 ·exact wW (n:=(K.length:Int)) w1 hr hl X1 ae  ae
 ·exact wW (n:=0) w1 hr hl X2 ae  ae
 ·exact wW (n:=(dg:Int)) w1 hr hl X3 ae  ae
 ·exact BC (n:=(lo:Int)) w1 hr hl X4 ae  ae
 ·exact BC (n:=(R:Int)) w1 hr hl X5 ae  ae
 ·exact BC (n:=4607182418800017408) w1 hr hl X6 ae  ae
open Tryz
open Go.RowKit Go.Lib
theorem LH(h2 h3:Nat)(w:World) :
 CallsD prog 269 #[.pointer (some ⟨h2,0,none⟩),.pointer (some ⟨h3,0,none⟩)] .returning w fun e u' w'=>e=.returned (.tuple #[])/\u'=.returning/\w'=w:=by
 refine callsD_of_wpS func269 rfl fun c₀ cs hu=>?_
 apply wpS_seq
 apply wpS_region
 simp[wpOpsS,go_sem,recoverD,hu,ntmps269,Exit.thenS]
 refine wpS_of_wp ?_
 go_wp2
 cases c₀
 simp_all[bodyPostS,results,Tryz.results269]
theorem TJ(h2 h3:Nat)(w:World)(R:Ending->World->Prop)(tmps:Array Value)(t2:tmps[2]?=some (.pointer (some ⟨h2,0,none⟩)))(t3:tmps[3]?=some (.pointer (some ⟨h3,0,none⟩)))
 (x2:Value) (c2:w.cell? ⟨h2,0,none⟩=some x2) (c3:w.cell? ⟨h3,0,none⟩=some (.int .i64 0)) (hR:R (.returned (.tuple #[x2,.int .i64 0])) w) :
 Leaves prog Tryz.f202 tmps R [{target:=.fn (.func 269) #[],args:=#[.pointer (some ⟨h2,0,none⟩),.pointer (some ⟨h3,0,none⟩)]}] .returning w:=by
 refine leaves_cons (f:=269) (args:=#[.pointer (some ⟨h2,0,none⟩),.pointer (some ⟨h3,0,none⟩)]) ag (by simp[go_sem]) ?_
 refine(LH h2 h3 w).mono ?_
 rintro e u' w'' ⟨rfl,rfl,rfl⟩;refine⟨.tuple #[x2,.int .i64 0],?_,hR⟩
 simp[results,Tryz.results202,go_sem,t2,t3,c2,c3]
theorem iY.from_{k:IntKind}{w:World}{g off c:Nat}{l:List Int}(h:iY k w (.slice (some ⟨g,off,none⟩) l.length c) l)(n:Nat)(hn:n<=l.length):iY k w (.slice (some ⟨g,off+n,none⟩) (l.length - n) (c - n)) (l.drop n):=by
 obtain⟨A,c',e,h1,h2,h3⟩:=h.form;injection e with e1 e2 e3;subst e1 e3;refine⟨by simp,_,c - n,by rw[bu],by rw[bu];omega,by unfold maxLen;omega,fun h0=>?_⟩
 rw[bu] at h0;obtain⟨g',o',e',hlt,hc⟩:=h3 ae
 injection e' with e';injection e' with eg eo;subst eg eo;refine⟨g,off+n,rfl,hlt,fun j hj=>?_⟩
 rw[bu,Nat.mul_one] at hj;have:=hc (n+j) ae
 rw[Nat.add_assoc,this];simp[List.getElem?_map,List.getElem?_drop,a_ (show n+j<l.length by omega)]
open Tryz
open Go.RowKit Go.Lib
theorem TK(v:Value)(w:World)(h:iY .u8 w v (hwB lo R dg l))(ok:je lo R dg u m false bk l)(hre:eY u m R bk=R) :
 aH 202 #[v] w fun e w'=>∃x,e=.returned (.tuple #[.pointer (some ⟨x,0,none⟩),.int .i64 0])/\qo x lo R dg u m false bk l (Gr (fun _=>False) w w') w'/\Below w.heap.size w w':=by
 have HR:=aI h;have hcl:=nR l;have hll:=ok.len;have hdg:=ok.sh.d1;have hRb:=ok.sh.h1;have hlo:lo<=9223372036854775807:=by have:=ok.sh.h0;omega
 have hmb:=ok.sh.mb;have hbk:1+iP u m R=bk:=(ok.grw rfl).symm;have hb0:=ok.b0;have hb1:=ok.b1;have hpw:1<=2 ^ (m - 1):=Nat.pow_pos ae
 have bo0:2 ^ (m - 1)<=131072:=(pW ae :2 ^ (m - 1)<=2 ^ 17)
 have hM0:1<=qO m bk:=by unfold qO;exact Nat.mul_le_mul (by omega:1<=bk+1) hpw
 have hM1:qO m bk<=65 * 131072:=by unfold qO;exact Nat.mul_le_mul ae bo0
 have CG:Hid (∀w1,Below w.heap.size w w1->_):=aI (fun w1 hb=>XW v w1 (h.keep hb) ae  ae  ae  ae)
 have CM:Hid (∀w1,_):=aI (fun w1=>Ol w1 ok.sh)
 have CB:Hid (∀(w1:World) (g:Nat),nX w1 g lo R dg u m->_):=aI (fun w1 g h=>lY (w:=w1) (g:=g) R h ok.sh.um ae)
 have CC:Hid (∀(w1:World) (g:Nat),nX w1 g lo R dg u m->aH 272 #[.pointer (some ⟨g,0,none⟩),.int .i64 bk] w1 fun e w'=>e=.returned (.int .i64 (qO m bk:Nat))/\w1=w'):=aI (fun w1 g h=>SK bk h hmb.1 hmb.2 hb0 hb1)
 have CE:Hid (∀(v:Value) (w1:World),iY .u8 w1 v (kQ l)->_):=aI (fun v w1 hr=>XV (qO m bk) v w1 hr ok (fun p hp=>(ok.cells p hp).2) hM0 ae)
 have CL:Hid (∀(v:Value) (w1:World),iM fZ w1 v l->_):=aI (fun v w1 hr=>Vx v w1 hr ok)
 have CW:Hid (∀(x:Nat) (F:Ft) (w1:World),qo x lo R dg u m false bk l F w1->_):=aI (fun x F w1 h=>Pe w1 h ok)
 rw[hre] at CW;rw[hbk] at CB;have hbl:=wQ lo R dg l;have X40:Hid ((hwB lo R dg l).drop 40=kQ l):=aI (by
  have e:(Bi lo R dg (kQ l).length).length=40:=by unfold Bi;simp only[aQ,fD]
  unfold hwB;exact List.drop_left' e)
 obtain⟨C,hC⟩:=aF ((kQ l).length);rw[hC] at CG hcl hbl;have HC:=aI hC;generalize hwB (lo:Int) R dg l=bs at *;generalize kQ l=K at *;generalize qO m bk=M at *;clear h ok hre hbk hpw bo0 hC;have ap7:bs.length<=1000000000000:=ae
 obtain⟨A0,c0,ev,hc0,hcm,hf⟩:=(HR.o).form;obtain⟨g0,o0,rfl,hg0,_⟩:=hf ae
 obtain⟨n0,hn0⟩:=aF (bs.length);have Vm:=aI hn0;rw[hn0] at ev hc0 hbl ap7;subst ev;have WY:=aI hbl;have bx8:40<=n0:=ae
 clear hf hn0;have e1:IntKind.i64.wrap ((n0:Int) - 40)=(C:Int):=ak
 clear hbl;have EW:Hid (IntKind.i64.wrap ((n0:Int) - 40)=(C:Int)/\IntKind.u64.wrap (C:Int)=(C:Int)):=aI ⟨e1,by rw[fF];omega⟩
 have EC:Hid (IntKind.i64.wrap (lo:Int)=(lo:Int)/\IntKind.i64.wrap (R:Int)=(R:Int)/\IntKind.i64.wrap (dg:Int)=(dg:Int)):=aI ⟨by rw[aW];omega,ak,ak⟩
 clear e1
 go_enter_defers func202,ntmps202
 go_wp2_with fail;obtain⟨w1,hw1⟩:∃w1,w1=(w.alloc (.cells #[.pointer none] 121)).alloc (.cells #[.int .i64 0] 28):=⟨_,rfl⟩;have hb1':Below w.heap.size w w1:=by rw[hw1];exact((aO _ _).alloc (aS _) _).alloc ag _
 have B2:Hid (dK w1 w.heap.size 121 #[.pointer none]):=by show dK _ _ _ _;rw[hw1];exact(dK.new _ _ _).alloc _
 have B3:Hid (dK w1 (w.heap.size+1) 28 #[.int .i64 0]):=by
  show dK _ _ _ _;rw[hw1];have h:=dK.new (w.alloc (.cells #[.pointer none] 121)) 28 #[.int .i64 0]
  rwa [aV] at h
 obtain⟨h2,hh2⟩:=aF (w.heap.size);have HH2:=aI hh2;rw[<-hw1];rw[hh2] at B2 B3 |-;have l2:=B2.o.lt;have l3:=B3.o.lt;clear hw1 hh2;have Hb1:=aI hb1';have hne:h2≠h2+1:=ae
 refine(CG.o w1 hb1').mono ?_
 rintro e w2 ⟨v4,rfl,o4,hb2⟩;clear hb1';have Hb2:=aI (Hb1.o.trans (hb2.mono Hb1.o.size));have D2:=aI (B2.o.keep hb2);have D3:=aI (B3.o.keep hb2);obtain⟨g4,c4,rfl,hg4,ch7,hc4,ch8⟩:=o4.pos ag
 have O4:=aI o4;have hc7:7<=c4:=hc4;clear o4;have x3:=D3.o.cell 0;have y3:=D3.o.frozen 0;simp only[aK,aJ] at x3;obtain⟨w3,hw3⟩:=aF (w2.setCell ⟨h2+1,0,none⟩ (.int .i64 0));have E2:Hid (dK w3 h2 121 #[.pointer none]):=by rw[<-hw3];exact aI (D2.o.far (p:=⟨h2+1,0,none⟩) ag _)
 have E3:Hid (dK w3 (h2+1) 28 #[.int .i64 0]):=by rw[<-hw3];exact aI (D3.o.dQ 0 _)
 have n43:¬(g4=h2+1):=ae
 have P4:Hid (dL QE w1.heap.size w3 (.slice (some ⟨g4,0,none⟩) 7 c4) [478450451,(C:Int),0,(dg:Int),(lo:Int),(R:Int),4607182418800017408]):=by rw[<-hw3];exact aI (O4.o.far (p:=⟨h2+1,0,none⟩) (fun e=>n43 (Option.some.inj e)) _)
 have T3:Touch (fun k=>k=h2+1) w2 w3:=by rw[<-hw3];exact(show Touch (fun k=>k=h2+1) w2 w2 from Touch.refl _ w2).setCell (p:=⟨h2+1,0,none⟩) (.inl rfl) _
 have Hb3:=aI (Hb2.o.trans (T3.below (fun k hk=>by have:=HH2.o;omega) Hb2.o.size))
 have z3:=E3.o.cell 0;simp only[aK,aJ] at z3;have q0:w3.cell? ⟨g4,0,none⟩=some (.int .u64 478450451):=P4.o.cellAt (j:=0) (by simp) 0 af
 have q1:w3.cell? ⟨g4,1,none⟩=some (.int .u64 C):=P4.o.cellAt (j:=1) (by simp) 0 af
 have q3:w3.cell? ⟨g4,3,none⟩=some (.int .u64 dg):=P4.o.cellAt (j:=3) (by simp) 0 af
 have q4:w3.cell? ⟨g4,4,none⟩=some (.int .u64 lo):=P4.o.cellAt (j:=4) (by simp) 0 af
 have q5:w3.cell? ⟨g4,5,none⟩=some (.int .u64 R):=P4.o.cellAt (j:=5) (by simp) 0 af
 have k5:(dg:Int)<=5:=ae
 have k6:(lo:Int)<9223372036854775808:=ae
 have k7:(R:Int)<9223372036854775808:=ae
 have⟨e1,e2⟩:=EW.o;clear T3
 go_wp2_with fail;refine(rM _).mono ?_
 rintro e w' ⟨rfl,rfl⟩;clear e1 e2
 go_wp2_with fail;refine(rM _).mono ?_
 rintro e w' ⟨rfl,rfl⟩;have Bd:Below w3.heap.size w3 w3.drew:=(aO _ _).drew
 go_upto_region 5 with fail;refine jh (Below w3.heap.size w3) (dV 0 13 (fJ 13 (fJ 14 []))) (Bd) ?_
 iterate 13 refine eQ (h:=fun w' hS'=>by have q3':=(hS'.cell (p:=⟨g4,3,none⟩) (P4.o.lt g4 rfl).2).trans q3;have q4':=(hS'.cell (p:=⟨g4,4,none⟩) (P4.o.lt g4 rfl).2).trans q4;have q5':=(hS'.cell (p:=⟨g4,5,none⟩) (P4.o.lt g4 rfl).2).trans q5;obtain⟨e1,e2,e3⟩:=EC.o;go_simp;exact⟨rfl,rfl⟩) ?_
 refine fO fun K hK=>?_
 go_simp;have B6:Below w3.heap.size w3 (w3.drew.alloc (.cells #[.int .i64 0,.int .i64 0,.int .i64 0] 23)):=Bd.alloc ag _
 refine hK _ _ (B6) ?_
 clear hK K;refine fO fun K hK=>?_
 go_simp;have B7:Below w3.heap.size w3 (w3.alloc (.cells #[.int .i64 lo,.int .i64 R,.int .i64 dg] 23)).drew:=((aO _ _).alloc (aS _) _).drew;refine hK _ _ (B7) ?_
 clear hK K;refine dJ ?_
 have l5':=E3.o.lt;obtain⟨b5,LJ⟩:∃z,w3.heap.size=z:=⟨_,rfl⟩;obtain⟨w4,hw4⟩:∃z,(w3.alloc (.cells #[.int .i64 lo,.int .i64 R,.int .i64 dg] 23)).drew=z:=⟨_,rfl⟩;have K5:Hid (dK w4 b5 23 #[.int .i64 lo,.int .i64 R,.int .i64 dg]):=by rw[<-hw4,<-LJ];exact aI (dK.new _ _ _)
 have VB:Below w3.heap.size w3 w4:=by rw[<-hw4];exact((aO _ _).alloc (aS _) _).drew
 have F2:=aI (E2.o.keep VB);have F3:=aI (E3.o.keep VB);have Hb4:=aI (Hb3.o.trans (VB.mono Hb3.o.size));have l5:h2+1<b5:=by rw[<-LJ];exact l5'
 rw[hw4,LJ];clear hw4 LJ B6 B7 Bd VB q0 q1 q3 q4 q5 z3 x3 y3 hw3 k5 k6 k7 l5';obtain⟨k0,k1,k2⟩:=K5.o.c3
 go_wp2_with fail;refine(CM.o w4).mono ?_
 rintro e w5 ⟨gm,rfl,hgm,hM,hb5⟩;have HM:=aI hM;have lK:=K5.o.lt;have Hb5:=aI (Hb4.o.trans (hb5.mono Hb4.o.size));have G2:=aI (F2.o.keep hb5);have G3:=aI (F3.o.keep hb5);have K6:=aI (K5.o.keep hb5);clear hM k0 k1 k2;have u3:=G3.o.cell 0;have s3:=G3.o.frozen 0;simp only[aK,aJ] at u3;obtain⟨w6,hw6⟩:∃z,w5.setCell ⟨h2+1,0,none⟩ (.int .i64 0)=z:=⟨_,rfl⟩;have I2:Hid (dK w6 h2 121 #[.pointer none]):=by rw[<-hw6];exact aI (G2.o.far (p:=⟨h2+1,0,none⟩) ag _)
 have I3:Hid (dK w6 (h2+1) 28 #[.int .i64 0]):=by rw[<-hw6];exact aI (G3.o.dQ 0 _)
 have nb5:b5≠h2+1:=ae
 have ngm:gm≠h2+1:=ae
 have K7:Hid (dK w6 b5 23 #[.int .i64 lo,.int .i64 R,.int .i64 dg]):=by rw[<-hw6];exact aI (K6.o.far (p:=⟨h2+1,0,none⟩) nb5 _)
 have HM6:Hid (nX w6 gm lo R dg u m):=by rw[<-hw6];exact aI (dK.far HM.o (p:=⟨h2+1,0,none⟩) ngm _)
 have T6:Touch (fun k=>k=h2+1) w5 w6:=by rw[<-hw6];exact(show Touch (fun k=>k=h2+1) w5 w5 from Touch.refl _ w5).setCell (p:=⟨h2+1,0,none⟩) (.inl rfl) _
 have Hb6:=aI (Hb5.o.trans (T6.below (fun k hk=>by have:=HH2.o;omega) Hb5.o.size))
 have j3:=I3.o.cell 0;have kk1:=K7.o.cell 1;simp only[aK,aJ,aN] at j3 kk1;clear T6
 go_wp2_with fail;refine(rM _).mono ?_
 rintro e w' ⟨rfl,rfl⟩
 go_wp2_with fail;refine(CB.o w6 gm HM6.o).mono ?_
 rintro e w7 ⟨rfl,hb7⟩;have Hb7:=aI (Hb6.o.trans (hb7.mono Hb6.o.size));have J2:=aI (I2.o.keep hb7);have J3:=aI (I3.o.keep hb7);have K8:=aI (K7.o.keep hb7);have HM7:Hid (nX w7 gm lo R dg u m):=aI (dK.keep HM6.o hb7);have ch9:=dK.lt HM7.o;have bf3:=K8.o.lt;have ci0:=J2.o.lt;have ci1:=J3.o.lt;have HRK:Hid (iY .u8 w7 (.slice (some ⟨g0,o0+40,none⟩) (n0 - 40) (c0 - 40)) K):=by
  have h:=HR.o.keep Hb7.o;rw[<-Vm.o] at h;have h':=iY.from_ h 40 (by rw[Vm.o];exact bx8)
  rw[X40.o,Vm.o] at h';exact aI h'
 have nb6:¬(b5=h2\/b5=h2+1):=ae
 have nm6:¬(gm=h2\/gm=h2+1):=ae
 clear u3 s3 hw6 j3 kk1;have c0':=K8.o.cell 0;have c1':=K8.o.cell 1;have c2':=K8.o.cell 2;simp only[aK,aJ,aN] at c0' c1' c2';have CX:=aI (aP c0' (aP c1' c2'));clear c0' c1' c2';have Td:Touch (fun k=>k=h2\/k=h2+1) w7 w7.drew:=(Touch.refl _ w7).drew
 have Bd:Below w7.heap.size w7 w7.drew:=(aO _ _).drew;have i40:(40:Int)<=(n0:Int):=ae
 have i41:¬(c0=40):=by have:=WY.o;omega
 go_upto_region 9 with fail;have mW:=aI (fun(w':World) (hS':(Touch (fun k=>k=h2\/k=h2+1) w7) w')=>(aP ((dO hS' 0 bf3 nb6).trans CX.o.1) (aP ((dO hS' 1 bf3 nb6).trans CX.o.2.1) ((dO hS' 2 bf3 nb6).trans CX.o.2.2))))
 refine jh (Touch (fun k=>k=h2\/k=h2+1) w7) (dV 0 6 (fJ 6 (fJ 7 (fJ 8 (dV 9 3 (fJ 12 (fJ 13 []))))))) (Td) ?_
 iterate 6 refine eQ ?_
 refine fO fun K hK=>?_
 go_simp;refine(CC.o w7.drew gm (dK.keep HM7.o Bd)).mono ?_
 rintro e w' ⟨rfl,rfl⟩;refine hK _ _ (Td) ?_
 clear hK K;refine fO fun K hK=>?_
 go_simp;refine(CE.o _ w7.drew (HRK.o.keep Bd)).mono ?_
 rintro e w9 ⟨v9,rfl,o9,KZ⟩;have O9:=aI o9;have B9:Below w7.heap.size w7 w9:=Bd.trans KZ;have T9:Touch (fun k=>k=h2\/k=h2+1) w7 w9:=Touch.of_below B9 (aS _)
 clear o9;refine hK _ _ (T9) ?_
 clear hK K;refine fO fun K hK=>?_
 go_simp;refine(CL.o v9 w9 O9.o.rd).mono ?_
 rintro e w10 ⟨x,rfl,hx,TM⟩;have HX:=aI hx;have B10:Below w7.heap.size w7 w10:=B9.trans (TM.mono B9.size);have T10:Touch (fun k=>k=h2\/k=h2+1) w7 w10:=Touch.of_below B10 (aS _)
 clear hx;refine hK _ _ (T10) ?_
 clear hK K
 iterate 3 refine eQ ?_
 refine fO fun K hK=>?_
 have L2:=aI (J2.o.keep B10);have L3:=aI (J3.o.keep B10);have p2:=L2.o.cell 0;have r2:=L2.o.frozen 0;simp only[aK,aJ] at p2
 go_simp;have T12:Touch (fun k=>k=h2\/k=h2+1) w7 (w10.setCell ⟨h2,0,none⟩ (.pointer (some ⟨x,0,none⟩))):=T10.setCell (p:=⟨h2,0,none⟩) (.inl (.inl rfl)) _
 clear p2 r2;refine hK _ _ (T12) ?_
 clear hK K;refine fO fun K hK=>?_
 have M3:=aI (L3.o.far (p:=⟨h2,0,none⟩) ag (.pointer (some ⟨x,0,none⟩)))
 have p3:=M3.o.cell 0;have r3:=M3.o.frozen 0;simp only[aK,aJ] at p3
 go_simp;have T13:Touch (fun k=>k=h2\/k=h2+1) w7 ((w10.setCell ⟨h2,0,none⟩ (.pointer (some ⟨x,0,none⟩))).setCell ⟨h2+1,0,none⟩ (.int .i64 0)):=T12.setCell (p:=⟨h2+1,0,none⟩) (.inl (.inr rfl)) _
 refine hK _ _ (T13) ?_
 clear hK K;refine dJ ?_
 have aa3:=aI (Hb7.o.trans (B10.mono Hb7.o.size));have U8:=B9.size;obtain⟨w11,ae1⟩:∃z,((w10.setCell ⟨h2,0,none⟩ (.pointer (some ⟨x,0,none⟩))).setCell ⟨h2+1,0,none⟩ (.int .i64 0))=z:=⟨_,rfl⟩;have N2:Hid (dK w11 h2 121 #[.pointer (some ⟨x,0,none⟩)]):=by rw[<-ae1];exact aI ((L2.o.dQ 0 _).far hne _)
 have N3:Hid (dK w11 (h2+1) 28 #[.int .i64 0]):=by rw[<-ae1];exact aI (M3.o.dQ 0 _)
 have T11:Touch (fun k=>k=h2\/k=h2+1) w10 w11:=by rw[<-ae1];exact((Touch.refl _ w10).setCell (p:=⟨h2,0,none⟩) (.inl (.inl rfl)) _).setCell (p:=⟨h2+1,0,none⟩) (.inl (.inr rfl)) _
 have hnF:∀k,Gr (fun _=>False) w9 w10 k->¬(k=h2\/k=h2+1):=fun k hk=>by have:=hk.elim False.elim id;omega
 have HD:=aI ((h_ x lo R dg u m false bk l).far HX.o T11 hnF);have bo1:=aI (aa3.o.trans (T11.below (fun k hk=>by have:=HH2.o;rcases hk with h|h<;>omega) aa3.o.size))
 have g2:=N2.o.cell 0;have g3:=N3.o.cell 0;simp only[aK,aJ] at g2 g3;rw[ae1];clear ae1 T11 T13 T12 T10 T9 Td p3 r3 i40 i41
 go_wp2_with fail;refine(rM _).mono ?_
 rintro e w' ⟨rfl,rfl⟩
 go_wp2_with fail;refine(CW.o _ _ w11 HD.o).mono ?_
 rintro e w12 ⟨v7,rfl,o7,jD⟩;have O7:=aI o7;have HD7:=aI ((h_ x lo R dg u m false bk l).keep HD.o jD);have bo2:=aI (bo1.o.trans (jD.mono bo1.o.size));have S2:=aI (N2.o.keep jD);have S3:=aI (N3.o.keep jD);have lN3:=N3.o.lt;clear o7 g2 g3;have x3:=S3.o.cell 0;have y3:=S3.o.frozen 0;simp only[aK,aJ] at x3;obtain⟨w13,bf4⟩:∃z,w12.setCell ⟨h2+1,0,none⟩ (.int .i64 0)=z:=⟨_,rfl⟩;have U2:Hid (dK w13 h2 121 #[.pointer (some ⟨x,0,none⟩)]):=by rw[<-bf4];exact aI (S2.o.far hne _)
 have U3:Hid (dK w13 (h2+1) 28 #[.int .i64 0]):=by rw[<-bf4];exact aI (S3.o.dQ 0 _)
 have T13:Hid (Touch (fun k=>k=h2\/k=h2+1) w12 w13):=by rw[<-bf4];exact aI ((Touch.refl _ w12).setCell (p:=⟨h2+1,0,none⟩) (.inl (.inr rfl)) _)
 have bx9:=aI ((h_ x lo R dg u m false bk l).far HD7.o T13.o hnF);have bf5:=aI (bo2.o.trans (T13.o.below (fun k hk=>by have:=HH2.o;rcases hk with h|h<;>omega) bo2.o.size))
 have O13:Hid (OwnB w11.heap.size w13 v7 bs):=aI (dP.stay O7.o (fun k e=>T13.o.block k (dP.lt O7.o k e).2 (fun h=>by have:=(dP.lt O7.o k e).1;rcases h with h|h<;>omega)))
 have EQ:=aI (lF v7 (.slice (some ⟨g0,o0,none⟩) n0 c0) bs bs w13 (dP.rd O13.o) (Rd.keep HR.o bf5.o) (by rw[Vm.o];exact ap7) (by rw[Vm.o];exact ap7))
 rw[decide_eq_true rfl] at EQ;have j3:=U3.o.cell 0;simp only[aK,aJ] at j3
 go_wp2_with (first|(go_at_call 133;refine(EQ.o).mono ?_;rintro e w14 ⟨rfl,Gs⟩;have k2:=(U2.o.keep Gs).cell 0;have k3:=(U3.o.keep Gs).cell 0;have q2:=(U2.o.keep Gs).frozen 0;have q3:=(U3.o.keep Gs).frozen 0;simp only[aK,aJ] at k2 k3;have ce1:=Gs)|(go_at_call 270;refine(rM _).mono ?_;rintro e w' ⟨rfl,rfl⟩))
 refine(show Leaves prog Tryz.f202 _ _ _ .returning _ from ?_)
 obtain⟨w15,aq6⟩:∃z,(w14.setCell ⟨h2,0,none⟩ (.pointer (some ⟨x,0,none⟩))).setCell ⟨h2+1,0,none⟩ (.int .i64 0)=z:=⟨_,rfl⟩;have V2:dK w15 h2 121 #[.pointer (some ⟨x,0,none⟩)]:=by rw[<-aq6];exact((U2.o.keep Gs).dQ 0 _).far hne _
 have V3:dK w15 (h2+1) 28 #[.int .i64 0]:=by rw[<-aq6];exact((U3.o.keep Gs).far (p:=⟨h2,0,none⟩) ag _).dQ 0 _
 have T15:Touch (fun k=>k=h2\/k=h2+1) w14 w15:=by rw[<-aq6];exact((Touch.refl _ w14).setCell (p:=⟨h2,0,none⟩) (.inl (.inl rfl)) _).setCell (p:=⟨h2+1,0,none⟩) (.inl (.inr rfl)) _
 have bo3:=(h_ x lo R dg u m false bk l).far ((h_ x lo R dg u m false bk l).keep bx9.o Gs) T15 hnF;have bo4:=bf5.o.trans (Gs.mono bf5.o.size);have bo5:=bo4.trans (T15.below (fun k hk=>by have:=HH2.o;rcases hk with h|h<;>omega) bo4.size)
 rw[aq6];refine TJ h2 (h2+1) _ _ _ rfl rfl _ (V2.cell 0) (V3.cell 0) ⟨x,rfl,(h_ x lo R dg u m false bk l).more bo3 (fun k hk=>?_) (jU (fun k h=>h.elim) bo5.size),bo5⟩
 have h1:=(h_ x lo R dg u m false bk l).low bo3 k hk;have h2':=hk.elim False.elim id;exact .inr ⟨bJ Hb7.o.size (bJ U8 h2'.1),h1⟩
end Go.Proofs.YtilcnjbpmoijmaaGreat.D
