/- Parts of a proof. No condition. -/
import Derived.Test.YtilcnjbpmoijmaaGreatPw18
import Derived.Test.YtilcnjbpmoijmaaGreatPw08
set_option maxRecDepth 100000
set_option maxHeartbeats 16000000
set_option linter.unusedVariables false
set_option linter.unusedSimpArgs false
namespace Go.Proofs.YtilcnjbpmoijmaaGreat.D
open Tryz
open Go.RowKit
variable{a b base m:Nat}{v:Int}{l:List Pr}{w w':World}
theorem Va:∀(b a:List Pr),(gG a b).length<=a.length+b.length
 | [],a=>by simp[zf]
 | p::b,a=>by
  have h1:=Va b (gz p.1 p.2 a);have h2:=(xW p.1 p.2 a).2;rw[zi];simp only[aU];omega
theorem ZQ(v:Value)(l:List Pr)(m:Nat)(w:World)(h:iM fZ w v l)(hp:gK l)(ht:tot l<=4611686018427387904)(hm:0<m)(hm1:m<=1000000)(hl:l.length<=1000000000) :
 aH 226 #[v,.int .i64 m] w fun e w'=>∃v',e=.returned (.tuple #[v',.int .u64 (dY m l).2])/\iM fZ w' v' (dY m l).1/\Below w.heap.size w w':=by
 obtain⟨A,c,rfl,_,_,hf⟩:=h.form;have HF:=aI hf;have HR:=aI h
 by_cases hle:l.length<=m
 ·rw[lT hle]
  clear h hf hp
  go_enter func226,ntmps226
  go_wp2_with fail
  go_ret2
  exact⟨_,rfl,HR.o,aO _ _⟩
 ·have HB:Hid (∀j,0<=tot (l.take j)/\tot (l.take j)<=4611686018427387904):=aI (fun j=>by have:=lG hp j;omega)
  obtain⟨z,hz⟩:∃z,l.length=z+m:=⟨l.length - m,ae⟩
  have hcu:dY m l=(bump (tot (l.take z)) (l.drop z),tot (l.take z)):=by unfold dY;rw[show l.length - m=z by omega]
  have HPB:Hid (∀(j:Nat) (h:j<l.length),0<l[j].2/\l[j].2<=4611686018427387904):=aI (fun j h=>⟨hp _ (bf h),by have:=pK hp _ (bf h);omega⟩)
  rw[hcu];obtain⟨s,hs⟩:=aF (tot (l.take z));have hb0:=HB.o z;rw[hs] at hb0 |-;have HSE:=aI hs;have hdl:(l.drop z).length=m:=by rw[bu];omega
  obtain⟨BB,WX⟩:∃x,bump s (l.drop z)=x:=⟨_,rfl⟩;have hbl:BB.length=m:=by rw[<-WX,bump_length,hdl]
  have WY:=aI hbl;have HB0:Hid (∀h:z<l.length,BB.take 1=[(l[z].1,l[z].2+s)]):=aI (fun h=>by
   rw[<-WX,List.drop_eq_getElem_cons h];rfl)
  have HB1:Hid (∀k (h:z+k<l.length),0<k->BB.take (k+1)=BB.take k++[(l[z+k].1,l[z+k].2)]):=aI (fun k h h0=>by
   have hk:k<BB.length:=ae
   rw[bg hk]
   congr 2
   have hj:z<l.length:=ae
   have e:BB[k]?=some l[z+k]:=by
    rw[<-WX,List.drop_eq_getElem_cons hj];show((l[z].1,l[z].2+s)::l.drop (z+1))[k]?=_
    obtain⟨k',rfl⟩:∃k',k=k'+1:=⟨k - 1,ae⟩
    rw[aN,List.getElem?_drop,show z+1+k'=z+(k'+1) by omega,a_ h]
   exact(List.getElem?_eq_some_iff.1 e).2)
  rw[WX];have hlz:(l.length:Int) - (m:Int)=(z:Int):=ae
  have hzl:z+m<=l.length/\l.length<=z+m:=ae
  clear h hf hp hcu WX hbl hdl hs hz
  go_enter func226,ntmps226
  go_wp2_with fail
  go_loopg [6,7] z (fun q s x wr=>(∃j:Nat,q=z - j/\j<=z/\x=.int .i64 j/\s=.int .u64 (tot (l.take j)))/\w=wr)
  case atStart=>exact⟨⟨0,rfl,ae,rfl,rfl⟩,rfl⟩
  case round=>
   obtain⟨⟨j,hq,hj,rfl,rfl⟩,rfl⟩:=hrel;have HQ:=aI hq;clear hq
   by_cases hlt:j<z
   ·have hjl:j<l.length:=ae
    obtain⟨g,off,rfl,hg,c0,c1⟩:=jQ HF.o hjl;have HS:=aI (iC hjl);have b1:=HB.o j;have b2:=HB.o (j+1);rw[HS.o] at b2;have hji:(j:Int)<(l.length:Int):=ae
    have hjz:(j:Int)<(z:Int):=ae
    obtain⟨s',hs⟩:∃s,tot (l.take j)=s:=⟨_,rfl⟩;rw[hs] at HS b1 b2 |-;clear hs;generalize l[j].1=x at *;generalize l[j].2=n at *
    go_wp2_with fail
    go_roundg (z - (j+1))
    case measure=>have:=HQ.o;omega
    case rel=>exact⟨⟨j+1,rfl,ae,ai,by rw[HS.o]⟩,rfl⟩
   ·obtain rfl:j=z:=ae
    rw[HSE.o]
    go_wp2_with fail
    go_loopg [8,9] m (fun q u x wr=>∃(k:Nat) (out:List Pr),q=m - k/\k<=m/\x=.int .i64 ((j+k:Nat):Int)/\Hid (dL fZ w.heap.size wr u out)/\Hid (out=BB.take k)/\Below w.heap.size w wr)
    case atStart=>exact⟨0,[],rfl,ae,ag,aI (dL.nil_ _ _),aI ag,aO _ _⟩
    case round=>
     obtain⟨k,out,hq,hk,rfl,HO,HE,hb⟩:=hrel;have HQ:=aI hq;have hz2:=hb.size;clear hq;obtain⟨A5,c5,rfl,_,_,_⟩:=HO.o.form
     by_cases hlt:k<m
     ·have hjl:j+k<l.length:=ae
      obtain⟨g,off,rfl,hg,Vb,WZ⟩:=jQ HF.o hjl;have c0:=(hb.cell (p:=⟨g,off+(j+k) * 2,none⟩) hg).trans Vb;have c1:=(hb.cell (p:=⟨g,off+(j+k) * 2+1,none⟩) hg).trans WZ;clear Vb WZ;have hji:((j+k:Nat):Int)<(l.length:Int):=ae
      have hpb:=HPB.o _ hjl;have hol:out.length=k:=by rw[HE.o,bG];have:=WY.o;omega
      by_cases hk0:k=0
      ·subst hk0
       obtain rfl:out=[]:=bz hol;have HN:=aI (HB0.o hjl);simp only[Nat.add_zero] at c0 c1 hji hpb;generalize l[j].1=x at *;generalize l[j].2=n at *;clear hol
       go_wp2_with (at_builtin;refine uk zq rfl (.tmp 55) (.tmp 57) rfl ((HO.o.alloc _).alloc _) rfl _ [(x,n+s)] rfl (iM.fK (E:=fZ) _ (x,n+s) _ rfl _ rfl _ ag) ag aj ?_;intro v6 w6 o6 g6 _;have ZR:Hid (Below w.heap.size w w6):=aI (((hb.alloc hz2 _).alloc ah _).grown g6 ah (fun k hk=>(HO.o.lt k hk).1));have O6:=aI o6;clear o6 g6)
       go_roundg (m - 1)
       case measure=>have:=HQ.o;omega
       case rel=>exact⟨1,_,rfl,ae,ai,O6,aI (by rw[HN.o];rfl),ZR.o⟩
      ·have HN:=aI (HB1.o k hjl ae)
       have hl0:((out.length:Int) == 0)=false:=by rw[hol];simp;omega
       have cf9:out.length<=1000000:=ae
       generalize l[j+k].1=x at *;generalize l[j+k].2=n at *;clear hol
       go_wp2_with (at_builtin;refine uk zq rfl (.tmp 55) (.tmp 57) rfl ((HO.o.alloc _).alloc _) rfl _ [(x,n)] rfl (iM.fK (E:=fZ) _ (x,n) _ rfl _ rfl _ ag) ah aj ?_;intro v6 w6 o6 g6 _;have ZR:Hid (Below w.heap.size w w6):=aI (((hb.alloc hz2 _).alloc ah _).grown g6 ah (fun k hk=>(HO.o.lt k hk).1));have O6:=aI o6;clear o6 g6)
       go_roundg (m - (k+1))
       case measure=>have:=HQ.o;omega
       case rel=>exact⟨k+1,_,rfl,ae,ai,O6,aI (by rw[HN.o,HE.o]),ZR.o⟩
     ·obtain rfl:k=m:=ae
      have hjk:¬((j+k:Nat):Int)<(l.length:Int):=ae
      have HE2:Hid (out=BB):=aI (by rw[HE.o,bP (by have:=WY.o;omega)])
      go_wp2_with fail
      go_ret2
      exact⟨_,rfl,by rw[<-HE2.o];exact HO.o.rd,hb⟩
theorem W_(v:Value)(l:List Pr)(m:Nat)(w:World)(h:iM fZ w v l)(hp:gK l)(ht:tot l<=4611686018427387904)(hm:0<m)(hm1:m<=1000000)(hl:l.length<=1000000000) :
 aH 147 #[v,.int .i64 m] w fun e w'=>∃v',e=.returned (.tuple #[v',.int .u64 (dY m l).2])/\iM fZ w' v' (dY m l).1/\Below w.heap.size w w':=by
 have C:=aI (ZQ v l m w h hp ht hm hm1 hl);clear h hp
 go_enter func147,ntmps147
 go_wp2_with fail;refine(C.o).mono ?_
 rintro e w1 ⟨v1,rfl,r1,hb1⟩
 go_wp2_with fail
 go_ret2
 exact⟨_,rfl,r1,hb1⟩
open Tryz
open Go.RowKit
theorem bw5{k j:IntKind}{a b c d:Int}(h:a=b)(g:c=d):Ending.returned (.tuple #[.int k a,.int j c])=.returned (.tuple #[.int k b,.int j d]):=by rw[h,g]
def kyS(l:List Sp)(v:Int):Nat:=l.findIdx fun s=>decide (v<=s.high)
def Jh(a:Nat)(v:Int):Int:=if v=0 then 0 else if 0<v then 1+(kyS (spans a) v:Nat) else -(1+(kyS (spans a) (-v):Nat))
def hiP(l:List Sp)(v:Int)(i:Nat):Bool:=match l[i]? with
 | some s=>decide (v<=s.high)
 | none=>true
theorem zB(ha:100<=a)(hb:a<=5000)(hv:v<=9223372036854775807):kyS (spans a) v<(spans a).length/\(spans a).length<=2100:=by
 obtain⟨_,_,h3,s,h4,h5⟩:=u_ ha hb;refine⟨List.findIdx_lt_length_of_exists ⟨s,List.mem_of_getLast? h4,?_⟩,h3⟩
 simp only[decide_eq_true_eq];omega
theorem bl6(ha:100<=a)(hb:a<=5000)(h0:-9223372036854775808<v)(h1:v<=9223372036854775807):-2100<=Jh a v/\Jh a v<=2100:=by
 have e1:=zB ha hb h1;have e2:=zB ha hb (v:=-v) ae
 unfold Jh
 split
 ·omega
 ·split<;>omega
theorem ZV{l:List Sp}{i:Nat}(hi:i<=l.length)(h1:∀t,t<i->hiP l v t=false)(h2:∀t,i<=t->t<l.length->hiP l v t=true):i=kyS l v:=by
 unfold kyS
 rcases bV i l.length with h|h
 ·refine((List.findIdx_eq h).2 ⟨?_,fun j hj=>?_⟩).symm
  ·have:=h2 i (aS _) h
   unfold hiP at this
   rwa [a_ h] at this
  ·have:=h1 j hj
   unfold hiP at this
   rwa [a_ ae] at this
 ·obtain rfl:i=l.length:=ae
  refine(List.findIdx_eq_length_of_false fun s hs=>?_).symm
  obtain⟨j,hj,rfl⟩:=List.mem_iff_getElem.1 hs;have:=h1 j hj;unfold hiP at this
  rwa [a_ hj] at this
theorem ZW(ha:100<=a)(hb:a<=5000)(v:Int)(i j:Nat)(hij:i<=j)(hj:j<(spans a).length)(h:hiP (spans a) v i=true):hiP (spans a) v j=true:=by
 obtain⟨h1,h2,_⟩:=u_ ha hb;unfold hiP at *;rw[a_ hj];rw[a_ ae] at h
 simp only[decide_eq_true_eq] at *
 rcases Nat.lt_or_eq_of_le hij with h3|rfl
 ·have h4:=List.pairwise_iff_getElem.1 h2 i j ae hj h3
  have h5:=h1 _ (bf hj);omega
 ·exact h
theorem FV.keep{base:Nat}{w w':World}{b a:Nat}(h:FV base w b a)(hb:Below w.heap.size w w'):FV base w' b a:=by
 obtain⟨h1,v,h2,h3⟩:=h;exact⟨h1,v,h2.keep hb,h3.keep hb⟩
theorem an8(w:World)(h:FV base w b a):aH 162 #[.pointer (some ⟨b,0,none⟩)] w fun e w'=>e=.returned (.int .i64 a)/\w=w':=by
 obtain⟨_,v,h2,_⟩:=h;have c0:=h2.cell 0;simp only[aK,aJ] at c0
 go_enter func162,ntmps162
 go_wp2
 go_ret;exact⟨rfl,rfl⟩
theorem ZX(p q b g off c:Nat)(l:List Sp)(x v:Int)(i:Nat)(W:World)(hi:i<l.length)(hl:l.length<=2100)
 (hp:W.cell? ⟨p,0,none⟩=some (.pointer (some ⟨b,0,none⟩))) (hq:W.cell? ⟨q,0,none⟩=some (.int .i64 v)) (hb:W.cell? ⟨b,1,none⟩=some (.slice (some ⟨g,off,none⟩) l.length c)) (hc:W.cell? ⟨g,off+i * 3+2,none⟩=some (.int .i64 x)) :
 aH 262 (#[.int .i64 i]++#[.pointer (some ⟨p,0,none⟩),.pointer (some ⟨q,0,none⟩)]) W fun e w'=>e=.returned (.bool (decide (v<=x)))/\∃q,w'=W.drewN q:=by
 have hiz:(i:Int)<(l.length:Int):=ae
 have hi0:(0:Int)<=(i:Int):=ae
 go_enter func262,ntmps262
 go_wp2_with fail
 go_quiet (fail)
 go_wp2_with fail
 go_ret;exact⟨rfl,_,rfl⟩
theorem Vd(v:Int)(w:World)(h:FV base w b a)(ha:100<=a)(hb:a<=5000)(h0:0<v)(h1:v<=9223372036854775807) :
 aH 198 #[.pointer (some ⟨b,0,none⟩),.int .i64 v] w fun e w'=>e=.returned (.tuple #[.int .i64 (1+(kyS (spans a) v:Nat)),.int .i64 0])/\Below w.heap.size w w':=by
 have hmo:=ZW ha hb v;have hlt:=zB ha hb h1;obtain⟨hb0,sv,hB,hO⟩:=h;obtain⟨l,hl⟩:=aF (spans a);rw[hl] at hmo hlt hO |-;clear hl ha hb;obtain⟨g,c,rfl,_,hg,_,_⟩:=hO.pos ae
 have k1:=hB.cell 1;simp only[aK,aJ,aN] at k1;have hbl:=hB.lt;have hce:∀i (hi:i<l.length),w.cell? ⟨g,0+i * 3+2,none⟩=some (.int .i64 (l[i]).high):=fun i hi=>by
  rw[Nat.zero_add];exact hO.cellAt hi 2 af
 have HC:=aI hce;have K1:=aI k1;have HM:=aI hmo;clear hce hB hO hb0 hmo k1;have hv0:¬v=-9223372036854775808:=ae
 have hv1:¬v=0:=ae
 have hv2:¬v<0:=ae
 have eg:∀args w,(callFunc 262 args).run prog w=.ok (.enter 262 args) w:=fun _ _=>rfl
 have HW:Hid (Below w.heap.size w ((w.alloc (.cells #[.pointer (some ⟨b,0,none⟩)] 194)).alloc (.cells #[.int .i64 v] 2))):=aI (bw);have P0:Hid (((w.alloc (.cells #[.pointer (some ⟨b,0,none⟩)] 194)).alloc (.cells #[.int .i64 v] 2)).cell? ⟨w.heap.size,0,none⟩=some (.pointer (some ⟨b,0,none⟩))):=aI (by simp[World.cell?_alloc_new])
 have P1:Hid (((w.alloc (.cells #[.pointer (some ⟨b,0,none⟩)] 194)).alloc (.cells #[.int .i64 v] 2)).cell? ⟨w.heap.size+1,0,none⟩=some (.int .i64 v)):=aI (by simp[World.cell?_alloc_new])
 have HK:Hid (aH 261 #[.int .i64 l.length,.func (.func 262) #[] #[.pointer (some ⟨w.heap.size,0,none⟩),.pointer (some ⟨w.heap.size+1,0,none⟩)]] ((w.alloc (.cells #[.pointer (some ⟨b,0,none⟩)] 194)).alloc (.cells #[.int .i64 v] 2)) (Found l.length (hiP l v) ((w.alloc (.cells #[.pointer (some ⟨b,0,none⟩)] 194)).alloc (.cells #[.int .i64 v] 2)))):=by
  generalize (w.alloc (.cells #[.pointer (some ⟨b,0,none⟩)] 194)).alloc (.cells #[.int .i64 v] 2)=W at *;refine aI (QW 262 _ l.length (hiP l v) W eg ae (fun m i hi=>?_) HM.o)
  have hc:=(HW.o.cell (p:=⟨g,0+i * 3+2,none⟩) hg).trans (HC.o i hi);have hk:=(HW.o.cell (p:=⟨b,1,none⟩) hbl).trans K1.o;have:=ZX w.heap.size (w.heap.size+1) b g 0 c l (l[i]).high v i (W.drewN m) hi ae P0.o P1.o hk hc
  unfold hiP;rw[a_ hi];exact this
 have k1:=K1.o;clear HM eg HC K1 P0 P1
 go_enter func198,ntmps198
 go_wp2_with fail;refine(HK.o).mono ?_
 rintro e w' ⟨i,q,rfl,hi,f1,f2,rfl⟩;obtain rfl:=ZV hi f1 f2;clear f1 f2
 go_wp2_with fail
 go_ret2
 exact⟨rfl,below_drewN HW.o _⟩
theorem an9(v:Int)(w:World)(h:FV base w b a)(ha:100<=a)(hb:a<=5000)(h0:-9223372036854775808<v)(h1:v<=9223372036854775807) :
 aH 198 #[.pointer (some ⟨b,0,none⟩),.int .i64 v] w (aG w (.tuple #[.int .i64 (Jh a v),.int .i64 0])):=by
 by_cases hp:0<v
 ·have e:Jh a v=1+(kyS (spans a) v:Nat):=by unfold Jh;rw[if_neg ae,if_pos hp]
  rw[e];exact Vd v w h ha hb hp h1
 ·have hv0:¬v=-9223372036854775808:=ae
  by_cases hz:v=0
  ·subst hz
   have e:Jh a 0=0:=rfl;rw[e]
   go_enter func198,ntmps198
   go_wp2_with fail
   go_ret2
   exact⟨rfl,bw⟩
  ·have hn:v<0:=ae
   have e:Jh a v=-(1+(kyS (spans a) (-v):Nat)):=by unfold Jh;rw[if_neg hz,if_neg hp]
   rw[e];have hb1:Below w.heap.size w ((w.alloc (.cells #[.pointer (some ⟨b,0,none⟩)] 194)).alloc (.cells #[.int .i64 v] 2)):=bw;have C1:=aI (Vd (-v) _ (h.keep hb1) ha hb ae  ae)
   have hk:=zB ha hb (v:=-v) ae
   generalize kyS (spans a) (-v)=k at *;clear hb1 e
   go_enter func198,ntmps198
   go_wp2_with fail;refine(C1.o).mono ?_
   rintro e w1 ⟨rfl,hb1⟩;have hz1:=hb1.size
   go_wp2_with fail
   go_ret2
   exact⟨bw5 ae rfl,bw⟩
theorem ao0(w:World)(_h:FV base w b a) :
 aH 198 #[.pointer (some ⟨b,0,none⟩),.int .i64 (-9223372036854775808)] w (aG w (.tuple #[.int .i64 0,.int .i64 5])):=by
 go_enter func198,ntmps198
 go_wp2_with fail
 go_ret2
 exact⟨rfl,bw⟩
theorem ao1(k:Int)(w:World)(h:FV base w b a)(h0:-((spans a).length:Int)<=k)(h1:k<=((spans a).length:Int))(h2:(spans a).length<=2100)(hs:∀s∈spans a,0<=s.mid/\s.mid<=9223372036854775807) :
 aH 336 #[.pointer (some ⟨b,0,none⟩),.int .i64 k] w fun e w'=>(∃x,e=.returned (.tuple #[.int .i64 x,.int .i64 0]))/\Below w.heap.size w w':=by
 obtain⟨hb0,sv,hB,hO⟩:=h;have k1:=hB.cell 1;simp only[aK,aJ,aN] at k1;obtain⟨l,hl⟩:=aF (spans a);rw[hl] at h0 h1 h2 hs hO;clear hl;obtain⟨A,c,rfl,_,_,hf⟩:=hO.form;have CM:∀(s:Sp) (W:World),Hid (aH 410 #[spV s] W fun e w'=>e=.returned (.int .i64 s.mid)/\Below W.heap.size W w'):=fun s W=>by
  unfold spV;refine aI ?_
  go_enter func410,ntmps410
  go_wp2_with fail
  go_ret;exact⟨rfl,bw⟩
 have HS:Hid (∀s∈l,0<=s.mid/\s.mid<=9223372036854775807):=aI hs;have HF:=aI hf;clear hO hf hB hs;have egm:∀args w,(callFunc 410 args).run prog w=.ok (.enter 410 args) w:=fun _ _=>rfl
 have HSD:Hid (aH 409 #[.pointer (some ⟨b,0,none⟩),.int .i64 k,.func (.func 410) #[] #[],.func (.func 410) #[] #[]] w fun e w'=>(∃x,e=.returned (.tuple #[.int .i64 x,.int .i64 0]))/\Below w.heap.size w w'):=by
  refine aI ?_
  by_cases hk:k=0
  ·subst hk
   have d1:¬((0:Int) > l.length):=ae
   go_enter func409,ntmps409
   go_wp2_with fail
   go_ret2
   exact⟨⟨_,rfl⟩,bw⟩
  ·by_cases hp:0<k
   ·obtain⟨n,rfl⟩:∃n:Nat,k=(n:Int)+1:=⟨(k - 1).toNat,ae⟩
    have hn:n<l.length:=ae
    obtain⟨g,off,rfl,hg,hc⟩:=HF.o ae
    have c0:=hc n hn 0 af
    have c1:=hc n hn 1 af
    have c2:=hc n hn 2 af
    have hnz:(n:Int)<(l.length:Int):=ae
    have CX:=CM (l[n]) w;unfold spV at CX;have hs:=HS.o _ (bf hn);clear hc;generalize l[n]=s at *;simp only[YK,aJ,aN,Nat.add_zero] at c0 c1 c2
    go_enter func409,ntmps409
    go_wp2_with (go_at_fn 410;refine(CX.o).mono ?_;rintro e w1 ⟨rfl,hb1⟩)
    go_ret2
    exact⟨⟨_,rfl⟩,hb1⟩
   ·obtain⟨n,rfl⟩:∃n:Nat,k=-((n:Int)+1):=⟨(-k - 1).toNat,ae⟩
    have hn:n<l.length:=ae
    obtain⟨g,off,rfl,hg,hc⟩:=HF.o ae
    have c0:=hc n hn 0 af
    have c1:=hc n hn 1 af
    have c2:=hc n hn 2 af
    have hnz:(n:Int)<(l.length:Int):=ae
    have CX:=CM (l[n]) w;unfold spV at CX;have hs:=HS.o _ (bf hn);clear hc;generalize l[n]=s at *;simp only[YK,aJ,aN,Nat.add_zero] at c0 c1 c2;have hw:- -((n:Int)+1) - 1=n:=ae
    go_enter func409,ntmps409
    go_wp2_with (go_at_fn 410;refine(CX.o).mono ?_;rintro e w1 ⟨rfl,hb1⟩)
    go_ret2
    exact⟨⟨_,rfl⟩,hb1⟩
 go_enter func336,ntmps336
 go_wp2_with (go_at_call 409;refine(HSD.o).mono ?_;rintro e w1 ⟨⟨x,rfl⟩,hb1⟩)
 go_ret2
 exact⟨⟨_,rfl⟩,hb1⟩
open Tryz
open Go.RowKit
structure kJ(a m:Nat)(l:List Pr):Prop where
 a0:100<=a
 a1:a<=5000
 m0:2<=m
 m1:m<=4096
 iU:gU l
 pos:gK l
 key:∀p∈l,-((spans a).length:Int)<=p.1/\p.1<=((spans a).length:Int)
 sum:tot l<=4611686018427387904
theorem KT{lo hi:Int}:∀{l:List Pr},gU l->(∀p∈l,lo<=p.1/\p.1<=hi)->lo<=hi+1->(l.length:Int)<=hi - lo+1
 | [],_,_,h=>by simp;omega
 | p::l,s,k,_=>by
  have s1:=aZ.1 s;have k0:=k p (aT ..);have:=KT (lo:=p.1+1) (hi:=hi) s1.2 (fun q hq=>⟨by have:=s1.1 q hq;omega,(k q (aY _ hq)).2⟩) ae
  simp only[aU];omega
theorem kJ.len(h:kJ a m l):l.length<=4201:=by
 have h2:=(zB h.a0 h.a1 (v:=0) ae).2
 have:=KT h.iU h.key ae
 omega
theorem kJ.ok(h:kJ a m l):uI l:=⟨h.iU,h.pos,(fun p hp=>by have:=h.key p hp;have h2:=(zB h.a0 h.a1 (v:=0) ae).2;omega),h.sum,by have:=h.len;omega⟩
theorem kJ.cut(h:kJ a m l):uI (dY m l).1/\tot (dY m l).1=tot l/\(dY m l).1.length<=m/\0<=(dY m l).2/\(dY m l).2<=4611686018427387904:=by
 have hm:=h.m0;obtain⟨_,_,h3,h4,h5⟩:=KD (m:=m) ae h.iU h.pos
 refine⟨an7 h.ok ae,h3,h4,h5,?_⟩
 have:=(lG h.pos (l.length - m)).2;have:=h.sum;show D.tot (l.take (l.length - m))<=_
 omega
theorem ba3(ha:100<=a)(hb:a<=5000)(h0:-9223372036854775808<v)(h1:v<=9223372036854775807):-((spans a).length:Int)<=Jh a v/\Jh a v<=((spans a).length:Int):=by
 have e1:=zB ha hb h1;have e2:=zB ha hb (v:=-v) ae
 unfold Jh
 split
 ·omega
 ·split<;>omega
def ddE(a:Nat)(l:List Pr)(v n:Int):Int:=if n=0 then 4 else if v=-9223372036854775808 then 5 else jK l (Jh a v) n
def ddS(a:Nat)(l:List Pr)(v n:Int):List Pr:=if ddE a l v n=0 then gz (Jh a v) n l else l
def ZY(l t:List Pr):List Pr:=if jm l t=0 then gG l t else l
theorem ba4{n:Int}(h:kJ a m l)(v0:-9223372036854775808<=v)(v1:v<=9223372036854775807)(n0:0<=n):kJ a m (ddS a l v n):=by
 unfold ddS
 split
 ·rename_i he
  unfold ddE at he
  split at he
  ·omega
  ·split at he
   ·omega
   ·have hk:=ba3 h.a0 h.a1 (v:=v) ae v1
    have ho:=ZK h.ok he n0 (by have:=h.len;omega)
    exact⟨h.a0,h.a1,h.m0,h.m1,ho.iU,ho.pos,Je h.key hk,ho.tot⟩
 ·exact h
theorem ao2{t:List Pr}(h:kJ a m l)(ht:kJ a m t):kJ a m (ZY l t):=by
 unfold ZY
 split
 ·rename_i he
  unfold jm at he
  split at he
  ·omega
  ·have e:=Kz h.iU ht.iU h.pos ht.pos
   have k:=zA (B:=((spans a).length:Int)) _ l t (aS _) h.key ht.key;rw[e] at k;exact⟨h.a0,h.a1,h.m0,h.m1,nC h.iU,oH h.pos ht.pos,k.2,by rw[sN];omega⟩
 ·exact h
def ScF(b a:Nat)(H:Ft)(w:World):Prop:=∃v,dK w b 321 #[.int .i64 a,v]/\dL (YK 352) 0 w v (spans a)/\H b/\(∀k,v.ownBlock=some k->H k)/\∀k,H k->k<w.heap.size
theorem nI(b a:Nat):jV (ScF b a) where
 stay:=fun⟨v,h1,h2,h3,h4,h5⟩ hk hz=>⟨v,(hk b h3).trans h1,h2.stay fun k e=>hk k (h4 k e),h3,h4,fun k h=>bF (h5 k h) hz⟩
 more:=fun⟨v,h1,h2,h3,h4,_⟩ h hl=>⟨v,h1,h2,h b h3,fun k e=>h k (h4 k e),hl⟩
 low:=fun⟨_,_,_,_,_,h5⟩=>h5
theorem ScF.at_{H:Ft}(h:ScF b a H w):FV 0 w b a:=by
 obtain⟨v,h1,h2,_⟩:=h;exact⟨df _,v,h1,h2⟩
theorem ba5(h:FV w.heap.size w' b a):ScF b a (Gr (fun _=>False) w w') w':=by
 obtain⟨h1,v,h2,h3⟩:=h;exact⟨v,h2,h3.more (df _),.inr ⟨h1,h2.lt⟩,fun k e=>.inr (h3.lt k e),fun k h=>h.elim False.elim And.right⟩
def rq(d a m:Nat)(l:List Pr)(F:Ft)(w:World):Prop:=∃b c H G,dK w d 197 #[.pointer (some ⟨b,0,none⟩),.pointer (some ⟨c,0,none⟩)]/\ScF b a H w/\A_ c m (dY m l).1 (dY m l).2 G w/\F d/\(∀k,H k->F k)/\(∀k,G k->F k)/\¬G d/\(∀k,H k->¬G k)/\∀k,F k->k<w.heap.size
theorem jE(d a m:Nat)(l:List Pr):jV (rq d a m l) where
 stay:=fun⟨b,c,H,G,h1,h2,h3,h4,h5,h6,h7,h8,h9⟩ hk hz=>⟨b,c,H,G,(hk d h4).trans h1,(nI b a).stay h2 (fun k e=>hk k (h5 k e)) hz,(oI _ _ _ _).stay h3 (fun k e=>hk k (h6 k e)) hz,h4,h5,h6,h7,h8,fun k h=>bF (h9 k h) hz⟩
 more:=fun⟨b,c,H,G,h1,h2,h3,h4,h5,h6,h7,h8,_⟩ h hl=>⟨b,c,H,G,h1,h2,h3,h d h4,fun k e=>h k (h5 k e),fun k e=>h k (h6 k e),h7,h8,hl⟩
 low:=fun⟨_,_,_,_,_,_,_,_,_,_,_,_,h9⟩=>h9
def RG(P:Ft->World->Prop)(F:Ft)(er:Int)(w:World)(e:Ending)(w':World):Prop:=e=.returned (.int .i64 er)/\P (Gr F w w') w'/\Touch F w w'
theorem vC{P:Ft->World->Prop}(S:jV P){F:Ft}{er:Int}{e:Ending}(h:P F w)(he:e=.returned (.int .i64 er))(hb:Below w.heap.size w w'):RG P F er w e w':=
 ⟨he,S.more (S.keep h hb) (fun _ h=>.inl h) (jU (S.low h) hb.size),Touch.of_below hb (aS _)⟩
theorem RH(a m:Nat)(w:World)(h0:100<=a)(h1:a<=5000)(h2:2<=m)(h3:m<=4096) :
 aH 205 #[.int .i64 a,.int .i64 m] w fun e w'=>∃d,e=.returned (.tuple #[.pointer (some ⟨d,0,none⟩),.int .i64 0])/\rq d a m [] (Gr (fun _=>False) w w') w'/\Below w.heap.size w w':=by
 go_enter func205,ntmps205
 go_wp2_with fail;refine(Jf a w h0 h1).mono ?_
 rintro e w1 ⟨b,rfl,s1,hb1⟩;have hz1:=hb1.size;have S1:=aI (ba5 s1);clear s1
 go_wp2_with fail;refine(ZM m w1 h2 h3).mono ?_
 rintro e w2 ⟨c,rfl,s2,hb2⟩;have hz2:=hb2.size;have S2:=aI s2;clear s2
 go_wp2_with fail
 go_ret2
 have hb3:Below w2.heap.size w2 (w2.alloc (.cells #[.pointer (some ⟨b,0,none⟩),.pointer (some ⟨c,0,none⟩)] 197)):=bw;refine⟨_,rfl,⟨b,c,Gr (fun _=>False) w w1,Gr (fun _=>False) w1 w2,dK.new _ _ _,(nI b a).keep S1.o (hb2.trans (hb3.mono hz2)),?_,.inr ⟨by omega,ag⟩,fun k h=>.inr ⟨(h.elim False.elim And.left),?_⟩,fun k h=>.inr ⟨?_,?_⟩,?_,fun k h h'=>?_,fun k h=>h.elim False.elim And.right⟩,bw⟩
 ·have:dY m []=([],0):=lT ag
  rw[this];exact(oI _ _ _ _).keep S2.o hb3
 ·have:=(nI b a).low S1.o k h;simp;omega
 ·have:=(h.elim False.elim And.left);omega
 ·have:=(oI _ _ _ _).low S2.o k h;simp;omega
 ·intro h;have:=(oI _ _ _ _).low S2.o _ h;omega
 ·have h1:=(nI b a).low S1.o k h
  have h2:=(h'.elim False.elim And.left);omega
theorem bl7(a m:Int)(w:World)(h:a<100\/5000<a\/m<2\/4096<m) :
 aH 205 #[.int .i64 a,.int .i64 m] w (aG w (.tuple #[.pointer none,.int .i64 1])):=by
 by_cases ha:a<100\/5000<a
 ·have C:=aI (ZG a w ha)
  go_enter func205,ntmps205
  go_wp2_with fail;refine(C.o).mono ?_
  rintro e w' ⟨rfl,rfl⟩
  go_wp2_with fail
  go_ret2
  exact⟨rfl,aO _ _⟩
 ·obtain⟨n,rfl⟩:=Int.eq_ofNat_of_zero_le (a:=a) ae
  have C:=aI (Jf n w ae  ae)
  have C2:=fun w=>aI (bl4 m w ae)
  go_enter func205,ntmps205
  go_wp2_with fail;refine(C.o).mono ?_
  rintro e w1 ⟨b,rfl,_,hb1⟩
  go_wp2_with fail;refine((C2 w1).o).mono ?_
  rintro e w' ⟨rfl,rfl⟩
  go_wp2_with fail
  go_ret2
  exact⟨rfl,hb1⟩
section
variable {d a m : Nat} {l : List Pr} {F : Ft}
theorem Be(w:World)(h:rq d a m l F w):aH 98 #[.pointer (some ⟨d,0,none⟩)] w fun e w'=>e=.returned (.int .i64 a)/\w=w':=by
 obtain⟨b,c,H,G,hB,hS,_⟩:=h;have C:=aI (an8 w hS.at_);have k0:=hB.cell 0;simp only[aK,aJ] at k0;clear hB hS
 go_enter func98,ntmps98
 go_wp2_with fail;refine(C.o).mono ?_
 rintro e w' ⟨rfl,rfl⟩
 go_wp2_with fail
 go_ret;exact⟨rfl,rfl⟩
theorem wL(w:World)(h:rq d a m l F w):aH 99 #[.pointer (some ⟨d,0,none⟩)] w fun e w'=>e=.returned (.int .i64 m)/\w=w':=by
 obtain⟨b,c,H,G,hB,_,hC,_⟩:=h;obtain⟨g,hR⟩:=hC.r;obtain⟨G',hR,_⟩:=hR;have C:Hid (aH 163 #[.pointer (some ⟨c,0,none⟩)] w fun e w'=>e=.returned (.int .i64 m)/\w=w'):=by
  have k0:=hR.cell 0;simp only[aK,aJ] at k0;clear hR hC hB;refine aI ?_
  go_enter func163,ntmps163
  go_wp2_with fail
  go_ret;exact⟨rfl,rfl⟩
 have k1:=hB.cell 1;simp only[aK,aJ,aN] at k1;clear hB hR hC
 go_enter func99,ntmps99
 go_wp2_with fail;refine(C.o).mono ?_
 rintro e w' ⟨rfl,rfl⟩
 go_wp2_with fail
 go_ret;exact⟨rfl,rfl⟩
theorem Xa(w:World)(h:rq d a m l F w):aH 167 #[.pointer (some ⟨d,0,none⟩)] w fun e w'=>e=.returned (.int .u64 (dY m l).2)/\w=w':=by
 obtain⟨b,c,H,G,hB,_,hC,_⟩:=h;obtain⟨g,hR⟩:=hC.r;obtain⟨G',hR,_⟩:=hR;have C:Hid (aH 240 #[.pointer (some ⟨c,0,none⟩)] w fun e w'=>e=.returned (.int .u64 (dY m l).2)/\w=w'):=by
  have k0:=hR.cell 2;simp only[aK,aJ,aN] at k0;clear hR hC hB;refine aI ?_
  go_enter func240,ntmps240
  go_wp2_with fail
  go_ret;exact⟨rfl,rfl⟩
 have k1:=hB.cell 1;simp only[aK,aJ,aN] at k1;clear hB hR hC
 go_enter func167,ntmps167
 go_wp2_with fail;refine(C.o).mono ?_
 rintro e w' ⟨rfl,rfl⟩
 go_wp2_with fail
 go_ret;exact⟨rfl,rfl⟩
theorem ZZ(w:World)(h:rq d a m l F w)(ok:kJ a m l):aH 56 #[.pointer (some ⟨d,0,none⟩)] w fun e w'=>e=.returned (.int .u64 (tot l))/\w=w':=by
 obtain⟨b,c,H,G,hB,_,hC,_⟩:=h;obtain⟨g,G',hR,hS⟩:=hC.r;have C0:=aI (Rz w hS);rw[ok.cut.2.1] at C0;have C:Hid (aH 106 #[.pointer (some ⟨c,0,none⟩)] w fun e w'=>e=.returned (.int .u64 (tot l))/\w=w'):=by
  have k0:=hR.cell 1;simp only[aK,aJ,aN] at k0;clear hR hC hB hS;refine aI ?_
  go_enter func106,ntmps106
  go_wp2_with fail;refine(C0.o).mono ?_
  rintro e w' ⟨rfl,rfl⟩
  go_wp2_with fail
  go_ret;exact⟨rfl,rfl⟩
 have k1:=hB.cell 1;simp only[aK,aJ,aN] at k1;clear hB hR hC hS
 go_enter func56,ntmps56
 go_wp2_with fail;refine(C.o).mono ?_
 rintro e w' ⟨rfl,rfl⟩
 go_wp2_with fail
 go_ret;exact⟨rfl,rfl⟩
theorem Z4(w:World)(h:rq d a m l F w)(ok:kJ a m l):aH 166 #[.pointer (some ⟨d,0,none⟩)] w fun e w'=>∃v,e=.returned v/\dL fZ w.heap.size w' v (dY m l).1/\Below w.heap.size w w':=by
 obtain⟨b,c,H,G,hB,_,hC,_⟩:=h;obtain⟨g,G',hR,hS⟩:=hC.r;have C0:=aI (Jg w hS ok.cut.1.len);have C:Hid (aH 239 #[.pointer (some ⟨c,0,none⟩)] w fun e w'=>∃v,e=.returned v/\dL fZ w.heap.size w' v (dY m l).1/\Below w.heap.size w w'):=by
  have k0:=hR.cell 1;simp only[aK,aJ,aN] at k0;clear hR hC hB hS;refine aI ?_
  go_enter func239,ntmps239
  go_wp2_with fail;refine(C0.o).mono ?_
  rintro e w1 ⟨v1,rfl,o1,hb1⟩
  go_wp2_with fail
  go_ret;exact⟨_,rfl,o1,hb1⟩
 have k1:=hB.cell 1;simp only[aK,aJ,aN] at k1;clear hB hR hC hS
 go_enter func166,ntmps166
 go_wp2_with fail;refine(C.o).mono ?_
 rintro e w1 ⟨v1,rfl,o1,hb1⟩
 go_wp2_with fail
 go_ret;exact⟨_,rfl,o1,hb1⟩
end
open Tryz
open Go.RowKit
variable{F:Ft}{w w':World}{l l':List Pr}{a d m:Nat}
theorem Ji{P:Ft->World->Prop}(S:jV P){er:Int}{w1:World}{e:Ending}(hb:Below w.heap.size w w1)(h0:∀k,F k->k<w.heap.size)(hm:RG P F er w1 e w'):RG P F er w e w':=
 ⟨hm.1,S.more hm.2.1 (fun k h=>h.imp id fun h=>⟨bJ hb.size h.1,h.2⟩) (jU h0 (bJ hb.size hm.2.2.size)),Rw hb hm.2.2⟩
theorem Xb(h:tot l=tot l')(k n:Int):jK l k n=jK l' k n:=by unfold jK;rw[h]
theorem RI{t t':List Pr}(h:tot l=tot l')(h':tot t=tot t'):jm l t=jm l' t':=by unfold jm;rw[h,h']
theorem Ve{b c:Nat}{H G:Ft}(hB:dK w d 197 #[.pointer (some ⟨b,0,none⟩),.pointer (some ⟨c,0,none⟩)])(hS:ScF b a H w)(Xc:F d)(hH:∀k,H k->F k)(hG:∀k,G k->F k)(Vf:¬G d)(Xd:∀k,H k->¬G k)(hF:∀k,F k->k<w.heap.size)
 (hc:A_ c m (dY m l').1 (dY m l').2 (Gr G w w') w') (ht:Touch G w w'):rq d a m l' (Gr F w w') w'/\Touch F w w':=
 ⟨⟨b,c,H,Gr G w w',(ht.block d hB.lt Vf).trans hB,(nI b a).far hS ht Xd,hc,.inl Xc,fun k h=>.inl (hH k h),fun k h=>h.imp (hG k) id,fun h=>h.elim Vf (fun h=>by have:=hB.lt;omega),fun k h h'=>h'.elim (Xd k h) (fun h'=>by have:=(nI b a).low hS k h;omega),jU hF ht.size⟩,ht.mono hG⟩
theorem ba6(v n:Int)(w:World)(h:rq d a m l F w)(ok:kJ a m l)(v0:-9223372036854775808<=v)(v1:v<=9223372036854775807)(n0:0<=n)(n1:n<18446744073709551616) :
 aH 122 #[.pointer (some ⟨d,0,none⟩),.int .i64 v,.int .u64 n] w (RG (rq d a m (ddS a l v n)) F (ddE a l v n) w):=by
 have HH:=aI h;obtain⟨b,c,H,G,hB,hS,hC,Xc,hH,hG,Vf,Xd,hF⟩:=h;obtain⟨k0,k1⟩:=hB.c2;have hdl:=hB.lt;have X:=aI (aP hB (aP hS (aP hC (aP Xc (aP hH (aP hG (aP Vf (aP Xd hF))))))));clear hB hC Xc hH hG Vf Xd hF
 by_cases hn:n=0
 ·have e1:ddE a l v n=4:=if_pos hn
  have e2:ddS a l v n=l:=by unfold ddS;rw[e1];rfl
  rw[e1,e2];clear e1 e2 hS
  go_enter func122,ntmps122
  go_wp2_with fail
  go_ret;exact vC (jE d a m l) HH.o rfl (aO _ _)
 ·by_cases hv:v=-9223372036854775808
  ·subst hv
   have e1:ddE a l (-9223372036854775808) n=5:=by unfold ddE;rw[if_neg hn,if_pos rfl]
   have e2:ddS a l (-9223372036854775808) n=l:=by unfold ddS;rw[e1];rfl
   rw[e1,e2];have CK:=aI (ao0 w hS.at_);clear e1 e2 hS
   go_enter func122,ntmps122
   go_wp2_with fail;refine(CK.o).mono ?_
   rintro e w1 ⟨rfl,hb1⟩
   go_wp2_with fail
   go_ret;exact vC (jE d a m l) HH.o rfl hb1
  ·have e1:ddE a l v n=jK l (Jh a v) n:=by unfold ddE;rw[if_neg hn,if_neg hv]
   have HE2:Hid (ddS a l v n=if jK l (Jh a v) n=0 then gz (Jh a v) n l else l):=aI (by unfold ddS;rw[e1])
   rw[e1];have CK:=aI (an9 v w hS.at_ ok.a0 ok.a1 ae v1)
   obtain⟨k1',k2',k3',k4',k5'⟩:=ok.cut;have hk:=bl6 ok.a0 ok.a1 (v:=v) ae v1
   have HPS:=aI (ZE (m:=m) (by have:=ok.m0;omega) ok.iU ok.pos (Jh a v) n ae)
   have CA:Hid (∀w1,Below w.heap.size w w1->_):=aI (fun w1 hb=>ZO (k:=Jh a v) (n:=n) w1 ((oI _ _ _ _).keep X.o.2.2.1 hb) k1' k3' ok.m0 ok.m1 k4' k5' n0 n1)
   rw[Xb k2'] at CA;generalize Jh a v=k at *;generalize jK l k n=er at *;clear hS e1 k1' k2' k3' k4' k5'
   go_enter func122,ntmps122
   go_wp2_with fail;refine(CK.o).mono ?_
   rintro e w1 ⟨rfl,hb1⟩;have cg0:=(hb1.cell (p:=⟨d,1,none⟩) hdl).trans k1
   go_wp2_with fail;refine(CA.o w1 hb1).mono ?_
   intro e w' hp;have HP:=aI hp;obtain⟨rfl,_⟩:=hp
   go_wp2_with fail
   go_ret;obtain⟨_,h1,h2⟩:=HP.o;obtain⟨hB,hS,hC,Xc,hH,hG,Vf,Xd,hF⟩:=X.o;rw[HE2.o]
   by_cases he:er=0
   ·rw[if_pos he]
    obtain⟨h3,h4⟩:=h1 he;rw[HPS.o] at h3;have hS1:=(nI b a).keep hS hb1;obtain⟨h5,h6⟩:=Ve (hB.keep hb1) hS1 Xc hH hG Vf Xd (fun k h=>bF (hF k h) hb1.size) h3 h4
    exact Ji (jE d a m _) hb1 hF ⟨rfl,h5,h6⟩
   ·rw[if_neg he]
    exact vC (jE d a m l) HH.o rfl (hb1.trans ((h2 he).mono hb1.size))
theorem ao3{d2:Nat}{l2:List Pr}{F2:Ft}(w:World)(h:rq d a m l F w)(h2:rq d2 a m l2 F2 w)(ok:kJ a m l)(ok2:kJ a m l2)(hd:(∀k,F2 k->¬F k)\/d2=d) :
 aH 74 #[.pointer (some ⟨d,0,none⟩),.pointer (some ⟨d2,0,none⟩)] w (RG (rq d a m (ZY l l2)) F (jm l l2) w):=by
 have HH:=aI h;have CA1:=aI (Be w h);have CA2:=aI (Be w h2);obtain⟨b,c,H,G,hB,hS,hC,Xc,hH,hG,Vf,Xd,hF⟩:=h;obtain⟨b2,c2,H2,G2,hB2,_,hC2,bl8,_,hG2,_⟩:=h2;have hco:¬G c2\/c2=c:=by
  rcases hd with hd|rfl
  ·left
   obtain⟨_,_,_,_,hc,_⟩:=hC2;exact fun h=>hd c2 (hG2 c2 hc) (hG c2 h)
  ·right
   have e:=hB.cell 1;rw[hB2.cell 1] at e
   simpa using e
 obtain⟨o1,o2,o3,o4,o5⟩:=ok.cut;obtain⟨p1,p2,p3,p4,p5⟩:=ok2.cut;have CT:Hid (∀w1,Below w.heap.size w w1->_):=aI (fun w1 hb=>WW w1 ((oI _ _ _ _).keep hC hb) (hC2.r.keep hb) o1 p1 o3 (by have:=ok2.m1;omega) ok.m0 ok.m1 o4 o5 p4 p5 hco ok.m1)
 rw[if_pos rfl,RI o2 p2] at CT;have HMS:=aI (NM (m:=m) (by have:=ok.m0;omega) ok.iU ok.pos ok2.iU ok2.pos)
 have k1:=hB.cell 1;have k2:=hB2.cell 1;simp only[aK,aJ,aN] at k1 k2;have hdl:=hB.lt;have bw6:=hB2.lt;have bw7:¬G d2:=fun h=>by
  rcases hd with hd|rfl
  ·exact hd d2 bl8 (hG d2 h)
  ·exact Vf h
 have HE2:Hid (ZY l l2=if jm l l2=0 then gG l l2 else l):=aI rfl
 have X:=aI (aP hB (aP hS (aP Xc (aP hH (aP hG (aP Vf (aP Xd hF)))))));have K:=aI (aP k1 k2);clear hB hS hC hB2 hC2 Xc hH hG hF Xd ok ok2 o1 o2 o3 o4 o5 p1 p2 p3 p4 p5 hd hco k1 k2 bl8 hG2;generalize jm l l2=er at *;have had:((a:Int) != (a:Int))=false:=ag
 have HKK:Hid (w.cell? ⟨d,1,none⟩=some (.pointer (some ⟨c,0,none⟩))/\w.cell? ⟨d2,1,none⟩=some (.pointer (some ⟨c2,0,none⟩))):=K;clear K
 go_enter func74,ntmps74
 go_wp2_with fail;refine(CA2.o).mono ?_
 rintro e w' ⟨rfl,rfl⟩
 go_wp2_with fail;refine(CA1.o).mono ?_
 rintro e w' ⟨rfl,rfl⟩
 go_wp2_with fail;have mW:=aI (fun(w':World) (hS':(Touch G w) w')=>(aP ((dO hS' 1 hdl Vf).trans HKK.o.1) ((dO hS' 1 bw6 bw7).trans HKK.o.2)))
 refine jh (Touch G w) (dV 0 8 (fJ 8 (dV 9 1 []))) ((Touch.refl _ _).drew) ?_
 iterate 8 refine eQ ?_
 refine fO fun K hK=>?_
 go_simp;refine(CT.o w.drew (aO _ _).drew).mono ?_
 intro e w3 hp;have HP:=aI hp;have T3:Touch G w w3:=(by by_cases he:er=0;exact Rw (aO _ _).drew ((hp.2.1 he).2);exact Touch.of_below ((aO _ _).drew.trans (hp.2.2 he)) (aS _))
 obtain⟨rfl,_⟩:=hp;refine hK _ _ (T3) ?_
 clear hK K;refine eQ ?_
 refine dJ ?_
 go_wp2_with fail
 go_ret;obtain⟨_,h1,h2⟩:=HP.o;obtain⟨hB,hS,Xc,hH,hG,Vf,Xd,hF⟩:=X.o;rw[HE2.o];have hb1:Below w.heap.size w w.drew:=(aO _ _).drew
 by_cases he:er=0
 ·rw[if_pos he]
  obtain⟨h3,h4⟩:=h1 he;rw[show mJ m ((dY m l).1,(dY m l).2) ((dY m l2).1,(dY m l2).2) (gG (dY m l).1 (dY m l2).1)=dY m (gG l l2) from HMS.o] at h3
  obtain⟨h5,h6⟩:=Ve (hB.keep hb1) ((nI b a).keep hS hb1) Xc hH hG Vf Xd hF h3 h4;exact Ji (jE d a m _) hb1 hF ⟨rfl,h5,h6⟩
 ·rw[if_neg he]
  exact vC (jE d a m l) HH.o rfl (hb1.trans (h2 he))
def Z8(y a m:Nat)(l:List Pr)(F:Ft)(w:World):Prop:=∃rv v,dK w y 133 #[rv,.int .i64 a,.int .i64 m,v]/\dL (YK 233) 0 w rv (spans a)/\dL fZ 0 w v l/\F y/\(∀k,rv.ownBlock=some k->F k)/\(∀k,v.ownBlock=some k->F k)/\∀k,F k->k<w.heap.size
theorem Z9(y a m:Nat)(l:List Pr):jV (Z8 y a m l) where
 stay:=fun⟨rv,v,h1,h2,h3,h4,h5,h6,h7⟩ hk hz=>⟨rv,v,(hk y h4).trans h1,h2.stay fun k e=>hk k (h5 k e),h3.stay fun k e=>hk k (h6 k e),h4,h5,h6,fun k h=>bF (h7 k h) hz⟩
 more:=fun⟨rv,v,h1,h2,h3,h4,h5,h6,_⟩ h hl=>⟨rv,v,h1,h2,h3,h y h4,fun k e=>h k (h5 k e),fun k e=>h k (h6 k e),hl⟩
 low:=fun⟨_,_,_,_,_,_,_,_,h7⟩=>h7
theorem ao4(a m:Nat)(w:World)(h0:100<=a)(h1:a<=5000)(h2:2<=m)(h3:m<=4096) :
 aH 48 #[.int .i64 a,.int .i64 m] w fun e w'=>∃y,e=.returned (.pointer (some ⟨y,0,none⟩))/\Z8 y a m [] (Gr (fun _=>False) w w') w'/\Below w.heap.size w w':=by
 go_enter func48,ntmps48
 go_wp2_with fail;refine(Fp a w h0 h1).mono ?_
 rintro e w1 ⟨v,rfl,o1,hb1⟩;have hz1:=hb1.size;have O1:=aI o1;obtain⟨A,c,rfl,_,_,_⟩:=o1.form;clear o1
 go_wp2_with fail
 go_ret;have hb3:Below w1.heap.size w1 (w1.alloc (.cells #[.slice A (spans a).length c,.int .i64 a,.int .i64 m,.slice none 0 0] 133)):=bw;exact⟨_,rfl,⟨_,.slice none 0 0,dK.new _ _ _,(O1.o.keep hb3).more (df _),dL.nil_ _ _,.inr ⟨by omega,ag⟩,fun k e=>.inr ⟨(O1.o.lt k e).1,by have:=(O1.o.lt k e).2;simp;omega⟩,(fun k e=>by cases e),fun k h=>h.elim False.elim And.right⟩,bw⟩
open Tryz
open Go.RowKit
end Go.Proofs.YtilcnjbpmoijmaaGreat.D
