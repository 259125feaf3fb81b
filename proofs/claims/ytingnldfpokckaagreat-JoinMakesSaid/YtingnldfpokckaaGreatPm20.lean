/- Parts of a proof: what its theorem reaches, words cut short. No condition of its own. -/
import Derived.Test.YtingnldfpokckaaGreatPm19
set_option maxRecDepth 100000
set_option maxHeartbeats 16000000
set_option linter.unusedVariables false
set_option linter.unusedSimpArgs false
namespace Go.Proofs.YtingnldfpokckaaGreat.D
open Go.RowKit
theorem mrg_len:∀(b a:List Pr),(mrgP a b).length<=a.length+b.length
 | [],a=>by simp[mrg_nil]
 | p::b,a=>by
  have h1:=mrg_len b (putP p.1 p.2 a)
  have h2:=(put_length p.1 p.2 a).2
  rw[mrg_cons];simp only[List.length_cons];omega
theorem rcut_any(v:Value)(l:List Pr)(m:Nat)(w:World)(h:RdE prE w v l)(hp:PosP l)(ht:tot l<=4611686018427387904)(hm:0<m)(hm1:m<=1000000)(hl:l.length<=1000000000) :
 Calls Tryz.prog 243 #[v,.int .i64 m] w fun e w'=>∃v',e=.returned (.tuple #[v',.int .u64 (cutP m l).2])/\RdE prE w' v' (cutP m l).1/\Below w.heap.size w w':=by
 obtain⟨A,c,rfl,_,_,hf⟩:=h.form
 have HF:=Lib.hid hf
 have HR:=Lib.hid h
 by_cases hle:l.length<=m
 ·rw[cut_few hle]
  clear h hf hp
  go_enter Tryz.func243,Tryz.ntmps243
  go_wp2_with fail
  go_ret2
  exact⟨_,rfl,HR.out,Below.refl _ _⟩
 ·have HB:Hid (∀j,0<=tot (l.take j)/\tot (l.take j)<=4611686018427387904):=Lib.hid (fun j=>by have:=tot_take_le hp j;omega)
  obtain⟨z,hz⟩:∃z,l.length=z+m:=⟨l.length - m,by omega⟩
  have hcu:cutP m l=(bump (tot (l.take z)) (l.drop z),tot (l.take z)):=by unfold cutP;rw[show l.length - m=z by omega]
  have HPB:Hid (∀(j:Nat) (h:j<l.length),0<l[j].2/\l[j].2<=4611686018427387904):=Lib.hid (fun j h=>⟨hp _ (List.getElem_mem h),by have:=pos_le hp _ (List.getElem_mem h);omega⟩)
  rw[hcu]
  obtain⟨s,hs⟩:∃s,tot (l.take z)=s:=⟨_,rfl⟩
  have hb0:=HB.out z
  rw[hs] at hb0 |-
  have HSE:=Lib.hid hs
  have hdl:(l.drop z).length=m:=by rw[List.length_drop];omega
  obtain⟨BB,hBB⟩:∃x,bump s (l.drop z)=x:=⟨_,rfl⟩
  have hbl:BB.length=m:=by rw[<-hBB,bump_length,hdl]
  have HBL:=Lib.hid hbl
  have HB0:Hid (∀h:z<l.length,BB.take 1=[(l[z].1,l[z].2+s)]):=Lib.hid (fun h=>by
   rw[<-hBB,List.drop_eq_getElem_cons h];rfl)
  have HB1:Hid (∀k (h:z+k<l.length),0<k->BB.take (k+1)=BB.take k++[(l[z+k].1,l[z+k].2)]):=Lib.hid (fun k h h0=>by
   have hk:k<BB.length:=by omega
   rw[List.take_succ_eq_append_getElem hk]
   congr 2
   have hj:z<l.length:=by omega
   have e:BB[k]?=some l[z+k]:=by
    rw[<-hBB,List.drop_eq_getElem_cons hj]
    show((l[z].1,l[z].2+s)::l.drop (z+1))[k]?=_
    obtain⟨k',rfl⟩:∃k',k=k'+1:=⟨k - 1,by omega⟩
    rw[List.getElem?_cons_succ,List.getElem?_drop,show z+1+k'=z+(k'+1) by omega,List.getElem?_eq_getElem h]
   exact(List.getElem?_eq_some_iff.1 e).2)
  rw[hBB]
  have hlz:(l.length:Int) - (m:Int)=(z:Int):=by omega
  have hzl:z+m<=l.length/\l.length<=z+m:=by omega
  clear h hf hp hcu hBB hbl hdl hs hz
  go_enter Tryz.func243,Tryz.ntmps243
  go_wp2_with fail
  go_loopg [6,7] z (fun q s x wr=>(∃j:Nat,q=z - j/\j<=z/\x=.int .i64 j/\s=.int .u64 (tot (l.take j)))/\w=wr)
  case atStart=>exact⟨⟨0,rfl,by omega,rfl,rfl⟩,rfl⟩
  case round=>
   obtain⟨⟨j,hq,hj,rfl,rfl⟩,rfl⟩:=hrel
   have HQ:=Lib.hid hq
   clear hq
   by_cases hlt:j<z
   ·have hjl:j<l.length:=by omega
    obtain⟨g,off,rfl,hg,c0,c1⟩:=pr_at HF.out hjl
    have HS:=Lib.hid (tot_take_succ hjl)
    have b1:=HB.out j
    have b2:=HB.out (j+1)
    rw[HS.out] at b2
    have hji:(j:Int)<(l.length:Int):=by omega
    have hjz:(j:Int)<(z:Int):=by omega
    obtain⟨s',hs⟩:∃s,tot (l.take j)=s:=⟨_,rfl⟩
    rw[hs] at HS b1 b2 |-
    clear hs
    generalize l[j].1=x at *
    generalize l[j].2=n at *
    go_wp2_with fail
    go_roundg (z - (j+1))
    case measure=>have:=HQ.out;omega
    case rel=>exact⟨⟨j+1,rfl,by omega,by go_num,by rw[HS.out]⟩,rfl⟩
   ·obtain rfl:j=z:=by omega
    rw[HSE.out]
    go_wp2_with fail
    go_loopg [8,9] m (fun q u x wr=>∃(k:Nat) (out:List Pr),q=m - k/\k<=m/\x=.int .i64 ((j+k:Nat):Int)/\Hid (OwnE prE w.heap.size wr u out)/\Hid (out=BB.take k)/\Below w.heap.size w wr)
    case atStart=>exact⟨0,[],rfl,by omega,by simp,Lib.hid (OwnE.nil_ _ _),Lib.hid (by simp),Below.refl _ _⟩
    case round=>
     obtain⟨k,out,hq,hk,rfl,HO,HE,hb⟩:=hrel
     have HQ:=Lib.hid hq
     have hz2:=hb.size
     clear hq
     obtain⟨A5,c5,rfl,_,_,_⟩:=HO.out.form
     by_cases hlt:k<m
     ·have hjl:j+k<l.length:=by omega
      obtain⟨g,off,rfl,hg,c0w,c1w⟩:=pr_at HF.out hjl
      have c0:=(hb.cell (p:=⟨g,off+(j+k) * 2,none⟩) hg).trans c0w
      have c1:=(hb.cell (p:=⟨g,off+(j+k) * 2+1,none⟩) hg).trans c1w
      clear c0w c1w
      have hji:((j+k:Nat):Int)<(l.length:Int):=by omega
      have hpb:=HPB.out _ hjl
      have hol:out.length=k:=by rw[HE.out,List.length_take];have:=HBL.out;omega
      by_cases hk0:k=0
      ·subst hk0
       obtain rfl:out=[]:=List.eq_nil_of_length_eq_zero hol
       have HN:=Lib.hid (HB0.out hjl)
       simp only[Nat.add_zero] at c0 c1 hji hpb
       generalize l[j].1=x at *
       generalize l[j].2=n at *
       clear hol
       go_wp2_with (at_builtin;refine apL tyPr rfl (.tmp 55) (.tmp 57) rfl ((HO.out.alloc _).alloc _) rfl _ [(x,n+s)] rfl (RdE.one_at (E:=prE) _ (x,n+s) _ rfl _ rfl _ (by simp)) (by simp) (by go_size) ?_;intro v6 w6 o6 g6 _;have HB6:Hid (Below w.heap.size w w6):=Lib.hid (((hb.alloc hz2 _).alloc (by simp;omega) _).grown g6 (by simp;omega) (fun k hk=>(HO.out.lt k hk).1));have O6:=Lib.hid o6;clear o6 g6)
       go_roundg (m - 1)
       case measure=>have:=HQ.out;omega
       case rel=>exact⟨1,_,rfl,by omega,by go_num,O6,Lib.hid (by rw[HN.out];rfl),HB6.out⟩
      ·have HN:=Lib.hid (HB1.out k hjl (by omega))
       have hl0:((out.length:Int) == 0)=false:=by rw[hol];simp;omega
       have hol2:out.length<=1000000:=by omega
       generalize l[j+k].1=x at *
       generalize l[j+k].2=n at *
       clear hol
       go_wp2_with (at_builtin;refine apL tyPr rfl (.tmp 55) (.tmp 57) rfl ((HO.out.alloc _).alloc _) rfl _ [(x,n)] rfl (RdE.one_at (E:=prE) _ (x,n) _ rfl _ rfl _ (by simp)) (by simp;omega) (by go_size) ?_;intro v6 w6 o6 g6 _;have HB6:Hid (Below w.heap.size w w6):=Lib.hid (((hb.alloc hz2 _).alloc (by simp;omega) _).grown g6 (by simp;omega) (fun k hk=>(HO.out.lt k hk).1));have O6:=Lib.hid o6;clear o6 g6)
       go_roundg (m - (k+1))
       case measure=>have:=HQ.out;omega
       case rel=>exact⟨k+1,_,rfl,by omega,by go_num,O6,Lib.hid (by rw[HN.out,HE.out]),HB6.out⟩
     ·obtain rfl:k=m:=by omega
      have hjk:¬((j+k:Nat):Int)<(l.length:Int):=by omega
      have HE2:Hid (out=BB):=Lib.hid (by rw[HE.out,List.take_of_length_le (by have:=HBL.out;omega)])
      go_wp2_with fail
      go_ret2
      exact⟨_,rfl,by rw[<-HE2.out];exact HO.out.rd,hb⟩
theorem rkept_any(v:Value)(l:List Pr)(m:Nat)(w:World)(h:RdE prE w v l)(hp:PosP l)(ht:tot l<=4611686018427387904)(hm:0<m)(hm1:m<=1000000)(hl:l.length<=1000000000) :
 Calls Tryz.prog 155 #[v,.int .i64 m] w fun e w'=>∃v',e=.returned (.tuple #[v',.int .u64 (cutP m l).2])/\RdE prE w' v' (cutP m l).1/\Below w.heap.size w w':=by
 have C:=Lib.hid (rcut_any v l m w h hp ht hm hm1 hl)
 clear h hp
 go_enter Tryz.func155,Tryz.ntmps155
 go_wp2_with fail
 refine(C.out).mono ?_
 rintro e w1 ⟨v1,rfl,r1,hb1⟩
 go_wp2_with fail
 go_ret2
 exact⟨_,rfl,r1,hb1⟩
open Go.RowKit
def kyS(l:List Sp)(v:Int):Nat:=l.findIdx fun s=>decide (v<=s.high)
theorem ky_lt{a:Nat}(ha:100<=a)(hb:a<=5000){v:Int}(hv:v<=9223372036854775807):kyS (spans a) v<(spans a).length/\(spans a).length<=2100:=by
 obtain⟨_,_,h3,s,h4,h5⟩:=spans_facts ha hb
 refine⟨List.findIdx_lt_length_of_exists ⟨s,List.mem_of_getLast? h4,?_⟩,h3⟩
 simp only[decide_eq_true_eq];omega
theorem acc_any{base b a:Nat}(w:World)(h:ScAt base w b a):Calls Tryz.prog 67 #[.pointer (some ⟨b,0,none⟩)] w fun e w'=>e=.returned (.int .i64 a)/\w=w':=by
 obtain⟨_,v,h2,_⟩:=h
 have c0:=h2.cell 0
 simp only[List.getElem?_toArray,List.getElem?_cons_zero] at c0
 go_enter Tryz.func67,Tryz.ntmps67
 go_wp2
 go_ret
 exact⟨rfl,rfl⟩
open Go.RowKit
structure DdOk(a m:Nat)(l:List Pr):Prop where
 a0:100<=a
 a1:a<=5000
 m0:2<=m
 m1:m<=4096
 srt:SrtP l
 pos:PosP l
 key:∀p∈l,-((spans a).length:Int)<=p.1/\p.1<=((spans a).length:Int)
 sum:tot l<=4611686018427387904
theorem srt_len{lo hi:Int}:∀{l:List Pr},SrtP l->(∀p∈l,lo<=p.1/\p.1<=hi)->lo<=hi+1->(l.length:Int)<=hi - lo+1
 | [],_,_,h=>by simp;omega
 | p::l,s,k,_=>by
  have s1:=List.pairwise_cons.1 s
  have k0:=k p (List.mem_cons_self ..)
  have:=srt_len (lo:=p.1+1) (hi:=hi) s1.2 (fun q hq=>⟨by have:=s1.1 q hq;omega,(k q (List.mem_cons_of_mem _ hq)).2⟩) (by omega)
  simp only[List.length_cons];omega
theorem DdOk.len{a m:Nat}{l:List Pr}(h:DdOk a m l):l.length<=4201:=by
 have h2:=(ky_lt h.a0 h.a1 (v:=0) (by omega)).2
 have:=srt_len h.srt h.key (by omega)
 omega
theorem DdOk.ok{a m:Nat}{l:List Pr}(h:DdOk a m l):OkP l:=⟨h.srt,h.pos,(fun p hp=>by have:=h.key p hp;have h2:=(ky_lt h.a0 h.a1 (v:=0) (by omega)).2;omega),h.sum,by have:=h.len;omega⟩
theorem DdOk.cut{a m:Nat}{l:List Pr}(h:DdOk a m l):OkP (cutP m l).1/\tot (cutP m l).1=tot l/\(cutP m l).1.length<=m/\0<=(cutP m l).2/\(cutP m l).2<=4611686018427387904:=by
 have hm:=h.m0
 obtain⟨_,_,h3,h4,h5⟩:=cut_srt (m:=m) (by omega) h.srt h.pos
 refine⟨okP_cut h.ok (by omega),h3,h4,h5,?_⟩
 have:=(tot_take_le h.pos (l.length - m)).2
 have:=h.sum
 show D.tot (l.take (l.length - m))<=_
 omega
def ddtS(l t:List Pr):List Pr:=if ctakeE l t=0 then mrgP l t else l
def ScF(b a:Nat)(H:Ft)(w:World):Prop:=∃v,Blk w b 214 #[.int .i64 a,v]/\OwnE (spE 271) 0 w v (spans a)/\H b/\(∀k,v.ownBlock=some k->H k)/\∀k,H k->k<w.heap.size
theorem sc_stay(b a:Nat):Stay (ScF b a) where
 stay:=fun⟨v,h1,h2,h3,h4,h5⟩ hk hz=>⟨v,(hk b h3).trans h1,h2.stay fun k e=>hk k (h4 k e),h3,h4,fun k h=>Nat.lt_of_lt_of_le (h5 k h) hz⟩
 more:=fun⟨v,h1,h2,h3,h4,_⟩ h hl=>⟨v,h1,h2,h b h3,fun k e=>h k (h4 k e),hl⟩
 low:=fun⟨_,_,_,_,_,h5⟩=>h5
theorem ScF.at_{b a:Nat}{H:Ft}{w:World}(h:ScF b a H w):ScAt 0 w b a:=by
 obtain⟨v,h1,h2,_⟩:=h;exact⟨Nat.zero_le _,v,h1,h2⟩
theorem scf_of{b a:Nat}{w w':World}(h:ScAt w.heap.size w' b a):ScF b a (Gr (fun _=>False) w w') w':=by
 obtain⟨h1,v,h2,h3⟩:=h
 exact⟨v,h2,h3.more (Nat.zero_le _),.inr ⟨h1,h2.lt⟩,fun k e=>.inr (h3.lt k e),fun k h=>h.elim False.elim And.right⟩
def DdAt(d a m:Nat)(l:List Pr)(F:Ft)(w:World):Prop:=∃b c H G,Blk w d 128 #[.pointer (some ⟨b,0,none⟩),.pointer (some ⟨c,0,none⟩)]/\ScF b a H w/\CoAt c m (cutP m l).1 (cutP m l).2 G w/\F d/\(∀k,H k->F k)/\(∀k,G k->F k)/\¬G d/\(∀k,H k->¬G k)/\∀k,F k->k<w.heap.size
theorem dd_stay(d a m:Nat)(l:List Pr):Stay (DdAt d a m l) where
 stay:=fun⟨b,c,H,G,h1,h2,h3,h4,h5,h6,h7,h8,h9⟩ hk hz=>⟨b,c,H,G,(hk d h4).trans h1,(sc_stay b a).stay h2 (fun k e=>hk k (h5 k e)) hz,(co_stay _ _ _ _).stay h3 (fun k e=>hk k (h6 k e)) hz,h4,h5,h6,h7,h8,fun k h=>Nat.lt_of_lt_of_le (h9 k h) hz⟩
 more:=fun⟨b,c,H,G,h1,h2,h3,h4,h5,h6,h7,h8,_⟩ h hl=>⟨b,c,H,G,h1,h2,h3,h d h4,fun k e=>h k (h5 k e),fun k e=>h k (h6 k e),h7,h8,hl⟩
 low:=fun⟨_,_,_,_,_,_,_,_,_,_,_,_,h9⟩=>h9
def MutP(P:Ft->World->Prop)(F:Ft)(er:Int)(w:World)(e:Ending)(w':World):Prop:=e=.returned (.int .i64 er)/\P (Gr F w w') w'/\Touch F w w'
theorem mut_same{P:Ft->World->Prop}(S:Stay P){F:Ft}{er:Int}{w w':World}{e:Ending}(h:P F w)(he:e=.returned (.int .i64 er))(hb:Below w.heap.size w w'):MutP P F er w e w':=
 ⟨he,S.more (S.keep h hb) (fun _ h=>.inl h) (gr_lt (S.low h) hb.size),Touch.of_below hb (Nat.le_refl _)⟩
theorem dd_new(a m:Nat)(w:World)(h0:100<=a)(h1:a<=5000)(h2:2<=m)(h3:m<=4096) :
 Calls Tryz.prog 132 #[.int .i64 a,.int .i64 m] w fun e w'=>∃d,e=.returned (.tuple #[.pointer (some ⟨d,0,none⟩),.int .i64 0])/\DdAt d a m [] (Gr (fun _=>False) w w') w'/\Below w.heap.size w w':=by
 go_enter Tryz.func132,Tryz.ntmps132
 go_wp2_with fail
 refine(scale_new a w h0 h1).mono ?_
 rintro e w1 ⟨b,rfl,s1,hb1⟩
 have hz1:=hb1.size
 have S1:=Lib.hid (scf_of s1)
 clear s1
 go_wp2_with fail
 refine(co_new m w1 h2 h3).mono ?_
 rintro e w2 ⟨c,rfl,s2,hb2⟩
 have hz2:=hb2.size
 have S2:=Lib.hid s2
 clear s2
 go_wp2_with fail
 go_ret2
 have hb3:Below w2.heap.size w2 (w2.alloc (.cells #[.pointer (some ⟨b,0,none⟩),.pointer (some ⟨c,0,none⟩)] 128)):=by(repeat' (first|(with_reducible exact Below.refl _ _)|(with_reducible refine Below.alloc ?_ ?_ _)|(with_reducible refine Below.drew ?_)|(with_reducible refine below_drewN ?_ _)|(with_reducible refine Below.setCell ?_ ?_ _)|(with_reducible refine below_of (by assumption) ?_ ?_)|go_size))
 refine⟨_,rfl,⟨b,c,Gr (fun _=>False) w w1,Gr (fun _=>False) w1 w2,Blk.new _ _ _,(sc_stay b a).keep S1.out (hb2.trans (hb3.mono hz2)),?_,.inr ⟨by omega,by simp⟩,fun k h=>.inr ⟨(h.elim False.elim And.left),?_⟩,fun k h=>.inr ⟨?_,?_⟩,?_,fun k h h'=>?_,fun k h=>h.elim False.elim And.right⟩,by(repeat' (first|(with_reducible exact Below.refl _ _)|(with_reducible refine Below.alloc ?_ ?_ _)|(with_reducible refine Below.drew ?_)|(with_reducible refine below_drewN ?_ _)|(with_reducible refine Below.setCell ?_ ?_ _)|(with_reducible refine below_of (by assumption) ?_ ?_)|go_size))⟩
 ·have:cutP m []=([],0):=cut_few (by simp)
  rw[this]
  exact(co_stay _ _ _ _).keep S2.out hb3
 ·have:=(sc_stay b a).low S1.out k h;simp;omega
 ·have:=(h.elim False.elim And.left);omega
 ·have:=(co_stay _ _ _ _).low S2.out k h;simp;omega
 ·intro h;have:=(co_stay _ _ _ _).low S2.out _ h;omega
 ·have h1:=(sc_stay b a).low S1.out k h
  have h2:=(h'.elim False.elim And.left)
  omega
theorem dd_no(a m:Int)(w:World)(h:a<100\/5000<a\/m<2\/4096<m) :
 Calls Tryz.prog 132 #[.int .i64 a,.int .i64 m] w fun e w'=>e=.returned (.tuple #[.pointer none,.int .i64 1])/\Below w.heap.size w w':=by
 by_cases ha:a<100\/5000<a
 ·have C:=Lib.hid (scale_no a w ha)
  go_enter Tryz.func132,Tryz.ntmps132
  go_wp2_with fail
  refine(C.out).mono ?_
  rintro e w' ⟨rfl,rfl⟩
  go_wp2_with fail
  go_ret2
  exact⟨rfl,Below.refl _ _⟩
 ·obtain⟨n,rfl⟩:=Int.eq_ofNat_of_zero_le (a:=a) (by omega)
  have C:=Lib.hid (scale_new n w (by omega) (by omega))
  have C2:=fun w=>Lib.hid (co_no m w (by omega))
  go_enter Tryz.func132,Tryz.ntmps132
  go_wp2_with fail
  refine(C.out).mono ?_
  rintro e w1 ⟨b,rfl,_,hb1⟩
  go_wp2_with fail
  refine((C2 w1).out).mono ?_
  rintro e w' ⟨rfl,rfl⟩
  go_wp2_with fail
  go_ret2
  exact⟨rfl,hb1⟩
section
variable {d a m : Nat} {l : List Pr} {F : Ft}
theorem dd_acc(w:World)(h:DdAt d a m l F w):Calls Tryz.prog 26 #[.pointer (some ⟨d,0,none⟩)] w fun e w'=>e=.returned (.int .i64 a)/\w=w':=by
 obtain⟨b,c,H,G,hB,hS,_⟩:=h
 have C:=Lib.hid (acc_any w hS.at_)
 have k0:=hB.cell 0
 simp only[List.getElem?_toArray,List.getElem?_cons_zero] at k0
 clear hB hS
 go_enter Tryz.func26,Tryz.ntmps26
 go_wp2_with fail
 refine(C.out).mono ?_
 rintro e w' ⟨rfl,rfl⟩
 go_wp2_with fail
 go_ret
 exact⟨rfl,rfl⟩
theorem dd_budget(w:World)(h:DdAt d a m l F w):Calls Tryz.prog 27 #[.pointer (some ⟨d,0,none⟩)] w fun e w'=>e=.returned (.int .i64 m)/\w=w':=by
 obtain⟨b,c,H,G,hB,_,hC,_⟩:=h
 obtain⟨g,hR⟩:=hC.r
 obtain⟨G',hR,_⟩:=hR
 have C:Hid (Calls Tryz.prog 68 #[.pointer (some ⟨c,0,none⟩)] w fun e w'=>e=.returned (.int .i64 m)/\w=w'):=by
  have k0:=hR.cell 0
  simp only[List.getElem?_toArray,List.getElem?_cons_zero] at k0
  clear hR hC hB
  refine Lib.hid ?_
  go_enter Tryz.func68,Tryz.ntmps68
  go_wp2_with fail
  go_ret
  exact⟨rfl,rfl⟩
 have k1:=hB.cell 1
 simp only[List.getElem?_toArray,List.getElem?_cons_zero,List.getElem?_cons_succ] at k1
 clear hB hR hC
 go_enter Tryz.func27,Tryz.ntmps27
 go_wp2_with fail
 refine(C.out).mono ?_
 rintro e w' ⟨rfl,rfl⟩
 go_wp2_with fail
 go_ret
 exact⟨rfl,rfl⟩
theorem dd_folded(w:World)(h:DdAt d a m l F w):Calls Tryz.prog 116 #[.pointer (some ⟨d,0,none⟩)] w fun e w'=>e=.returned (.int .u64 (cutP m l).2)/\w=w':=by
 obtain⟨b,c,H,G,hB,_,hC,_⟩:=h
 obtain⟨g,hR⟩:=hC.r
 obtain⟨G',hR,_⟩:=hR
 have C:Hid (Calls Tryz.prog 204 #[.pointer (some ⟨c,0,none⟩)] w fun e w'=>e=.returned (.int .u64 (cutP m l).2)/\w=w'):=by
  have k0:=hR.cell 2
  simp only[List.getElem?_toArray,List.getElem?_cons_zero,List.getElem?_cons_succ] at k0
  clear hR hC hB
  refine Lib.hid ?_
  go_enter Tryz.func204,Tryz.ntmps204
  go_wp2_with fail
  go_ret
  exact⟨rfl,rfl⟩
 have k1:=hB.cell 1
 simp only[List.getElem?_toArray,List.getElem?_cons_zero,List.getElem?_cons_succ] at k1
 clear hB hR hC
 go_enter Tryz.func116,Tryz.ntmps116
 go_wp2_with fail
 refine(C.out).mono ?_
 rintro e w' ⟨rfl,rfl⟩
 go_wp2_with fail
 go_ret
 exact⟨rfl,rfl⟩
theorem dd_total(w:World)(h:DdAt d a m l F w)(ok:DdOk a m l):Calls Tryz.prog 55 #[.pointer (some ⟨d,0,none⟩)] w fun e w'=>e=.returned (.int .u64 (tot l))/\w=w':=by
 obtain⟨b,c,H,G,hB,_,hC,_⟩:=h
 obtain⟨g,G',hR,hS⟩:=hC.r
 have C0:=Lib.hid (stotal_any w hS)
 rw[ok.cut.2.1] at C0
 have C:Hid (Calls Tryz.prog 126 #[.pointer (some ⟨c,0,none⟩)] w fun e w'=>e=.returned (.int .u64 (tot l))/\w=w'):=by
  have k0:=hR.cell 1
  simp only[List.getElem?_toArray,List.getElem?_cons_zero,List.getElem?_cons_succ] at k0
  clear hR hC hB hS
  refine Lib.hid ?_
  go_enter Tryz.func126,Tryz.ntmps126
  go_wp2_with fail
  refine(C0.out).mono ?_
  rintro e w' ⟨rfl,rfl⟩
  go_wp2_with fail
  go_ret
  exact⟨rfl,rfl⟩
 have k1:=hB.cell 1
 simp only[List.getElem?_toArray,List.getElem?_cons_zero,List.getElem?_cons_succ] at k1
 clear hB hR hC hS
 go_enter Tryz.func55,Tryz.ntmps55
 go_wp2_with fail
 refine(C.out).mono ?_
 rintro e w' ⟨rfl,rfl⟩
 go_wp2_with fail
 go_ret
 exact⟨rfl,rfl⟩
theorem dd_pairs(w:World)(h:DdAt d a m l F w)(ok:DdOk a m l):Calls Tryz.prog 115 #[.pointer (some ⟨d,0,none⟩)] w fun e w'=>∃v,e=.returned v/\OwnE prE w.heap.size w' v (cutP m l).1/\Below w.heap.size w w':=by
 obtain⟨b,c,H,G,hB,_,hC,_⟩:=h
 obtain⟨g,G',hR,hS⟩:=hC.r
 have C0:=Lib.hid (pairs_any w hS ok.cut.1.len)
 have C:Hid (Calls Tryz.prog 203 #[.pointer (some ⟨c,0,none⟩)] w fun e w'=>∃v,e=.returned v/\OwnE prE w.heap.size w' v (cutP m l).1/\Below w.heap.size w w'):=by
  have k0:=hR.cell 1
  simp only[List.getElem?_toArray,List.getElem?_cons_zero,List.getElem?_cons_succ] at k0
  clear hR hC hB hS
  refine Lib.hid ?_
  go_enter Tryz.func203,Tryz.ntmps203
  go_wp2_with fail
  refine(C0.out).mono ?_
  rintro e w1 ⟨v1,rfl,o1,hb1⟩
  go_wp2_with fail
  go_ret
  exact⟨_,rfl,o1,hb1⟩
 have k1:=hB.cell 1
 simp only[List.getElem?_toArray,List.getElem?_cons_zero,List.getElem?_cons_succ] at k1
 clear hB hR hC hS
 go_enter Tryz.func115,Tryz.ntmps115
 go_wp2_with fail
 refine(C.out).mono ?_
 rintro e w1 ⟨v1,rfl,o1,hb1⟩
 go_wp2_with fail
 go_ret
 exact⟨_,rfl,o1,hb1⟩
end
open Go.RowKit
theorem mut_after{P:Ft->World->Prop}(S:Stay P){F:Ft}{er:Int}{w w1 w':World}{e:Ending}(hb:Below w.heap.size w w1)(h0:∀k,F k->k<w.heap.size)(hm:MutP P F er w1 e w'):MutP P F er w e w':=
 ⟨hm.1,S.more hm.2.1 (fun k h=>h.imp id fun h=>⟨Nat.le_trans hb.size h.1,h.2⟩) (gr_lt h0 (Nat.le_trans hb.size hm.2.2.size)),btl hb hm.2.2⟩
theorem ctakeE_tot{l l' t t':List Pr}(h:tot l=tot l')(h':tot t=tot t'):ctakeE l t=ctakeE l' t':=by unfold ctakeE;rw[h,h']
theorem dd_turn{d a m b c:Nat}{l':List Pr}{F H G:Ft}{w w':World}(hB:Blk w d 128 #[.pointer (some ⟨b,0,none⟩),.pointer (some ⟨c,0,none⟩)])(hS:ScF b a H w)(hFd:F d)(hH:∀k,H k->F k)(hG:∀k,G k->F k)(hGd:¬G d)(hHG:∀k,H k->¬G k)(hF:∀k,F k->k<w.heap.size)
 (hc:CoAt c m (cutP m l').1 (cutP m l').2 (Gr G w w') w') (ht:Touch G w w'):DdAt d a m l' (Gr F w w') w'/\Touch F w w':=
 ⟨⟨b,c,H,Gr G w w',(ht.block d hB.lt hGd).trans hB,(sc_stay b a).far hS ht hHG,hc,.inl hFd,fun k h=>.inl (hH k h),fun k h=>h.imp (hG k) id,fun h=>h.elim hGd (fun h=>by have:=hB.lt;omega),fun k h h'=>h'.elim (hHG k h) (fun h'=>by have:=(sc_stay b a).low hS k h;omega),gr_lt hF ht.size⟩,ht.mono hG⟩
theorem dd_take{d d2 a m:Nat}{l l2:List Pr}{F F2:Ft}(w:World)(h:DdAt d a m l F w)(h2:DdAt d2 a m l2 F2 w)(ok:DdOk a m l)(ok2:DdOk a m l2)(hd:(∀k,F2 k->¬F k)\/d2=d) :
 Calls Tryz.prog 31 #[.pointer (some ⟨d,0,none⟩),.pointer (some ⟨d2,0,none⟩)] w (MutP (DdAt d a m (ddtS l l2)) F (ctakeE l l2) w):=by
 have HH:=Lib.hid h
 have CA1:=Lib.hid (dd_acc w h)
 have CA2:=Lib.hid (dd_acc w h2)
 obtain⟨b,c,H,G,hB,hS,hC,hFd,hH,hG,hGd,hHG,hF⟩:=h
 obtain⟨b2,c2,H2,G2,hB2,_,hC2,hFd2,_,hG2,_⟩:=h2
 have hco:¬G c2\/c2=c:=by
  rcases hd with hd|rfl
  ·left
   obtain⟨_,_,_,_,hc,_⟩:=hC2
   exact fun h=>hd c2 (hG2 c2 hc) (hG c2 h)
  ·right
   have e:=hB.cell 1
   rw[hB2.cell 1] at e
   simpa using e
 obtain⟨o1,o2,o3,o4,o5⟩:=ok.cut
 obtain⟨p1,p2,p3,p4,p5⟩:=ok2.cut
 have CT:Hid (∀w1,Below w.heap.size w w1->_):=Lib.hid (fun w1 hb=>ctake_any w1 ((co_stay _ _ _ _).keep hC hb) (hC2.r.keep hb) o1 p1 o3 (by have:=ok2.m1;omega) ok.m0 ok.m1 o4 o5 p4 p5 hco ok.m1)
 rw[if_pos rfl,ctakeE_tot o2 p2] at CT
 have HMS:=Lib.hid (mrg_step (m:=m) (by have:=ok.m0;omega) ok.srt ok.pos ok2.srt ok2.pos)
 have k1:=hB.cell 1
 have k2:=hB2.cell 1
 simp only[List.getElem?_toArray,List.getElem?_cons_zero,List.getElem?_cons_succ] at k1 k2
 have hdl:=hB.lt
 have hdl2:=hB2.lt
 have hGd2:¬G d2:=fun h=>by
  rcases hd with hd|rfl
  ·exact hd d2 hFd2 (hG d2 h)
  ·exact hGd h
 have HE2:Hid (ddtS l l2=if ctakeE l l2=0 then mrgP l l2 else l):=Lib.hid rfl
 have X:=Lib.hid (And.intro hB (And.intro hS (And.intro hFd (And.intro hH (And.intro hG (And.intro hGd (And.intro hHG hF)))))))
 have K:=Lib.hid (And.intro k1 k2)
 clear hB hS hC hB2 hC2 hFd hH hG hF hHG ok ok2 o1 o2 o3 o4 o5 p1 p2 p3 p4 p5 hd hco k1 k2 hFd2 hG2
 generalize ctakeE l l2=er at *
 have had:((a:Int) != (a:Int))=false:=by simp
 have HKK:Hid (w.cell? ⟨d,1,none⟩=some (.pointer (some ⟨c,0,none⟩))/\w.cell? ⟨d2,1,none⟩=some (.pointer (some ⟨c2,0,none⟩))):=K
 clear K
 go_enter Tryz.func31,Tryz.ntmps31
 go_wp2_with fail
 refine(CA2.out).mono ?_
 rintro e w' ⟨rfl,rfl⟩
 go_wp2_with fail
 refine(CA1.out).mono ?_
 rintro e w' ⟨rfl,rfl⟩
 go_wp2_with fail
 refine wp_region_plan (Touch G w) [(0,true),(1,true),(2,true),(3,true),(4,true),(5,true),(6,true),(7,true),(8,false),(9,true)] (by kernel_rfl) (by kernel_rfl) ((Touch.refl _ _).drew) ?_
 iterate 8
  refine wpPlan_read (by rfl) (by rfl) (fun R hR=>?_)
  apply Exists.intro
  refine⟨fun w' hS'=>?_,?_⟩
  ·have k1:=(tcell hS' 1 hdl hGd).trans HKK.out.1
   have k2:=(tcell hS' 1 hdl2 hGd2).trans HKK.out.2
   go_simp
   exact⟨rfl,rfl⟩
  go_simp
  refine hR _ ?_
  clear hR R
 refine wpPlan_do (by rfl) (by rfl) (fun K hK=>?_)
 go_simp
 refine(CT.out w.drew (Below.refl _ _).drew).mono ?_
 intro e w3 hp
 have HP:=Lib.hid hp
 have T3:Touch G w w3:=(by by_cases he:er=0;exact btl (Below.refl _ _).drew ((hp.2.1 he).2);exact Touch.of_below ((Below.refl _ _).drew.trans (hp.2.2 he)) (Nat.le_refl _))
 obtain⟨rfl,_⟩:=hp
 refine hK _ _ (T3) ?_
 clear hK K
 iterate 1
  refine wpPlan_read (by rfl) (by rfl) (fun R hR=>?_)
  apply Exists.intro
  refine⟨fun w' hS'=>?_,?_⟩
  ·have k1:=(tcell hS' 1 hdl hGd).trans HKK.out.1
   have k2:=(tcell hS' 1 hdl2 hGd2).trans HKK.out.2
   go_simp
   exact⟨rfl,rfl⟩
  go_simp
  refine hR _ ?_
  clear hR R
 refine wpPlan_nil ?_
 go_wp2_with fail
 go_ret
 obtain⟨_,h1,h2⟩:=HP.out
 obtain⟨hB,hS,hFd,hH,hG,hGd,hHG,hF⟩:=X.out
 rw[HE2.out]
 have hb1:Below w.heap.size w w.drew:=(Below.refl _ _).drew
 by_cases he:er=0
 ·rw[if_pos he]
  obtain⟨h3,h4⟩:=h1 he
  rw[show stepK m ((cutP m l).1,(cutP m l).2) ((cutP m l2).1,(cutP m l2).2) (mrgP (cutP m l).1 (cutP m l2).1)=cutP m (mrgP l l2) from HMS.out] at h3
  obtain⟨h5,h6⟩:=dd_turn (hB.keep hb1) ((sc_stay b a).keep hS hb1) hFd hH hG hGd hHG hF h3 h4
  exact mut_after (dd_stay d a m _) hb1 hF ⟨rfl,h5,h6⟩
 ·rw[if_neg he]
  exact mut_same (dd_stay d a m l) HH.out rfl (hb1.trans (h2 he))
def RDdAt(y a m:Nat)(l:List Pr)(F:Ft)(w:World):Prop:=∃rv v,Blk w y 151 #[rv,.int .i64 a,.int .i64 m,v]/\OwnE (spE 247) 0 w rv (spans a)/\OwnE prE 0 w v l/\F y/\(∀k,rv.ownBlock=some k->F k)/\(∀k,v.ownBlock=some k->F k)/\∀k,F k->k<w.heap.size
theorem rdd_stay(y a m:Nat)(l:List Pr):Stay (RDdAt y a m l) where
 stay:=fun⟨rv,v,h1,h2,h3,h4,h5,h6,h7⟩ hk hz=>⟨rv,v,(hk y h4).trans h1,h2.stay fun k e=>hk k (h5 k e),h3.stay fun k e=>hk k (h6 k e),h4,h5,h6,fun k h=>Nat.lt_of_lt_of_le (h7 k h) hz⟩
 more:=fun⟨rv,v,h1,h2,h3,h4,h5,h6,_⟩ h hl=>⟨rv,v,h1,h2,h3,h y h4,fun k e=>h k (h5 k e),fun k e=>h k (h6 k e),hl⟩
 low:=fun⟨_,_,_,_,_,_,_,_,h7⟩=>h7
theorem rdd_new(a m:Nat)(w:World)(h0:100<=a)(h1:a<=5000)(h2:2<=m)(h3:m<=4096) :
 Calls Tryz.prog 37 #[.int .i64 a,.int .i64 m] w fun e w'=>∃y,e=.returned (.pointer (some ⟨y,0,none⟩))/\RDdAt y a m [] (Gr (fun _=>False) w w') w'/\Below w.heap.size w w':=by
 go_enter Tryz.func37,Tryz.ntmps37
 go_wp2_with fail
 refine(rall_any a w h0 h1).mono ?_
 rintro e w1 ⟨v,rfl,o1,hb1⟩
 have hz1:=hb1.size
 have O1:=Lib.hid o1
 obtain⟨A,c,rfl,_,_,_⟩:=o1.form
 clear o1
 go_wp2_with fail
 go_ret
 have hb3:Below w1.heap.size w1 (w1.alloc (.cells #[.slice A (spans a).length c,.int .i64 a,.int .i64 m,.slice none 0 0] 151)):=by(repeat' (first|(with_reducible exact Below.refl _ _)|(with_reducible refine Below.alloc ?_ ?_ _)|(with_reducible refine Below.drew ?_)|(with_reducible refine below_drewN ?_ _)|(with_reducible refine Below.setCell ?_ ?_ _)|(with_reducible refine below_of (by assumption) ?_ ?_)|go_size))
 exact⟨_,rfl,⟨_,.slice none 0 0,Blk.new _ _ _,(O1.out.keep hb3).more (Nat.zero_le _),OwnE.nil_ _ _,.inr ⟨by omega,by simp⟩,fun k e=>.inr ⟨(O1.out.lt k e).1,by have:=(O1.out.lt k e).2;simp;omega⟩,(fun k e=>by cases e),fun k h=>h.elim False.elim And.right⟩,by(repeat' (first|(with_reducible exact Below.refl _ _)|(with_reducible refine Below.alloc ?_ ?_ _)|(with_reducible refine Below.drew ?_)|(with_reducible refine below_drewN ?_ _)|(with_reducible refine Below.setCell ?_ ?_ _)|(with_reducible refine below_of (by assumption) ?_ ?_)|go_size))⟩
open Go.RowKit
open Go.RowKit
open Go.RowKit
end Go.Proofs.YtingnldfpokckaaGreat.D
