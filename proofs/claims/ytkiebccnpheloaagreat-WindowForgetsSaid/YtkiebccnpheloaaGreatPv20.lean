/- Parts of a proof: what its theorem reaches, words cut short. No condition of its own. -/
import Derived.Test.YtkiebccnpheloaaGreatPv19
set_option maxRecDepth 100000
set_option maxHeartbeats 16000000
set_option linter.unusedVariables false
set_option linter.unusedSimpArgs false
namespace Go.Proofs.YtkiebccnpheloaaGreat.D
open Go.RowKit
structure DdOk(a m:Nat)(l:List Pr):Prop where
 a0:100<=a
 a1:a<=5000
 m0:2<=m
 m1:m<=4096
 srt:SrtP l
 pos:PosP l
 key:∀p∈l,-((spans a).length:Int)<=p.1/\p.1<=((spans a).length:Int)
 sum:tot l<=4611686018427387904
theorem srt_len{lo hi:Int}:∀{l:List Pr},SrtP l->(∀p∈l,lo<=p.1/\p.1<=hi)->lo<=hi+1->(l.length:Int)<=hi - lo+1
 | [],_,_,h=>by simp;omega
 | p::l,s,k,_=>by
  have s1:=List.pairwise_cons.1 s
  have k0:=k p (List.mem_cons_self ..)
  have:=srt_len (lo:=p.1+1) (hi:=hi) s1.2 (fun q hq=>⟨by have:=s1.1 q hq;omega,(k q (List.mem_cons_of_mem _ hq)).2⟩) (by omega)
  simp only[List.length_cons];omega
theorem DdOk.len{a m:Nat}{l:List Pr}(h:DdOk a m l):l.length<=4201:=by
 have h2:=(ky_lt h.a0 h.a1 (v:=0) (by omega)).2
 have:=srt_len h.srt h.key (by omega)
 omega
theorem DdOk.ok{a m:Nat}{l:List Pr}(h:DdOk a m l):OkP l:=⟨h.srt,h.pos,(fun p hp=>by have:=h.key p hp;have h2:=(ky_lt h.a0 h.a1 (v:=0) (by omega)).2;omega),h.sum,by have:=h.len;omega⟩
theorem DdOk.cut{a m:Nat}{l:List Pr}(h:DdOk a m l):OkP (cutP m l).1/\tot (cutP m l).1=tot l/\(cutP m l).1.length<=m/\0<=(cutP m l).2/\(cutP m l).2<=4611686018427387904:=by
 have hm:=h.m0
 obtain⟨_,_,h3,h4,h5⟩:=cut_srt (m:=m) (by omega) h.srt h.pos
 refine⟨okP_cut h.ok (by omega),h3,h4,h5,?_⟩
 have:=(tot_take_le h.pos (l.length - m)).2
 have:=h.sum
 show D.tot (l.take (l.length - m))<=_
 omega
theorem ky_bd2{a:Nat}(ha:100<=a)(hb:a<=5000){v:Int}(h0:-9223372036854775808<v)(h1:v<=9223372036854775807):-((spans a).length:Int)<=kyP a v/\kyP a v<=((spans a).length:Int):=by
 have e1:=ky_lt ha hb h1
 have e2:=ky_lt ha hb (v:=-v) (by omega)
 unfold kyP
 split
 ·omega
 ·split<;>omega
def ddE(a:Nat)(l:List Pr)(v n:Int):Int:=if n=0 then 4 else if v=-9223372036854775808 then 5 else saddE l (kyP a v) n
def ddS(a:Nat)(l:List Pr)(v n:Int):List Pr:=if ddE a l v n=0 then putP (kyP a v) n l else l
theorem ddS_ok{a m:Nat}{l:List Pr}{v n:Int}(h:DdOk a m l)(v0:-9223372036854775808<=v)(v1:v<=9223372036854775807)(n0:0<=n):DdOk a m (ddS a l v n):=by
 unfold ddS
 split
 ·rename_i he
  unfold ddE at he
  split at he
  ·omega
  ·split at he
   ·omega
   ·have hk:=ky_bd2 h.a0 h.a1 (v:=v) (by omega) v1
    have ho:=put_ok h.ok he n0 (by have:=h.len;omega)
    exact⟨h.a0,h.a1,h.m0,h.m1,ho.srt,ho.pos,key_bound h.key hk,ho.tot⟩
 ·exact h
def ScF(b a:Nat)(H:Ft)(w:World):Prop:=∃v,Blk w b 345 #[.int .i64 a,v]/\OwnE (spE 397) 0 w v (spans a)/\H b/\(∀k,v.ownBlock=some k->H k)/\∀k,H k->k<w.heap.size
theorem sc_stay(b a:Nat):Stay (ScF b a) where
 stay:=fun⟨v,h1,h2,h3,h4,h5⟩ hk hz=>⟨v,(hk b h3).trans h1,h2.stay fun k e=>hk k (h4 k e),h3,h4,fun k h=>Nat.lt_of_lt_of_le (h5 k h) hz⟩
 more:=fun⟨v,h1,h2,h3,h4,_⟩ h hl=>⟨v,h1,h2,h b h3,fun k e=>h k (h4 k e),hl⟩
 low:=fun⟨_,_,_,_,_,h5⟩=>h5
theorem ScF.at_{b a:Nat}{H:Ft}{w:World}(h:ScF b a H w):ScAt 0 w b a:=by
 obtain⟨v,h1,h2,_⟩:=h;exact⟨Nat.zero_le _,v,h1,h2⟩
theorem scf_of{b a:Nat}{w w':World}(h:ScAt w.heap.size w' b a):ScF b a (Gr (fun _=>False) w w') w':=by
 obtain⟨h1,v,h2,h3⟩:=h
 exact⟨v,h2,h3.more (Nat.zero_le _),.inr ⟨h1,h2.lt⟩,fun k e=>.inr (h3.lt k e),fun k h=>h.elim False.elim And.right⟩
def DdAt(d a m:Nat)(l:List Pr)(F:Ft)(w:World):Prop:=∃b c H G,Blk w d 245 #[.pointer (some ⟨b,0,none⟩),.pointer (some ⟨c,0,none⟩)]/\ScF b a H w/\CoAt c m (cutP m l).1 (cutP m l).2 G w/\F d/\(∀k,H k->F k)/\(∀k,G k->F k)/\¬G d/\(∀k,H k->¬G k)/\∀k,F k->k<w.heap.size
theorem dd_stay(d a m:Nat)(l:List Pr):Stay (DdAt d a m l) where
 stay:=fun⟨b,c,H,G,h1,h2,h3,h4,h5,h6,h7,h8,h9⟩ hk hz=>⟨b,c,H,G,(hk d h4).trans h1,(sc_stay b a).stay h2 (fun k e=>hk k (h5 k e)) hz,(co_stay _ _ _ _).stay h3 (fun k e=>hk k (h6 k e)) hz,h4,h5,h6,h7,h8,fun k h=>Nat.lt_of_lt_of_le (h9 k h) hz⟩
 more:=fun⟨b,c,H,G,h1,h2,h3,h4,h5,h6,h7,h8,_⟩ h hl=>⟨b,c,H,G,h1,h2,h3,h d h4,fun k e=>h k (h5 k e),fun k e=>h k (h6 k e),h7,h8,hl⟩
 low:=fun⟨_,_,_,_,_,_,_,_,_,_,_,_,h9⟩=>h9
def MutP(P:Ft->World->Prop)(F:Ft)(er:Int)(w:World)(e:Ending)(w':World):Prop:=e=.returned (.int .i64 er)/\P (Gr F w w') w'/\Touch F w w'
theorem mut_same{P:Ft->World->Prop}(S:Stay P){F:Ft}{er:Int}{w w':World}{e:Ending}(h:P F w)(he:e=.returned (.int .i64 er))(hb:Below w.heap.size w w'):MutP P F er w e w':=
 ⟨he,S.more (S.keep h hb) (fun _ h=>.inl h) (gr_lt (S.low h) hb.size),Touch.of_below hb (Nat.le_refl _)⟩
theorem dd_new(a m:Nat)(w:World)(h0:100<=a)(h1:a<=5000)(h2:2<=m)(h3:m<=4096) :
 Calls Tryz.prog 228 #[.int .i64 a,.int .i64 m] w fun e w'=>∃d,e=.returned (.tuple #[.pointer (some ⟨d,0,none⟩),.int .i64 0])/\DdAt d a m [] (Gr (fun _=>False) w w') w'/\Below w.heap.size w w':=by
 go_enter Tryz.func228,Tryz.ntmps228
 go_wp2_with fail
 refine(scale_new a w h0 h1).mono ?_
 rintro e w1 ⟨b,rfl,s1,hb1⟩
 have hz1:=hb1.size
 have S1:=Lib.hid (scf_of s1)
 clear s1
 go_wp2_with fail
 refine(co_new m w1 h2 h3).mono ?_
 rintro e w2 ⟨c,rfl,s2,hb2⟩
 have hz2:=hb2.size
 have S2:=Lib.hid s2
 clear s2
 go_wp2_with fail
 go_ret2
 have hb3:Below w2.heap.size w2 (w2.alloc (.cells #[.pointer (some ⟨b,0,none⟩),.pointer (some ⟨c,0,none⟩)] 245)):=by(repeat' (first|(with_reducible exact Below.refl _ _)|(with_reducible refine Below.alloc ?_ ?_ _)|(with_reducible refine Below.drew ?_)|(with_reducible refine below_drewN ?_ _)|(with_reducible refine Below.setCell ?_ ?_ _)|(with_reducible refine below_of (by assumption) ?_ ?_)|go_size))
 refine⟨_,rfl,⟨b,c,Gr (fun _=>False) w w1,Gr (fun _=>False) w1 w2,Blk.new _ _ _,(sc_stay b a).keep S1.out (hb2.trans (hb3.mono hz2)),?_,.inr ⟨by omega,by simp⟩,fun k h=>.inr ⟨(h.elim False.elim And.left),?_⟩,fun k h=>.inr ⟨?_,?_⟩,?_,fun k h h'=>?_,fun k h=>h.elim False.elim And.right⟩,by(repeat' (first|(with_reducible exact Below.refl _ _)|(with_reducible refine Below.alloc ?_ ?_ _)|(with_reducible refine Below.drew ?_)|(with_reducible refine below_drewN ?_ _)|(with_reducible refine Below.setCell ?_ ?_ _)|(with_reducible refine below_of (by assumption) ?_ ?_)|go_size))⟩
 ·have:cutP m []=([],0):=cut_few (by simp)
  rw[this]
  exact(co_stay _ _ _ _).keep S2.out hb3
 ·have:=(sc_stay b a).low S1.out k h;simp;omega
 ·have:=(h.elim False.elim And.left);omega
 ·have:=(co_stay _ _ _ _).low S2.out k h;simp;omega
 ·intro h;have:=(co_stay _ _ _ _).low S2.out _ h;omega
 ·have h1:=(sc_stay b a).low S1.out k h
  have h2:=(h'.elim False.elim And.left)
  omega
section
variable {d a m : Nat} {l : List Pr} {F : Ft}
theorem dd_acc(w:World)(h:DdAt d a m l F w):Calls Tryz.prog 70 #[.pointer (some ⟨d,0,none⟩)] w fun e w'=>e=.returned (.int .i64 a)/\w=w':=by
 obtain⟨b,c,H,G,hB,hS,_⟩:=h
 have C:=Lib.hid (acc_any w hS.at_)
 have k0:=hB.cell 0
 simp only[List.getElem?_toArray,List.getElem?_cons_zero] at k0
 clear hB hS
 go_enter Tryz.func70,Tryz.ntmps70
 go_wp2_with fail
 refine(C.out).mono ?_
 rintro e w' ⟨rfl,rfl⟩
 go_wp2_with fail
 go_ret
 exact⟨rfl,rfl⟩
theorem dd_budget(w:World)(h:DdAt d a m l F w):Calls Tryz.prog 71 #[.pointer (some ⟨d,0,none⟩)] w fun e w'=>e=.returned (.int .i64 m)/\w=w':=by
 obtain⟨b,c,H,G,hB,_,hC,_⟩:=h
 obtain⟨g,hR⟩:=hC.r
 obtain⟨G',hR,_⟩:=hR
 have C:Hid (Calls Tryz.prog 163 #[.pointer (some ⟨c,0,none⟩)] w fun e w'=>e=.returned (.int .i64 m)/\w=w'):=by
  have k0:=hR.cell 0
  simp only[List.getElem?_toArray,List.getElem?_cons_zero] at k0
  clear hR hC hB
  refine Lib.hid ?_
  go_enter Tryz.func163,Tryz.ntmps163
  go_wp2_with fail
  go_ret
  exact⟨rfl,rfl⟩
 have k1:=hB.cell 1
 simp only[List.getElem?_toArray,List.getElem?_cons_zero,List.getElem?_cons_succ] at k1
 clear hB hR hC
 go_enter Tryz.func71,Tryz.ntmps71
 go_wp2_with fail
 refine(C.out).mono ?_
 rintro e w' ⟨rfl,rfl⟩
 go_wp2_with fail
 go_ret
 exact⟨rfl,rfl⟩
theorem dd_folded(w:World)(h:DdAt d a m l F w):Calls Tryz.prog 150 #[.pointer (some ⟨d,0,none⟩)] w fun e w'=>e=.returned (.int .u64 (cutP m l).2)/\w=w':=by
 obtain⟨b,c,H,G,hB,_,hC,_⟩:=h
 obtain⟨g,hR⟩:=hC.r
 obtain⟨G',hR,_⟩:=hR
 have C:Hid (Calls Tryz.prog 252 #[.pointer (some ⟨c,0,none⟩)] w fun e w'=>e=.returned (.int .u64 (cutP m l).2)/\w=w'):=by
  have k0:=hR.cell 2
  simp only[List.getElem?_toArray,List.getElem?_cons_zero,List.getElem?_cons_succ] at k0
  clear hR hC hB
  refine Lib.hid ?_
  go_enter Tryz.func252,Tryz.ntmps252
  go_wp2_with fail
  go_ret
  exact⟨rfl,rfl⟩
 have k1:=hB.cell 1
 simp only[List.getElem?_toArray,List.getElem?_cons_zero,List.getElem?_cons_succ] at k1
 clear hB hR hC
 go_enter Tryz.func150,Tryz.ntmps150
 go_wp2_with fail
 refine(C.out).mono ?_
 rintro e w' ⟨rfl,rfl⟩
 go_wp2_with fail
 go_ret
 exact⟨rfl,rfl⟩
theorem dd_total(w:World)(h:DdAt d a m l F w)(ok:DdOk a m l):Calls Tryz.prog 124 #[.pointer (some ⟨d,0,none⟩)] w fun e w'=>e=.returned (.int .u64 (tot l))/\w=w':=by
 obtain⟨b,c,H,G,hB,_,hC,_⟩:=h
 obtain⟨g,G',hR,hS⟩:=hC.r
 have C0:=Lib.hid (stotal_any w hS)
 rw[ok.cut.2.1] at C0
 have C:Hid (Calls Tryz.prog 219 #[.pointer (some ⟨c,0,none⟩)] w fun e w'=>e=.returned (.int .u64 (tot l))/\w=w'):=by
  have k0:=hR.cell 1
  simp only[List.getElem?_toArray,List.getElem?_cons_zero,List.getElem?_cons_succ] at k0
  clear hR hC hB hS
  refine Lib.hid ?_
  go_enter Tryz.func219,Tryz.ntmps219
  go_wp2_with fail
  refine(C0.out).mono ?_
  rintro e w' ⟨rfl,rfl⟩
  go_wp2_with fail
  go_ret
  exact⟨rfl,rfl⟩
 have k1:=hB.cell 1
 simp only[List.getElem?_toArray,List.getElem?_cons_zero,List.getElem?_cons_succ] at k1
 clear hB hR hC hS
 go_enter Tryz.func124,Tryz.ntmps124
 go_wp2_with fail
 refine(C.out).mono ?_
 rintro e w' ⟨rfl,rfl⟩
 go_wp2_with fail
 go_ret
 exact⟨rfl,rfl⟩
theorem dd_pairs(w:World)(h:DdAt d a m l F w)(ok:DdOk a m l):Calls Tryz.prog 149 #[.pointer (some ⟨d,0,none⟩)] w fun e w'=>∃v,e=.returned v/\OwnE prE w.heap.size w' v (cutP m l).1/\Below w.heap.size w w':=by
 obtain⟨b,c,H,G,hB,_,hC,_⟩:=h
 obtain⟨g,G',hR,hS⟩:=hC.r
 have C0:=Lib.hid (pairs_any w hS ok.cut.1.len)
 have C:Hid (Calls Tryz.prog 251 #[.pointer (some ⟨c,0,none⟩)] w fun e w'=>∃v,e=.returned v/\OwnE prE w.heap.size w' v (cutP m l).1/\Below w.heap.size w w'):=by
  have k0:=hR.cell 1
  simp only[List.getElem?_toArray,List.getElem?_cons_zero,List.getElem?_cons_succ] at k0
  clear hR hC hB hS
  refine Lib.hid ?_
  go_enter Tryz.func251,Tryz.ntmps251
  go_wp2_with fail
  refine(C0.out).mono ?_
  rintro e w1 ⟨v1,rfl,o1,hb1⟩
  go_wp2_with fail
  go_ret
  exact⟨_,rfl,o1,hb1⟩
 have k1:=hB.cell 1
 simp only[List.getElem?_toArray,List.getElem?_cons_zero,List.getElem?_cons_succ] at k1
 clear hB hR hC hS
 go_enter Tryz.func149,Tryz.ntmps149
 go_wp2_with fail
 refine(C.out).mono ?_
 rintro e w1 ⟨v1,rfl,o1,hb1⟩
 go_wp2_with fail
 go_ret
 exact⟨_,rfl,o1,hb1⟩
end
open Go.RowKit
theorem mut_after{P:Ft->World->Prop}(S:Stay P){F:Ft}{er:Int}{w w1 w':World}{e:Ending}(hb:Below w.heap.size w w1)(h0:∀k,F k->k<w.heap.size)(hm:MutP P F er w1 e w'):MutP P F er w e w':=
 ⟨hm.1,S.more hm.2.1 (fun k h=>h.imp id fun h=>⟨Nat.le_trans hb.size h.1,h.2⟩) (gr_lt h0 (Nat.le_trans hb.size hm.2.2.size)),btl hb hm.2.2⟩
theorem saddE_tot{l l':List Pr}(h:tot l=tot l')(k n:Int):saddE l k n=saddE l' k n:=by unfold saddE;rw[h]
theorem dd_turn{d a m b c:Nat}{l':List Pr}{F H G:Ft}{w w':World}(hB:Blk w d 245 #[.pointer (some ⟨b,0,none⟩),.pointer (some ⟨c,0,none⟩)])(hS:ScF b a H w)(hFd:F d)(hH:∀k,H k->F k)(hG:∀k,G k->F k)(hGd:¬G d)(hHG:∀k,H k->¬G k)(hF:∀k,F k->k<w.heap.size)
 (hc:CoAt c m (cutP m l').1 (cutP m l').2 (Gr G w w') w') (ht:Touch G w w'):DdAt d a m l' (Gr F w w') w'/\Touch F w w':=
 ⟨⟨b,c,H,Gr G w w',(ht.block d hB.lt hGd).trans hB,(sc_stay b a).far hS ht hHG,hc,.inl hFd,fun k h=>.inl (hH k h),fun k h=>h.imp (hG k) id,fun h=>h.elim hGd (fun h=>by have:=hB.lt;omega),fun k h h'=>h'.elim (hHG k h) (fun h'=>by have:=(sc_stay b a).low hS k h;omega),gr_lt hF ht.size⟩,ht.mono hG⟩
theorem dd_add{d a m:Nat}{l:List Pr}{F:Ft}(v n:Int)(w:World)(h:DdAt d a m l F w)(ok:DdOk a m l)(v0:-9223372036854775808<=v)(v1:v<=9223372036854775807)(n0:0<=n)(n1:n<18446744073709551616) :
 Calls Tryz.prog 132 #[.pointer (some ⟨d,0,none⟩),.int .i64 v,.int .u64 n] w (MutP (DdAt d a m (ddS a l v n)) F (ddE a l v n) w):=by
 have HH:=Lib.hid h
 obtain⟨b,c,H,G,hB,hS,hC,hFd,hH,hG,hGd,hHG,hF⟩:=h
 have k0:=hB.cell 0
 have k1:=hB.cell 1
 simp only[List.getElem?_toArray,List.getElem?_cons_zero,List.getElem?_cons_succ] at k0 k1
 have hdl:=hB.lt
 have X:=Lib.hid (And.intro hB (And.intro hS (And.intro hC (And.intro hFd (And.intro hH (And.intro hG (And.intro hGd (And.intro hHG hF))))))))
 clear hB hC hFd hH hG hGd hHG hF
 by_cases hn:n=0
 ·have e1:ddE a l v n=4:=if_pos hn
  have e2:ddS a l v n=l:=by unfold ddS;rw[e1];rfl
  rw[e1,e2]
  clear e1 e2 hS
  go_enter Tryz.func132,Tryz.ntmps132
  go_wp2_with fail
  go_ret
  exact mut_same (dd_stay d a m l) HH.out rfl (Below.refl _ _)
 ·by_cases hv:v=-9223372036854775808
  ·subst hv
   have e1:ddE a l (-9223372036854775808) n=5:=by unfold ddE;rw[if_neg hn,if_pos rfl]
   have e2:ddS a l (-9223372036854775808) n=l:=by unfold ddS;rw[e1];rfl
   rw[e1,e2]
   have CK:=Lib.hid (key_min w hS.at_)
   clear e1 e2 hS
   go_enter Tryz.func132,Tryz.ntmps132
   go_wp2_with fail
   refine(CK.out).mono ?_
   rintro e w1 ⟨rfl,hb1⟩
   go_wp2_with fail
   go_ret
   exact mut_same (dd_stay d a m l) HH.out rfl hb1
  ·have e1:ddE a l v n=saddE l (kyP a v) n:=by unfold ddE;rw[if_neg hn,if_neg hv]
   have HE2:Hid (ddS a l v n=if saddE l (kyP a v) n=0 then putP (kyP a v) n l else l):=Lib.hid (by unfold ddS;rw[e1])
   rw[e1]
   have CK:=Lib.hid (key_any v w hS.at_ ok.a0 ok.a1 (by omega) v1)
   obtain⟨k1',k2',k3',k4',k5'⟩:=ok.cut
   have hk:=ky_bd ok.a0 ok.a1 (v:=v) (by omega) v1
   have HPS:=Lib.hid (put_step (m:=m) (by have:=ok.m0;omega) ok.srt ok.pos (kyP a v) n (by omega))
   have CA:Hid (∀w1,Below w.heap.size w w1->_):=Lib.hid (fun w1 hb=>cadd_any (k:=kyP a v) (n:=n) w1 ((co_stay _ _ _ _).keep X.out.2.2.1 hb) k1' k3' ok.m0 ok.m1 k4' k5' n0 n1)
   rw[saddE_tot k2'] at CA
   generalize kyP a v=k at *
   generalize saddE l k n=er at *
   clear hS e1 k1' k2' k3' k4' k5'
   go_enter Tryz.func132,Tryz.ntmps132
   go_wp2_with fail
   refine(CK.out).mono ?_
   rintro e w1 ⟨rfl,hb1⟩
   have k1'':=(hb1.cell (p:=⟨d,1,none⟩) hdl).trans k1
   go_wp2_with fail
   refine(CA.out w1 hb1).mono ?_
   intro e w' hp
   have HP:=Lib.hid hp
   obtain⟨rfl,_⟩:=hp
   go_wp2_with fail
   go_ret
   obtain⟨_,h1,h2⟩:=HP.out
   obtain⟨hB,hS,hC,hFd,hH,hG,hGd,hHG,hF⟩:=X.out
   rw[HE2.out]
   by_cases he:er=0
   ·rw[if_pos he]
    obtain⟨h3,h4⟩:=h1 he
    rw[HPS.out] at h3
    have hS1:=(sc_stay b a).keep hS hb1
    obtain⟨h5,h6⟩:=dd_turn (hB.keep hb1) hS1 hFd hH hG hGd hHG (fun k h=>Nat.lt_of_lt_of_le (hF k h) hb1.size) h3 h4
    exact mut_after (dd_stay d a m _) hb1 hF ⟨rfl,h5,h6⟩
   ·rw[if_neg he]
    exact mut_same (dd_stay d a m l) HH.out rfl (hb1.trans ((h2 he).mono hb1.size))
def RDdAt(y a m:Nat)(l:List Pr)(F:Ft)(w:World):Prop:=∃rv v,Blk w y 167 #[rv,.int .i64 a,.int .i64 m,v]/\OwnE (spE 187) 0 w rv (spans a)/\OwnE prE 0 w v l/\F y/\(∀k,rv.ownBlock=some k->F k)/\(∀k,v.ownBlock=some k->F k)/\∀k,F k->k<w.heap.size
theorem rdd_stay(y a m:Nat)(l:List Pr):Stay (RDdAt y a m l) where
 stay:=fun⟨rv,v,h1,h2,h3,h4,h5,h6,h7⟩ hk hz=>⟨rv,v,(hk y h4).trans h1,h2.stay fun k e=>hk k (h5 k e),h3.stay fun k e=>hk k (h6 k e),h4,h5,h6,fun k h=>Nat.lt_of_lt_of_le (h7 k h) hz⟩
 more:=fun⟨rv,v,h1,h2,h3,h4,h5,h6,_⟩ h hl=>⟨rv,v,h1,h2,h3,h y h4,fun k e=>h k (h5 k e),fun k e=>h k (h6 k e),hl⟩
 low:=fun⟨_,_,_,_,_,_,_,_,h7⟩=>h7
theorem rdd_new(a m:Nat)(w:World)(h0:100<=a)(h1:a<=5000)(h2:2<=m)(h3:m<=4096) :
 Calls Tryz.prog 80 #[.int .i64 a,.int .i64 m] w fun e w'=>∃y,e=.returned (.pointer (some ⟨y,0,none⟩))/\RDdAt y a m [] (Gr (fun _=>False) w w') w'/\Below w.heap.size w w':=by
 go_enter Tryz.func80,Tryz.ntmps80
 go_wp2_with fail
 refine(rall_any a w h0 h1).mono ?_
 rintro e w1 ⟨v,rfl,o1,hb1⟩
 have hz1:=hb1.size
 have O1:=Lib.hid o1
 obtain⟨A,c,rfl,_,_,_⟩:=o1.form
 clear o1
 go_wp2_with fail
 go_ret
 have hb3:Below w1.heap.size w1 (w1.alloc (.cells #[.slice A (spans a).length c,.int .i64 a,.int .i64 m,.slice none 0 0] 167)):=by(repeat' (first|(with_reducible exact Below.refl _ _)|(with_reducible refine Below.alloc ?_ ?_ _)|(with_reducible refine Below.drew ?_)|(with_reducible refine below_drewN ?_ _)|(with_reducible refine Below.setCell ?_ ?_ _)|(with_reducible refine below_of (by assumption) ?_ ?_)|go_size))
 exact⟨_,rfl,⟨_,.slice none 0 0,Blk.new _ _ _,(O1.out.keep hb3).more (Nat.zero_le _),OwnE.nil_ _ _,.inr ⟨by omega,by simp⟩,fun k e=>.inr ⟨(O1.out.lt k e).1,by have:=(O1.out.lt k e).2;simp;omega⟩,(fun k e=>by cases e),fun k h=>h.elim False.elim And.right⟩,by(repeat' (first|(with_reducible exact Below.refl _ _)|(with_reducible refine Below.alloc ?_ ?_ _)|(with_reducible refine Below.drew ?_)|(with_reducible refine below_drewN ?_ _)|(with_reducible refine Below.setCell ?_ ?_ _)|(with_reducible refine below_of (by assumption) ?_ ?_)|go_size))⟩
open Go.RowKit
theorem rdd_turn{y a m:Nat}{l':List Pr}{F:Ft}{w w2:World}{rv v v':Value}(hB:Blk w y 167 #[rv,.int .i64 a,.int .i64 m,v])(hR:OwnE (spE 187) 0 w rv (spans a))(hFy:F y)(hr:∀k,rv.ownBlock=some k->F k)(hF:∀k,F k->k<w.heap.size)
 (hb:Below w.heap.size w w2) (hO:OwnE prE 0 w2 v' l') (hv:∀k,v'.ownBlock=some k->F k\/w.heap.size<=k):RDdAt y a m l' (Gr F w (w2.setCell ⟨y,3,none⟩ v')) (w2.setCell ⟨y,3,none⟩ v')/\Touch F w (w2.setCell ⟨y,3,none⟩ v'):=by
 have hne:=own_ne hB hR (by decide)
 have hne':=own_ne (hB.keep hb) hO (by decide)
 have t2:Touch F w (w2.setCell ⟨y,3,none⟩ v'):=(Touch.of_below (F:=F) hb (Nat.le_refl _)).setCell (p:=⟨y,3,none⟩) (.inl hFy) v'
 refine⟨⟨rv,v',(hB.keep hb).set_ 3 v',(hR.keep hb).far hne _,hO.far hne' _,.inl hFy,fun k e=>.inl (hr k e),fun k e=>(hv k e).imp id fun h=>⟨h,?_⟩,gr_lt hF t2.size⟩,t2⟩
 have:=hO.lt k e
 simpa using this.2
theorem rdd_add{y a m:Nat}{l:List Pr}{F:Ft}(v n:Int)(w:World)(h:RDdAt y a m l F w)(ok:DdOk a m l)(v0:-9223372036854775808<=v)(v1:v<=9223372036854775807)(n0:0<=n)(n1:n<18446744073709551616) :
 Calls Tryz.prog 175 #[.pointer (some ⟨y,0,none⟩),.int .i64 v,.int .u64 n] w (MutP (RDdAt y a m (ddS a l v n)) F (ddE a l v n) w):=by
 have HH:=Lib.hid h
 by_cases hn:n=0
 ·have e1:ddE a l v n=4:=if_pos hn
  have e2:ddS a l v n=l:=by unfold ddS;rw[e1];rfl
  rw[e1,e2]
  clear e1 e2 h
  subst hn
  go_enter Tryz.func175,Tryz.ntmps175
  go_wp2_with fail
  go_ret
  exact mut_same (rdd_stay y a m l) HH.out rfl (Below.refl _ _)
 ·by_cases hv:v=-9223372036854775808
  ·subst hv
   have e1:ddE a l (-9223372036854775808) n=5:=by unfold ddE;rw[if_neg hn,if_pos rfl]
   have e2:ddS a l (-9223372036854775808) n=l:=by unfold ddS;rw[e1];rfl
   rw[e1,e2]
   clear e1 e2 h
   go_enter Tryz.func175,Tryz.ntmps175
   go_wp2_with fail
   go_ret
   exact mut_same (rdd_stay y a m l) HH.out rfl (Below.refl _ _)
  ·have e1:ddE a l v n=saddE l (kyP a v) n:=by unfold ddE;rw[if_neg hn,if_neg hv]
   have HE2:Hid (ddS a l v n=if saddE l (kyP a v) n=0 then putP (kyP a v) n l else l):=Lib.hid (by unfold ddS;rw[e1])
   rw[e1]
   obtain⟨rv,u,hB,hR,hO,hFy,hr,hu,hF⟩:=h
   have CK:Hid (∀w1,Below w.heap.size w w1->_):=Lib.hid (fun w1 hb=>rkey_any rv v w1 ((hR.keep hb).rd) ok.a0 ok.a1 (by omega) v1)
   have CA:Hid (∀w1,Below w.heap.size w w1->_):=Lib.hid (fun w1 hb=>radd13_any u (kyP a v) n l w1 ((hO.keep hb).rd) ok.pos n0 n1 ok.sum (by have:=ok.len;omega))
   have k0:=hB.cell 0
   have k3:=hB.cell 3
   simp only[List.getElem?_toArray,List.getElem?_cons_zero,List.getElem?_cons_succ] at k0 k3
   have hyl:=hB.lt
   have X:=Lib.hid (And.intro hB (And.intro hR (And.intro hO (And.intro hFy (And.intro hr (And.intro hu hF))))))
   obtain⟨A,c,rfl,_,_,_⟩:=hO.form
   obtain⟨A1,c1,rfl,_,_,_⟩:=hR.form
   clear hB hR hO hFy hr hu hF e1
   generalize kyP a v=k at *
   generalize saddE l k n=er at *
   rw[HE2.out]
   obtain⟨L7,hL7⟩:∃x,(if er=0 then putP k n l else l)=x:=⟨_,rfl⟩
   rw[hL7]
   have HL:=Lib.hid hL7
   clear hL7 HE2
   have KK:=Lib.hid (And.intro k0 k3)
   clear k0 k3
   go_enter Tryz.func175,Tryz.ntmps175
   go_wp2_with fail
   refine wp_region_plan (Below w.heap.size w) [(0,true),(1,true),(2,true),(3,true),(4,true),(5,true),(6,true),(7,true),(8,true),(10,true),(9,false),(11,false),(12,true),(13,true),(14,true),(15,true),(16,true)] (by kernel_rfl) (by kernel_rfl) ((Below.refl _ _).drew) ?_
   iterate 10
    refine wpPlan_read (by rfl) (by rfl) (fun R hR=>?_)
    apply Exists.intro
    refine⟨fun w' hS'=>?_,?_⟩
    ·have k0:=(hS'.cell (p:=⟨y,0,none⟩) hyl).trans KK.out.1
     have k3:=(hS'.cell (p:=⟨y,3,none⟩) hyl).trans KK.out.2
     go_simp
     exact⟨rfl,rfl⟩
    go_simp
    refine hR _ ?_
    clear hR R
   refine wpPlan_do (by rfl) (by rfl) (fun K hK=>?_)
   go_simp
   refine(CK.out w.drew (Below.refl _ _).drew).mono ?_
   rintro e w1 ⟨rfl,rfl⟩
   refine hK _ _ ((Below.refl _ _).drew) ?_
   clear hK K
   refine wpPlan_do (by rfl) (by rfl) (fun K hK=>?_)
   go_simp
   refine(CA.out w.drew (Below.refl _ _).drew).mono ?_
   intro e w3 hp
   have HP:=Lib.hid hp
   obtain⟨v3,rfl,_,_,hb3⟩:=hp
   have B3:Below w.heap.size w w3:=(Below.refl _ _).drew.trans hb3
   refine hK _ _ (B3) ?_
   clear hK K
   iterate 5
    refine wpPlan_read (by rfl) (by rfl) (fun R hR=>?_)
    apply Exists.intro
    refine⟨fun w' hS'=>?_,?_⟩
    ·have k0:=(hS'.cell (p:=⟨y,0,none⟩) hyl).trans KK.out.1
     have k3:=(hS'.cell (p:=⟨y,3,none⟩) hyl).trans KK.out.2
     go_simp
     exact⟨rfl,rfl⟩
    go_simp
    refine hR _ ?_
    clear hR R
   refine wpPlan_nil ?_
   have HO3:Hid (OwnE prE 0 w3 v3 L7/\∀j,v3.ownBlock=some j->F j\/w.heap.size<=j):=Lib.hid (by
    rw[<-HL.out]
    obtain⟨v3',he3,h1,h2,_⟩:=HP.out
    simp only[Ending.returned.injEq,Value.tuple.injEq] at he3
    have:v3=v3':=by simpa using he3
    subst this
    by_cases he:er=0
    ·rw[if_pos he]
     exact⟨(h1 he).more (Nat.zero_le _),fun j e=>.inr ((h1 he).lt j e).1⟩
    ·rw[if_neg he]
     obtain rfl:=h2 he
     exact⟨X.out.2.2.1.keep B3,fun j e=>.inl (X.out.2.2.2.2.2.1 j e)⟩)
   have k3:=(X.out.1.keep B3).cell 3
   have f3:=(X.out.1.keep B3).frozen 3
   simp only[List.getElem?_toArray,List.getElem?_cons_zero,List.getElem?_cons_succ] at k3
   obtain⟨A7,c7,rfl,_,_,_⟩:=HO3.out.1.form
   clear HP
   go_wp2_with fail
   go_ret
   obtain⟨hB,hR,hO,hFy,hr,hu,hF⟩:=X.out
   exact⟨rfl,rdd_turn hB hR hFy hr hF B3 HO3.out.1 HO3.out.2⟩
open Go.RowKit
open Go.RowKit
end Go.Proofs.YtkiebccnpheloaaGreat.D
