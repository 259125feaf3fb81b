/- Parts of a proof: what its theorem reaches, words cut short. No condition of its own. -/
import Derived.Test.YtingnldfpokckaaGreatPm26
set_option maxRecDepth 100000
set_option maxHeartbeats 16000000
set_option linter.unusedVariables false
set_option linter.unusedSimpArgs false
namespace Go.Proofs.YtingnldfpokckaaGreat.D
open Go.RowKit Go.Lib Go.Shelf
def RHdAt(y lo hi dg u m:Nat)(gr:Bool)(bk:Nat)(l:List Pr)(F:Ft)(w:World):Prop:=∃v,Blk w y 148 #[.int .i64 lo,.int .i64 hi,.int .i64 dg,.int .i64 u,.int .i64 m,.bool gr,.int .i64 bk,v]/\OwnE prE 0 w v l/\F y/\(∀k,v.ownBlock=some k->F k)/\∀k,F k->k<w.heap.size
theorem rhd_stay(y lo hi dg u m:Nat)(gr:Bool)(bk:Nat)(l:List Pr):Stay (RHdAt y lo hi dg u m gr bk l) where
 stay:=fun⟨v,h1,h2,h3,h4,h5⟩ hk hz=>⟨v,(hk y h3).trans h1,h2.stay fun k e=>hk k (h4 k e),h3,h4,fun k h=>Nat.lt_of_lt_of_le (h5 k h) hz⟩
 more:=fun⟨v,h1,h2,h3,h4,_⟩ h hl=>⟨v,h1,h2,h y h3,fun k e=>h k (h4 k e),hl⟩
 low:=fun⟨_,_,_,_,_,h5⟩=>h5
theorem rhd_new{lo hi dg u m:Nat}(gr:Bool)(w:World)(ok:HdOk lo hi dg u m):Calls Tryz.prog 36 #[.agg #[.int .i64 lo,.int .i64 hi,.int .i64 dg],.bool gr] w fun e w'=>∃y,e=.returned (.pointer (some ⟨y,0,none⟩))/\RHdAt y lo hi dg u m gr (1+bkN u m hi) [] (Gr (fun _=>False) w w') w'/\Below w.heap.size w w':=by
 have C1:Hid (∀w,_):=Lib.hid (fun w=>rshape_any w ok)
 have C2:Hid (∀w,_):=Lib.hid (fun w=>rbucket_any u m hi w ok.um (by have:=ok.h1;omega))
 have HM:=bk_max (u:=u) (m:=m) (v:=hi) (by have:=ok.h1;omega)
 have hb:bkN u m hi<=63:=by have:=ok.um;omega
 generalize bkN u m hi=bk at *
 clear ok HM
 go_enter Tryz.func36,Tryz.ntmps36
 go_wp2_with fail
 obtain⟨b,hbb⟩:∃b,w.heap.size=b:=⟨_,rfl⟩
 obtain⟨w1,hw1⟩:∃w1,w.alloc (.cells #[.int .i64 lo,.int .i64 hi,.int .i64 dg] 23)=w1:=⟨_,rfl⟩
 have hb1:Below w.heap.size w w1:=by rw[<-hw1];(repeat' (first|(with_reducible exact Below.refl _ _)|(with_reducible refine Below.alloc ?_ ?_ _)|(with_reducible refine Below.drew ?_)|(with_reducible refine below_drewN ?_ _)|(with_reducible refine Below.setCell ?_ ?_ _)|(with_reducible refine below_of (by assumption) ?_ ?_)|go_size))
 have B1:Hid (Blk w1 b 23 #[.int .i64 lo,.int .i64 hi,.int .i64 dg]):=by rw[<-hw1,<-hbb];exact Lib.hid (Blk.new _ _ _)
 have HBB:=Lib.hid hbb
 rw[hw1,hbb]
 clear hw1 hbb
 refine(C1.out w1).mono ?_
 rintro e w2 ⟨rfl,hb2⟩
 have B2:=Lib.hid (B1.out.keep hb2)
 have hb12:=hb1.trans (hb2.mono hb1.size)
 have hz:=hb12.size
 have k0:=B2.out.cell 0
 have k1:=B2.out.cell 1
 have k2:=B2.out.cell 2
 simp only[List.getElem?_toArray,List.getElem?_cons_zero,List.getElem?_cons_succ] at k0 k1 k2
 go_wp2_with fail
 clear k0 k1 k2
 refine wp_region_plan (Below w2.heap.size w2) [(0,true),(1,true),(2,true),(3,true),(4,true),(5,true),(6,true),(7,true),(8,false),(9,true),(10,true),(11,false),(12,true)] (by kernel_rfl) (by kernel_rfl) ((Below.refl _ _).drew) ?_
 iterate 8
  refine wpPlan_read (by rfl) (by rfl) (fun R hR=>?_)
  apply Exists.intro
  refine⟨fun w' hS'=>?_,?_⟩
  ·have k0:=(B2.out.keep hS').cell 0
   have k1:=(B2.out.keep hS').cell 1
   have k2:=(B2.out.keep hS').cell 2
   simp only[List.getElem?_toArray,List.getElem?_cons_zero,List.getElem?_cons_succ] at k0 k1 k2
   go_simp
   exact⟨rfl,rfl⟩
  go_simp
  refine hR _ ?_
  clear hR R
 refine wpPlan_do (by rfl) (by rfl) (fun K hK=>?_)
 go_simp
 refine((C2.out w2.drew)).mono ?_
 rintro e w3 ⟨rfl,rfl⟩
 refine hK _ _ ((Below.refl _ _).drew) ?_
 clear hK K
 iterate 2
  refine wpPlan_read (by rfl) (by rfl) (fun R hR=>?_)
  apply Exists.intro
  refine⟨fun w' hS'=>?_,?_⟩
  ·have k0:=(B2.out.keep hS').cell 0
   have k1:=(B2.out.keep hS').cell 1
   have k2:=(B2.out.keep hS').cell 2
   simp only[List.getElem?_toArray,List.getElem?_cons_zero,List.getElem?_cons_succ] at k0 k1 k2
   go_simp
   exact⟨rfl,rfl⟩
  go_simp
  refine hR _ ?_
  clear hR R
 refine wpPlan_do (by rfl) (by rfl) (fun K hK=>?_)
 go_simp
 refine hK _ _ (((Below.refl _ _).drew).alloc (Nat.le_refl _) _) ?_
 clear hK K
 iterate 1
  refine wpPlan_read (by rfl) (by rfl) (fun R hR=>?_)
  apply Exists.intro
  refine⟨fun w' hS'=>?_,?_⟩
  ·have k0:=(B2.out.keep hS').cell 0
   have k1:=(B2.out.keep hS').cell 1
   have k2:=(B2.out.keep hS').cell 2
   simp only[List.getElem?_toArray,List.getElem?_cons_zero,List.getElem?_cons_succ] at k0 k1 k2
   go_simp
   exact⟨rfl,rfl⟩
  go_simp
  refine hR _ ?_
  clear hR R
 refine wpPlan_nil ?_
 go_wp2_with fail
 go_ret
 have ew:IntKind.i64.wrap (1+(bk:Int))=((1+bk:Nat):Int):=by rw[IntKind.wrap_i64];omega
 rw[ew]
 obtain⟨w5,hw5⟩:∃w5,(w2.alloc (.cells #[.int .i64 lo,.int .i64 hi,.int .i64 dg,.int .i64 u,.int .i64 m,.bool gr,.int .i64 ((1+bk:Nat):Int),.slice none 0 0] 148)).drew=w5:=⟨_,rfl⟩
 have hb5:Below w2.heap.size w2 w5:=by rw[<-hw5];exact((Below.refl _ _).alloc (Nat.le_refl _) _).drew
 have B5:Blk w5 w2.heap.size 148 #[.int .i64 lo,.int .i64 hi,.int .i64 dg,.int .i64 u,.int .i64 m,.bool gr,.int .i64 ((1+bk:Nat):Int),.slice none 0 0]:=by rw[<-hw5];exact(Blk.new _ _ _:Blk (w2.alloc _) _ _ _).drew
 have hl5:=B5.lt
 rw[hw5]
 exact⟨_,rfl,⟨_,B5,OwnE.nil_ _ _,.inr ⟨hz,hl5⟩,(fun k e=>by cases e),fun k h=>h.elim False.elim And.right⟩,hb12.trans (hb5.mono hz)⟩
open Go.RowKit Go.Lib Go.Shelf
def reachN(u m hi bk:Nat):Nat:=if bk=1+bkN u m hi then hi else topN u m bk
theorem rhd_reach{y lo hi dg u m bk:Nat}{gr:Bool}{l:List Pr}{F:Ft}(w:World)(h:RHdAt y lo hi dg u m gr bk l F w)(ok:HdOk lo hi dg u m)(b0:1<=bk)(b1:bk<=64):Calls Tryz.prog 84 #[.pointer (some ⟨y,0,none⟩)] w fun e w'=>e=.returned (.int .i64 (reachN u m hi bk))/\Below w.heap.size w w':=by
 have HE:Hid (reachN u m hi bk=if bk=1+bkN u m hi then hi else topN u m bk):=Lib.hid rfl
 rw[HE.out]
 have C1:Hid (∀w,_):=Lib.hid (fun w=>rbucket_any u m hi w ok.um (by have:=ok.h1;omega))
 have C2:Hid (∀w,_):=Lib.hid (fun w=>rtop_any u m bk w ok.um b0 b1)
 have HM:=bk_max (u:=u) (m:=m) (v:=hi) (by have:=ok.h1;omega)
 have hb:bkN u m hi<=63:=by have:=ok.um;omega
 obtain⟨v,hB,_⟩:=h
 have HB:=Lib.hid hB
 generalize bkN u m hi=B at *
 generalize topN u m bk=T at *
 have EW:Hid (IntKind.i64.wrap (1+(B:Int))=((1+B:Nat):Int)):=Lib.hid (by rw[IntKind.wrap_i64];omega)
 have k1':=hB.cell 1
 simp only[List.getElem?_toArray,List.getElem?_cons_zero,List.getElem?_cons_succ] at k1'
 clear ok HM hB HE
 obtain⟨N,hN⟩:∃N,1+B=N:=⟨_,rfl⟩
 rw[hN] at EW |-
 clear hN
 by_cases he:bk=N
 ·subst he
  rw[if_pos rfl]
  have hd:((bk:Int) == (bk:Int))=true:=by simp
  go_enter Tryz.func84,Tryz.ntmps84
  go_wp2_with fail
  refine wp_region_plan (Below w.heap.size w) [(0,true),(1,true),(2,true),(3,true),(4,true),(5,true),(6,true),(7,true),(8,true),(9,true),(10,true),(11,true),(12,true),(13,true),(14,true),(15,true),(16,true),(17,false),(18,true),(19,true)] (by kernel_rfl) (by kernel_rfl) ((Below.refl _ _).drew) ?_
  iterate 17
   refine wpPlan_read (by rfl) (by rfl) (fun R hR=>?_)
   apply Exists.intro
   refine⟨fun w' hS'=>?_,?_⟩
   ·have k1:=(HB.out.keep hS').cell 1
    have k3:=(HB.out.keep hS').cell 3
    have k4:=(HB.out.keep hS').cell 4
    have k6:=(HB.out.keep hS').cell 6
    have ew:=EW.out
    simp only[List.getElem?_toArray,List.getElem?_cons_zero,List.getElem?_cons_succ] at k1 k3 k4 k6
    go_simp
    exact⟨rfl,rfl⟩
   go_simp
   refine hR _ ?_
   clear hR R
  refine wpPlan_do (by rfl) (by rfl) (fun K hK=>?_)
  go_simp
  refine((C1.out w.drew)).mono ?_
  rintro e w3 ⟨rfl,rfl⟩
  refine hK _ _ ((Below.refl _ _).drew) ?_
  clear hK K
  iterate 2
   refine wpPlan_read (by rfl) (by rfl) (fun R hR=>?_)
   apply Exists.intro
   refine⟨fun w' hS'=>?_,?_⟩
   ·have k1:=(HB.out.keep hS').cell 1
    have k3:=(HB.out.keep hS').cell 3
    have k4:=(HB.out.keep hS').cell 4
    have k6:=(HB.out.keep hS').cell 6
    have ew:=EW.out
    simp only[List.getElem?_toArray,List.getElem?_cons_zero,List.getElem?_cons_succ] at k1 k3 k4 k6
    go_simp
    exact⟨rfl,rfl⟩
   go_simp
   refine hR _ ?_
   clear hR R
  refine wpPlan_nil ?_
  have k1:=(HB.out.drew).cell 1
  simp only[List.getElem?_toArray,List.getElem?_cons_zero,List.getElem?_cons_succ] at k1
  go_wp2_with fail
  go_ret
  exact⟨rfl,(Below.refl _ _).drew⟩
 ·rw[if_neg he]
  have hd:((bk:Int) == (N:Int))=false:=by simp;omega
  go_enter Tryz.func84,Tryz.ntmps84
  go_wp2_with fail
  refine wp_region_plan (Below w.heap.size w) [(0,true),(1,true),(2,true),(3,true),(4,true),(5,true),(6,true),(7,true),(8,true),(9,true),(10,true),(11,true),(12,true),(13,true),(14,true),(15,true),(16,true),(17,false),(18,true),(19,true)] (by kernel_rfl) (by kernel_rfl) ((Below.refl _ _).drew) ?_
  iterate 17
   refine wpPlan_read (by rfl) (by rfl) (fun R hR=>?_)
   apply Exists.intro
   refine⟨fun w' hS'=>?_,?_⟩
   ·have k1:=(HB.out.keep hS').cell 1
    have k3:=(HB.out.keep hS').cell 3
    have k4:=(HB.out.keep hS').cell 4
    have k6:=(HB.out.keep hS').cell 6
    have ew:=EW.out
    simp only[List.getElem?_toArray,List.getElem?_cons_zero,List.getElem?_cons_succ] at k1 k3 k4 k6
    go_simp
    exact⟨rfl,rfl⟩
   go_simp
   refine hR _ ?_
   clear hR R
  refine wpPlan_do (by rfl) (by rfl) (fun K hK=>?_)
  go_simp
  refine((C1.out w.drew)).mono ?_
  rintro e w3 ⟨rfl,rfl⟩
  refine hK _ _ ((Below.refl _ _).drew) ?_
  clear hK K
  iterate 2
   refine wpPlan_read (by rfl) (by rfl) (fun R hR=>?_)
   apply Exists.intro
   refine⟨fun w' hS'=>?_,?_⟩
   ·have k1:=(HB.out.keep hS').cell 1
    have k3:=(HB.out.keep hS').cell 3
    have k4:=(HB.out.keep hS').cell 4
    have k6:=(HB.out.keep hS').cell 6
    have ew:=EW.out
    simp only[List.getElem?_toArray,List.getElem?_cons_zero,List.getElem?_cons_succ] at k1 k3 k4 k6
    go_simp
    exact⟨rfl,rfl⟩
   go_simp
   refine hR _ ?_
   clear hR R
  refine wpPlan_nil ?_
  go_wp2_with fail
  refine wp_region_plan (Below w.heap.size w) [(0,true),(1,true),(2,true),(3,true),(4,true),(5,true),(6,true),(7,true),(8,true),(9,true),(10,true),(11,true),(12,false),(13,true)] (by kernel_rfl) (by kernel_rfl) ((Below.refl _ _).drew.drew) ?_
  iterate 12
   refine wpPlan_read (by rfl) (by rfl) (fun R hR=>?_)
   apply Exists.intro
   refine⟨fun w' hS'=>?_,?_⟩
   ·have k3:=(HB.out.keep hS').cell 3
    have k4:=(HB.out.keep hS').cell 4
    have k6:=(HB.out.keep hS').cell 6
    simp only[List.getElem?_toArray,List.getElem?_cons_zero,List.getElem?_cons_succ] at k3 k4 k6
    go_simp
    exact⟨rfl,rfl⟩
   go_simp
   refine hR _ ?_
   clear hR R
  refine wpPlan_do (by rfl) (by rfl) (fun K hK=>?_)
  go_simp
  refine((C2.out w.drew.drew)).mono ?_
  rintro e w3 ⟨rfl,rfl⟩
  refine hK _ _ ((Below.refl _ _).drew.drew) ?_
  clear hK K
  iterate 1
   refine wpPlan_read (by rfl) (by rfl) (fun R hR=>?_)
   apply Exists.intro
   refine⟨fun w' hS'=>?_,?_⟩
   ·have k3:=(HB.out.keep hS').cell 3
    have k4:=(HB.out.keep hS').cell 4
    have k6:=(HB.out.keep hS').cell 6
    simp only[List.getElem?_toArray,List.getElem?_cons_zero,List.getElem?_cons_succ] at k3 k4 k6
    go_simp
    exact⟨rfl,rfl⟩
   go_simp
   refine hR _ ?_
   clear hR R
  refine wpPlan_nil ?_
  go_wp2_with fail
  go_ret
  exact⟨rfl,(Below.refl _ _).drew.drew⟩
open Go.Lib
structure HsOk(lo hi dg u m:Nat)(gr:Bool)(bk:Nat)(l:List Pr):Prop where
 sh:HdOk lo hi dg u m
 srt:SrtP l
 pos:PosP l
 sum:tot l<=4611686018427387904
 key:∀p∈l,∃v:Nat,v<9223372036854775808/\p.1=ixN u m v/\1+bkN u m v<=bk
 fst:1+bkN u m hi<=bk
 mx:bk=1+bkN u m hi\/∃p∈l,∃v:Nat,v<9223372036854775808/\p.1=ixN u m v/\bk=1+bkN u m v
 grw:gr=false->bk=1+bkN u m hi
section
variable {lo hi dg u m bk : Nat} {gr : Bool} {l : List Pr}
theorem HdOk.mb(h:HdOk lo hi dg u m):1<=m/\m<=18:=by rw[h.me];exact mag_bd h.d1
theorem ix_lt{v:Nat}(h:HdOk lo hi dg u m)(hv:v<9223372036854775808):ixN u m v<=16777216:=by
 have h1:=ck_lt (u:=u) (m:=m) (v:=v) (by omega)
 have hb:=bk_max (u:=u) (m:=m) hv
 have hm:=h.mb
 have h2:2 ^ m<=262144:=(Nat.pow_le_pow_right (by omega) hm.2:2 ^ m<=2 ^ 18)
 have h3:2 ^ (m - 1)<=131072:=(Nat.pow_le_pow_right (by omega) (by omega):2 ^ (m - 1)<=2 ^ 17)
 have h4:bkN u m v * 2 ^ (m - 1)<=63 * 131072:=Nat.mul_le_mul (by omega) h3
 unfold ixN
 omega
theorem HsOk.b0(h:HsOk lo hi dg u m gr bk l):1<=bk:=by have:=h.fst;omega
theorem HsOk.b1(h:HsOk lo hi dg u m gr bk l):bk<=64:=by
 have h0:=h.sh.um
 have h2:=bk_max (u:=u) (m:=m) (v:=hi) (by have:=h.sh.h1;omega)
 rcases h.mx with e|⟨p,_,v,hv,_,e⟩
 ·omega
 ·have h1:=bk_max (u:=u) (m:=m) hv;omega
theorem HsOk.kb(h:HsOk lo hi dg u m gr bk l):∀p∈l,0<=p.1/\p.1<=16777216:=fun p hp=>by
 obtain⟨v,hv,e,_⟩:=h.key p hp
 have:=ix_lt h.sh hv
 omega
theorem HsOk.len(h:HsOk lo hi dg u m gr bk l):l.length<=16777217:=by
 have:=srt_len h.srt h.kb (by omega)
 omega
theorem hs_new(h:HdOk lo hi dg u m):HsOk lo hi dg u m gr (1+bkN u m hi) []:=⟨h,List.Pairwise.nil,by simp,by simp[tot],by simp,Nat.le_refl _,.inl rfl,fun _=>rfl⟩
def htE(l t:List Pr):Int:=if 4611686018427387904<tot l+tot t then 6 else 0
def htL(l t:List Pr):List Pr:=if htE l t=0 then mrgP l t else l
def htB(l t:List Pr)(bk bt:Nat):Nat:=if htE l t=0 then max bk bt else bk
end
open Go.RowKit Go.Lib Go.Shelf
section
variable {g u m : Nat} {lo hi dg : Int} {w : World}
theorem mtop_any(n:Nat)(h:MpAt w g lo hi dg u m)(hu:u+m<=62)(n0:1<=n)(n1:n<=64):Calls Tryz.prog 178 #[.pointer (some ⟨g,0,none⟩),.int .i64 n] w fun e w'=>e=.returned (.int .i64 (topN u m n))/\Below w.heap.size w w':=by
 have HT:Hid (topN u m n=if 63<=n - 1+u+m then 9223372036854775807 else 2 ^ (n - 1+u+m) - 1):=Lib.hid rfl
 rw[HT.out]
 obtain⟨k,rfl⟩:∃k,n=k+1:=⟨n - 1,by omega⟩
 simp only[Nat.add_sub_cancel] at HT |-
 obtain⟨t,ht⟩:∃t,k+u=t:=⟨_,rfl⟩
 obtain⟨s,hs⟩:∃s,k+u+m=s:=⟨_,rfl⟩
 have e1:IntKind.i64.wrap ((k:Int)+(u:Int))=(t:Int):=by rw[IntKind.wrap_i64];omega
 have e2:IntKind.i64.wrap ((t:Int)+(m:Int))=(s:Int):=by rw[IntKind.wrap_i64];omega
 have ek:IntKind.i64.wrap (k:Int)=(k:Int):=by rw[IntKind.wrap_i64];omega
 have em:max ((k:Int)+1) 1=(k:Int)+1:=by omega
 have em2:min ((k:Int)+1) 64=(k:Int)+1:=by omega
 rw[hs]
 have k3:=Blk.cell h 3
 have k4:=Blk.cell h 4
 simp only[List.getElem?_toArray,List.getElem?_cons_zero,List.getElem?_cons_succ] at k3 k4
 by_cases h63:63<=s
 ·have hge:(63:Int)<=(s:Int):=by omega
  rw[if_pos h63]
  clear HT ht hs h
  go_enter Tryz.func178,Tryz.ntmps178
  go_upto_region 2 with fail
  go_quiet (fail)
  go_wp2_with fail
  go_ret
  exact⟨by simp,below_drewN (Below.refl _ _) _⟩
 ·have hge:¬(63:Int)<=(s:Int):=by omega
  rw[if_neg h63]
  have hp:2 ^ s<=4611686018427387904:=(two_le (by omega):2 ^ s<=2 ^ 62)
  have h0:=Nat.two_pow_pos s
  have hp':=hp
  obtain⟨P,hP⟩:∃P,2 ^ s=P:=⟨_,rfl⟩
  have hPI:((2:Int) ^ s)=(P:Int):=by rw[<-hP];simp
  rw[hP] at h0 hp' |-
  have eP1:IntKind.i64.wrap ((P:Int) - 1)=(P:Int) - 1:=by rw[IntKind.wrap_i64];omega
  have efin:(((P - 1:Nat)):Int)=(P:Int) - 1:=by omega
  have eP:wrap64 (P:Int)=(P:Int):=by clear e1 e2 ek em em2 eP1 efin hge;unfold wrap64;omega
  rw[efin]
  clear HT ht hs hp efin hP
  go_enter Tryz.func178,Tryz.ntmps178
  go_upto_region 2 with fail
  go_quiet (fail)
  obtain⟨w2,hw2⟩:∃x,w.drewN nq=x:=⟨_,rfl⟩
  have B2:Below w.heap.size w w2:=by rw[<-hw2];exact below_drewN (Below.refl _ _) _
  have k3':w2.cell? ⟨g,3,none⟩=some (.int .i64 u):=by rw[<-hw2];exact k3
  have k4':w2.cell? ⟨g,4,none⟩=some (.int .i64 m):=by rw[<-hw2];exact k4
  rw[hw2]
  clear hw2 k3 k4
  have k3:=k3'
  have k4:=k4'
  have hg2:g<w2.heap.size:=by have:=Blk.lt h;have:=B2.size;omega
  clear k3 k4
  have HI:=Lib.hid (And.intro hPI (And.intro eP eP1))
  clear hPI eP eP1
  go_upto_region 4 with fail
  refine wp_region_plan (Below w2.heap.size w2) [(0,true),(1,true),(2,true),(3,true),(4,true),(5,true),(6,true),(7,true),(8,true),(9,true),(10,true),(11,true),(12,true),(13,true),(14,true)] (by kernel_rfl) (by kernel_rfl) ((Below.refl _ _).drew) ?_
  iterate 15
   refine wpPlan_read (by rfl) (by rfl) (fun R hR=>?_)
   apply Exists.intro
   refine⟨fun w' hS'=>?_,?_⟩
   ·have k3:=(hS'.cell (p:=⟨g,3,none⟩) hg2).trans k3'
    have k4:=(hS'.cell (p:=⟨g,4,none⟩) hg2).trans k4'
    obtain⟨i1,i2,i3⟩:=HI.out
    go_simp
    exact⟨rfl,rfl⟩
   go_simp
   refine hR _ ?_
   clear hR R
  refine wpPlan_nil ?_
  go_wp2_with fail
  go_ret
  have i0:IntKind.i64.wrap (P:Int)=(P:Int):=(IntKind.wrap_i64 _).trans (by omega)
  refine⟨?_,B2.drew⟩
  show Ending.returned (Value.int .i64 (IntKind.i64.wrap (IntKind.i64.wrap (P:Int) - 1)))=Ending.returned (Value.int .i64 ((P:Int) - 1))
  rw[i0,HI.out.2.2]
end
open Go.RowKit Go.Lib Go.Shelf
section
variable {g u m : Nat} {lo hi dg : Int} {w : World}
theorem mshape_any(h:MpAt w g lo hi dg u m):Calls Tryz.prog 66 #[.pointer (some ⟨g,0,none⟩)] w fun e w'=>e=.returned (.agg #[.int .i64 lo,.int .i64 hi,.int .i64 dg])/\Below w.heap.size w w':=by
 obtain⟨b,hbb⟩:∃b,w.heap.size=b:=⟨_,rfl⟩
 obtain⟨w1,hw1⟩:∃w1,w.alloc (.cells #[.int .i64 0,.int .i64 0,.int .i64 0] 23)=w1:=⟨_,rfl⟩
 have hb1:Below w.heap.size w w1:=by rw[<-hw1];(repeat' (first|(with_reducible exact Below.refl _ _)|(with_reducible refine Below.alloc ?_ ?_ _)|(with_reducible refine Below.drew ?_)|(with_reducible refine below_drewN ?_ _)|(with_reducible refine Below.setCell ?_ ?_ _)|(with_reducible refine below_of (by assumption) ?_ ?_)|go_size))
 have B1:Blk w1 b 23 #[.int .i64 0,.int .i64 0,.int .i64 0]:=by rw[<-hw1,<-hbb];exact Blk.new _ _ _
 have M1:=Blk.keep h hb1
 have k0:=Blk.cell M1 0
 have k1:=Blk.cell M1 1
 have k2:=Blk.cell M1 2
 have f0:=B1.frozen 0
 have f1:=B1.frozen 1
 have f2:=B1.frozen 2
 have j0:=B1.cell 0
 have j1:=B1.cell 1
 have j2:=B1.cell 2
 simp only[List.getElem?_toArray,List.getElem?_cons_zero,List.getElem?_cons_succ] at k0 k1 k2 j0 j1 j2
 have X:=Lib.hid (And.intro hb1 (And.intro B1 hbb))
 clear h M1 B1 hb1
 go_enter Tryz.func66,Tryz.ntmps66
 go_upto_region 1 with fail
 clear hw1 hbb
 go_wp2_with fail
 have hlt:=X.out.2.1.lt
 have c0:=(((X.out.2.1.set_ 0 (.int .i64 lo)).set_ 1 (.int .i64 hi)).set_ 2 (.int .i64 dg)).cell 0
 have c1:=(((X.out.2.1.set_ 0 (.int .i64 lo)).set_ 1 (.int .i64 hi)).set_ 2 (.int .i64 dg)).cell 1
 have c2:=(((X.out.2.1.set_ 0 (.int .i64 lo)).set_ 1 (.int .i64 hi)).set_ 2 (.int .i64 dg)).cell 2
 simp only[List.setIfInBounds_toArray,List.set_cons_zero,List.set_cons_succ,List.getElem?_toArray,List.getElem?_cons_zero,List.getElem?_cons_succ] at c0 c1 c2
 refine bodyPost_ret (by simp[results,Tryz.results66,go_sem, *];try rfl) rfl ?_
 have hbb:=X.out.2.2
 exact⟨rfl,((X.out.1.setCell (p:=⟨b,0,none⟩) (by show _<=b;omega) _).setCell (p:=⟨b,1,none⟩) (by show _<=b;omega) _).setCell (p:=⟨b,2,none⟩) (by show _<=b;omega) _⟩
end
end Go.Proofs.YtingnldfpokckaaGreat.D
