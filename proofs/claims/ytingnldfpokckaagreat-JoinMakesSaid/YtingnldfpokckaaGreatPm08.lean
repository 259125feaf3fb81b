/- Parts of a proof: what its theorem reaches, words cut short. No condition of its own. -/
import Derived.Test.YtingnldfpokckaaGreatPm07
import Derived.Shelf.Spec.SlicesGrow
set_option maxRecDepth 100000
set_option maxHeartbeats 16000000
set_option linter.unusedVariables false
set_option linter.unusedSimpArgs false
namespace Go.Proofs.YtingnldfpokckaaGreat
open Go.RowKit Go.Lib
theorem grow_M(n:Nat)(w:World)(hn:n<=1099511627776) :
 Calls Tryz.prog 146 #[.slice none 0 0,.int .i64 n] w fun e w'=>∃v,e=.returned v/\OwnM w.heap.size w' v []/\Below w.heap.size w w':=by
 obtain⟨i0,hi,hz0,hz1,hz2⟩:=info_parts infoM
 by_cases h0:n=0
 ·subst h0
  go_enter Tryz.func146,Tryz.ntmps146
  go_wp2_with fail
  go_ret
  exact⟨_,rfl,OwnM.nil_ _ _,by(repeat' (first|(with_reducible exact Below.refl _ _)|(with_reducible refine Below.alloc ?_ ?_ _)|(with_reducible refine Below.drew ?_)|(with_reducible refine below_drewN ?_ _)|(with_reducible refine Below.setCell ?_ ?_ _)|(with_reducible refine below_of (by assumption) ?_ ?_)|go_size))⟩
 ·have hold:(Builtin.firstCells i0.size 0 (.slice none 0 0)).run Tryz.prog w.drew=.ok #[] w.drew:=run_firstCells_none w.drew i0.size 0 0 0
  have hrz:∀ty,(Builtin.append_ #[90,3] ty #[.slice none 0 0,.int .i64 (n:Int)]).run Tryz.prog w =
   .ok (.slice (some ⟨w.heap.size,0,none⟩) n (grownCap w n 0 141)) (w.drew.alloc (.cells (([]:List Value).toArray++Builtin.zeroCells (Value.agg #[.int .i64 0,.int .u64 0]).cells n++Builtin.zeroCells (Value.agg #[.int .i64 0,.int .u64 0]).cells (grownCap w n 0 141 - n)) 141)):=fun ty=>by
   have h:=Lib.run_append_grow_zeros w 90 3 ty 141 i0 _ .i64 .i64 Tryz.underlying90 Tryz.underlying3 hi hz0 none 0 0 [] hold n (by omega) (by omega) (by omega) (by omega) (by rw[hz2];omega) (growslice_fits (by omega) (by rw[hz2];omega))
   simpa using h
  have hGn:n<=grownCap w n 0 141:=grownCap_ge w _ _ _
  have hG63:grownCap w n 0 141<=maxLen:=grownCap_le_maxLen w n 0 141 (by unfold maxLen;omega)
  obtain⟨G,hG⟩:∃G,grownCap w n 0 141=G:=⟨_,rfl⟩
  rw[hG] at hrz hGn hG63
  obtain⟨Z,hZ⟩:∃Z:Array Value,(([]:List Value).toArray++Builtin.zeroCells (Value.agg #[.int .i64 0,.int .u64 0]).cells n++Builtin.zeroCells (Value.agg #[.int .i64 0,.int .u64 0]).cells (G - n))=Z:=⟨_,rfl⟩
  rw[hZ] at hrz
  have hZs:Z.size=G * 2:=by
   rw[<-hZ,Array.size_append,Array.size_append,size_zeroCells,size_zeroCells]
   simp only[Value.cells,List.size_toArray,List.length_cons,List.length_nil]
   omega
  have HZ:=Lib.hid hZs
  have HG:=Lib.hid hG63
  have hG':G<=9223372036854775807:=by unfold maxLen at hG63;omega
  clear hZ hZs hG hold hi hz0 hz1 hz2 hG63
  go_enter Tryz.func146,Tryz.ntmps146
  go_wp2_with (at_builtin;refine Lib.wpList_append_run _ rfl _ _ _ _ rfl _ _ rfl rfl _ _ (hrz _) ?_)
  go_ret
  refine⟨_,rfl,?_,by(repeat' (first|(with_reducible exact Below.refl _ _)|(with_reducible refine Below.alloc ?_ ?_ _)|(with_reducible refine Below.drew ?_)|(with_reducible refine below_drewN ?_ _)|(with_reducible refine Below.setCell ?_ ?_ _)|(with_reducible refine below_of (by assumption) ?_ ?_)|go_size))⟩
  exact⟨by simp[cellsM],.inr ⟨w.heap.size,G,Z,rfl,Nat.le_refl _,heap_alloc_new _ _,Nat.zero_le _,HG.out,HZ.out,by simp[cellsM]⟩⟩
theorem own_empty(w:World):OwnM w.heap.size (w.alloc (.cells #[] 141)) (.slice (some ⟨w.heap.size,0,none⟩) 0 0) []:=
 ⟨by simp[cellsM],.inr ⟨w.heap.size,0,#[],rfl,Nat.le_refl _,heap_alloc_new _ _,Nat.zero_le _,by unfold maxLen;omega,rfl,by simp[cellsM]⟩⟩
theorem clone_M(v:Value)(l:List Mn)(w:World)(h:RdM w v l)(hlen:l.length<=1099511627776) :
 Calls Tryz.prog 205 #[v] w fun e w'=>∃v',e=.returned v'/\OwnM w.heap.size w' v' l/\Below w.heap.size w w':=by
 have H:=Lib.hid h
 obtain⟨A,c,rfl,hn,hc,hp⟩:=h.form
 rcases A with _|a
 ·have hl:l=[]:=by
   rcases Nat.eq_zero_or_pos l.length with h0|h0
   ·exact List.eq_nil_of_length_eq_zero h0
   ·obtain⟨g,off,hA,_⟩:=hp h0;cases hA
  subst hl
  clear hp h
  have he:(binOp .eql 90 (.slice none 0 c) (.slice none 0 0)).run Tryz.prog w=.ok (.bool true) w:=Lib.run_eql_slice_nil w _ _ _ _ _ _ _ Tryz.underlying90
  go_enter Tryz.func205,Tryz.ntmps205
  go_wp2_with fail
  go_ret
  exact⟨_,rfl,OwnM.nil_ _ _,by(repeat' (first|(with_reducible exact Below.refl _ _)|(with_reducible refine Below.alloc ?_ ?_ _)|(with_reducible refine Below.drew ?_)|(with_reducible refine below_drewN ?_ _)|(with_reducible refine Below.setCell ?_ ?_ _)|(with_reducible refine below_of (by assumption) ?_ ?_)|go_size))⟩
 ·clear hp h
  have he:(binOp .eql 90 (.slice (some a) l.length c) (.slice none 0 0)).run Tryz.prog w=.ok (.bool false) w:=Lib.run_eql_slice_nil w _ _ _ _ _ _ _ Tryz.underlying90
  go_enter Tryz.func205,Tryz.ntmps205
  go_wp2_with (first
   | (at_builtin
      go_must (refine append_M rfl (.tmp 5) (.tmp 6) rfl w.heap.size (.slice (some ⟨w.heap.size,0,none⟩) 0 0) [] rfl (own_empty w) (.slice (some a) l.length c) l rfl (H.out.keep ((Below.refl _ _).alloc (Nat.le_refl _) _)) (by simp only[List.length_nil];omega) (by go_size) ?_)
      intro v1 w1 o1 g1 a1
      have hb1:Below w.heap.size w w1:=((Below.refl _ _).alloc (Nat.le_refl _) _).grown g1 (by go_size) (fun k hk=>by simp[Value.ownBlock] at hk;omega)
      have O1:=Lib.hid o1
      clear o1 g1 a1))
  go_ret
  exact⟨v1,rfl,O1.out,hb1⟩
def RdRow(w:World)(g:Nat)(L:List (List Mn)):Prop:=∀i (h:i<L.length),∃v,w.cell? ⟨g,i,none⟩=some v/\RdM w v L[i]
theorem RdRow.keep{w w':World}{g:Nat}{L:List (List Mn)}(h:RdRow w g L)(hg:g<w.heap.size)(hb:Below w.heap.size w w'):RdRow w' g L:=fun i hi=>by
 obtain⟨v,h1,h2⟩:=h i hi
 exact⟨v,(hb.cell (p:=⟨g,i,none⟩) hg).trans h1,h2.keep hb⟩
theorem flat_take_succ(L:List (List Mn))(i:Nat)(h:i<L.length):(L.take (i+1)).flatten=(L.take i).flatten++L[i]:=by
 rw[List.take_succ_eq_append_getElem h,List.flatten_append];simp
theorem flat_take_le(L:List (List Mn))(i:Nat):(L.take i).flatten.length<=L.flatten.length:=by
 have h:L.flatten=(L.take i).flatten++(L.drop i).flatten:=by rw[<-List.flatten_append,List.take_append_drop]
 rw[h,List.length_append];omega
theorem concat_M(g:Nat)(L:List (List Mn))(w:World)(hg:g<w.heap.size)(h:RdRow w g L)(hL:L.length<=1000)(hlen:L.flatten.length<=1099511627776) :
 Calls Tryz.prog 73 #[.slice (some ⟨g,0,none⟩) L.length L.length] w fun e w'=>∃v,e=.returned v/\OwnM w.heap.size w' v L.flatten/\Below w.heap.size w w':=by
 have H:=Lib.hid h
 clear h
 go_enter Tryz.func73,Tryz.ntmps73
 go_wp2_with fail
 go_loopg [3,11] L.length (fun q sz i wr=>∃j z:Nat,q=L.length - j/\j<=L.length/\i=.int .i64 j/\sz=.int .i64 (z:Int)/\Hid ((L.take j).flatten.length=z)/\Below w.heap.size w wr)
 case atStart=>exact⟨0,0,rfl,by omega,rfl,rfl,rfl,Below.refl _ _⟩
 case round=>
  obtain⟨j,z,hk,hj,rfl,rfl,HZ,hb⟩:=hrel
  have HK:=Lib.hid hk
  have hz:=hb.size
  clear hk
  have hz0:z<=1099511627776:=by have:=flat_take_le L j;have:=HZ.out;omega
  by_cases hlt:j<L.length
  ·obtain⟨v,c0,r0⟩:=(H.out.keep hg hb) j hlt
   obtain⟨A,c,rfl,hn,hc,hp⟩:=r0.form
   have HT:Hid ((L.take (j+1)).flatten.length=z+L[j].length):=by show _=_;rw[flat_take_succ L j hlt,List.length_append,HZ.out]
   have ht:z+L[j].length<=1099511627776:=by have:=flat_take_le L (j+1);have:=HT.out;omega
   clear hp r0
   go_wp2_with fail
   go_roundg (L.length - (j+1))
   case measure=>have:=HK.out;omega
   case rel=>exact⟨j+1,z+L[j].length,rfl,by omega,by go_num,by go_num,HT,hb⟩
  ·have hjL:j=L.length:=by omega
   have hzl:z<=1099511627776:=hz0
   clear HK
   go_wp2_with (first|(go_at_call 146;refine(grow_M z _ hz0).mono ?_;rintro e w1 ⟨v1,rfl,o1,hb1⟩;have O1:=Lib.hid o1;have hz1:=hb1.size;clear o1))
   obtain⟨wa,rfl⟩:∃wa:World,wa=wr:=⟨_,rfl⟩
   go_loopg [6,27] L.length (fun q ns i wx=>∃k:Nat,q=L.length - k/\k<=L.length/\i=.int .i64 k/\OwnM wa.heap.size wx ns (L.take k).flatten/\Below wa.heap.size wa wx)
   case atStart=>exact⟨0,rfl,by omega,rfl,O1.out,hb1⟩
   case round=>
    obtain⟨k,hk,hj,rfl,ho,hb2⟩:=hrel
    have HK:=Lib.hid hk
    have hz2:=hb2.size
    have HO:=Lib.hid ho
    clear hk ho
    by_cases hlt2:k<L.length
    ·obtain⟨v,c0,r0⟩:=(H.out.keep hg (hb.trans (hb2.mono hz))) k hlt2
     have R0:=Lib.hid r0
     have HT:=Lib.hid (flat_take_succ L k hlt2)
     have ht:(L.take k).flatten.length+L[k].length<=1099511627776:=by
      have h1:=flat_take_le L (k+1)
      rw[HT.out,List.length_append] at h1
      omega
     have HH:=Lib.hid ht
     clear ht r0
     go_wp2_with (first
      | (at_builtin
         refine append_M rfl (.tmp 31) (.tmp 32) rfl wa.heap.size u6 _ rfl HO.out v L[k] rfl R0.out HH.out (by omega) ?_
         intro v2 w2 o2 g2 a2
         have hb3:Below wa.heap.size wa w2:=hb2.grown g2 (by omega) (fun x hx=>(HO.out.lt x hx).1)
         have O2:=Lib.hid o2
         clear o2 g2 a2))
     go_roundg (L.length - (k+1))
     case measure=>have:=HK.out;omega
     case rel=>exact⟨k+1,rfl,by omega,by go_num,by rw[HT.out];exact O2.out,hb3⟩
    ·have hkL:k=L.length:=by omega
     have HF:Hid (L.take k=L):=by show _=_;rw[List.take_of_length_le (by omega)]
     clear hkL hjL
     go_wp2_with fail
     go_ret
     refine⟨_,rfl,?_,hb.trans (hb2.mono hz)⟩
     have h1:=HO.out
     rw[HF.out] at h1
     exact h1.more hz
theorem made_M(c:Nat)(hc:c<=1099511627776)(w:World):∃Z:Array Value,(Instr.makeSlice 90 (.int .i64 0) (.int .i64 (c:Int))).run Tryz.prog w=.ok (.slice (some ⟨w.heap.size,0,none⟩) 0 c) (w.alloc (.cells Z 141)) /\
 OwnM w.heap.size (w.alloc (.cells Z 141)) (.slice (some ⟨w.heap.size,0,none⟩) 0 c) []:=by
 obtain⟨i0,hi,hz0,hz1,hz2⟩:=info_parts infoM
 refine⟨_,run_make_rowN 90 141 i0 _ Tryz.underlying90 hi hz0 .i64 .i64 0 c (Nat.zero_le _) (by rw[hz2];omega) (by omega) w,?_⟩
 exact⟨by simp[cellsM],.inr ⟨w.heap.size,c,_,rfl,Nat.le_refl _,heap_alloc_new _ _,Nat.zero_le _,by unfold maxLen;omega,by rw[size_madeCells,hz1],by simp[cellsM]⟩⟩
open Go.RowKit Go.Lib
theorem srt_one{l:List Mn}(h:l.length<2):srt l=l:=by
 match l,h with
 | [],_=>rfl
 | [m],_=>rfl
theorem sorted_any(n:Nat):∀(l:List Mn) (v:Value) (w:World),l.length<=n->l.length<=1000000000->RdM w v l ->
 Calls Tryz.prog 144 #[v,.func (.func 145) #[] #[]] w fun e w'=>∃v',e=.returned v'/\RdM w' v' (srt l)/\Below w.heap.size w w':=by
 induction n with
 | zero=>
  intro l v w hl _ h
  have h0:l=[]:=List.eq_nil_of_length_eq_zero (by omega)
  subst h0
  have H:=Lib.hid h
  obtain⟨A,c,rfl,hn,hc,hp⟩:=h.form
  clear hp h
  go_enter Tryz.func144,Tryz.ntmps144
  go_wp2_with fail
  go_ret
  exact⟨_,rfl,H.out,by(repeat' (first|(with_reducible exact Below.refl _ _)|(with_reducible refine Below.alloc ?_ ?_ _)|(with_reducible refine Below.drew ?_)|(with_reducible refine below_drewN ?_ _)|(with_reducible refine Below.setCell ?_ ?_ _)|(with_reducible refine below_of (by assumption) ?_ ?_)|go_size))⟩
 | succ n ih=>
  intro l v w hl hlen h
  have IH:=Lib.hid ih
  clear ih
  have H:=Lib.hid h
  obtain⟨A,c,rfl,hn,hc,hp⟩:=h.form
  have HP:=Lib.hid hp
  clear hp h
  by_cases h2:l.length<2
  ·have HS:=Lib.hid (srt_one h2)
   go_enter Tryz.func144,Tryz.ntmps144
   go_wp2_with fail
   go_ret
   exact⟨_,rfl,by rw[HS.out];exact H.out,by(repeat' (first|(with_reducible exact Below.refl _ _)|(with_reducible refine Below.alloc ?_ ?_ _)|(with_reducible refine Below.drew ?_)|(with_reducible refine below_drewN ?_ _)|(with_reducible refine Below.setCell ?_ ?_ _)|(with_reducible refine below_of (by assumption) ?_ ?_)|go_size))⟩
  ·obtain⟨g,off,hA,hg,_⟩:=HP.out (by omega)
   subst hA
   obtain⟨h,hh⟩:∃h,h=l.length / 2:=⟨_,rfl⟩
   have hh1:h<=l.length:=by omega
   have R1:RdM w (.slice (some ⟨g,off,none⟩) h c) (l.take h):=by
    have:=RdM.of_form (c:=c) (l:=l.take h) (by rw[List.length_take];omega) hc (HP.out.head h)
    rwa [List.length_take,Nat.min_eq_left hh1] at this
   have e1:((l.length:Int) / 2)=(h:Int):=by omega
   have i0:(0:Int)<=(h:Int):=by omega
   have i1:(h:Int)<=(l.length:Int):=by omega
   have i2:(h:Int)<=(c:Int):=by omega
   have hh2:h<=n:=by omega
   have hh3:l.length - h<=n:=by omega
   have hh4:h<l.length:=by omega
   have z1:¬c=0:=by omega
   have z2:¬c=h:=by omega
   have z3:(h:Int)<(l.length:Int):=by omega
   have z4:(h:Int)<(c:Int):=by omega
   have z5:(0:Int)<(h:Int):=by omega
   clear hh
   go_enter Tryz.func144,Tryz.ntmps144
   go_upto_region 3 with fail
   have HR1:=Lib.hid R1
   have R2:RdM w (.slice (some ⟨g,off+h * 2,none⟩) (l.length - h) (c - h)) (l.drop h):=by
    have:=RdM.of_form (c:=c - h) (l:=l.drop h) (by rw[List.length_drop];omega) (by omega) (HP.out.tail rfl h)
    rwa [List.length_drop] at this
   have HR2:=Lib.hid R2
   have hl1:(l.take h).length<=n:=by rw[List.length_take];omega
   have hl2:(l.take h).length<=1000000000:=by rw[List.length_take];omega
   have hl3:(l.drop h).length<=n:=by rw[List.length_drop];omega
   have hl4:(l.drop h).length<=1000000000:=by rw[List.length_drop];omega
   have EW:=Lib.hid (IntWalk.i64_in (h:Int) (by omega))
   have HL:=Lib.hid (And.intro (And.intro hl1 hl2) (And.intro hl3 hl4))
   clear R1 R2 hl1 hl2 hl3 hl4
   refine wp_region_plan (fun _=>True) [(0,true),(1,true),(2,true),(3,true),(4,true),(5,true),(7,true),(8,true),(9,true),(10,true),(11,true),(12,true),(6,false),(13,false),(14,true),(15,true)] (by kernel_rfl) (by kernel_rfl) (trivial) ?_
   iterate 12
    refine wpPlan_read (by rfl) (by rfl) (fun R hR=>?_)
    apply Exists.intro
    refine⟨fun w' hS'=>?_,?_⟩
    ·have ew:=EW.out
     go_simp
     exact⟨rfl,rfl⟩
    go_simp
    refine hR _ ?_
    clear hR R
   refine wpPlan_do (by rfl) (by rfl) (fun K hK=>?_)
   go_simp
   refine(IH.out (l.take h) _ _ HL.out.1.1 HL.out.1.2 (HR1.out.keep (Below.refl _ _).drew)).mono ?_
   rintro e w1 ⟨v1,rfl,r1,hb1⟩
   have Q1:=Lib.hid r1
   have hz1:=hb1.size
   clear r1
   refine hK _ _ (trivial) ?_
   clear hK K
   refine wpPlan_do (by rfl) (by rfl) (fun K hK=>?_)
   go_simp
   refine(IH.out (l.drop h) _ _ HL.out.2.1 HL.out.2.2 ((HR2.out.keep (Below.refl _ _).drew).keep hb1)).mono ?_
   rintro e w2 ⟨v2,rfl,r2,hb2⟩
   have Q2:=Lib.hid r2
   have hz2:=hb2.size
   clear r2
   refine hK _ _ (trivial) ?_
   clear hK K
   iterate 2
    refine wpPlan_read (by rfl) (by rfl) (fun R hR=>?_)
    apply Exists.intro
    refine⟨fun w' hS'=>?_,?_⟩
    ·have ew:=EW.out
     go_simp
     exact⟨rfl,rfl⟩
    go_simp
    refine hR _ ?_
    clear hR R
   refine wpPlan_nil ?_
   have hb12:Below w.heap.size w w2:=(((Below.refl _ _).drew).trans hb1).trans (hb2.mono (by go_size))
   have hz12:=hb12.size
   have A1:=Lib.hid (Q1.out.keep hb2)
   have HM:=Lib.hid (show mrg (srt (l.take h)) (srt (l.drop h))=srt l by rw[mrg_srt,List.take_append_drop])
   have HN:Hid ((srt (l.take h)).length+(srt (l.drop h)).length=l.length):=by show _=_;rw[srt_length,srt_length,List.length_take,List.length_drop];omega
   obtain⟨Z,hmk,ho0⟩:=made_M l.length (by omega) w2
   have HO0:=Lib.hid ho0
   clear ho0 hb1 hb2 hz1 hz2
   go_wp2_with fail
   go_loopg [5,6,7] l.length (fun k av bv ov wr=>∃xs ys os:List Mn,k=xs.length+ys.length/\os.length+k=l.length/\RdM w2 av xs/\RdM w2 bv ys/\OwnM w2.heap.size wr ov os/\Hid (os++mrg xs ys=srt l)/\Below w2.heap.size w2 wr)
   case atStart=>exact⟨srt (l.take h),srt (l.drop h),[],HN.out.symm,by simp,A1.out,Q2.out,HO0.out,HM.out,by(repeat' (first|(with_reducible exact Below.refl _ _)|(with_reducible refine Below.alloc ?_ ?_ _)|(with_reducible refine Below.drew ?_)|(with_reducible refine below_drewN ?_ _)|(with_reducible refine Below.setCell ?_ ?_ _)|(with_reducible refine below_of (by assumption) ?_ ?_)|go_size))⟩
   case round=>
    obtain⟨xs,ys,os,hk,hsum,ra,rb,ro,HS,hb⟩:=hrel
    have HA:=Lib.hid ra
    have HB:=Lib.hid rb
    have HO:=Lib.hid ro
    obtain⟨Aa,ca,rfl,na,ma,fa⟩:=ra.form
    obtain⟨Ab,cb,rfl,nb,mb,fb⟩:=rb.form
    have FA:=Lib.hid fa
    have FB:=Lib.hid fb
    have HK:=Lib.hid (And.intro hk hsum)
    have hz:=hb.size
    clear fa fb hk hsum ra rb ro
    by_cases ha:0<xs.length
    ·by_cases hbn:0<ys.length
     ·obtain⟨g1,o1,rfl,hg1,x0,x1⟩:=FA.out.at_ ha
      obtain⟨g2,o2,rfl,hg2,y0,y1⟩:=FB.out.at_ hbn
      simp only[Nat.zero_mul,Nat.add_zero] at x0 x1 y0 y1
      have HX0:=Lib.hid x0
      have HX1:=Lib.hid x1
      have HY0:=Lib.hid y0
      have HY1:=Lib.hid y1
      clear x0 x1 y0 y1
      have hsl:os.length+(xs.length+ys.length)<=1000000000:=by have:=HK.out;omega
      have xa:(1:Int)<=(xs.length:Int):=by omega
      have ya:(1:Int)<=(ys.length:Int):=by omega
      by_cases hc:ys[0].1<xs[0].1
      ·have HM2:=Lib.hid (mrg_step_b ha hbn hc)
       have hd:decide (ys[0].1<xs[0].1)=true:=by simpa using hc
       go_upto_region 6 with fail
       refine wp_region_plan (fun w'=>Below w2.heap.size w2 w') [(0,true),(1,true),(2,true),(3,true),(4,true),(5,true),(6,true),(7,false)] (by kernel_rfl) (by kernel_rfl) (hb.drew) ?_
       iterate 7
        refine wpPlan_read (by rfl) (by rfl) (fun R hR=>?_)
        apply Exists.intro
        refine⟨fun w' hS'=>?_,?_⟩
        ·have k0:=(hS'.cell (p:=⟨_,_,none⟩) hg1).trans HX0.out
         have k1:=(hS'.cell (p:=⟨_,_,none⟩) hg1).trans HX1.out
         have k2:=(hS'.cell (p:=⟨_,_,none⟩) hg2).trans HY0.out
         have k3:=(hS'.cell (p:=⟨_,_,none⟩) hg2).trans HY1.out
         go_simp
         exact⟨rfl,rfl⟩
        go_simp
        refine hR _ ?_
        clear hR R
       refine wpPlan_do (by rfl) (by rfl) (fun K hK=>?_)
       go_simp
       refine(ahead_any ys[0] xs[0] _).mono ?_
       rintro e w3 ⟨rfl,hb3⟩
       rw[hd]
       refine hK _ _ (hb.drew.trans (hb3.mono hz)) ?_
       clear hK K
       refine wpPlan_nil ?_
       have hbw:Below w2.heap.size w2 w3:=hb.drew.trans (hb3.mono hz)
       have HO3:=Lib.hid (HO.out.keep ((Below.refl _ _).drew.trans hb3))
       have hzw:=hbw.size
       clear hb3
       go_upto_region 7 with fail
       have FBq:=Lib.hid (fun w' (hS':(fun w'=>Below w2.heap.size w2 w') w')=>(And.intro ((hS'.cell (p:=⟨_,_,none⟩) hg1).trans HX0.out) (And.intro ((hS'.cell (p:=⟨_,_,none⟩) hg1).trans HX1.out) (And.intro ((hS'.cell (p:=⟨_,_,none⟩) hg2).trans HY0.out) ((hS'.cell (p:=⟨_,_,none⟩) hg2).trans HY1.out)))))
       refine wp_region_plan (fun w'=>Below w2.heap.size w2 w') [(0,true),(1,true),(2,true),(3,true),(6,true),(7,true),(4,false),(5,false),(8,true),(9,true)] (by kernel_rfl) (by kernel_rfl) (hbw.drew) ?_
       iterate 6
        refine wpPlan_read (by rfl) (by rfl) (fun R hR=>?_)
        apply Exists.intro
        refine⟨fun w' hS'=>?_,?_⟩
        ·obtain⟨k0,k1,k2,k3⟩:=FBq.out w' hS'
         go_simp
         exact⟨rfl,rfl⟩
        go_simp
        refine hR _ ?_
        clear hR R
       refine wpPlan_do (by rfl) (by rfl) (fun K hK=>?_)
       go_simp
       refine hK _ _ ((hbw.drew).alloc (by go_size) _) ?_
       clear hK K
       refine wpPlan_do (by rfl) (by rfl) (fun K hK=>?_)
       refine wp_append_M (.tmp 45) (.tmp 49) rfl w2.heap.size u7 os rfl (HO3.out.drew.alloc _) _ [ys[0]] rfl (RdM.one _ ys[0]) (by simp only[List.length_singleton];omega) (by go_size) ?_
       intro v4 w4 o4 g4 a4
       have hb4:Below w2.heap.size w2 w4:=((hbw.drew).alloc (by go_size) _).grown g4 (by go_size) (fun k hk=>(HO3.out.lt k hk).1)
       have O4:=Lib.hid o4
       clear o4 g4 a4
       go_simp
       refine hK _ _ (hb4) ?_
       clear hK K
       iterate 2
        refine wpPlan_read (by rfl) (by rfl) (fun R hR=>?_)
        apply Exists.intro
        refine⟨fun w' hS'=>?_,?_⟩
        ·obtain⟨k0,k1,k2,k3⟩:=FBq.out w' hS'
         go_simp
         exact⟨rfl,rfl⟩
        go_simp
        refine hR _ ?_
        clear hR R
       refine wpPlan_nil ?_
       have cut:=RdM.cut1 hbn nb mb FB.out
       generalize (if cb=1 then some (⟨g2,o2,none⟩:Addr) else some ⟨g2,o2+2,none⟩)=bb at cut |-
       have CUT:=Lib.hid cut
       clear cut
       go_wp2_with fail
       go_roundg (xs.length+(ys.length - 1))
       case measure=>have:=HK.out;omega
       case rel=>exact⟨xs,ys.drop 1,os++[ys[0]],by rw[List.length_drop],by simp only[List.length_append,List.length_singleton];have:=HK.out;omega,HA.out,CUT.out,O4.out,by show _=_;rw[List.append_assoc,List.singleton_append,<-HM2.out];exact HS.out,hb4⟩
      ·have HM2:=Lib.hid (mrg_step_a ha hbn hc)
       have hd:decide (ys[0].1<xs[0].1)=false:=by simpa using hc
       go_upto_region 6 with fail
       refine wp_region_plan (fun w'=>Below w2.heap.size w2 w') [(0,true),(1,true),(2,true),(3,true),(4,true),(5,true),(6,true),(7,false)] (by kernel_rfl) (by kernel_rfl) (hb.drew) ?_
       iterate 7
        refine wpPlan_read (by rfl) (by rfl) (fun R hR=>?_)
        apply Exists.intro
        refine⟨fun w' hS'=>?_,?_⟩
        ·have k0:=(hS'.cell (p:=⟨_,_,none⟩) hg1).trans HX0.out
         have k1:=(hS'.cell (p:=⟨_,_,none⟩) hg1).trans HX1.out
         have k2:=(hS'.cell (p:=⟨_,_,none⟩) hg2).trans HY0.out
         have k3:=(hS'.cell (p:=⟨_,_,none⟩) hg2).trans HY1.out
         go_simp
         exact⟨rfl,rfl⟩
        go_simp
        refine hR _ ?_
        clear hR R
       refine wpPlan_do (by rfl) (by rfl) (fun K hK=>?_)
       go_simp
       refine(ahead_any ys[0] xs[0] _).mono ?_
       rintro e w3 ⟨rfl,hb3⟩
       rw[hd]
       refine hK _ _ (hb.drew.trans (hb3.mono hz)) ?_
       clear hK K
       refine wpPlan_nil ?_
       have hbw:Below w2.heap.size w2 w3:=hb.drew.trans (hb3.mono hz)
       have HO3:=Lib.hid (HO.out.keep ((Below.refl _ _).drew.trans hb3))
       have hzw:=hbw.size
       clear hb3
       go_upto_region 8 with fail
       have FBq:=Lib.hid (fun w' (hS':(fun w'=>Below w2.heap.size w2 w') w')=>(And.intro ((hS'.cell (p:=⟨_,_,none⟩) hg1).trans HX0.out) (And.intro ((hS'.cell (p:=⟨_,_,none⟩) hg1).trans HX1.out) (And.intro ((hS'.cell (p:=⟨_,_,none⟩) hg2).trans HY0.out) ((hS'.cell (p:=⟨_,_,none⟩) hg2).trans HY1.out)))))
       refine wp_region_plan (fun w'=>Below w2.heap.size w2 w') [(0,true),(1,true),(2,true),(3,true),(6,true),(7,true),(4,false),(5,false),(8,true),(9,true)] (by kernel_rfl) (by kernel_rfl) (hbw.drew) ?_
       iterate 6
        refine wpPlan_read (by rfl) (by rfl) (fun R hR=>?_)
        apply Exists.intro
        refine⟨fun w' hS'=>?_,?_⟩
        ·obtain⟨k0,k1,k2,k3⟩:=FBq.out w' hS'
         go_simp
         exact⟨rfl,rfl⟩
        go_simp
        refine hR _ ?_
        clear hR R
       refine wpPlan_do (by rfl) (by rfl) (fun K hK=>?_)
       go_simp
       refine hK _ _ ((hbw.drew).alloc (by go_size) _) ?_
       clear hK K
       refine wpPlan_do (by rfl) (by rfl) (fun K hK=>?_)
       refine wp_append_M (.tmp 53) (.tmp 57) rfl w2.heap.size u7 os rfl (HO3.out.drew.alloc _) _ [xs[0]] rfl (RdM.one _ xs[0]) (by simp only[List.length_singleton];omega) (by go_size) ?_
       intro v4 w4 o4 g4 a4
       have hb4:Below w2.heap.size w2 w4:=((hbw.drew).alloc (by go_size) _).grown g4 (by go_size) (fun k hk=>(HO3.out.lt k hk).1)
       have O4:=Lib.hid o4
       clear o4 g4 a4
       go_simp
       refine hK _ _ (hb4) ?_
       clear hK K
       iterate 2
        refine wpPlan_read (by rfl) (by rfl) (fun R hR=>?_)
        apply Exists.intro
        refine⟨fun w' hS'=>?_,?_⟩
        ·obtain⟨k0,k1,k2,k3⟩:=FBq.out w' hS'
         go_simp
         exact⟨rfl,rfl⟩
        go_simp
        refine hR _ ?_
        clear hR R
       refine wpPlan_nil ?_
       have cut:=RdM.cut1 ha na ma FA.out
       generalize (if ca=1 then some (⟨g1,o1,none⟩:Addr) else some ⟨g1,o1+2,none⟩)=bb at cut |-
       have CUT:=Lib.hid cut
       clear cut
       go_wp2_with fail
       go_roundg ((xs.length - 1)+ys.length)
       case measure=>have:=HK.out;omega
       case rel=>exact⟨xs.drop 1,ys,os++[xs[0]],by rw[List.length_drop],by simp only[List.length_append,List.length_singleton];have:=HK.out;omega,CUT.out,HB.out,O4.out,by show _=_;rw[List.append_assoc,List.singleton_append,<-HM2.out];exact HS.out,hb4⟩
     ·have hy0:=Lib.hid (show ys=[] from List.eq_nil_of_length_eq_zero (by omega))
      have HE:Hid ((os++xs)++ys=srt l):=by show _=_;rw[<-HS.out,List.append_assoc,hy0.out,mrg_nil_right,List.append_nil]
      have hsl:os.length+(xs.length+ys.length)<=1000000000:=by have:=HK.out;omega
      go_wp2_with (first
       | (at_builtin
          refine append_M rfl (.tmp 61) (.tmp 62) rfl w2.heap.size u7 os rfl HO.out _ xs rfl (HA.out.keep hb) (by omega) hz ?_
          intro v4 w4 o4 g4 a4
          have hb4:Below w2.heap.size w2 w4:=hb.grown g4 hz (fun k hk=>(HO.out.lt k hk).1)
          have hz4:=hb4.size
          have O4:=Lib.hid o4
          clear o4 g4 a4)
       | (at_builtin
          refine append_M rfl (.tmp 63) (.tmp 64) rfl w2.heap.size v4 (os++xs) rfl O4.out _ ys rfl (HB.out.keep hb4) (by simp only[List.length_append];omega) hz4 ?_
          intro v5 w5 o5 g5 a5
          have hb5:Below w2.heap.size w2 w5:=hb4.grown g5 hz4 (fun k hk=>(O4.out.lt k hk).1)
          have O5:=Lib.hid o5
          clear o5 g5 a5))
      go_ret
      exact⟨_,rfl,by rw[<-HE.out];exact O5.out.rd,hb12.trans (hb5.mono hz12)⟩
    ·have hx0:=Lib.hid (show xs=[] from List.eq_nil_of_length_eq_zero (by omega))
     have HE:Hid ((os++xs)++ys=srt l):=by show _=_;rw[<-HS.out,List.append_assoc,hx0.out,mrg_nil_left,List.nil_append]
     have hsl:os.length+(xs.length+ys.length)<=1000000000:=by have:=HK.out;omega
     go_wp2_with (first
      | (at_builtin
         refine append_M rfl (.tmp 61) (.tmp 62) rfl w2.heap.size u7 os rfl HO.out _ xs rfl (HA.out.keep hb) (by omega) hz ?_
         intro v4 w4 o4 g4 a4
         have hb4:Below w2.heap.size w2 w4:=hb.grown g4 hz (fun k hk=>(HO.out.lt k hk).1)
         have hz4:=hb4.size
         have O4:=Lib.hid o4
         clear o4 g4 a4)
      | (at_builtin
         refine append_M rfl (.tmp 63) (.tmp 64) rfl w2.heap.size v4 (os++xs) rfl O4.out _ ys rfl (HB.out.keep hb4) (by simp only[List.length_append];omega) hz4 ?_
         intro v5 w5 o5 g5 a5
         have hb5:Below w2.heap.size w2 w5:=hb4.grown g5 hz4 (fun k hk=>(O4.out.lt k hk).1)
         have O5:=Lib.hid o5
         clear o5 g5 a5))
     go_ret
     exact⟨_,rfl,by rw[<-HE.out];exact O5.out.rd,hb12.trans (hb5.mono hz12)⟩
end Go.Proofs.YtingnldfpokckaaGreat
