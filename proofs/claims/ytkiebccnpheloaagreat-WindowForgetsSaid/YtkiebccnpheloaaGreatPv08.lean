/- Parts of a proof: what its theorem reaches, words cut short. No condition of its own. -/
import Derived.Test.YtkiebccnpheloaaGreatPv07
set_option maxRecDepth 100000
set_option maxHeartbeats 16000000
set_option linter.unusedVariables false
set_option linter.unusedSimpArgs false
namespace Go.Proofs.YtkiebccnpheloaaGreat
open Go.RowKit Go.Lib
theorem srt_one{l:List Mn}(h:l.length<2):srt l=l:=by
 match l,h with
 | [],_=>rfl
 | [m],_=>rfl
theorem sorted_any(n:Nat):∀(l:List Mn) (v:Value) (w:World),l.length<=n->l.length<=1000000000->RdM w v l ->
 Calls Tryz.prog 261 #[v,.func (.func 262) #[] #[]] w fun e w'=>∃v',e=.returned v'/\RdM w' v' (srt l)/\Below w.heap.size w w':=by
 induction n with
 | zero=>
  intro l v w hl _ h
  have h0:l=[]:=List.eq_nil_of_length_eq_zero (by omega)
  subst h0
  have H:=Lib.hid h
  obtain⟨A,c,rfl,hn,hc,hp⟩:=h.form
  clear hp h
  go_enter Tryz.func261,Tryz.ntmps261
  go_wp2_with fail
  go_ret
  exact⟨_,rfl,H.out,by(repeat' (first|(with_reducible exact Below.refl _ _)|(with_reducible refine Below.alloc ?_ ?_ _)|(with_reducible refine Below.drew ?_)|(with_reducible refine below_drewN ?_ _)|(with_reducible refine Below.setCell ?_ ?_ _)|(with_reducible refine below_of (by assumption) ?_ ?_)|go_size))⟩
 | succ n ih=>
  intro l v w hl hlen h
  have IH:=Lib.hid ih
  clear ih
  have H:=Lib.hid h
  obtain⟨A,c,rfl,hn,hc,hp⟩:=h.form
  have HP:=Lib.hid hp
  clear hp h
  by_cases h2:l.length<2
  ·have HS:=Lib.hid (srt_one h2)
   go_enter Tryz.func261,Tryz.ntmps261
   go_wp2_with fail
   go_ret
   exact⟨_,rfl,by rw[HS.out];exact H.out,by(repeat' (first|(with_reducible exact Below.refl _ _)|(with_reducible refine Below.alloc ?_ ?_ _)|(with_reducible refine Below.drew ?_)|(with_reducible refine below_drewN ?_ _)|(with_reducible refine Below.setCell ?_ ?_ _)|(with_reducible refine below_of (by assumption) ?_ ?_)|go_size))⟩
  ·obtain⟨g,off,hA,hg,_⟩:=HP.out (by omega)
   subst hA
   obtain⟨h,hh⟩:∃h,h=l.length / 2:=⟨_,rfl⟩
   have hh1:h<=l.length:=by omega
   have R1:RdM w (.slice (some ⟨g,off,none⟩) h c) (l.take h):=by
    have:=RdM.of_form (c:=c) (l:=l.take h) (by rw[List.length_take];omega) hc (HP.out.head h)
    rwa [List.length_take,Nat.min_eq_left hh1] at this
   have e1:((l.length:Int) / 2)=(h:Int):=by omega
   have i0:(0:Int)<=(h:Int):=by omega
   have i1:(h:Int)<=(l.length:Int):=by omega
   have i2:(h:Int)<=(c:Int):=by omega
   have hh2:h<=n:=by omega
   have hh3:l.length - h<=n:=by omega
   have hh4:h<l.length:=by omega
   have z1:¬c=0:=by omega
   have z2:¬c=h:=by omega
   have z3:(h:Int)<(l.length:Int):=by omega
   have z4:(h:Int)<(c:Int):=by omega
   have z5:(0:Int)<(h:Int):=by omega
   clear hh
   go_enter Tryz.func261,Tryz.ntmps261
   go_upto_region 3 with fail
   have HR1:=Lib.hid R1
   have R2:RdM w (.slice (some ⟨g,off+h * 2,none⟩) (l.length - h) (c - h)) (l.drop h):=by
    have:=RdM.of_form (c:=c - h) (l:=l.drop h) (by rw[List.length_drop];omega) (by omega) (HP.out.tail rfl h)
    rwa [List.length_drop] at this
   have HR2:=Lib.hid R2
   have hl1:(l.take h).length<=n:=by rw[List.length_take];omega
   have hl2:(l.take h).length<=1000000000:=by rw[List.length_take];omega
   have hl3:(l.drop h).length<=n:=by rw[List.length_drop];omega
   have hl4:(l.drop h).length<=1000000000:=by rw[List.length_drop];omega
   have EW:=Lib.hid (IntWalk.i64_in (h:Int) (by omega))
   have HL:=Lib.hid (And.intro (And.intro hl1 hl2) (And.intro hl3 hl4))
   clear R1 R2 hl1 hl2 hl3 hl4
   refine wp_region_plan (fun _=>True) [(0,true),(1,true),(2,true),(3,true),(4,true),(5,true),(7,true),(8,true),(9,true),(10,true),(11,true),(12,true),(6,false),(13,false),(14,true),(15,true)] (by kernel_rfl) (by kernel_rfl) (trivial) ?_
   iterate 12
    refine wpPlan_read (by rfl) (by rfl) (fun R hR=>?_)
    apply Exists.intro
    refine⟨fun w' hS'=>?_,?_⟩
    ·have ew:=EW.out
     go_simp
     exact⟨rfl,rfl⟩
    go_simp
    refine hR _ ?_
    clear hR R
   refine wpPlan_do (by rfl) (by rfl) (fun K hK=>?_)
   go_simp
   refine(IH.out (l.take h) _ _ HL.out.1.1 HL.out.1.2 (HR1.out.keep (Below.refl _ _).drew)).mono ?_
   rintro e w1 ⟨v1,rfl,r1,hb1⟩
   have Q1:=Lib.hid r1
   have hz1:=hb1.size
   clear r1
   refine hK _ _ (trivial) ?_
   clear hK K
   refine wpPlan_do (by rfl) (by rfl) (fun K hK=>?_)
   go_simp
   refine(IH.out (l.drop h) _ _ HL.out.2.1 HL.out.2.2 ((HR2.out.keep (Below.refl _ _).drew).keep hb1)).mono ?_
   rintro e w2 ⟨v2,rfl,r2,hb2⟩
   have Q2:=Lib.hid r2
   have hz2:=hb2.size
   clear r2
   refine hK _ _ (trivial) ?_
   clear hK K
   iterate 2
    refine wpPlan_read (by rfl) (by rfl) (fun R hR=>?_)
    apply Exists.intro
    refine⟨fun w' hS'=>?_,?_⟩
    ·have ew:=EW.out
     go_simp
     exact⟨rfl,rfl⟩
    go_simp
    refine hR _ ?_
    clear hR R
   refine wpPlan_nil ?_
   have hb12:Below w.heap.size w w2:=(((Below.refl _ _).drew).trans hb1).trans (hb2.mono (by go_size))
   have hz12:=hb12.size
   have A1:=Lib.hid (Q1.out.keep hb2)
   have HM:=Lib.hid (show mrg (srt (l.take h)) (srt (l.drop h))=srt l by rw[mrg_srt,List.take_append_drop])
   have HN:Hid ((srt (l.take h)).length+(srt (l.drop h)).length=l.length):=by show _=_;rw[srt_length,srt_length,List.length_take,List.length_drop];omega
   obtain⟨Z,hmk,ho0⟩:=made_M l.length (by omega) w2
   have HO0:=Lib.hid ho0
   clear ho0 hb1 hb2 hz1 hz2
   go_wp2_with fail
   go_loopg [5,6,7] l.length (fun k av bv ov wr=>∃xs ys os:List Mn,k=xs.length+ys.length/\os.length+k=l.length/\RdM w2 av xs/\RdM w2 bv ys/\OwnM w2.heap.size wr ov os/\Hid (os++mrg xs ys=srt l)/\Below w2.heap.size w2 wr)
   case atStart=>exact⟨srt (l.take h),srt (l.drop h),[],HN.out.symm,by simp,A1.out,Q2.out,HO0.out,HM.out,by(repeat' (first|(with_reducible exact Below.refl _ _)|(with_reducible refine Below.alloc ?_ ?_ _)|(with_reducible refine Below.drew ?_)|(with_reducible refine below_drewN ?_ _)|(with_reducible refine Below.setCell ?_ ?_ _)|(with_reducible refine below_of (by assumption) ?_ ?_)|go_size))⟩
   case round=>
    obtain⟨xs,ys,os,hk,hsum,ra,rb,ro,HS,hb⟩:=hrel
    have HA:=Lib.hid ra
    have HB:=Lib.hid rb
    have HO:=Lib.hid ro
    obtain⟨Aa,ca,rfl,na,ma,fa⟩:=ra.form
    obtain⟨Ab,cb,rfl,nb,mb,fb⟩:=rb.form
    have FA:=Lib.hid fa
    have FB:=Lib.hid fb
    have HK:=Lib.hid (And.intro hk hsum)
    have hz:=hb.size
    clear fa fb hk hsum ra rb ro
    by_cases ha:0<xs.length
    ·by_cases hbn:0<ys.length
     ·obtain⟨g1,o1,rfl,hg1,x0,x1⟩:=FA.out.at_ ha
      obtain⟨g2,o2,rfl,hg2,y0,y1⟩:=FB.out.at_ hbn
      simp only[Nat.zero_mul,Nat.add_zero] at x0 x1 y0 y1
      have HX0:=Lib.hid x0
      have HX1:=Lib.hid x1
      have HY0:=Lib.hid y0
      have HY1:=Lib.hid y1
      clear x0 x1 y0 y1
      have hsl:os.length+(xs.length+ys.length)<=1000000000:=by have:=HK.out;omega
      have xa:(1:Int)<=(xs.length:Int):=by omega
      have ya:(1:Int)<=(ys.length:Int):=by omega
      by_cases hc:ys[0].1<xs[0].1
      ·have HM2:=Lib.hid (mrg_step_b ha hbn hc)
       have hd:decide (ys[0].1<xs[0].1)=true:=by simpa using hc
       go_upto_region 6 with fail
       refine wp_region_plan (fun w'=>Below w2.heap.size w2 w') [(0,true),(1,true),(2,true),(3,true),(4,true),(5,true),(6,true),(7,false)] (by kernel_rfl) (by kernel_rfl) (hb.drew) ?_
       iterate 7
        refine wpPlan_read (by rfl) (by rfl) (fun R hR=>?_)
        apply Exists.intro
        refine⟨fun w' hS'=>?_,?_⟩
        ·have k0:=(hS'.cell (p:=⟨_,_,none⟩) hg1).trans HX0.out
         have k1:=(hS'.cell (p:=⟨_,_,none⟩) hg1).trans HX1.out
         have k2:=(hS'.cell (p:=⟨_,_,none⟩) hg2).trans HY0.out
         have k3:=(hS'.cell (p:=⟨_,_,none⟩) hg2).trans HY1.out
         go_simp
         exact⟨rfl,rfl⟩
        go_simp
        refine hR _ ?_
        clear hR R
       refine wpPlan_do (by rfl) (by rfl) (fun K hK=>?_)
       go_simp
       refine(ahead_any ys[0] xs[0] _).mono ?_
       rintro e w3 ⟨rfl,hb3⟩
       rw[hd]
       refine hK _ _ (hb.drew.trans (hb3.mono hz)) ?_
       clear hK K
       refine wpPlan_nil ?_
       have hbw:Below w2.heap.size w2 w3:=hb.drew.trans (hb3.mono hz)
       have HO3:=Lib.hid (HO.out.keep ((Below.refl _ _).drew.trans hb3))
       have hzw:=hbw.size
       clear hb3
       go_upto_region 7 with fail
       have FBq:=Lib.hid (fun w' (hS':(fun w'=>Below w2.heap.size w2 w') w')=>(And.intro ((hS'.cell (p:=⟨_,_,none⟩) hg1).trans HX0.out) (And.intro ((hS'.cell (p:=⟨_,_,none⟩) hg1).trans HX1.out) (And.intro ((hS'.cell (p:=⟨_,_,none⟩) hg2).trans HY0.out) ((hS'.cell (p:=⟨_,_,none⟩) hg2).trans HY1.out)))))
       refine wp_region_plan (fun w'=>Below w2.heap.size w2 w') [(0,true),(1,true),(2,true),(3,true),(6,true),(7,true),(4,false),(5,false),(8,true),(9,true)] (by kernel_rfl) (by kernel_rfl) (hbw.drew) ?_
       iterate 6
        refine wpPlan_read (by rfl) (by rfl) (fun R hR=>?_)
        apply Exists.intro
        refine⟨fun w' hS'=>?_,?_⟩
        ·obtain⟨k0,k1,k2,k3⟩:=FBq.out w' hS'
         go_simp
         exact⟨rfl,rfl⟩
        go_simp
        refine hR _ ?_
        clear hR R
       refine wpPlan_do (by rfl) (by rfl) (fun K hK=>?_)
       go_simp
       refine hK _ _ ((hbw.drew).alloc (by go_size) _) ?_
       clear hK K
       refine wpPlan_do (by rfl) (by rfl) (fun K hK=>?_)
       refine wp_append_M (.tmp 45) (.tmp 49) rfl w2.heap.size u7 os rfl (HO3.out.drew.alloc _) _ [ys[0]] rfl (RdM.one _ ys[0]) (by simp only[List.length_singleton];omega) (by go_size) ?_
       intro v4 w4 o4 g4 a4
       have hb4:Below w2.heap.size w2 w4:=((hbw.drew).alloc (by go_size) _).grown g4 (by go_size) (fun k hk=>(HO3.out.lt k hk).1)
       have O4:=Lib.hid o4
       clear o4 g4 a4
       go_simp
       refine hK _ _ (hb4) ?_
       clear hK K
       iterate 2
        refine wpPlan_read (by rfl) (by rfl) (fun R hR=>?_)
        apply Exists.intro
        refine⟨fun w' hS'=>?_,?_⟩
        ·obtain⟨k0,k1,k2,k3⟩:=FBq.out w' hS'
         go_simp
         exact⟨rfl,rfl⟩
        go_simp
        refine hR _ ?_
        clear hR R
       refine wpPlan_nil ?_
       have cut:=RdM.cut1 hbn nb mb FB.out
       generalize (if cb=1 then some (⟨g2,o2,none⟩:Addr) else some ⟨g2,o2+2,none⟩)=bb at cut |-
       have CUT:=Lib.hid cut
       clear cut
       go_wp2_with fail
       go_roundg (xs.length+(ys.length - 1))
       case measure=>have:=HK.out;omega
       case rel=>exact⟨xs,ys.drop 1,os++[ys[0]],by rw[List.length_drop],by simp only[List.length_append,List.length_singleton];have:=HK.out;omega,HA.out,CUT.out,O4.out,by show _=_;rw[List.append_assoc,List.singleton_append,<-HM2.out];exact HS.out,hb4⟩
      ·have HM2:=Lib.hid (mrg_step_a ha hbn hc)
       have hd:decide (ys[0].1<xs[0].1)=false:=by simpa using hc
       go_upto_region 6 with fail
       refine wp_region_plan (fun w'=>Below w2.heap.size w2 w') [(0,true),(1,true),(2,true),(3,true),(4,true),(5,true),(6,true),(7,false)] (by kernel_rfl) (by kernel_rfl) (hb.drew) ?_
       iterate 7
        refine wpPlan_read (by rfl) (by rfl) (fun R hR=>?_)
        apply Exists.intro
        refine⟨fun w' hS'=>?_,?_⟩
        ·have k0:=(hS'.cell (p:=⟨_,_,none⟩) hg1).trans HX0.out
         have k1:=(hS'.cell (p:=⟨_,_,none⟩) hg1).trans HX1.out
         have k2:=(hS'.cell (p:=⟨_,_,none⟩) hg2).trans HY0.out
         have k3:=(hS'.cell (p:=⟨_,_,none⟩) hg2).trans HY1.out
         go_simp
         exact⟨rfl,rfl⟩
        go_simp
        refine hR _ ?_
        clear hR R
       refine wpPlan_do (by rfl) (by rfl) (fun K hK=>?_)
       go_simp
       refine(ahead_any ys[0] xs[0] _).mono ?_
       rintro e w3 ⟨rfl,hb3⟩
       rw[hd]
       refine hK _ _ (hb.drew.trans (hb3.mono hz)) ?_
       clear hK K
       refine wpPlan_nil ?_
       have hbw:Below w2.heap.size w2 w3:=hb.drew.trans (hb3.mono hz)
       have HO3:=Lib.hid (HO.out.keep ((Below.refl _ _).drew.trans hb3))
       have hzw:=hbw.size
       clear hb3
       go_upto_region 8 with fail
       have FBq:=Lib.hid (fun w' (hS':(fun w'=>Below w2.heap.size w2 w') w')=>(And.intro ((hS'.cell (p:=⟨_,_,none⟩) hg1).trans HX0.out) (And.intro ((hS'.cell (p:=⟨_,_,none⟩) hg1).trans HX1.out) (And.intro ((hS'.cell (p:=⟨_,_,none⟩) hg2).trans HY0.out) ((hS'.cell (p:=⟨_,_,none⟩) hg2).trans HY1.out)))))
       refine wp_region_plan (fun w'=>Below w2.heap.size w2 w') [(0,true),(1,true),(2,true),(3,true),(6,true),(7,true),(4,false),(5,false),(8,true),(9,true)] (by kernel_rfl) (by kernel_rfl) (hbw.drew) ?_
       iterate 6
        refine wpPlan_read (by rfl) (by rfl) (fun R hR=>?_)
        apply Exists.intro
        refine⟨fun w' hS'=>?_,?_⟩
        ·obtain⟨k0,k1,k2,k3⟩:=FBq.out w' hS'
         go_simp
         exact⟨rfl,rfl⟩
        go_simp
        refine hR _ ?_
        clear hR R
       refine wpPlan_do (by rfl) (by rfl) (fun K hK=>?_)
       go_simp
       refine hK _ _ ((hbw.drew).alloc (by go_size) _) ?_
       clear hK K
       refine wpPlan_do (by rfl) (by rfl) (fun K hK=>?_)
       refine wp_append_M (.tmp 53) (.tmp 57) rfl w2.heap.size u7 os rfl (HO3.out.drew.alloc _) _ [xs[0]] rfl (RdM.one _ xs[0]) (by simp only[List.length_singleton];omega) (by go_size) ?_
       intro v4 w4 o4 g4 a4
       have hb4:Below w2.heap.size w2 w4:=((hbw.drew).alloc (by go_size) _).grown g4 (by go_size) (fun k hk=>(HO3.out.lt k hk).1)
       have O4:=Lib.hid o4
       clear o4 g4 a4
       go_simp
       refine hK _ _ (hb4) ?_
       clear hK K
       iterate 2
        refine wpPlan_read (by rfl) (by rfl) (fun R hR=>?_)
        apply Exists.intro
        refine⟨fun w' hS'=>?_,?_⟩
        ·obtain⟨k0,k1,k2,k3⟩:=FBq.out w' hS'
         go_simp
         exact⟨rfl,rfl⟩
        go_simp
        refine hR _ ?_
        clear hR R
       refine wpPlan_nil ?_
       have cut:=RdM.cut1 ha na ma FA.out
       generalize (if ca=1 then some (⟨g1,o1,none⟩:Addr) else some ⟨g1,o1+2,none⟩)=bb at cut |-
       have CUT:=Lib.hid cut
       clear cut
       go_wp2_with fail
       go_roundg ((xs.length - 1)+ys.length)
       case measure=>have:=HK.out;omega
       case rel=>exact⟨xs.drop 1,ys,os++[xs[0]],by rw[List.length_drop],by simp only[List.length_append,List.length_singleton];have:=HK.out;omega,CUT.out,HB.out,O4.out,by show _=_;rw[List.append_assoc,List.singleton_append,<-HM2.out];exact HS.out,hb4⟩
     ·have hy0:=Lib.hid (show ys=[] from List.eq_nil_of_length_eq_zero (by omega))
      have HE:Hid ((os++xs)++ys=srt l):=by show _=_;rw[<-HS.out,List.append_assoc,hy0.out,mrg_nil_right,List.append_nil]
      have hsl:os.length+(xs.length+ys.length)<=1000000000:=by have:=HK.out;omega
      go_wp2_with (first
       | (at_builtin
          refine append_M rfl (.tmp 61) (.tmp 62) rfl w2.heap.size u7 os rfl HO.out _ xs rfl (HA.out.keep hb) (by omega) hz ?_
          intro v4 w4 o4 g4 a4
          have hb4:Below w2.heap.size w2 w4:=hb.grown g4 hz (fun k hk=>(HO.out.lt k hk).1)
          have hz4:=hb4.size
          have O4:=Lib.hid o4
          clear o4 g4 a4)
       | (at_builtin
          refine append_M rfl (.tmp 63) (.tmp 64) rfl w2.heap.size v4 (os++xs) rfl O4.out _ ys rfl (HB.out.keep hb4) (by simp only[List.length_append];omega) hz4 ?_
          intro v5 w5 o5 g5 a5
          have hb5:Below w2.heap.size w2 w5:=hb4.grown g5 hz4 (fun k hk=>(O4.out.lt k hk).1)
          have O5:=Lib.hid o5
          clear o5 g5 a5))
      go_ret
      exact⟨_,rfl,by rw[<-HE.out];exact O5.out.rd,hb12.trans (hb5.mono hz12)⟩
    ·have hx0:=Lib.hid (show xs=[] from List.eq_nil_of_length_eq_zero (by omega))
     have HE:Hid ((os++xs)++ys=srt l):=by show _=_;rw[<-HS.out,List.append_assoc,hx0.out,mrg_nil_left,List.nil_append]
     have hsl:os.length+(xs.length+ys.length)<=1000000000:=by have:=HK.out;omega
     go_wp2_with (first
      | (at_builtin
         refine append_M rfl (.tmp 61) (.tmp 62) rfl w2.heap.size u7 os rfl HO.out _ xs rfl (HA.out.keep hb) (by omega) hz ?_
         intro v4 w4 o4 g4 a4
         have hb4:Below w2.heap.size w2 w4:=hb.grown g4 hz (fun k hk=>(HO.out.lt k hk).1)
         have hz4:=hb4.size
         have O4:=Lib.hid o4
         clear o4 g4 a4)
      | (at_builtin
         refine append_M rfl (.tmp 63) (.tmp 64) rfl w2.heap.size v4 (os++xs) rfl O4.out _ ys rfl (HB.out.keep hb4) (by simp only[List.length_append];omega) hz4 ?_
         intro v5 w5 o5 g5 a5
         have hb5:Below w2.heap.size w2 w5:=hb4.grown g5 hz4 (fun k hk=>(O4.out.lt k hk).1)
         have O5:=Lib.hid o5
         clear o5 g5 a5))
     go_ret
     exact⟨_,rfl,by rw[<-HE.out];exact O5.out.rd,hb12.trans (hb5.mono hz12)⟩
open Go.RowKit Go.Lib
theorem pressed_any(d:Int)(v:Value)(l:List Mn)(w:World)(h:RdM w v l)(h0:0<l.length)(ho:okL l)(hr:Rises l)(hlen:l.length<=1000000000)(ht:tot l<=281474976710656)(d0:0<=d)(d1:d<=1000) :
 Calls Tryz.prog 260 #[.int .i64 d,.int .u64 (tot l),v] w fun e w'=>∃v,e=.returned v/\OwnM w.heap.size w' v (press d (tot l) l)/\Below w.heap.size w w':=by
 obtain⟨A,c,rfl,hn,hc,hp⟩:=h.form
 obtain⟨g,off,rfl,hg,e0,e1⟩:=hp.at_ h0
 simp only[Nat.zero_mul,Nat.add_zero] at e0 e1
 have HP:=Lib.hid hp
 have ST:=Lib.hid (PrAt.start d h0 ho hr)
 have cut:=RdM.cut1 h0 hn hc hp
 have i1:(1:Int)<=(l.length:Int):=by omega
 clear hp h
 go_enter Tryz.func260,Tryz.ntmps260
 go_upto_block 0 with fail
 generalize (if c=1 then some (⟨g,off,none⟩:Addr) else some ⟨g,off+2,none⟩)=bb at cut |-
 have cf:=cut.form
 obtain⟨A',c',hv',hn',hc',hp'⟩:=cf
 simp only[Value.slice.injEq] at hv'
 obtain⟨rfl,hl',rfl⟩:=hv'
 have HQ:=Lib.hid hp'
 have HL:=Lib.hid hl'
 clear cut hp' hn' hc' hl'
 go_wp2_with fail
 go_loopg [7,8,18] (l.length - 1) (fun q o dn i wr=>∃(j:Nat) (acc:List Mn) (now:Mn),q=l.length - 1 - j/\j<=l.length - 1/\i=.int .i64 j/\dn=.int .u64 (tot acc)/\PrAt d (tot l) l (j+1) acc now /\
  OwnM (w.heap.size+1) wr o acc/\Blk wr w.heap.size 231 #[.int .i64 now.1,.int .u64 now.2]/\Below w.heap.size w wr)
 case atStart=>exact⟨0,[],l[0],rfl,by omega,rfl,rfl,ST.out,OwnM.nil_ _ _,Blk.new _ _ _,by(repeat' (first|(with_reducible exact Below.refl _ _)|(with_reducible refine Below.alloc ?_ ?_ _)|(with_reducible refine Below.drew ?_)|(with_reducible refine below_drewN ?_ _)|(with_reducible refine Below.setCell ?_ ?_ _)|(with_reducible refine below_of (by assumption) ?_ ?_)|go_size))⟩
 case round=>
  obtain⟨j,acc,now,hk,hj,rfl,rfl,hpr,hown,hblk,hb⟩:=hrel
  have HK:=Lib.hid hk
  have HO:=Lib.hid hown
  have HB:=Lib.hid hblk
  have hbl:=hblk.lt
  have hz:=hb.size
  have n0:=hblk.cell 0
  have n1:=hblk.cell 1
  have f0:=hblk.frozen 0
  have f1:=hblk.frozen 1
  simp only[List.getElem?_toArray,List.getElem?_cons_succ,List.getElem?_cons_zero] at n0 n1
  clear hk hown hblk
  by_cases hlt:j<l.length - 1
  ·have hlt1:j+1<l.length:=by omega
   obtain⟨p1,p2,p3,p4,p5⟩:=hpr.facts hlt1
   have hlt2:j<(l.drop 1).length:=by rw[List.length_drop];exact hlt
   obtain⟨g1,o1,rfl,hg1,x0,x1⟩:=HQ.out.at_ hlt2
   have hdrop:(l.drop 1)[j]=l[j+1]:=by rw[List.getElem_drop];congr 1;omega
   rw[hdrop] at x0 x1
   clear hdrop
   replace x0:=(hb.cell (p:=⟨_,_,none⟩) hg1).trans x0
   replace x1:=(hb.cell (p:=⟨_,_,none⟩) hg1).trans x1
   obtain⟨x,hx⟩:∃x,l[j+1]=x:=⟨_,rfl⟩
   rw[hx] at x0 x1 p3 p4 p5
   have q1:=p2.2.2
   have q2:=p3.2.2
   have MB:MayB d (tot l) (tot acc) (now.2+x.2):=⟨d0,d1,ht,p1,by omega,p5⟩
   have HPr:=Lib.hid hpr
   have HX:=Lib.hid hx
   clear hpr hx
   have m0:(wr.alloc (.cells #[.int .i64 x.1,.int .u64 x.2] 231)).cell? ⟨wr.heap.size,0,none⟩=some (.int .i64 x.1):=by simp[World.cell?_alloc_new]
   have m1:(wr.alloc (.cells #[.int .i64 x.1,.int .u64 x.2] 231)).cell? ⟨wr.heap.size,1,none⟩=some (.int .u64 x.2):=by simp[World.cell?_alloc_new]
   have M0:=Lib.hid m0
   have M1:=Lib.hid m1
   have BA:=Lib.hid (HB.out.alloc (.cells #[.int .i64 x.1,.int .u64 x.2] 231))
   have OA:=Lib.hid (HO.out.alloc (.cells #[.int .i64 x.1,.int .u64 x.2] 231))
   clear m0 m1
   go_upto_region 7 with fail
   go_wp2_with fail
   refine(may_any d (tot l) (tot acc) (now.2+x.2) _ MB).mono ?_
   rintro e w3 ⟨rfl,hb3⟩
   have hz3:=hb3.size
   simp only[World.size_alloc] at hz3
   have B3:=Lib.hid (BA.out.keep hb3)
   have O3:=Lib.hid (OA.out.keep hb3)
   have c0:=B3.out.cell 0
   have c1:=B3.out.cell 1
   have f0':=B3.out.frozen 0
   have f1':=B3.out.frozen 1
   simp only[List.getElem?_toArray,List.getElem?_cons_succ,List.getElem?_cons_zero] at c0 c1
   have c2:=(hb3.cell (p:=⟨wr.heap.size,0,none⟩) (by simp)).trans M0.out
   have c3:=(hb3.cell (p:=⟨wr.heap.size,1,none⟩) (by simp)).trans M1.out
   have hbw:Below w.heap.size w w3:=(hb.alloc hz _).trans (hb3.mono (by simp;omega))
   have hne:w.heap.size<wr.heap.size:=hbl
   clear n0 n1 f0 f1 x0 x1
   by_cases hmay:mayI d (tot l) (tot acc) (now.2+x.2)=true
   ·rw[hmay]
    have HP2:=Lib.hid (HPr.out.merge hlt1 (by rw[HX.out];exact hmay))
    clear hmay
    go_wp2_with fail
    refine(avg_any now.1 now.2 x.1 x.2 _ p2.1 p4 p3.2.1 (by omega) q2 (by omega)).mono ?_
    rintro e w4 ⟨rfl,hb4⟩
    have hz4:=hb4.size
    have d0':=(hb4.cell (p:=⟨w.heap.size,0,none⟩) (by show w.heap.size<w3.heap.size;omega)).trans c0
    have d1':=(hb4.cell (p:=⟨w.heap.size,1,none⟩) (by show w.heap.size<w3.heap.size;omega)).trans c1
    have d2:=(hb4.cell (p:=⟨wr.heap.size,1,none⟩) (by show wr.heap.size<w3.heap.size;omega)).trans c3
    have d3:=(hb4.frozen (p:=⟨w.heap.size,0,none⟩) (by show w.heap.size<w3.heap.size;omega)).trans f0'
    have d4:=(hb4.frozen (p:=⟨w.heap.size,1,none⟩) (by show w.heap.size<w3.heap.size;omega)).trans f1'
    have B4:=Lib.hid (((B3.out.keep hb4).set_ 0 (.int .i64 (lerpI now.1 x.1 x.2 (now.2+x.2)))).set_ 1 (.int .u64 (now.2+x.2)))
    have O4:=Lib.hid (((O3.out.keep hb4).far (p:=⟨w.heap.size,0,none⟩) (fun e=>by have h9:w.heap.size+1<=w.heap.size:=(O3.out.lt _ e).1;omega) (.int .i64 (lerpI now.1 x.1 x.2 (now.2+x.2)))).far (p:=⟨w.heap.size,1,none⟩) (fun e=>by have h9:w.heap.size+1<=w.heap.size:=(O3.out.lt _ e).1;omega) (.int .u64 (now.2+x.2)))
    go_wp2_with fail
    go_roundg (l.length - 1 - (j+1))
    case measure=>have:=HK.out;omega
    case rel=>exact⟨j+1,acc,_,rfl,by omega,by go_num,rfl,HP2.out,O4.out,by rw[HX.out];exact B4.out,by(repeat' (first|(with_reducible exact Below.refl _ _)|(with_reducible refine Below.alloc ?_ ?_ _)|(with_reducible refine Below.drew ?_)|(with_reducible refine below_drewN ?_ _)|(with_reducible refine Below.setCell ?_ ?_ _)|(with_reducible refine below_of (by assumption) ?_ ?_)|go_size))⟩
   ·have hmay':mayI d (tot l) (tot acc) (now.2+x.2)=false:=by simpa using hmay
    rw[hmay']
    have HP2:=Lib.hid (HPr.out.push hlt1 (by rw[HX.out];exact hmay'))
    have HT:Hid (tot (acc++[now])=tot acc+now.2):=by show _=_;rw[tot_append];simp[tot]
    have hal:acc.length<=1000000000:=by have:=HPr.out.len;omega
    clear hmay hmay'
    go_wp2_with (first
     | (at_builtin
        refine append_M rfl (.tmp 50) (.tmp 52) rfl (w.heap.size+1) u7 acc rfl (O3.out.alloc _) _ [now] rfl (RdM.one _ now) (by simp only[List.length_singleton];omega) (by go_size) ?_
        intro v4 w4 o4 g4 a4
        have hb4:Below w.heap.size w w4:=(hbw.alloc (by omega) _).grown g4 (by go_size) (fun k hk=>by have:=(O3.out.lt k hk).1;omega)
        have hz4:=g4.size
        simp only[World.size_alloc] at hz4
        have O4:=Lib.hid o4
        have hk4:∀k,k<w3.heap.size->u7.ownBlock≠some k->w4.heap[k]?=w3.heap[k]?:=fun k h1 h2=>(g4.block k (by simp;omega) (fun e=>h2 e.symm)).trans (Below.heap_alloc _ _ _ h1)
        have B4:=Lib.hid (show Blk w4 w.heap.size 231 #[.int .i64 now.1,.int .u64 now.2] from(hk4 _ (by omega) (fun e=>by have:=(O3.out.lt _ e).1;omega)).trans B3.out)
        have c6:=(World.cell?_of_block (a:=⟨wr.heap.size,0,none⟩) (hk4 wr.heap.size (by omega) (fun e=>by have:=(HO.out.lt _ e).2;omega))).trans c2
        have c7:=(World.cell?_of_block (a:=⟨wr.heap.size,1,none⟩) (hk4 wr.heap.size (by omega) (fun e=>by have:=(HO.out.lt _ e).2;omega))).trans c3
        have c4:=B4.out.cell 0
        have c5:=B4.out.cell 1
        have f4:=B4.out.frozen 0
        have f5:=B4.out.frozen 1
        simp only[List.getElem?_toArray,List.getElem?_cons_succ,List.getElem?_cons_zero] at c4 c5
        clear o4 g4 a4 hk4))
    go_roundg (l.length - 1 - (j+1))
    case measure=>have:=HK.out;omega
    case rel=>
     refine⟨j+1,acc++[now],x,rfl,by omega,by go_num,by rw[HT.out],by rw[<-HX.out];exact HP2.out,?_,?_,by(repeat' (first|(with_reducible exact Below.refl _ _)|(with_reducible refine Below.alloc ?_ ?_ _)|(with_reducible refine Below.drew ?_)|(with_reducible refine below_drewN ?_ _)|(with_reducible refine Below.setCell ?_ ?_ _)|(with_reducible refine below_of (by assumption) ?_ ?_)|go_size))⟩
     ·exact(O4.out.far (p:=⟨w.heap.size,0,none⟩) (fun e=>by have h9:w.heap.size+1<=w.heap.size:=(O4.out.lt _ e).1;omega) _).far (p:=⟨w.heap.size,1,none⟩) (fun e=>by have h9:w.heap.size+1<=w.heap.size:=(O4.out.lt _ e).1;omega) _
     ·exact(B4.out.set_ 0 (.int .i64 x.1)).set_ 1 (.int .u64 x.2)
  ·have hjl:j=l.length - 1:=by omega
   have HF:Hid (press d (tot l) l=acc++[now]):=by
    show _=_
    rw[show j+1=l.length by omega] at hpr
    exact hpr.fin
   have hal:acc.length<=1000000000:=by have:=hpr.len;omega
   clear hpr hjl
   go_wp2_with (first
    | (at_builtin
       refine append_M rfl (.tmp 60) (.tmp 62) rfl (w.heap.size+1) u7 acc rfl (HO.out.alloc _) _ [now] rfl (RdM.one _ now) (by simp only[List.length_singleton];omega) (by go_size) ?_
       intro v4 w4 o4 g4 a4
       have hb4:Below w.heap.size w w4:=(hb.alloc (by omega) _).grown g4 (by go_size) (fun k hk=>by have:=(HO.out.lt k hk).1;omega)
       have O4:=Lib.hid o4
       clear o4 g4 a4))
   go_ret
   exact⟨_,rfl,by rw[HF.out];exact O4.out.more (by omega),hb4⟩
end Go.Proofs.YtkiebccnpheloaaGreat
