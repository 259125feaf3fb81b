/- Parts of a proof: what its theorem reaches, words cut short. No condition of its own. -/
import Derived.Test.YtkiebccnpheloaaGreatPk07
set_option maxRecDepth 100000
set_option maxHeartbeats 16000000
set_option linter.unusedVariables false
set_option linter.unusedSimpArgs false
namespace Go.Proofs.YtkiebccnpheloaaGreat
open Go.RowKit Go.Lib
theorem Z9{l:List Mn}(h:l.length<2):gY l=l:=by
 match l,h with
 | [],_=>rfl
 | [m],_=>rfl
theorem NQ(n:Nat):∀(l:List Mn) (v:Value) (w:World),l.length<=n->l.length<=1000000000->nN w v l ->
 Calls Tryz.prog 261 #[v,.func (.func 262) #[] #[]] w fun e w'=>∃v',e=.returned v'/\nN w' v' (gY l)/\Below w.heap.size w w':=by
 induction n with
 | zero=>
  intro l v w hl _ h;have h0:l=[]:=aW ae
  subst h0;have H:=aB h;obtain⟨A,c,rfl,hn,hc,hp⟩:=h.form;clear hp h
  go_enter Tryz.func261,Tryz.ntmps261
  go_wp2_with fail
  go_ret;exact⟨_,rfl,H.out,bw⟩
 | succ n ih=>
  intro l v w hl hlen h;have IH:=aB ih;clear ih;have H:=aB h;obtain⟨A,c,rfl,hn,hc,hp⟩:=h.form;have HP:=aB hp;clear hp h
  by_cases h2:l.length<2
  ·have HS:=aB (Z9 h2)
   go_enter Tryz.func261,Tryz.ntmps261
   go_wp2_with fail
   go_ret;exact⟨_,rfl,by rw[HS.out];exact H.out,bw⟩
  ·obtain⟨g,off,hA,hg,_⟩:=HP.out ae
   subst hA;obtain⟨h,hh⟩:∃h,h=l.length / 2:=⟨_,rfl⟩;have hh1:h<=l.length:=ae
   have R1:nN w (.slice (some ⟨g,off,none⟩) h c) (l.take h):=by
    have:=nN.iO (c:=c) (l:=l.take h) (by rw[bg];omega) hc (HP.out.head h)
    rwa [bg,Nat.min_eq_left hh1] at this
   have e1:((l.length:Int) / 2)=(h:Int):=ae
   have i0:(0:Int)<=(h:Int):=ae
   have i1:(h:Int)<=(l.length:Int):=ae
   have i2:(h:Int)<=(c:Int):=ae
   have hh2:h<=n:=ae
   have hh3:l.length - h<=n:=ae
   have hh4:h<l.length:=ae
   have z1:¬c=0:=ae
   have z2:¬c=h:=ae
   have z3:(h:Int)<(l.length:Int):=ae
   have z4:(h:Int)<(c:Int):=ae
   have z5:(0:Int)<(h:Int):=ae
   clear hh
   go_enter Tryz.func261,Tryz.ntmps261
   go_upto_region 3 with fail;have HR1:=aB R1;have R2:nN w (.slice (some ⟨g,off+h * 2,none⟩) (l.length - h) (c - h)) (l.drop h):=by
    have:=nN.iO (c:=c - h) (l:=l.drop h) (by rw[bn];omega) ae (HP.out.tail rfl h)
    rwa [bn] at this
   have HR2:=aB R2;have hl1:(l.take h).length<=n:=by rw[bg];omega
   have hl2:(l.take h).length<=1000000000:=by rw[bg];omega
   have hl3:(l.drop h).length<=n:=by rw[bn];omega
   have hl4:(l.drop h).length<=1000000000:=by rw[bn];omega
   have EW:=aB (IntWalk.i64_in (h:Int) ae)
   have HL:=aB (aN (aN hl1 hl2) (aN hl3 hl4));clear R1 R2 hl1 hl2 hl3 hl4;refine dD (fun _=>True) [(0,true),(1,true),(2,true),(3,true),(4,true),(5,true),(7,true),(8,true),(9,true),(10,true),(11,true),(12,true),(6,false),(13,false),(14,true),(15,true)] (by kernel_rfl) (by kernel_rfl) (trivial) ?_
   iterate 12
    refine dC ax  ax (fun R hR=>?_)
    apply aJ
    refine⟨fun w' hS'=>?_,?_⟩
    ·have ew:=EW.out
     go_simp;exact⟨rfl,rfl⟩
    go_simp;refine hR _ ?_;clear hR R
   refine dE ax  ax (fun K hK=>?_)
   go_simp;refine(IH.out (l.take h) _ _ HL.out.1.1 HL.out.1.2 (HR1.out.keep (aH _ _).drew)).mono ?_
   rintro e w1 ⟨v1,rfl,r1,hb1⟩;have Q1:=aB r1;have hz1:=hb1.size;clear r1;refine hK _ _ (trivial) ?_
   clear hK K;refine dE ax  ax (fun K hK=>?_)
   go_simp;refine(IH.out (l.drop h) _ _ HL.out.2.1 HL.out.2.2 ((HR2.out.keep (aH _ _).drew).keep hb1)).mono ?_
   rintro e w2 ⟨v2,rfl,r2,hb2⟩;have Q2:=aB r2;have hz2:=hb2.size;clear r2;refine hK _ _ (trivial) ?_
   clear hK K
   iterate 2
    refine dC ax  ax (fun R hR=>?_)
    apply aJ
    refine⟨fun w' hS'=>?_,?_⟩
    ·have ew:=EW.out
     go_simp;exact⟨rfl,rfl⟩
    go_simp;refine hR _ ?_;clear hR R
   refine dF ?_
   have pO:Below w.heap.size w w2:=(((aH _ _).drew).trans hb1).trans (hb2.mono aj)
   have au5:=pO.size;have A1:=aB (Q1.out.keep hb2);have HM:=aB (show mrg (gY (l.take h)) (gY (l.drop h))=gY l by rw[lM,List.take_append_drop])
   have HN:Hid ((gY (l.take h)).length+(gY (l.drop h)).length=l.length):=by show _=_;rw[jy,jy,bg,bn];omega
   obtain⟨Z,hmk,ho0⟩:=al0 l.length ae w2
   have HO0:=aB ho0;clear ho0 hb1 hb2 hz1 hz2
   go_wp2_with fail
   go_loopg [5,6,7] l.length (fun k av bv ov wr=>∃xs ys os:List Mn,k=xs.length+ys.length/\os.length+k=l.length/\nN w2 av xs/\nN w2 bv ys/\dU w2.heap.size wr ov os/\Hid (os++mrg xs ys=gY l)/\Below w2.heap.size w2 wr)
   case atStart=>exact⟨gY (l.take h),gY (l.drop h),[],HN.out.symm,ag,A1.out,Q2.out,HO0.out,HM.out,bw⟩
   case round=>
    obtain⟨xs,ys,os,hk,hsum,ra,rb,ro,HS,hb⟩:=hrel;have HA:=aB ra;have HB:=aB rb;have HO:=aB ro;obtain⟨Aa,ca,rfl,na,ma,fa⟩:=ra.form;obtain⟨Ab,cb,rfl,nb,mb,fb⟩:=rb.form;have FA:=aB fa;have FB:=aB fb;have HK:=aB (aN hk hsum);have hz:=hb.size;clear fa fb hk hsum ra rb ro
    by_cases ha:0<xs.length
    ·by_cases hbn:0<ys.length
     ·obtain⟨g1,o1,rfl,hg1,x0,x1⟩:=FA.out.at_ ha
      obtain⟨g2,o2,rfl,hg2,y0,y1⟩:=FB.out.at_ hbn;simp only[Nat.zero_mul,Nat.add_zero] at x0 x1 y0 y1;have HX0:=aB x0;have ZA:=aB x1;have HY0:=aB y0;have HY1:=aB y1;clear x0 x1 y0 y1;have hsl:os.length+(xs.length+ys.length)<=1000000000:=by have:=HK.out;omega
      have xa:(1:Int)<=(xs.length:Int):=ae
      have ya:(1:Int)<=(ys.length:Int):=ae
      by_cases hc:ys[0].1<xs[0].1
      ·have HM2:=aB (ND ha hbn hc)
       have hd:decide (ys[0].1<xs[0].1)=true:=by simpa using hc
       go_upto_region 6 with fail;refine dD (fun w'=>Below w2.heap.size w2 w') [(0,true),(1,true),(2,true),(3,true),(4,true),(5,true),(6,true),(7,false)] (by kernel_rfl) (by kernel_rfl) (hb.drew) ?_
       iterate 7
        refine dC ax  ax (fun R hR=>?_)
        apply aJ
        refine⟨fun w' hS'=>?_,?_⟩
        ·have k0:=(hS'.cell (p:=⟨_,_,none⟩) hg1).trans HX0.out
         have k1:=(hS'.cell (p:=⟨_,_,none⟩) hg1).trans ZA.out;have k2:=(hS'.cell (p:=⟨_,_,none⟩) hg2).trans HY0.out;have k3:=(hS'.cell (p:=⟨_,_,none⟩) hg2).trans HY1.out
         go_simp;exact⟨rfl,rfl⟩
        go_simp;refine hR _ ?_;clear hR R
       refine dE ax  ax (fun K hK=>?_)
       go_simp;refine(FZ ys[0] xs[0] _).mono ?_
       rintro e w3 ⟨rfl,hb3⟩;rw[hd];refine hK _ _ (hb.drew.trans (hb3.mono hz)) ?_
       clear hK K;refine dF ?_
       have hbw:Below w2.heap.size w2 w3:=hb.drew.trans (hb3.mono hz);have xu:=aB (HO.out.keep ((aH _ _).drew.trans hb3));have hzw:=hbw.size;clear hb3
       go_upto_region 7 with fail;have lS:=aB (fun w' (hS':(fun w'=>Below w2.heap.size w2 w') w')=>(aN ((hS'.cell (p:=⟨_,_,none⟩) hg1).trans HX0.out) (aN ((hS'.cell (p:=⟨_,_,none⟩) hg1).trans ZA.out) (aN ((hS'.cell (p:=⟨_,_,none⟩) hg2).trans HY0.out) ((hS'.cell (p:=⟨_,_,none⟩) hg2).trans HY1.out)))))
       refine dD (fun w'=>Below w2.heap.size w2 w') [(0,true),(1,true),(2,true),(3,true),(6,true),(7,true),(4,false),(5,false),(8,true),(9,true)] (by kernel_rfl) (by kernel_rfl) (hbw.drew) ?_
       iterate 6
        refine dC ax  ax (fun R hR=>?_)
        apply aJ
        refine⟨fun w' hS'=>?_,?_⟩
        ·obtain⟨k0,k1,k2,k3⟩:=lS.out w' hS'
         go_simp;exact⟨rfl,rfl⟩
        go_simp;refine hR _ ?_;clear hR R
       refine dE ax  ax (fun K hK=>?_)
       go_simp;refine hK _ _ ((hbw.drew).alloc aj _) ?_
       clear hK K;refine dE ax  ax (fun K hK=>?_)
       refine zD (.tmp 45) (.tmp 49) rfl w2.heap.size u7 os rfl (xu.out.drew.alloc _) _ [ys[0]] rfl (nN.one _ ys[0]) (by simp only[bK];omega) aj ?_
       intro v4 w4 o4 g4 a4;have hb4:Below w2.heap.size w2 w4:=((hbw.drew).alloc aj _).grown g4 aj (fun k hk=>(xu.out.lt k hk).1)
       have O4:=aB o4;clear o4 g4 a4
       go_simp;refine hK _ _ (hb4) ?_
       clear hK K
       iterate 2
        refine dC ax  ax (fun R hR=>?_)
        apply aJ
        refine⟨fun w' hS'=>?_,?_⟩
        ·obtain⟨k0,k1,k2,k3⟩:=lS.out w' hS'
         go_simp;exact⟨rfl,rfl⟩
        go_simp;refine hR _ ?_;clear hR R
       refine dF ?_
       have cut:=nN.ak6 hbn nb mb FB.out;generalize (if cb=1 then some (⟨g2,o2,none⟩:Addr) else some ⟨g2,o2+2,none⟩)=bb at cut |-
       have CUT:=aB cut;clear cut
       go_wp2_with fail
       go_roundg (xs.length+(ys.length - 1))
       case measure=>have:=HK.out;omega
       case rel=>exact⟨xs,ys.drop 1,os++[ys[0]],by rw[bn],by simp only[aI,bK];have:=HK.out;omega,HA.out,CUT.out,O4.out,by show _=_;rw[aS,List.singleton_append,<-HM2.out];exact HS.out,hb4⟩
      ·have HM2:=aB (NG ha hbn hc)
       have hd:decide (ys[0].1<xs[0].1)=false:=by simpa using hc
       go_upto_region 6 with fail;refine dD (fun w'=>Below w2.heap.size w2 w') [(0,true),(1,true),(2,true),(3,true),(4,true),(5,true),(6,true),(7,false)] (by kernel_rfl) (by kernel_rfl) (hb.drew) ?_
       iterate 7
        refine dC ax  ax (fun R hR=>?_)
        apply aJ
        refine⟨fun w' hS'=>?_,?_⟩
        ·have k0:=(hS'.cell (p:=⟨_,_,none⟩) hg1).trans HX0.out
         have k1:=(hS'.cell (p:=⟨_,_,none⟩) hg1).trans ZA.out;have k2:=(hS'.cell (p:=⟨_,_,none⟩) hg2).trans HY0.out;have k3:=(hS'.cell (p:=⟨_,_,none⟩) hg2).trans HY1.out
         go_simp;exact⟨rfl,rfl⟩
        go_simp;refine hR _ ?_;clear hR R
       refine dE ax  ax (fun K hK=>?_)
       go_simp;refine(FZ ys[0] xs[0] _).mono ?_
       rintro e w3 ⟨rfl,hb3⟩;rw[hd];refine hK _ _ (hb.drew.trans (hb3.mono hz)) ?_
       clear hK K;refine dF ?_
       have hbw:Below w2.heap.size w2 w3:=hb.drew.trans (hb3.mono hz);have xu:=aB (HO.out.keep ((aH _ _).drew.trans hb3));have hzw:=hbw.size;clear hb3
       go_upto_region 8 with fail;have lS:=aB (fun w' (hS':(fun w'=>Below w2.heap.size w2 w') w')=>(aN ((hS'.cell (p:=⟨_,_,none⟩) hg1).trans HX0.out) (aN ((hS'.cell (p:=⟨_,_,none⟩) hg1).trans ZA.out) (aN ((hS'.cell (p:=⟨_,_,none⟩) hg2).trans HY0.out) ((hS'.cell (p:=⟨_,_,none⟩) hg2).trans HY1.out)))))
       refine dD (fun w'=>Below w2.heap.size w2 w') [(0,true),(1,true),(2,true),(3,true),(6,true),(7,true),(4,false),(5,false),(8,true),(9,true)] (by kernel_rfl) (by kernel_rfl) (hbw.drew) ?_
       iterate 6
        refine dC ax  ax (fun R hR=>?_)
        apply aJ
        refine⟨fun w' hS'=>?_,?_⟩
        ·obtain⟨k0,k1,k2,k3⟩:=lS.out w' hS'
         go_simp;exact⟨rfl,rfl⟩
        go_simp;refine hR _ ?_;clear hR R
       refine dE ax  ax (fun K hK=>?_)
       go_simp;refine hK _ _ ((hbw.drew).alloc aj _) ?_
       clear hK K;refine dE ax  ax (fun K hK=>?_)
       refine zD (.tmp 53) (.tmp 57) rfl w2.heap.size u7 os rfl (xu.out.drew.alloc _) _ [xs[0]] rfl (nN.one _ xs[0]) (by simp only[bK];omega) aj ?_
       intro v4 w4 o4 g4 a4;have hb4:Below w2.heap.size w2 w4:=((hbw.drew).alloc aj _).grown g4 aj (fun k hk=>(xu.out.lt k hk).1)
       have O4:=aB o4;clear o4 g4 a4
       go_simp;refine hK _ _ (hb4) ?_
       clear hK K
       iterate 2
        refine dC ax  ax (fun R hR=>?_)
        apply aJ
        refine⟨fun w' hS'=>?_,?_⟩
        ·obtain⟨k0,k1,k2,k3⟩:=lS.out w' hS'
         go_simp;exact⟨rfl,rfl⟩
        go_simp;refine hR _ ?_;clear hR R
       refine dF ?_
       have cut:=nN.ak6 ha na ma FA.out;generalize (if ca=1 then some (⟨g1,o1,none⟩:Addr) else some ⟨g1,o1+2,none⟩)=bb at cut |-
       have CUT:=aB cut;clear cut
       go_wp2_with fail
       go_roundg ((xs.length - 1)+ys.length)
       case measure=>have:=HK.out;omega
       case rel=>exact⟨xs.drop 1,ys,os++[xs[0]],by rw[bn],by simp only[aI,bK];have:=HK.out;omega,CUT.out,HB.out,O4.out,by show _=_;rw[aS,List.singleton_append,<-HM2.out];exact HS.out,hb4⟩
     ·have hy0:=aB (show ys=[] from aW ae)
      have HE:Hid ((os++xs)++ys=gY l):=by show _=_;rw[<-HS.out,aS,hy0.out,mrg_nil_right,List.append_nil]
      have hsl:os.length+(xs.length+ys.length)<=1000000000:=by have:=HK.out;omega
      go_wp2_with (first
       | (at_builtin
          refine gm rfl (.tmp 61) (.tmp 62) rfl w2.heap.size u7 os rfl HO.out _ xs rfl (HA.out.keep hb) ae hz ?_
          intro v4 w4 o4 g4 a4;have hb4:Below w2.heap.size w2 w4:=hb.grown g4 hz (fun k hk=>(HO.out.lt k hk).1)
          have mG:=hb4.size;have O4:=aB o4;clear o4 g4 a4)
       | (at_builtin
          refine gm rfl (.tmp 63) (.tmp 64) rfl w2.heap.size v4 (os++xs) rfl O4.out _ ys rfl (HB.out.keep hb4) (by simp only[aI];omega) mG ?_
          intro v5 w5 o5 g5 a5;have hb5:Below w2.heap.size w2 w5:=hb4.grown g5 mG (fun k hk=>(O4.out.lt k hk).1)
          have O5:=aB o5;clear o5 g5 a5))
      go_ret;exact⟨_,rfl,by rw[<-HE.out];exact O5.out.rd,pO.trans (hb5.mono au5)⟩
    ·have hx0:=aB (show xs=[] from aW ae)
     have HE:Hid ((os++xs)++ys=gY l):=by show _=_;rw[<-HS.out,aS,hx0.out,mrg_nil_left,List.nil_append]
     have hsl:os.length+(xs.length+ys.length)<=1000000000:=by have:=HK.out;omega
     go_wp2_with (first
      | (at_builtin
         refine gm rfl (.tmp 61) (.tmp 62) rfl w2.heap.size u7 os rfl HO.out _ xs rfl (HA.out.keep hb) ae hz ?_
         intro v4 w4 o4 g4 a4;have hb4:Below w2.heap.size w2 w4:=hb.grown g4 hz (fun k hk=>(HO.out.lt k hk).1)
         have mG:=hb4.size;have O4:=aB o4;clear o4 g4 a4)
      | (at_builtin
         refine gm rfl (.tmp 63) (.tmp 64) rfl w2.heap.size v4 (os++xs) rfl O4.out _ ys rfl (HB.out.keep hb4) (by simp only[aI];omega) mG ?_
         intro v5 w5 o5 g5 a5;have hb5:Below w2.heap.size w2 w5:=hb4.grown g5 mG (fun k hk=>(O4.out.lt k hk).1)
         have O5:=aB o5;clear o5 g5 a5))
     go_ret;exact⟨_,rfl,by rw[<-HE.out];exact O5.out.rd,pO.trans (hb5.mono au5)⟩
open Go.RowKit Go.Lib
theorem JD(d:Int)(v:Value)(l:List Mn)(w:World)(h:nN w v l)(h0:0<l.length)(ho:jY l)(hr:mV l)(hlen:l.length<=1000000000)(ht:tot l<=281474976710656)(d0:0<=d)(d1:d<=1000) :
 Calls Tryz.prog 260 #[.int .i64 d,.int .u64 (tot l),v] w fun e w'=>∃v,e=.returned v/\dU w.heap.size w' v (nX d (tot l) l)/\Below w.heap.size w w':=by
 obtain⟨A,c,rfl,hn,hc,hp⟩:=h.form;obtain⟨g,off,rfl,hg,e0,e1⟩:=hp.at_ h0;simp only[Nat.zero_mul,Nat.add_zero] at e0 e1;have HP:=aB hp;have ST:=aB (sG.start d h0 ho hr);have cut:=nN.ak6 h0 hn hc hp;have i1:(1:Int)<=(l.length:Int):=ae
 clear hp h
 go_enter Tryz.func260,Tryz.ntmps260
 go_upto_block 0 with fail
 generalize (if c=1 then some (⟨g,off,none⟩:Addr) else some ⟨g,off+2,none⟩)=bb at cut |-
 have cf:=cut.form;obtain⟨A',c',hv',hn',hc',hp'⟩:=cf;simp only[Value.slice.injEq] at hv';obtain⟨rfl,hl',rfl⟩:=hv';have HQ:=aB hp';have HL:=aB hl';clear cut hp' hn' hc' hl'
 go_wp2_with fail
 go_loopg [7,8,18] (l.length - 1) (fun q o dn i wr=>∃(j:Nat) (acc:List Mn) (now:Mn),q=l.length - 1 - j/\j<=l.length - 1/\i=.int .i64 j/\dn=.int .u64 (tot acc)/\sG d (tot l) l (j+1) acc now /\
  dU (w.heap.size+1) wr o acc/\dH wr w.heap.size 231 #[.int .i64 now.1,.int .u64 now.2]/\Below w.heap.size w wr)
 case atStart=>exact⟨0,[],l[0],rfl,ae,rfl,rfl,ST.out,dU.nil_ _ _,dH.new _ _ _,bw⟩
 case round=>
  obtain⟨j,acc,now,hk,hj,rfl,rfl,hpr,hown,hblk,hb⟩:=hrel;have HK:=aB hk;have HO:=aB hown;have HB:=aB hblk;have hbl:=hblk.lt;have hz:=hb.size;have n0:=hblk.cell 0;have n1:=hblk.cell 1;have f0:=hblk.frozen 0;have f1:=hblk.frozen 1;simp only[aF,aG,aC] at n0 n1;clear hk hown hblk
  by_cases hlt:j<l.length - 1
  ·have hlt1:j+1<l.length:=ae
   obtain⟨p1,p2,p3,p4,p5⟩:=hpr.facts hlt1;have hlt2:j<(l.drop 1).length:=by rw[bn];exact hlt
   obtain⟨g1,o1,rfl,hg1,x0,x1⟩:=HQ.out.at_ hlt2;have hdrop:(l.drop 1)[j]=l[j+1]:=by rw[List.getElem_drop];congr 1;omega
   rw[hdrop] at x0 x1;clear hdrop;replace x0:=(hb.cell (p:=⟨_,_,none⟩) hg1).trans x0;replace x1:=(hb.cell (p:=⟨_,_,none⟩) hg1).trans x1;obtain⟨x,hx⟩:∃x,l[j+1]=x:=⟨_,rfl⟩;rw[hx] at x0 x1 p3 p4 p5;have q1:=p2.2.2;have q2:=p3.2.2;have MB:ZX d (tot l) (tot acc) (now.2+x.2):=⟨d0,d1,ht,p1,ae,p5⟩
   have ZZ:=aB hpr;have HX:=aB hx;clear hpr hx;have m0:(wr.alloc (.cells #[.int .i64 x.1,.int .u64 x.2] 231)).cell? ⟨wr.heap.size,0,none⟩=some (.int .i64 x.1):=by simp[World.cell?_alloc_new]
   have m1:(wr.alloc (.cells #[.int .i64 x.1,.int .u64 x.2] 231)).cell? ⟨wr.heap.size,1,none⟩=some (.int .u64 x.2):=by simp[World.cell?_alloc_new]
   have M0:=aB m0;have M1:=aB m1;have BA:=aB (HB.out.alloc (.cells #[.int .i64 x.1,.int .u64 x.2] 231));have OA:=aB (HO.out.alloc (.cells #[.int .i64 x.1,.int .u64 x.2] 231));clear m0 m1
   go_upto_region 7 with fail
   go_wp2_with fail;refine(H_ d (tot l) (tot acc) (now.2+x.2) _ MB).mono ?_
   rintro e w3 ⟨rfl,hb3⟩;have hz3:=hb3.size;simp only[aO] at hz3;have B3:=aB (BA.out.keep hb3);have O3:=aB (OA.out.keep hb3);have c0:=B3.out.cell 0;have c1:=B3.out.cell 1;have f0':=B3.out.frozen 0;have f1':=B3.out.frozen 1;simp only[aF,aG,aC] at c0 c1;have c2:=(hb3.cell (p:=⟨wr.heap.size,0,none⟩) ag).trans M0.out
   have c3:=(hb3.cell (p:=⟨wr.heap.size,1,none⟩) ag).trans M1.out
   have hbw:Below w.heap.size w w3:=(hb.alloc hz _).trans (hb3.mono ah)
   have hne:w.heap.size<wr.heap.size:=hbl;clear n0 n1 f0 f1 x0 x1
   by_cases hmay:xk d (tot l) (tot acc) (now.2+x.2)=true
   ·rw[hmay]
    have HP2:=aB (ZZ.out.merge hlt1 (by rw[HX.out];exact hmay))
    clear hmay
    go_wp2_with fail;refine(ZQ now.1 now.2 x.1 x.2 _ p2.1 p4 p3.2.1 ae q2 ae).mono ?_
    rintro e w4 ⟨rfl,hb4⟩;have mG:=hb4.size;have d0':=(hb4.cell (p:=⟨w.heap.size,0,none⟩) (by show w.heap.size<w3.heap.size;omega)).trans c0
    have d1':=(hb4.cell (p:=⟨w.heap.size,1,none⟩) (by show w.heap.size<w3.heap.size;omega)).trans c1
    have d2:=(hb4.cell (p:=⟨wr.heap.size,1,none⟩) (by show wr.heap.size<w3.heap.size;omega)).trans c3
    have d3:=(hb4.frozen (p:=⟨w.heap.size,0,none⟩) (by show w.heap.size<w3.heap.size;omega)).trans f0'
    have d4:=(hb4.frozen (p:=⟨w.heap.size,1,none⟩) (by show w.heap.size<w3.heap.size;omega)).trans f1'
    have B4:=aB (((B3.out.keep hb4).dP 0 (.int .i64 (kV now.1 x.1 x.2 (now.2+x.2)))).dP 1 (.int .u64 (now.2+x.2)));have O4:=aB (((O3.out.keep hb4).far (p:=⟨w.heap.size,0,none⟩) (fun e=>by have h9:w.heap.size+1<=w.heap.size:=(O3.out.lt _ e).1;omega) (.int .i64 (kV now.1 x.1 x.2 (now.2+x.2)))).far (p:=⟨w.heap.size,1,none⟩) (fun e=>by have h9:w.heap.size+1<=w.heap.size:=(O3.out.lt _ e).1;omega) (.int .u64 (now.2+x.2)))
    go_wp2_with fail
    go_roundg (l.length - 1 - (j+1))
    case measure=>have:=HK.out;omega
    case rel=>exact⟨j+1,acc,_,rfl,ae,ai,rfl,HP2.out,O4.out,by rw[HX.out];exact B4.out,bw⟩
   ·have Cc:xk d (tot l) (tot acc) (now.2+x.2)=false:=by simpa using hmay
    rw[Cc];have HP2:=aB (ZZ.out.push hlt1 (by rw[HX.out];exact Cc))
    have HT:Hid (tot (acc++[now])=tot acc+now.2):=by show _=_;rw[dS];simp[tot]
    have hal:acc.length<=1000000000:=by have:=ZZ.out.len;omega
    clear hmay Cc
    go_wp2_with (first
     | (at_builtin
        refine gm rfl (.tmp 50) (.tmp 52) rfl (w.heap.size+1) u7 acc rfl (O3.out.alloc _) _ [now] rfl (nN.one _ now) (by simp only[bK];omega) aj ?_
        intro v4 w4 o4 g4 a4;have hb4:Below w.heap.size w w4:=(hbw.alloc ae _).grown g4 aj (fun k hk=>by have:=(O3.out.lt k hk).1;omega)
        have mG:=g4.size;simp only[aO] at mG;have O4:=aB o4;have hk4:∀k,k<w3.heap.size->u7.ownBlock≠some k->w4.heap[k]?=w3.heap[k]?:=fun k h1 h2=>(g4.block k ah (fun e=>h2 e.symm)).trans (Below.heap_alloc _ _ _ h1)
        have B4:=aB (show dH w4 w.heap.size 231 #[.int .i64 now.1,.int .u64 now.2] from(hk4 _ ae (fun e=>by have:=(O3.out.lt _ e).1;omega)).trans B3.out)
        have c6:=(bM (a:=⟨wr.heap.size,0,none⟩) (hk4 wr.heap.size ae (fun e=>by have:=(HO.out.lt _ e).2;omega))).trans c2
        have c7:=(bM (a:=⟨wr.heap.size,1,none⟩) (hk4 wr.heap.size ae (fun e=>by have:=(HO.out.lt _ e).2;omega))).trans c3
        have c4:=B4.out.cell 0;have c5:=B4.out.cell 1;have f4:=B4.out.frozen 0;have f5:=B4.out.frozen 1;simp only[aF,aG,aC] at c4 c5;clear o4 g4 a4 hk4))
    go_roundg (l.length - 1 - (j+1))
    case measure=>have:=HK.out;omega
    case rel=>
     refine⟨j+1,acc++[now],x,rfl,ae,ai,by rw[HT.out],by rw[<-HX.out];exact HP2.out,?_,?_,bw⟩
     ·exact(O4.out.far (p:=⟨w.heap.size,0,none⟩) (fun e=>by have h9:w.heap.size+1<=w.heap.size:=(O4.out.lt _ e).1;omega) _).far (p:=⟨w.heap.size,1,none⟩) (fun e=>by have h9:w.heap.size+1<=w.heap.size:=(O4.out.lt _ e).1;omega) _
     ·exact(B4.out.dP 0 (.int .i64 x.1)).dP 1 (.int .u64 x.2)
  ·have hjl:j=l.length - 1:=ae
   have HF:Hid (nX d (tot l) l=acc++[now]):=by
    show _=_
    rw[show j+1=l.length by omega] at hpr
    exact hpr.fin
   have hal:acc.length<=1000000000:=by have:=hpr.len;omega
   clear hpr hjl
   go_wp2_with (first
    | (at_builtin
       refine gm rfl (.tmp 60) (.tmp 62) rfl (w.heap.size+1) u7 acc rfl (HO.out.alloc _) _ [now] rfl (nN.one _ now) (by simp only[bK];omega) aj ?_
       intro v4 w4 o4 g4 a4;have hb4:Below w.heap.size w w4:=(hb.alloc ae _).grown g4 aj (fun k hk=>by have:=(HO.out.lt k hk).1;omega)
       have O4:=aB o4;clear o4 g4 a4))
   go_ret;exact⟨_,rfl,by rw[HF.out];exact O4.out.more ae,hb4⟩
open Go.RowKit Go.Lib
def Dg(w:World)(g:Nat)(F:Nat->Prop)(d:Int)(L W:List Mn)(lo hi n:Int):Prop:=
 ∃lv wv,dH w g 247 #[.int .i64 d,lv,wv,.int .i64 lo,.int .i64 hi,.int .u64 n]/\dU 0 w lv L/\dU 0 w wv W/\F g/\(∀k,lv.ownBlock=some k->F k)/\(∀k,wv.ownBlock=some k->F k) /\
  (∀k,wv.ownBlock=some k->lv.ownBlock≠some k)/\(∀k,F k->k<w.heap.size)
theorem Dg.stay{w w':World}{g:Nat}{F:Nat->Prop}{d lo hi n:Int}{L W:List Mn}(h:Dg w g F d L W lo hi n)(hk:∀k,F k->w'.heap[k]?=w.heap[k]?)(hz:w.heap.size<=w'.heap.size):Dg w' g F d L W lo hi n:=by
 obtain⟨lv,wv,hb,hl,hw,hg,h1,h2,h3,h4⟩:=h;exact⟨lv,wv,(hk g hg).trans hb,hl.stay fun k e=>hk k (h1 k e),hw.stay fun k e=>hk k (h2 k e),hg,h1,h2,h3,fun k hf=>aU (h4 k hf) hz⟩
theorem Dg.keep{w w':World}{g:Nat}{F:Nat->Prop}{d lo hi n:Int}{L W:List Mn}(h:Dg w g F d L W lo hi n)(hb:Below w.heap.size w w'):Dg w' g F d L W lo hi n:=by
 have h4:=h;obtain⟨lv,wv,_,_,_,_,_,_,_,h4⟩:=h4;exact h.stay (fun k hk=>hb.block k (h4 k hk)) hb.size
theorem QI{w:World}{a b:Value}{L W:List Mn}{t:Nat}(h1:nN (w.alloc (.cells #[a,b] t)) a L)(h2:nN (w.alloc (.cells #[a,b] t)) b W):Ce (w.alloc (.cells #[a,b] t)) w.heap.size [L,W]:=by
 intro i hi;have:i=0\/i=1:=by simp at hi;omega
 rcases this with rfl|rfl
 ·exact⟨a,by simp[World.cell?_alloc_new],h1⟩
 ·exact⟨b,by simp[World.cell?_alloc_new],h2⟩
structure PrS(g:Nat)(d:Int)(B:Option Addr)(n c:Nat)(t:Int)(w w':World):Prop where
 touch:Touch (fun k=>k=g) w w'
 c0:w'.cell? ⟨g,0,none⟩=some (.int .i64 d)
 c2:w'.cell? ⟨g,2,none⟩=some (.slice B n c)
 c5:w'.cell? ⟨g,5,none⟩=some (.int .u64 t)
theorem PrS.dP{g:Nat}{d:Int}{B:Option Addr}{n c:Nat}{t:Int}{w w':World}(h:PrS g d B n c t w w')(v:Value):PrS g d B n c t w (w'.setCell ⟨g,1,none⟩ v):=
 ⟨h.touch.setCell (.inl rfl) v,(World.cell?_setCell_other _ _ _ _ ag).trans h.c0,(World.cell?_setCell_other _ _ _ _ ag).trans h.c2,(World.cell?_setCell_other _ _ _ _ ag).trans h.c5⟩
theorem F_(g:Nat)(F:Nat->Prop)(d lo hi:Int)(L W:List Mn)(w:World)(h:Dg w g F d L W lo hi (tot (L++W)))(ho:jY (L++W))(hne:L++W≠[])(hlen:L.length+W.length<=100000000)(ht:tot (L++W)<=281474976710656)(d0:0<=d)(d1:d<=1000) :
 Calls Tryz.prog 166 #[.pointer (some ⟨g,0,none⟩)] w fun e w'=>e=.returned (.tuple #[])/\∃F':Nat->Prop,(∀k,F' k->F k\/w.heap.size<=k)/\Dg w' g F' d (sF d (L++W)) [] lo hi (tot (L++W))/\Touch F w w':=by
 obtain⟨lv,wv,hb,hl,hw,hg,h1,h2,h3,h4⟩:=h;have c0:=hb.cell 0;have c1:=hb.cell 1;have c2:=hb.cell 2;have c5:=hb.cell 5;have f1:=hb.frozen 1;have f2:=hb.frozen 2;simp only[aF,aG,aC] at c0 c1 c2 c5;have hlt:=hb.lt;have HB:=aB hb;have HL:=aB hl;have HW:=aB hw;obtain⟨A,ca,rfl,na,ma,fa⟩:=hl.form;obtain⟨B,cb,rfl,nb,mb,fb⟩:=hw.form;have HG:=aB (aN hg (aN h1 (aN h2 (aN h3 h4))));have HC0:=aB c0;have HC1:=aB c1;have HC2:=aB c2;have HC5:=aB c5;have HO:=aB ho;have HNE:0<L.length+W.length:=by
  rcases bT (L.length+W.length) with h0|h0
  ·exact absurd (aW (by rw[aI];exact h0)) hne
  ·exact h0
 have hp:∀W0:Prop,(0<W.length->W0)->(¬0<W.length->0<L.length->W0)->W0:=fun W0 a b=>by
  by_cases h:0<W.length
  ·exact a h
  ·exact b h ae
 clear hb hl hw fa fb ho hg h1 h2 h3 h4 hne hp
 by_cases hW:0<W.length
 all_goals
  try (have hL:0<L.length:=ae)
  go_enter Tryz.func166,Tryz.ntmps166
  go_upto_region 1 with fail;have bd6:=aB HL.out.rd;have bd7:=aB HW.out.rd;have VI:∀w',Below w.heap.size w w'->PrS g d B W.length cb (tot (L++W)) w w':=fun w' hb=>⟨Touch.of_below hb (aK _),(hb.cell (p:=⟨g,0,none⟩) hlt).trans HC0.out,(hb.cell (p:=⟨g,2,none⟩) hlt).trans HC2.out,(hb.cell (p:=⟨g,5,none⟩) hlt).trans HC5.out⟩
  refine dJ (PrS g d B W.length cb (tot (L++W)) w) 27 [(0,true),(1,true),(2,true),(3,true),(4,true),(5,true),(6,true),(7,true),(8,true),(9,true),(10,true),(11,true),(12,true),(14,true),(15,true),(16,true),(17,true),(13,false),(18,false),(19,false),(20,false),(21,false),(22,true),(23,true),(24,false),(25,true),(26,true)] (by kernel_rfl) (by kernel_rfl) (VI _ (aH _ _).drew) ?_
  iterate 17
   refine dK ax  ax (fun R hR=>?_)
   apply aJ
   refine⟨fun w' hS'=>?_,?_⟩
   ·have k0:=hS'.c0
    have k2:=hS'.c2;have k5:=hS'.c5
    go_simp;exact⟨rfl,rfl⟩
   go_simp;refine hR _ ?_;clear hR R
  refine d_ ax  ax (fun K hK=>?_)
  go_simp;refine hK _ _ (VI _ (aH _ _).drew) ?_
  clear hK K;refine d_ ax  ax (fun K hK=>?_)
  go_simp;refine hK _ _ (VI _ (((aH _ _).drew).alloc aj _)) ?_
  clear hK K;refine d_ ax  ax (fun K hK=>?_)
  go_simp;have hrow:Ce (w.drew.alloc (.cells #[.slice A L.length ca,.slice B W.length cb] 149)) w.heap.size [L,W]:=QI (bd6.out.keep (((aH _ _).drew).alloc aj _)) (bd7.out.keep (((aH _ _).drew).alloc aj _))
  refine(JC w.heap.size [L,W] _ aj hrow ag ah).mono ?_
  rintro e w1 ⟨v1,rfl,o1,hb1⟩;have Cf:Below w.heap.size w w1:=(((aH _ _).drew).alloc aj _).trans (hb1.mono aj)
  have hz1:=Cf.size;rw[show([L,W]:List (List Mn)).flatten=L++W by simp] at o1
  have O1:=aB o1;clear o1;refine hK _ _ (VI _ Cf) ?_
  clear hK K;refine d_ ax  ax (fun K hK=>?_)
  go_simp;refine(NQ _ (L++W) v1 _ (aK _) (by rw[aI];omega) O1.out.rd).mono ?_
  rintro e w2 ⟨v2,rfl,o2,hb2⟩;have hbw2:Below w.heap.size w w2:=Cf.trans (hb2.mono hz1);have hz2:=hbw2.size;have O2:=aB o2;clear o2;refine hK _ _ (VI _ hbw2) ?_
  clear hK K;refine d_ ax  ax (fun K hK=>?_)
  go_simp;have hpr:=JD d v2 (gY (L++W)) w2 O2.out (by rw[jy,aI];exact HNE) (HO.out.gY) (yA _) (by rw[jy,aI];omega) (by rw[w_];exact ht) d0 d1
  rw[w_] at hpr;refine hpr.mono ?_
  rintro e w3 ⟨v3,rfl,o3,hb3⟩;have hbw3:Below w.heap.size w w3:=hbw2.trans (hb3.mono hz2);have hz3:=hbw3.size;have O3:=aB o3;clear o3 hpr;refine hK _ _ (VI _ hbw3) ?_
  clear hK K
  iterate 2
   refine dK ax  ax (fun R hR=>?_)
   apply aJ
   refine⟨fun w' hS'=>?_,?_⟩
   ·have k0:=hS'.c0
    have k2:=hS'.c2;have k5:=hS'.c5
    go_simp;exact⟨rfl,rfl⟩
   go_simp;refine hR _ ?_;clear hR R
  refine d_ ax  ax (fun K hK=>?_)
  obtain⟨A3,c3,rfl,n3,m3,f3⟩:=O3.out.form;clear f3;have k1:=(hbw3.frozen (p:=⟨g,1,none⟩) hlt).trans f1;have k3:=(hbw3.cell (p:=⟨g,1,none⟩) hlt).trans HC1.out
  go_simp;refine hK _ _ ((VI _ hbw3).dP _) ?_
  clear hK K
  iterate 2
   refine dK ax  ax (fun R hR=>?_)
   apply aJ
   refine⟨fun w' hS'=>?_,?_⟩
   ·have k0:=hS'.c0
    have k2:=hS'.c2;have k5:=hS'.c5
    go_simp;exact⟨rfl,rfl⟩
   go_simp;refine hR _ ?_;clear hR R
  refine dQ ?_
  simp only[bD,bQ];have k2:=(hbw3.frozen (p:=⟨g,2,none⟩) hlt).trans f2;have k4:=(hbw3.cell (p:=⟨g,2,none⟩) hlt).trans HC2.out
  go_wp2_with fail;refine dO ?_
  go_wp2_with fail;refine bodyPost_end (v:=.tuple #[]) (by simp[results,Tryz.results166,go_sem, *];try rfl) rfl ?_
  refine⟨rfl,fun k=>k=g\/(Value.slice A3 (sF d (L++W)).length c3).ownBlock=some k,?_,?_,?_⟩
  ·rintro k (rfl|hk)
   ·exact .inl HG.out.1
   ·exact .inr (by have:=(O3.out.lt k hk).1;omega)
  ·obtain⟨hg,h1,h2,h3,h4⟩:=HG.out
   have hgo:∀k,(Value.slice A3 (sF d (L++W)).length c3).ownBlock=some k->w.heap.size<=k/\k<w3.heap.size:=fun k hk=>by have:=O3.out.lt k hk;omega
   have hgn:∀i,(Value.slice A3 (sF d (L++W)).length c3).ownBlock≠some (⟨g,i,none⟩:Addr).block:=fun i hk=>by have:=hgo g hk;omega
   refine⟨_,_,((HB.out.keep hbw3).dP 1 _).dP 2 _,((O3.out.more (bW _)).far (hgn 1) _).far (hgn 2) _,dU.nil_ _ _,.inl rfl,fun k hk=>.inr hk,fun k hk=>(by cases hk),fun k hk=>(by cases hk),fun k hk=>?_⟩
   simp only[bZ]
   rcases hk with rfl|hk
   ·omega
   ·have:=hgo k hk;omega
  ·exact((Touch.of_below hbw3 (aK _)).setCell (.inl HG.out.1) _).setCell (.inl HG.out.1) _
end Go.Proofs.YtkiebccnpheloaaGreat
