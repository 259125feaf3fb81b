/- Parts of a proof. No condition. -/
import Derived.Test.YtilcnjbpmoijmaaGreatPw06
import Derived.Shelf.Spec.SlicesGrow
set_option maxRecDepth 100000
set_option maxHeartbeats 16000000
set_option linter.unusedVariables false
set_option linter.unusedSimpArgs false
namespace Go.Proofs.YtilcnjbpmoijmaaGreat
open Tryz
open Go.RowKit Go.Lib
variable{w:World}{o:Oper}{a:Act}{Q:Exit->Act->World->Prop}
theorem UT:(prog.info? 203).map (fun i=>(i.zero,i.size,i.bytes))=some (some (.agg #[.int .i64 0,.int .u64 0]),2,16):=by kernel_rfl
theorem iZ{ops:Array Oper}{rest:List Oper}(hgd:o.guard=none)(s x:Operand)
 (ho:o.op=.call {callee:=.builtin .append,args:=#[s,x],argTypes:=#[111,111]})
 (base:Nat) (v:Value) (xs:List Mn) (hs:a.eval s=v) (hown:fA base w v xs)
 (u:Value) (news:List Mn) (hx:a.eval x=u) (hr:qw w u news)
 (hlen:xs.length+news.length<=1099511627776) (hbase:base<=w.heap.size)
 (h:∀v' w',fA base w' v' (xs++news)->w.grownBy w' v.ownBlock->(v'.ownBlock=v.ownBlock\/v'.ownBlock=some w.heap.size)->wpList prog ops Q rest (a.put o.dst v') w'):wpList prog ops Q (o::rest) a w:=by
 obtain⟨i0,hi,hz0,hz1,hz2⟩:=info_parts UT;obtain⟨A,c,rfl,_,_,_⟩:=hr.form;refine jX w hgd s x 111 ho base 203 i0 _ 2 16 underlying111 hi hz0 hz1 hz2 rfl ae v xs.length (fM xs) hs hown A news.length c (fM news) hx hr (EF _)
  (by unfold maxLen;omega) ae hbase fun v' w' h1 h2 h3=>h v' w' ?_ h2 h3
 unfold fA;rw[aQ,xm];exact h1
theorem Cc{K:Act->World->Prop}(s x:Operand)
 (ho:o.op=.call {callee:=.builtin .append,args:=#[s,x],argTypes:=#[111,111]})
 (base:Nat) (v:Value) (xs:List Mn) (hs:a.eval s=v) (hown:fA base w v xs)
 (u:Value) (news:List Mn) (hx:a.eval x=u) (hr:qw w u news)
 (hlen:xs.length+news.length<=1099511627776) (hbase:base<=w.heap.size)
 (h:∀v' w',fA base w' v' (xs++news)->w.grownBy w' v.ownBlock->(v'.ownBlock=v.ownBlock\/v'.ownBlock=some w.heap.size)->K (a.put o.dst v') w'):o.wp prog a w K Q:=by
 obtain⟨i0,hi,hz0,hz1,hz2⟩:=info_parts UT;obtain⟨A,c,rfl,_,_,_⟩:=hr.form;refine oq w s x 111 ho base 203 i0 _ 2 16 underlying111 hi hz0 hz1 hz2 rfl ae v xs.length (fM xs) hs hown A news.length c (fM news) hx hr (EF _)
  (by unfold maxLen;omega) ae hbase fun v' w' h1 h2 h3=>h v' w' ?_ h2 h3
 unfold fA;rw[aQ,xm];exact h1
def RDg(w:World)(g:Nat)(F:Nat->Prop)(d:Int)(L W:List Mn)(lo hi:Int):Prop:=
 ∃lv wv,dK w g 113 #[.int .i64 d,lv,wv,.int .i64 lo,.int .i64 hi]/\fA 0 w lv L/\fA 0 w wv W/\F g/\(∀k,lv.ownBlock=some k->F k)/\(∀k,wv.ownBlock=some k->F k) /\
  (∀k,wv.ownBlock=some k->lv.ownBlock≠some k)/\(∀k,F k->k<w.heap.size)
theorem RDg.stay{w w':World}{g:Nat}{F:Nat->Prop}{d lo hi:Int}{L W:List Mn}(h:RDg w g F d L W lo hi)(hk:∀k,F k->w'.heap[k]?=w.heap[k]?)(hz:w.heap.size<=w'.heap.size):RDg w' g F d L W lo hi:=by
 obtain⟨lv,wv,hb,hl,hw,hg,h1,h2,h3,h4⟩:=h;exact⟨lv,wv,(hk g hg).trans hb,hl.stay fun k e=>hk k (h1 k e),hw.stay fun k e=>hk k (h2 k e),hg,h1,h2,h3,fun k hf=>bF (h4 k hf) hz⟩
theorem Fp(g:Nat)(F:Nat->Prop)(d lo hi:Int)(L W:List Mn)(w:World)(h:RDg w g F d L W lo hi)(hlen:L.length+W.length<=1099511627776) :
 aH 61 #[.pointer (some ⟨g,0,none⟩)] w fun e w'=>∃v,e=.returned v/\fA w.heap.size w' v (L++W)/\Below w.heap.size w w':=by
 obtain⟨lv,wv,hb,hl,hw,hg,h1,h2,h3,h4⟩:=h;have c1:=hb.cell 1;have c2:=hb.cell 2;simp only[aK,aN,aJ] at c1 c2;have hlt:=hb.lt;have HL:=aI hl;have HW:=aI hw;clear hb hl hw h1 h2 h3 h4
 go_enter func61,ntmps61
 go_wp2_with (first
  | (at_builtin
     refine iZ rfl (.tmp 4) (.tmp 8) rfl w.heap.size (.slice none 0 0) [] rfl (fA.nil_ _ _) lv L rfl HL.o.rd (by simp only[bC];omega) (aS _) ?_
     intro v1 w1 o1 g1 a1;have hb1:Below w.heap.size w w1:=(aO _ _).grown g1 (aS _) (by simp[Value.ownBlock])
     have hz1:=hb1.size;have⟨hc1,hf1⟩:=IJ hb1;have O1:=aI o1;clear o1 g1 a1)
  | (at_builtin
     refine iZ rfl (.tmp 10) (.tmp 14) rfl w.heap.size v1 ([]++L) rfl O1.o wv W rfl (HW.o.keep hb1).rd (by simp only[List.nil_append];omega) ae ?_
     intro v2 w2 o2 g2 a2;have hb2:Below w.heap.size w w2:=hb1.grown g2 hz1 (fun k hk=>(O1.o.lt k hk).1)
     have O2:=aI o2;clear o2 g2 a2))
 go_ret;exact⟨v2,rfl,O2.o,hb2⟩
open Tryz
open Go.RowKit Go.Lib
open Tryz
open Go.RowKit Go.Lib
theorem az1(n:Nat)(w:World)(hn:n<=1099511627776) :
 aH 219 #[.slice none 0 0,.int .i64 n] w fun e w'=>∃v,e=.returned v/\fA w.heap.size w' v []/\Below w.heap.size w w':=by
 obtain⟨i0,hi,hz0,hz1,hz2⟩:=info_parts UT
 by_cases h0:n=0
 ·subst h0
  go_enter func219,ntmps219
  go_wp2_with fail
  go_ret;exact⟨_,rfl,fA.nil_ _ _,bw⟩
 ·have hold:(Builtin.firstCells i0.size 0 (.slice none 0 0)).run prog w.drew=.ok #[] w.drew:=run_firstCells_none w.drew i0.size 0 0 0
  have hrz:∀ty,(Builtin.append_ #[111,3] ty #[.slice none 0 0,.int .i64 (n:Int)]).run prog w =
   .ok (.slice (some ⟨w.heap.size,0,none⟩) n (grownCap w n 0 203)) (w.drew.alloc (.cells (([]:List Value).toArray++Builtin.zeroCells (Value.agg #[.int .i64 0,.int .u64 0]).cells n++Builtin.zeroCells (Value.agg #[.int .i64 0,.int .u64 0]).cells (grownCap w n 0 203 - n)) 203)):=fun ty=>by
   have h:=Lib.run_append_grow_zeros w 111 3 ty 203 i0 _ .i64 .i64 underlying111 underlying3 hi hz0 none 0 0 [] hold n ae  ae  ae  ae (by rw[hz2];omega) (growslice_fits ae (by rw[hz2];omega))
   simpa using h
  have hGn:n<=grownCap w n 0 203:=grownCap_ge w _ _ _;have hG63:grownCap w n 0 203<=maxLen:=grownCap_le_maxLen w n 0 203 (by unfold maxLen;omega)
  obtain⟨G,hG⟩:=aF (grownCap w n 0 203);rw[hG] at hrz hGn hG63;obtain⟨Z,hZ⟩:∃Z:Array Value,(([]:List Value).toArray++Builtin.zeroCells (Value.agg #[.int .i64 0,.int .u64 0]).cells n++Builtin.zeroCells (Value.agg #[.int .i64 0,.int .u64 0]).cells (G - n))=Z:=⟨_,rfl⟩;rw[hZ] at hrz;have hZs:Z.size=G * 2:=by
   rw[<-hZ,Array.size_append,Array.size_append,size_zeroCells,size_zeroCells];simp only[Value.cells,List.size_toArray,aU,bC];omega
  have HZ:=aI hZs;have HG:=aI hG63;have hG':G<=9223372036854775807:=by unfold maxLen at hG63;omega
  clear hZ hZs hG hold hi hz0 hz1 hz2 hG63
  go_enter func219,ntmps219
  go_wp2_with (at_builtin;refine Lib.wpList_append_run _ rfl _ _ _ _ rfl _ _ rfl rfl _ _ (hrz _) ?_)
  go_ret;refine⟨_,rfl,?_,bw⟩
  exact⟨by simp[fM],.inr ⟨w.heap.size,G,Z,rfl,aS _,heap_alloc_new _ _,df _,HG.o,HZ.o,by simp[fM]⟩⟩
theorem Wx(w:World):fA w.heap.size (w.alloc (.cells #[] 203)) (.slice (some ⟨w.heap.size,0,none⟩) 0 0) []:=
 ⟨by simp[fM],.inr ⟨w.heap.size,0,#[],rfl,aS _,heap_alloc_new _ _,df _,by unfold maxLen;omega,rfl,by simp[fM]⟩⟩
theorem wH(v:Value)(l:List Mn)(w:World)(h:qw w v l)(hlen:l.length<=1099511627776) :
 aH 241 #[v] w fun e w'=>∃v',e=.returned v'/\fA w.heap.size w' v' l/\Below w.heap.size w w':=by
 have H:=aI h;obtain⟨A,c,rfl,hn,hc,hp⟩:=h.form
 rcases A with _|a
 ·have hl:l=[]:=by
   rcases bQ l.length with h0|h0
   ·exact bz h0
   ·obtain⟨g,off,hA,_⟩:=hp h0;cases hA
  subst hl;clear hp h;have he:(binOp .eql 111 (.slice none 0 c) (.slice none 0 0)).run prog w=.ok (.bool true) w:=Lib.run_eql_slice_nil w _ _ _ _ _ _ _ underlying111
  go_enter func241,ntmps241
  go_wp2_with fail
  go_ret;exact⟨_,rfl,fA.nil_ _ _,bw⟩
 ·clear hp h
  have he:(binOp .eql 111 (.slice (some a) l.length c) (.slice none 0 0)).run prog w=.ok (.bool false) w:=Lib.run_eql_slice_nil w _ _ _ _ _ _ _ underlying111
  go_enter func241,ntmps241
  go_wp2_with (first
   | (at_builtin
      go_must (refine iZ rfl (.tmp 5) (.tmp 6) rfl w.heap.size (.slice (some ⟨w.heap.size,0,none⟩) 0 0) [] rfl (Wx w) (.slice (some a) l.length c) l rfl (H.o.keep ((aO _ _).alloc (aS _) _)) (by simp only[bC];omega) aj ?_)
      intro v1 w1 o1 g1 a1;have hb1:Below w.heap.size w w1:=((aO _ _).alloc (aS _) _).grown g1 aj (fun k hk=>by simp[Value.ownBlock] at hk;omega)
      have O1:=aI o1;clear o1 g1 a1))
  go_ret;exact⟨v1,rfl,O1.o,hb1⟩
def Ce(w:World)(g:Nat)(L:List (List Mn)):Prop:=∀i (h:i<L.length),∃v,w.cell? ⟨g,i,none⟩=some v/\qw w v L[i]
theorem Ce.keep{w w':World}{g:Nat}{L:List (List Mn)}(h:Ce w g L)(hg:g<w.heap.size)(hb:Below w.heap.size w w'):Ce w' g L:=fun i hi=>by
 obtain⟨v,h1,h2⟩:=h i hi;exact⟨v,(hb.cell (p:=⟨g,i,none⟩) hg).trans h1,h2.keep hb⟩
theorem uU(L:List (List Mn))(i:Nat)(h:i<L.length):(L.take (i+1)).flatten=(L.take i).flatten++L[i]:=by
 rw[bg h,List.flatten_append];simp
theorem sH(L:List (List Mn))(i:Nat):(L.take i).flatten.length<=L.flatten.length:=by
 have h:L.flatten=(L.take i).flatten++(L.drop i).flatten:=by rw[<-List.flatten_append,List.take_append_drop]
 rw[h,aQ];omega
theorem Fq(g:Nat)(L:List (List Mn))(w:World)(hg:g<w.heap.size)(h:Ce w g L)(hL:L.length<=1000)(hlen:L.flatten.length<=1099511627776) :
 aH 138 #[.slice (some ⟨g,0,none⟩) L.length L.length] w fun e w'=>∃v,e=.returned v/\fA w.heap.size w' v L.flatten/\Below w.heap.size w w':=by
 have H:=aI h;clear h
 go_enter func138,ntmps138
 go_wp2_with fail
 go_loopg [3,11] L.length (fun q sz i wr=>∃j z:Nat,q=L.length - j/\j<=L.length/\i=.int .i64 j/\sz=.int .i64 (z:Int)/\Hid ((L.take j).flatten.length=z)/\Below w.heap.size w wr)
 case atStart=>exact⟨0,0,rfl,ae,rfl,rfl,rfl,aO _ _⟩
 case round=>
  obtain⟨j,z,hk,hj,rfl,rfl,HZ,hb⟩:=hrel;have HK:=aI hk;have hz:=hb.size;clear hk;have hz0:z<=1099511627776:=by have:=sH L j;have:=HZ.o;omega
  by_cases hlt:j<L.length
  ·obtain⟨v,c0,r0⟩:=(H.o.keep hg hb) j hlt
   obtain⟨A,c,rfl,hn,hc,hp⟩:=r0.form;have HT:Hid ((L.take (j+1)).flatten.length=z+L[j].length):=by show _=_;rw[uU L j hlt,aQ,HZ.o]
   have ht:z+L[j].length<=1099511627776:=by have:=sH L (j+1);have:=HT.o;omega
   clear hp r0
   go_wp2_with fail
   go_roundg (L.length - (j+1))
   case measure=>have:=HK.o;omega
   case rel=>exact⟨j+1,z+L[j].length,rfl,ae,ai,ai,HT,hb⟩
  ·have hjL:j=L.length:=ae
   have hzl:z<=1099511627776:=hz0;clear HK
   go_wp2_with (first|(go_at_call 219;refine(az1 z _ hz0).mono ?_;rintro e w1 ⟨v1,rfl,o1,hb1⟩;have O1:=aI o1;have hz1:=hb1.size;clear o1))
   obtain⟨wa,rfl⟩:∃wa:World,wa=wr:=⟨_,rfl⟩
   go_loopg [6,27] L.length (fun q ns i wx=>∃k:Nat,q=L.length - k/\k<=L.length/\i=.int .i64 k/\fA wa.heap.size wx ns (L.take k).flatten/\Below wa.heap.size wa wx)
   case atStart=>exact⟨0,rfl,ae,rfl,O1.o,hb1⟩
   case round=>
    obtain⟨k,hk,hj,rfl,ho,hb2⟩:=hrel;have HK:=aI hk;have hz2:=hb2.size;have HO:=aI ho;clear hk ho
    by_cases hlt2:k<L.length
    ·obtain⟨v,c0,r0⟩:=(H.o.keep hg (hb.trans (hb2.mono hz))) k hlt2
     have R0:=aI r0;have HT:=aI (uU L k hlt2);have ht:(L.take k).flatten.length+L[k].length<=1099511627776:=by
      have h1:=sH L (k+1);rw[HT.o,aQ] at h1;omega
     have HH:=aI ht;clear ht r0
     go_wp2_with (first
      | (at_builtin
         refine iZ rfl (.tmp 31) (.tmp 32) rfl wa.heap.size u6 _ rfl HO.o v L[k] rfl R0.o HH.o ae ?_
         intro v2 w2 o2 g2 a2;have hb3:Below wa.heap.size wa w2:=hb2.grown g2 ae (fun x hx=>(HO.o.lt x hx).1)
         have O2:=aI o2;clear o2 g2 a2))
     go_roundg (L.length - (k+1))
     case measure=>have:=HK.o;omega
     case rel=>exact⟨k+1,rfl,ae,ai,by rw[HT.o];exact O2.o,hb3⟩
    ·have hkL:k=L.length:=ae
     have HF:Hid (L.take k=L):=by show _=_;rw[bP ae]
     clear hkL hjL
     go_wp2_with fail
     go_ret;refine⟨_,rfl,?_,hb.trans (hb2.mono hz)⟩
     have h1:=HO.o;rw[HF.o] at h1;exact h1.more hz
theorem az2(c:Nat)(hc:c<=1099511627776)(w:World):∃Z:Array Value,(Instr.makeSlice 111 (.int .i64 0) (.int .i64 (c:Int))).run prog w=.ok (.slice (some ⟨w.heap.size,0,none⟩) 0 c) (w.alloc (.cells Z 203)) /\
 fA w.heap.size (w.alloc (.cells Z 203)) (.slice (some ⟨w.heap.size,0,none⟩) 0 c) []:=by
 obtain⟨i0,hi,hz0,hz1,hz2⟩:=info_parts UT;refine⟨_,ni 111 203 i0 _ underlying111 hi hz0 .i64 .i64 0 c (df _) (by rw[hz2];omega) ae w,?_⟩
 exact⟨by simp[fM],.inr ⟨w.heap.size,c,_,rfl,aS _,heap_alloc_new _ _,df _,by unfold maxLen;omega,by rw[size_madeCells,hz1],by simp[fM]⟩⟩
open Tryz
open Go.RowKit Go.Lib
theorem am6{l:List Mn}(h:l.length<2):iU l=l:=by
 match l,h with
 | [],_=>rfl
 | [m],_=>rfl
theorem xP(n:Nat):∀(l:List Mn) (v:Value) (w:World),l.length<=n->l.length<=1000000000->qw w v l ->
 aH 217 #[v,.func (.func 218) #[] #[]] w fun e w'=>∃v',e=.returned v'/\qw w' v' (iU l)/\Below w.heap.size w w':=by
 induction n with
 | zero=>
  intro l v w hl _ h;have h0:l=[]:=bz ae
  subst h0;have H:=aI h;obtain⟨A,c,rfl,hn,hc,hp⟩:=h.form;clear hp h
  go_enter func217,ntmps217
  go_wp2_with fail
  go_ret;exact⟨_,rfl,H.o,bw⟩
 | succ n ih=>
  intro l v w hl hlen h;have IH:=aI ih;clear ih;have H:=aI h;obtain⟨A,c,rfl,hn,hc,hp⟩:=h.form;have HP:=aI hp;clear hp h
  by_cases h2:l.length<2
  ·have HS:=aI (am6 h2)
   go_enter func217,ntmps217
   go_wp2_with fail
   go_ret;exact⟨_,rfl,by rw[HS.o];exact H.o,bw⟩
  ·obtain⟨g,off,hA,hg,_⟩:=HP.o ae
   subst hA;obtain⟨h,hh⟩:∃h,h=l.length / 2:=⟨_,rfl⟩;have hh1:h<=l.length:=ae
   have R1:qw w (.slice (some ⟨g,off,none⟩) h c) (l.take h):=by
    have:=qw.jY (c:=c) (l:=l.take h) (by rw[bG];omega) hc (HP.o.head h)
    rwa [bG,Nat.min_eq_left hh1] at this
   have e1:((l.length:Int) / 2)=(h:Int):=ae
   have i0:(0:Int)<=(h:Int):=ae
   have i1:(h:Int)<=(l.length:Int):=ae
   have i2:(h:Int)<=(c:Int):=ae
   have hh2:h<=n:=ae
   have hh3:l.length - h<=n:=ae
   have hh4:h<l.length:=ae
   have z1:¬c=0:=ae
   have z2:¬c=h:=ae
   have z3:(h:Int)<(l.length:Int):=ae
   have z4:(h:Int)<(c:Int):=ae
   have z5:(0:Int)<(h:Int):=ae
   clear hh
   go_enter func217,ntmps217
   go_upto_region 3 with fail;have HR1:=aI R1;have R2:qw w (.slice (some ⟨g,off+h * 2,none⟩) (l.length - h) (c - h)) (l.drop h):=by
    have:=qw.jY (c:=c - h) (l:=l.drop h) (by rw[bu];omega) ae (HP.o.tail rfl h)
    rwa [bu] at this
   have HR2:=aI R2;have hl1:(l.take h).length<=n:=by rw[bG];omega
   have hl2:(l.take h).length<=1000000000:=by rw[bG];omega
   have hl3:(l.drop h).length<=n:=by rw[bu];omega
   have hl4:(l.drop h).length<=1000000000:=by rw[bu];omega
   have EW:=aI (IntWalk.i64_in (h:Int) ae)
   have HL:=aI (aP (aP hl1 hl2) (aP hl3 hl4));clear R1 R2 hl1 hl2 hl3 hl4;have mW:=aI (fun(w':World) (hS':(fun _=>True) w')=>(EW.o))
   refine jh (fun _=>True) (dV 0 6 (dV 7 6 (fJ 6 (fJ 13 (dV 14 2 []))))) (trivial) ?_
   iterate 12 refine eQ ?_
   refine fO fun K hK=>?_
   go_simp;refine(IH.o (l.take h) _ _ HL.o.1.1 HL.o.1.2 (HR1.o.keep (aO _ _).drew)).mono ?_
   rintro e w1 ⟨v1,rfl,r1,hb1⟩;have Q1:=aI r1;have hz1:=hb1.size;clear r1;refine hK _ _ (trivial) ?_
   clear hK K;refine fO fun K hK=>?_
   go_simp;refine(IH.o (l.drop h) _ _ HL.o.2.1 HL.o.2.2 ((HR2.o.keep (aO _ _).drew).keep hb1)).mono ?_
   rintro e w2 ⟨v2,rfl,r2,hb2⟩;have Q2:=aI r2;have hz2:=hb2.size;clear r2;refine hK _ _ (trivial) ?_
   clear hK K
   iterate 2 refine eQ ?_
   refine dJ ?_
   have jD:Below w.heap.size w w2:=(((aO _ _).drew).trans hb1).trans (hb2.mono aj)
   have az3:=jD.size;have A1:=aI (Q1.o.keep hb2);have HM:=aI (show mrg (iU (l.take h)) (iU (l.drop h))=iU l by rw[nC,List.take_append_drop])
   have HN:Hid ((iU (l.take h)).length+(iU (l.drop h)).length=l.length):=by show _=_;rw[mO,mO,bG,bu];omega
   obtain⟨Z,hmk,ho0⟩:=az2 l.length ae w2
   have HO0:=aI ho0;clear ho0 hb1 hb2 hz1 hz2
   go_wp2_with fail
   go_loopg [5,6,7] l.length (fun k av bv ov wr=>∃xs ys os:List Mn,k=xs.length+ys.length/\os.length+k=l.length/\qw w2 av xs/\qw w2 bv ys/\fA w2.heap.size wr ov os/\Hid (os++mrg xs ys=iU l)/\Below w2.heap.size w2 wr)
   case atStart=>exact⟨iU (l.take h),iU (l.drop h),[],HN.o.symm,ag,A1.o,Q2.o,HO0.o,HM.o,bw⟩
   case round=>
    obtain⟨xs,ys,os,hk,hsum,ra,rb,ro,HS,hb⟩:=hrel;have HA:=aI ra;have HB:=aI rb;have HO:=aI ro;obtain⟨Aa,ca,rfl,na,ma,fa⟩:=ra.form;obtain⟨Ab,cb,rfl,nb,mb,fb⟩:=rb.form;have FA:=aI fa;have FB:=aI fb;have HK:=aI (aP hk hsum);have hz:=hb.size;clear fa fb hk hsum ra rb ro
    by_cases ha:0<xs.length
    ·by_cases hbn:0<ys.length
     ·obtain⟨g1,o1,rfl,hg1,x0,x1⟩:=FA.o.at_ ha
      obtain⟨g2,o2,rfl,hg2,y0,y1⟩:=FB.o.at_ hbn;simp only[Nat.zero_mul,Nat.add_zero] at x0 x1 y0 y1;have HX0:=aI x0;have HX1:=aI x1;have HY0:=aI y0;have HY1:=aI y1;clear x0 x1 y0 y1;have hsl:os.length+(xs.length+ys.length)<=1000000000:=by have:=HK.o;omega
      have xa:(1:Int)<=(xs.length:Int):=ae
      have ya:(1:Int)<=(ys.length:Int):=ae
      by_cases hc:ys[0].1<xs[0].1
      ·have HM2:=aI (QH ha hbn hc)
       have hd:decide (ys[0].1<xs[0].1)=true:=by simpa using hc
       go_upto_region 6 with fail;have mW:=aI (fun(w':World) (hS':Below w2.heap.size w2 w')=>(aP ((hS'.cell (p:=⟨_,_,none⟩) hg1).trans HX0.o) (aP ((hS'.cell (p:=⟨_,_,none⟩) hg1).trans HX1.o) (aP ((hS'.cell (p:=⟨_,_,none⟩) hg2).trans HY0.o) ((hS'.cell (p:=⟨_,_,none⟩) hg2).trans HY1.o)))))
       refine jh (fun w'=>Below w2.heap.size w2 w') (dV 0 7 (fJ 7 [])) (hb.drew) ?_
       iterate 7 refine eQ ?_
       refine fO fun K hK=>?_
       go_simp;refine(I9 ys[0] xs[0] _).mono ?_
       rintro e w3 ⟨rfl,hb3⟩;rw[hd];refine hK _ _ (hb.drew.trans (hb3.mono hz)) ?_
       clear hK K;refine dJ ?_
       have hbw:Below w2.heap.size w2 w3:=hb.drew.trans (hb3.mono hz);have Kq:=aI (HO.o.keep ((aO _ _).drew.trans hb3));have hzw:=hbw.size;clear hb3
       go_upto_region 7 with fail;have mW:=aI (fun(w':World) (hS':Below w2.heap.size w2 w')=>(aP ((hS'.cell (p:=⟨_,_,none⟩) hg1).trans HX0.o) (aP ((hS'.cell (p:=⟨_,_,none⟩) hg1).trans HX1.o) (aP ((hS'.cell (p:=⟨_,_,none⟩) hg2).trans HY0.o) ((hS'.cell (p:=⟨_,_,none⟩) hg2).trans HY1.o)))))
       refine jh (fun w'=>Below w2.heap.size w2 w') (dV 0 4 (dV 6 2 (fJ 4 (fJ 5 (dV 8 2 []))))) (hbw.drew) ?_
       iterate 6 refine eQ ?_
       refine fO fun K hK=>?_
       go_simp;refine hK _ _ ((hbw.drew).alloc aj _) ?_
       clear hK K;refine fO fun K hK=>?_
       refine Cc (.tmp 45) (.tmp 49) rfl w2.heap.size u7 os rfl (Kq.o.drew.alloc _) _ [ys[0]] rfl (qw.one _ ys[0]) (by simp only[bW];omega) aj ?_
       intro v4 w4 o4 g4 a4;have hb4:Below w2.heap.size w2 w4:=((hbw.drew).alloc aj _).grown g4 aj (fun k hk=>(Kq.o.lt k hk).1)
       have O4:=aI o4;clear o4 g4 a4
       go_simp;refine hK _ _ (hb4) ?_
       clear hK K
       iterate 2 refine eQ ?_
       refine dJ ?_
       have cut:=qw.az0 hbn nb mb FB.o;generalize (if cb=1 then some (⟨g2,o2,none⟩:Addr) else some ⟨g2,o2+2,none⟩)=bb at cut |-
       have CUT:=aI cut;clear cut
       go_wp2_with fail
       go_roundg (xs.length+(ys.length - 1))
       case measure=>have:=HK.o;omega
       case rel=>exact⟨xs,ys.drop 1,os++[ys[0]],by rw[bu],by simp only[aQ,bW];have:=HK.o;omega,HA.o,CUT.o,O4.o,by show _=_;rw[aX,List.singleton_append,<-HM2.o];exact HS.o,hb4⟩
      ·have HM2:=aI (QI ha hbn hc)
       have hd:decide (ys[0].1<xs[0].1)=false:=by simpa using hc
       go_upto_region 6 with fail;have mW:=aI (fun(w':World) (hS':Below w2.heap.size w2 w')=>(aP ((hS'.cell (p:=⟨_,_,none⟩) hg1).trans HX0.o) (aP ((hS'.cell (p:=⟨_,_,none⟩) hg1).trans HX1.o) (aP ((hS'.cell (p:=⟨_,_,none⟩) hg2).trans HY0.o) ((hS'.cell (p:=⟨_,_,none⟩) hg2).trans HY1.o)))))
       refine jh (fun w'=>Below w2.heap.size w2 w') (dV 0 7 (fJ 7 [])) (hb.drew) ?_
       iterate 7 refine eQ ?_
       refine fO fun K hK=>?_
       go_simp;refine(I9 ys[0] xs[0] _).mono ?_
       rintro e w3 ⟨rfl,hb3⟩;rw[hd];refine hK _ _ (hb.drew.trans (hb3.mono hz)) ?_
       clear hK K;refine dJ ?_
       have hbw:Below w2.heap.size w2 w3:=hb.drew.trans (hb3.mono hz);have Kq:=aI (HO.o.keep ((aO _ _).drew.trans hb3));have hzw:=hbw.size;clear hb3
       go_upto_region 8 with fail;have mW:=aI (fun(w':World) (hS':Below w2.heap.size w2 w')=>(aP ((hS'.cell (p:=⟨_,_,none⟩) hg1).trans HX0.o) (aP ((hS'.cell (p:=⟨_,_,none⟩) hg1).trans HX1.o) (aP ((hS'.cell (p:=⟨_,_,none⟩) hg2).trans HY0.o) ((hS'.cell (p:=⟨_,_,none⟩) hg2).trans HY1.o)))))
       refine jh (fun w'=>Below w2.heap.size w2 w') (dV 0 4 (dV 6 2 (fJ 4 (fJ 5 (dV 8 2 []))))) (hbw.drew) ?_
       iterate 6 refine eQ ?_
       refine fO fun K hK=>?_
       go_simp;refine hK _ _ ((hbw.drew).alloc aj _) ?_
       clear hK K;refine fO fun K hK=>?_
       refine Cc (.tmp 53) (.tmp 57) rfl w2.heap.size u7 os rfl (Kq.o.drew.alloc _) _ [xs[0]] rfl (qw.one _ xs[0]) (by simp only[bW];omega) aj ?_
       intro v4 w4 o4 g4 a4;have hb4:Below w2.heap.size w2 w4:=((hbw.drew).alloc aj _).grown g4 aj (fun k hk=>(Kq.o.lt k hk).1)
       have O4:=aI o4;clear o4 g4 a4
       go_simp;refine hK _ _ (hb4) ?_
       clear hK K
       iterate 2 refine eQ ?_
       refine dJ ?_
       have cut:=qw.az0 ha na ma FA.o;generalize (if ca=1 then some (⟨g1,o1,none⟩:Addr) else some ⟨g1,o1+2,none⟩)=bb at cut |-
       have CUT:=aI cut;clear cut
       go_wp2_with fail
       go_roundg ((xs.length - 1)+ys.length)
       case measure=>have:=HK.o;omega
       case rel=>exact⟨xs.drop 1,ys,os++[xs[0]],by rw[bu],by simp only[aQ,bW];have:=HK.o;omega,CUT.o,HB.o,O4.o,by show _=_;rw[aX,List.singleton_append,<-HM2.o];exact HS.o,hb4⟩
     ·have hy0:=aI (show ys=[] from bz ae)
      have HE:Hid ((os++xs)++ys=iU l):=by show _=_;rw[<-HS.o,aX,hy0.o,mrg_nil_right,List.append_nil]
      have hsl:os.length+(xs.length+ys.length)<=1000000000:=by have:=HK.o;omega
      go_wp2_with (first
       | (at_builtin
          refine iZ rfl (.tmp 61) (.tmp 62) rfl w2.heap.size u7 os rfl HO.o _ xs rfl (HA.o.keep hb) ae hz ?_
          intro v4 w4 o4 g4 a4;have hb4:Below w2.heap.size w2 w4:=hb.grown g4 hz (fun k hk=>(HO.o.lt k hk).1)
          have oC:=hb4.size;have O4:=aI o4;clear o4 g4 a4)
       | (at_builtin
          refine iZ rfl (.tmp 63) (.tmp 64) rfl w2.heap.size v4 (os++xs) rfl O4.o _ ys rfl (HB.o.keep hb4) (by simp only[aQ];omega) oC ?_
          intro v5 w5 o5 g5 a5;have hb5:Below w2.heap.size w2 w5:=hb4.grown g5 oC (fun k hk=>(O4.o.lt k hk).1)
          have O5:=aI o5;clear o5 g5 a5))
      go_ret;exact⟨_,rfl,by rw[<-HE.o];exact O5.o.rd,jD.trans (hb5.mono az3)⟩
    ·have hx0:=aI (show xs=[] from bz ae)
     have HE:Hid ((os++xs)++ys=iU l):=by show _=_;rw[<-HS.o,aX,hx0.o,mrg_nil_left,List.nil_append]
     have hsl:os.length+(xs.length+ys.length)<=1000000000:=by have:=HK.o;omega
     go_wp2_with (first
      | (at_builtin
         refine iZ rfl (.tmp 61) (.tmp 62) rfl w2.heap.size u7 os rfl HO.o _ xs rfl (HA.o.keep hb) ae hz ?_
         intro v4 w4 o4 g4 a4;have hb4:Below w2.heap.size w2 w4:=hb.grown g4 hz (fun k hk=>(HO.o.lt k hk).1)
         have oC:=hb4.size;have O4:=aI o4;clear o4 g4 a4)
      | (at_builtin
         refine iZ rfl (.tmp 63) (.tmp 64) rfl w2.heap.size v4 (os++xs) rfl O4.o _ ys rfl (HB.o.keep hb4) (by simp only[aQ];omega) oC ?_
         intro v5 w5 o5 g5 a5;have hb5:Below w2.heap.size w2 w5:=hb4.grown g5 oC (fun k hk=>(O4.o.lt k hk).1)
         have O5:=aI o5;clear o5 g5 a5))
     go_ret;exact⟨_,rfl,by rw[<-HE.o];exact O5.o.rd,jD.trans (hb5.mono az3)⟩
open Tryz
open Go.RowKit Go.Lib
theorem Ns(d:Int)(v:Value)(l:List Mn)(w:World)(h:qw w v l)(h0:0<l.length)(ho:mi l)(hr:iE l)(hlen:l.length<=1000000000)(ht:tot l<=281474976710656)(d0:0<=d)(d1:d<=1000) :
 aH 216 #[.int .i64 d,.int .u64 (tot l),v] w fun e w'=>∃v,e=.returned v/\fA w.heap.size w' v (qy d (tot l) l)/\Below w.heap.size w w':=by
 obtain⟨A,c,rfl,hn,hc,hp⟩:=h.form;obtain⟨g,off,rfl,hg,e0,e1⟩:=hp.at_ h0;simp only[Nat.zero_mul,Nat.add_zero] at e0 e1;have HP:=aI hp;have ST:=aI (yN.start d h0 ho hr);have cut:=qw.az0 h0 hn hc hp;have i1:(1:Int)<=(l.length:Int):=ae
 clear hp h
 go_enter func216,ntmps216
 go_upto_block 0 with fail
 generalize (if c=1 then some (⟨g,off,none⟩:Addr) else some ⟨g,off+2,none⟩)=bb at cut |-
 have cf:=cut.form;obtain⟨A',c',hv',hn',hc',hp'⟩:=cf;simp only[Value.slice.injEq] at hv';obtain⟨rfl,hl',rfl⟩:=hv';have HQ:=aI hp';have HL:=aI hl';clear cut hp' hn' hc' hl'
 go_wp2_with fail
 go_loopg [7,8,18] (l.length - 1) (fun q o dn i wr=>∃(j:Nat) (acc:List Mn) (now:Mn),q=l.length - 1 - j/\j<=l.length - 1/\i=.int .i64 j/\dn=.int .u64 (tot acc)/\yN d (tot l) l (j+1) acc now /\
  fA (w.heap.size+1) wr o acc/\dK wr w.heap.size 203 #[.int .i64 now.1,.int .u64 now.2]/\Below w.heap.size w wr)
 case atStart=>exact⟨0,[],l[0],rfl,ae,rfl,rfl,ST.o,fA.nil_ _ _,dK.new _ _ _,bw⟩
 case round=>
  obtain⟨j,acc,now,hk,hj,rfl,rfl,hpr,hown,hblk,hb⟩:=hrel;have HK:=aI hk;have HO:=aI hown;have HB:=aI hblk;have hbl:=hblk.lt;have hz:=hb.size;have n0:=hblk.cell 0;have n1:=hblk.cell 1;have f0:=hblk.frozen 0;have f1:=hblk.frozen 1;simp only[aK,aN,aJ] at n0 n1;clear hk hown hblk
  by_cases hlt:j<l.length - 1
  ·have hlt1:j+1<l.length:=ae
   obtain⟨p1,p2,p3,p4,p5⟩:=hpr.facts hlt1;have hlt2:j<(l.drop 1).length:=by rw[bu];exact hlt
   obtain⟨g1,o1,rfl,hg1,x0,x1⟩:=HQ.o.at_ hlt2;have hdrop:(l.drop 1)[j]=l[j+1]:=by rw[List.getElem_drop];congr 1;omega
   rw[hdrop] at x0 x1;clear hdrop;replace x0:=(hb.cell (p:=⟨_,_,none⟩) hg1).trans x0;replace x1:=(hb.cell (p:=⟨_,_,none⟩) hg1).trans x1;obtain⟨x,hx⟩:=aF (l[j+1]);rw[hx] at x0 x1 p3 p4 p5;have q1:=p2.2.2;have q2:=p3.2.2;have MB:bk7 d (tot l) (tot acc) (now.2+x.2):=⟨d0,d1,ht,p1,ae,p5⟩
   have HPr:=aI hpr;have HX:=aI hx;clear hpr hx;have m0:(wr.alloc (.cells #[.int .i64 x.1,.int .u64 x.2] 203)).cell? ⟨wr.heap.size,0,none⟩=some (.int .i64 x.1):=by simp[World.cell?_alloc_new]
   have m1:(wr.alloc (.cells #[.int .i64 x.1,.int .u64 x.2] 203)).cell? ⟨wr.heap.size,1,none⟩=some (.int .u64 x.2):=by simp[World.cell?_alloc_new]
   have M0:=aI m0;have M1:=aI m1;have BA:=aI (HB.o.alloc (.cells #[.int .i64 x.1,.int .u64 x.2] 203));have OA:=aI (HO.o.alloc (.cells #[.int .i64 x.1,.int .u64 x.2] 203));clear m0 m1
   go_upto_region 7 with fail
   go_wp2_with fail;refine(am5 d (tot l) (tot acc) (now.2+x.2) _ MB).mono ?_
   rintro e w3 ⟨rfl,hb3⟩;have hz3:=hb3.size;simp only[aV] at hz3;have B3:=aI (BA.o.keep hb3);have O3:=aI (OA.o.keep hb3);have c0:=B3.o.cell 0;have c1:=B3.o.cell 1;have f0':=B3.o.frozen 0;have f1':=B3.o.frozen 1;simp only[aK,aN,aJ] at c0 c1;have c2:=(hb3.cell (p:=⟨wr.heap.size,0,none⟩) ag).trans M0.o
   have c3:=(hb3.cell (p:=⟨wr.heap.size,1,none⟩) ag).trans M1.o
   have hbw:Below w.heap.size w w3:=(hb.alloc hz _).trans (hb3.mono ah)
   have hne:w.heap.size<wr.heap.size:=hbl;clear n0 n1 f0 f1 x0 x1
   by_cases hmay:EG d (tot l) (tot acc) (now.2+x.2)=true
   ·rw[hmay]
    have HP2:=aI (HPr.o.merge hlt1 (by rw[HX.o];exact hmay))
    clear hmay
    go_wp2_with fail;refine(al8 now.1 now.2 x.1 x.2 _ p2.1 p4 p3.2.1 ae q2 ae).mono ?_
    rintro e w4 ⟨rfl,hb4⟩;have oC:=hb4.size;have d0':=(hb4.cell (p:=⟨w.heap.size,0,none⟩) (by show w.heap.size<w3.heap.size;omega)).trans c0
    have d1':=(hb4.cell (p:=⟨w.heap.size,1,none⟩) (by show w.heap.size<w3.heap.size;omega)).trans c1
    have d2:=(hb4.cell (p:=⟨wr.heap.size,1,none⟩) (by show wr.heap.size<w3.heap.size;omega)).trans c3
    have d3:=(hb4.frozen (p:=⟨w.heap.size,0,none⟩) (by show w.heap.size<w3.heap.size;omega)).trans f0'
    have d4:=(hb4.frozen (p:=⟨w.heap.size,1,none⟩) (by show w.heap.size<w3.heap.size;omega)).trans f1'
    have B4:=aI (((B3.o.keep hb4).dQ 0 (.int .i64 (pg now.1 x.1 x.2 (now.2+x.2)))).dQ 1 (.int .u64 (now.2+x.2)));have O4:=aI (((O3.o.keep hb4).far (p:=⟨w.heap.size,0,none⟩) (fun e=>by have h9:w.heap.size+1<=w.heap.size:=(O3.o.lt _ e).1;omega) (.int .i64 (pg now.1 x.1 x.2 (now.2+x.2)))).far (p:=⟨w.heap.size,1,none⟩) (fun e=>by have h9:w.heap.size+1<=w.heap.size:=(O3.o.lt _ e).1;omega) (.int .u64 (now.2+x.2)))
    go_wp2_with fail
    go_roundg (l.length - 1 - (j+1))
    case measure=>have:=HK.o;omega
    case rel=>exact⟨j+1,acc,_,rfl,ae,ai,rfl,HP2.o,O4.o,by rw[HX.o];exact B4.o,bw⟩
   ·have Zp:EG d (tot l) (tot acc) (now.2+x.2)=false:=by simpa using hmay
    rw[Zp];have HP2:=aI (HPr.o.push hlt1 (by rw[HX.o];exact Zp))
    have HT:Hid (tot (acc++[now])=tot acc+now.2):=by show _=_;rw[eH];simp[tot]
    have hal:acc.length<=1000000000:=by have:=HPr.o.len;omega
    clear hmay Zp
    go_wp2_with (first
     | (at_builtin
        refine iZ rfl (.tmp 50) (.tmp 52) rfl (w.heap.size+1) u7 acc rfl (O3.o.alloc _) _ [now] rfl (qw.one _ now) (by simp only[bW];omega) aj ?_
        intro v4 w4 o4 g4 a4;have hb4:Below w.heap.size w w4:=(hbw.alloc ae _).grown g4 aj (fun k hk=>by have:=(O3.o.lt k hk).1;omega)
        have oC:=g4.size;simp only[aV] at oC;have O4:=aI o4;have hk4:∀k,k<w3.heap.size->u7.ownBlock≠some k->w4.heap[k]?=w3.heap[k]?:=fun k h1 h2=>(g4.block k ah (fun e=>h2 e.symm)).trans (Below.heap_alloc _ _ _ h1)
        have B4:=aI (show dK w4 w.heap.size 203 #[.int .i64 now.1,.int .u64 now.2] from(hk4 _ ae (fun e=>by have:=(O3.o.lt _ e).1;omega)).trans B3.o)
        have c6:=(cZ (a:=⟨wr.heap.size,0,none⟩) (hk4 wr.heap.size ae (fun e=>by have:=(HO.o.lt _ e).2;omega))).trans c2
        have c7:=(cZ (a:=⟨wr.heap.size,1,none⟩) (hk4 wr.heap.size ae (fun e=>by have:=(HO.o.lt _ e).2;omega))).trans c3
        have c4:=B4.o.cell 0;have c5:=B4.o.cell 1;have f4:=B4.o.frozen 0;have f5:=B4.o.frozen 1;simp only[aK,aN,aJ] at c4 c5;clear o4 g4 a4 hk4))
    go_roundg (l.length - 1 - (j+1))
    case measure=>have:=HK.o;omega
    case rel=>
     refine⟨j+1,acc++[now],x,rfl,ae,ai,by rw[HT.o],by rw[<-HX.o];exact HP2.o,?_,?_,bw⟩
     ·exact(O4.o.far (p:=⟨w.heap.size,0,none⟩) (fun e=>by have h9:w.heap.size+1<=w.heap.size:=(O4.o.lt _ e).1;omega) _).far (p:=⟨w.heap.size,1,none⟩) (fun e=>by have h9:w.heap.size+1<=w.heap.size:=(O4.o.lt _ e).1;omega) _
     ·exact(B4.o.dQ 0 (.int .i64 x.1)).dQ 1 (.int .u64 x.2)
  ·have hjl:j=l.length - 1:=ae
   have HF:Hid (qy d (tot l) l=acc++[now]):=by
    show _=_
    rw[show j+1=l.length by omega] at hpr
    exact hpr.fin
   have hal:acc.length<=1000000000:=by have:=hpr.len;omega
   clear hpr hjl
   go_wp2_with (first
    | (at_builtin
       refine iZ rfl (.tmp 60) (.tmp 62) rfl (w.heap.size+1) u7 acc rfl (HO.o.alloc _) _ [now] rfl (qw.one _ now) (by simp only[bW];omega) aj ?_
       intro v4 w4 o4 g4 a4;have hb4:Below w.heap.size w w4:=(hb.alloc ae _).grown g4 aj (fun k hk=>by have:=(HO.o.lt k hk).1;omega)
       have O4:=aI o4;clear o4 g4 a4))
   go_ret;exact⟨_,rfl,by rw[HF.o];exact O4.o.more ae,hb4⟩
end Go.Proofs.YtilcnjbpmoijmaaGreat
