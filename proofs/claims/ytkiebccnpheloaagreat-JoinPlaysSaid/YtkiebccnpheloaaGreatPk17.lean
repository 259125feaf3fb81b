/- Parts of a proof: what its theorem reaches, words cut short. No condition of its own. -/
import Derived.Test.YtkiebccnpheloaaGreatPk16
set_option maxRecDepth 100000
set_option maxHeartbeats 16000000
set_option linter.unusedVariables false
set_option linter.unusedSimpArgs false
namespace Go.Proofs.YtkiebccnpheloaaGreat.D
open Go.RowKit
structure yw(l:List Pr):Prop where
 gY:iD l
 pos:gQ l
 key:∀p∈l,-1048576<=p.1/\p.1<=1048576
 tot:tot l<=4611686018427387904
 len:l.length<=100000
def VK(k:Int)(l:List Pr):Bool:=match l[rP k l]? with
 | some p=>p.1 == k
 | none=>false
def oQ(g:Nat)(l:List Pr)(F:Ft)(w:World):Prop:=∃v,dH w g 456 #[v,.int .u64 (tot l)]/\dI fU 0 w v l/\F g/\(∀k,v.ownBlock=some k->F k)/\∀k,F k->k<w.heap.size
theorem jf(g:Nat)(l:List Pr):mQ (oQ g l) where
 stay:=fun⟨v,h1,h2,h3,h4,h5⟩ hk hz=>⟨v,(hk g h3).trans h1,h2.stay fun k e=>hk k (h4 k e),h3,h4,fun k h=>aU (h5 k h) hz⟩
 more:=fun⟨v,h1,h2,h3,h4,_⟩ h hl=>⟨v,h1,h2,h g h3,fun k e=>h k (h4 k e),hl⟩
 low:=fun⟨_,_,_,_,_,h5⟩=>h5
theorem vT(x n k:Int)(w:World)(h0:-1048577<=x)(h1:x<=1048577)(h2:-1048577<=k)(h3:k<=1048577) :
 Calls Tryz.prog 459 #[.agg #[.int .i64 x,.int .u64 n],.int .i64 k] w fun e w'=>e=.returned (.int .i64 (x - k))/\Below w.heap.size w w':=by
 go_enter Tryz.func459,Tryz.ntmps459
 go_wp2_with fail
 go_ret;exact⟨rfl,bw⟩
theorem kY{w:World}{A:Option Addr}{l:List Pr}(h:jl fU w A l){j:Nat}(hj:j<l.length):∃g off,A=some ⟨g,off,none⟩/\g<w.heap.size/\w.cell? ⟨g,off+j * 2,none⟩=some (.int .i64 l[j].1)/\w.cell? ⟨g,off+j * 2+1,none⟩=some (.int .u64 l[j].2):=by
 obtain⟨g,off,e,hg,hc⟩:=h ae
 exact⟨g,off,e,hg,hc j hj 0 af,hc j hj 1 af⟩
theorem J7(v:Value)(k:Int)(l:List Pr)(w:World)(h:gz fU w v l)(ok:yw l)(h2:-1048577<=k)(h3:k<=1048577) :
 Calls Tryz.prog 458 #[v,.int .i64 k,.func (.func 459) #[] #[]] w fun e w'=>e=.returned (.tuple #[.int .i64 (rP k l:Nat),.bool (VK k l)])/\Below w.heap.size w w':=by
 obtain⟨A,c,rfl,_,_,hf⟩:=h.form;have HF:=aB hf;have oN:=aB ok;have hlen:=ok.len;clear h hf ok
 go_enter Tryz.func458,Tryz.ntmps458
 go_wp2_with fail
 go_loopg [9,10] l.length (fun q x y wr=>∃i j:Nat,x=.int .i64 i/\y=.int .i64 j/\i<=j/\j<=l.length/\j - i<=q/\Hid (∀(t:Nat) (h:t<l.length),t<i->l[t].1<k)/\Hid (∀(t:Nat) (h:t<l.length),j<=t->k<=l[t].1)/\Below w.heap.size w wr)
 case atStart=>exact⟨0,l.length,rfl,rfl,ae,ae,ae,aB (fun t h ht=>absurd ht ae),aB (fun t h ht=>absurd h ae),aH _ _⟩
 case round=>
  obtain⟨i,j,rfl,rfl,hij,hjl,hq,H1,H2,hb⟩:=hrel;have hz:=hb.size
  by_cases hlt:i<j
  ·have hm:(i+j) / 2<l.length:=ae
   obtain⟨g,off,rfl,hg,c0,c1⟩:=kY (HF.out.keep hb) hm;obtain⟨k0,k1⟩:=oN.out.key _ (bu hm);have hsrt:=List.pairwise_iff_getElem.1 oN.out.gY;have HS:Hid (∀t (h:t<l.length),t<(i+j) / 2->l[t].1<l[(i+j) / 2].1):=aB (fun t h ht=>hsrt t _ h hm ht)
   have HS2:Hid (∀t (h:t<l.length),(i+j) / 2<=t->l[(i+j) / 2].1<=l[t].1):=aB (fun t h ht=>by
    rcases Nat.lt_or_eq_of_le ht with h'|rfl
    ·exact Int.le_of_lt (hsrt _ t hm h h')
    ·exact Int.le_refl _)
   clear hsrt;have Ir:((i:Int)+(j:Int)) / 2=(((i+j) / 2:Nat):Int):=ae
   have Iu:=aB Ir;have hml:((((i+j) / 2:Nat)):Int)<(l.length:Int):=ae
   have hmd:i<=(i+j) / 2/\(i+j) / 2<j:=ae
   clear Ir;obtain⟨x,hxe⟩:∃x,l[(i+j) / 2].1=x:=⟨_,rfl⟩;rw[hxe] at HS HS2 c0 k0 k1;have HX:=aB hxe;clear hxe;generalize l[(i+j) / 2].2=n at *
   by_cases hx:x<k
   ·go_wp2_with fail
    refine(vT x n k _ ae  ae h2 h3).mono ?_
    rintro e w1 ⟨rfl,hb1⟩
    go_wp2_with fail
    go_roundg (j - ((i+j) / 2+1))
    case measure=>omega
    case rel=>exact⟨(i+j) / 2+1,j,by rw[Iu.out];go_num,rfl,ae,hjl,ae,aB (fun t h ht=>by
     rcases bJ t ((i+j) / 2) with h'|h'
     ·have:=HS.out t h h';omega
     ·obtain rfl:t=(i+j) / 2:=ae
      have:=HX.out;omega),H2,hb.trans (hb1.mono hz)⟩
   ·go_wp2_with fail
    refine(vT x n k _ ae  ae h2 h3).mono ?_
    rintro e w1 ⟨rfl,hb1⟩
    go_wp2_with fail
    go_roundg ((i+j) / 2 - i)
    case measure=>omega
    case rel=>exact⟨i,(i+j) / 2,rfl,by rw[Iu.out],ae,ae,ae,H1,aB (fun t h ht=>by have:=HS2.out t h ht;omega),hb.trans (hb1.mono hz)⟩
  ·obtain rfl:j=i:=ae
   have hpl:j=rP k l:=Tq k oN.out.gY j hjl H1.out H2.out
   by_cases hj:j<l.length
   ·obtain⟨g,off,rfl,hg,c0,c1⟩:=kY (HF.out.keep hb) hj
    obtain⟨k0,k1⟩:=oN.out.key _ (bu hj);have HFD:Hid (VK k l=(l[j].1 - k == 0)):=aB (by
     unfold VK;rw[<-hpl,aY hj];show(l[j].1 == k)=_
     rw[Bool.eq_iff_iff];simp;omega)
    have HP:=aB hpl;clear hpl;have hji:(j:Int)<(l.length:Int):=ae
    generalize l[j].1=x at *;generalize l[j].2=n at *
    go_wp2_with fail;refine(vT x n k _ ae  ae h2 h3).mono ?_
    rintro e w1 ⟨rfl,hb1⟩
    go_wp2_with fail
    go_ret2
    exact⟨by rw[HFD.out,<-HP.out];rfl,hb.trans (hb1.mono hz)⟩
   ·have HFD:Hid (VK k l=false):=aB (by
     unfold VK;rw[<-hpl,List.getElem?_eq_none ae])
    have HP:=aB hpl;clear hpl;have hji:¬(j:Int)<(l.length:Int):=ae
    go_wp2_with fail
    go_ret2
    exact⟨by rw[HFD.out,<-HP.out];rfl,hb⟩
theorem TB{g:Nat}{l:List Pr}{F:Ft}(k:Int)(w:World)(h:oQ g l F w)(ok:yw l)(h2:-1048577<=k)(h3:k<=1048577) :
 Calls Tryz.prog 385 #[.pointer (some ⟨g,0,none⟩),.int .i64 k] w fun e w'=>e=.returned (.tuple #[.int .i64 (rP k l:Nat),.bool (VK k l)])/\Below w.heap.size w w':=by
 obtain⟨v,hB,hO,_⟩:=h;have C:=aB (J7 v k l w hO.rd ok h2 h3);have k0:=hB.cell 0;simp only[aF,aC] at k0;clear hB hO ok;generalize rP k l=p at *;generalize VK k l=f at *
 go_enter Tryz.func385,Tryz.ntmps385
 go_wp2_with fail;refine(C.out).mono ?_
 rintro e w1 ⟨rfl,hb1⟩
 go_wp2_with fail
 go_ret2
 exact⟨rfl,hb1⟩
theorem Oh(v:Value)(l:List Pr)(i:Nat)(x:Pr)(ub:Nat)(w:World)(h:dI fU 0 w v l)(hi:i<=l.length)(hl:l.length<=100000)(hu:dH w ub 222 #[.int .i64 x.1,.int .u64 x.2])(hne:v.ownBlock≠some ub) :
 Calls Tryz.prog 390 #[v,.int .i64 i,.slice (some ⟨ub,0,none⟩) 1 1] w fun e w'=>∃v',e=.returned v'/\dI fU 0 w' v' (n_ l i x)/\Touch (fun k=>v.ownBlock=some k) w w'/\∀k,v'.ownBlock=some k->v.ownBlock=some k\/w.heap.size<=k:=by
 by_cases he:i=l.length
 ·subst he
  have hr:gz fU w (.slice (some ⟨ub,0,none⟩) 1 1) [x]:=gz.iO (l:=[x]) ag  ag (fun _=>⟨ub,0,rfl,hu.lt,fun j hj q hq=>by
   obtain rfl:j=0:=by simp at hj;exact hj
   simp only[Nat.zero_mul,Nat.zero_add];rw[hu.cell q];simp[fU]⟩)
  refine(Oe v 0 l x _ w h hr hl (bW _)).mono ?_
  rintro e w' ⟨v',rfl,o1,g1,a1⟩;exact⟨v',rfl,o1,(Touch.refl _ _).grown g1 (fun k e=>.inl e),a1⟩
 ·obtain⟨g,c,rfl,_,hg,h1,h2⟩:=h.pos ae
  have hne':ub≠g:=fun e=>hne (by rw[e];rfl)
  by_cases hc:l.length+1<=c
  ·refine(JY g c 0 l i x ub _ w h ae hl hc hu hne').mono ?_
   rintro e w' ⟨v',rfl,o1,e1,t1⟩;exact⟨v',rfl,o1,t1.mono (fun k e=>by rw[e];rfl),fun k e=>.inl (by rw[e1] at e;exact e)⟩
  ·refine(J5 g c 0 l i x ub _ w h ae hl ae hu).mono ?_
   rintro e w' ⟨v',rfl,o1,hb⟩;exact⟨v',rfl,o1.more (bW _),Touch.of_below hb (aK _),fun k e=>.inr (o1.lt k e).1⟩
theorem Oi{base g n c j:Nat}{l:List Pr}{w:World}(h:dI fU base w (.slice (some ⟨g,0,none⟩) n c) l)(hj:j<l.length) :
 w.cell? ⟨g,j * 2,none⟩=some (.int .i64 l[j].1)/\w.cell? ⟨g,j * 2+1,none⟩=some (.int .u64 l[j].2):=⟨h.cellAt hj 0 af,h.cellAt hj 1 af⟩
theorem J8{base g n c j:Nat}{l:List Pr}{w:World}(h:dI fU base w (.slice (some ⟨g,0,none⟩) n c) l)(hj:j<l.length)(m:Int) :
 dI fU base (w.setCell ⟨g,j * 2+1,none⟩ (.int .u64 m)) (.slice (some ⟨g,0,none⟩) n c) (l.set j (l[j].1,m)):=by
 have hn:n=l.length:=by obtain⟨A,c',hv,_⟩:=h.form;injection hv
 subst hn;have h1:=(World.ownsRow.stored h (j * 2+1) (.int .u64 m)).1;have e:(cellsE fU l).set (j * 2+1) (.int .u64 m)=cellsE fU (l.set j (l[j].1,m)):=by
  have:=Di fU l j hj (l[j].1,m);rw[<-this];show _=((cellsE fU l).set (j * 2) (.int .i64 l[j].1)).set (j * 2+1) (.int .u64 m)
  congr 1
  refine(List.ext_getElem? fun i=>?_).symm
  rw[List.getElem?_set]
  split
  ·rename_i hi;subst hi
   have:=lF fU l j hj 0 af
   rw[show j * fU.k+0=j * 2 from rfl] at this
   rw[this]
   split
   ·rfl
   ·rename_i hx
    have h2:=eY fU l;rw[h2] at hx;exact absurd (show j * 2<l.length * 2 by omega) hx
  ·rfl
 rw[e] at h1;unfold dI;rw[bU];exact h1
theorem WW(l:List Pr)(i:Nat)(x:Pr)(h:i<=l.length):(n_ l i x)[i]?=some x:=by
 unfold n_;rw[List.getElem?_append_right (by rw[bg];omega),bg,Nat.min_eq_left h];simp
theorem WX{k:Int}{l:List Pr}(h:VK k l=false)(n:Int):(n_ l (rP k l) (k,0)).set (rP k l) (k,0+n)=eQ k n l:=by
 rw[JW,QM k n l];intro p hp e;unfold VK at h;rw[hp] at h;simp[e] at h
theorem aa6{k:Int}{l:List Pr}(h:VK k l=true):∃m,l[rP k l]?=some (k,m)/\∀n,l.set (rP k l) (k,m+n)=eQ k n l:=by
 unfold VK at h
 cases hp:l[rP k l]? with
 | none=>rw[hp] at h;cases h
 | some p=>
  rw[hp] at h;obtain⟨a,m⟩:=p;have:a=k:=by simpa using h
  subst this;exact⟨m,rfl,fun n=>(Gl _ _ _ _ hp).symm⟩
def iR(l:List Pr)(k n:Int):Int:=if n=0 then 4 else if k < -1048576\/1048576<k then 5 else if 4611686018427387904<tot l+n then 6 else 0
theorem WY{l:List Pr}{k n:Int}(ok:yw l)(h:iR l k n=0)(hn:0<=n)(hl:l.length<100000):yw (eQ k n l):=by
 unfold iR at h
 split at h
 ·omega
 ·split at h
  ·omega
  ·split at h
   ·omega
   ·exact⟨Az ok.gY,put_pos ae ok.pos,Gm ok.key ae,by rw[uy];omega,by have:=(qU k n l).2;omega⟩
theorem aa7{g:Nat}{l:List Pr}{F:Ft}(k n:Int)(w:World)(h:oQ g l F w)(ok:yw l)(n0:0<=n)(n1:n<18446744073709551616)(he:iR l k n≠0) :
 Calls Tryz.prog 316 #[.pointer (some ⟨g,0,none⟩),.int .i64 k,.int .u64 n] w fun e w'=>e=.returned (.int .i64 (iR l k n))/\w=w':=by
 obtain⟨v,hB,hO,_⟩:=h;have k1:=hB.cell 1;simp only[aF,aC,aG] at k1;have t0:=dL ok.pos;have t1:=ok.tot;have HE:Hid (iR l k n=if n=0 then 4 else if k < -1048576\/1048576<k then 5 else if 4611686018427387904<tot l+n then 6 else 0):=aB rfl
 have HN:=aB he;clear hB hO ok he;generalize iR l k n=er at *;generalize tot l=t at *
 by_cases h1:n=0
 ·go_enter Tryz.func316,Tryz.ntmps316
  go_wp2_with fail
  go_ret;exact⟨ik (by rw[HE.out,if_pos h1]),rfl⟩
 ·by_cases h2:k < -1048576
  ·go_enter Tryz.func316,Tryz.ntmps316
   go_wp2_with fail
   go_ret;exact⟨ik (by rw[HE.out,if_neg h1,if_pos (.inl h2)]),rfl⟩
  ·by_cases h3:1048576<k
   ·go_enter Tryz.func316,Tryz.ntmps316
    go_wp2_with fail
    go_ret;exact⟨ik (by rw[HE.out,if_neg h1,if_pos (.inr h3)]),rfl⟩
   ·have h4:4611686018427387904<t+n:=by
     have:=HN.out;rw[HE.out,if_neg h1,if_neg ae] at this
     split at this
     ·assumption
     ·omega
    have h5:4611686018427387904 - t<n:=ae
    go_enter Tryz.func316,Tryz.ntmps316
    go_wp2_with fail
    go_ret;exact⟨ik (by rw[HE.out,if_neg h1,if_neg ae,if_pos h4]),rfl⟩
theorem WZ{g:Nat}{l:List Pr}{F:Ft}(k n:Int)(w:World)(h:oQ g l F w)(ok:yw l)(n0:0<=n)(he:iR l k n=0)(hl:l.length<100000) :
 Calls Tryz.prog 316 #[.pointer (some ⟨g,0,none⟩),.int .i64 k,.int .u64 n] w fun e w'=>e=.returned (.int .i64 0)/\oQ g (eQ k n l) (Gr F w w') w'/\Touch F w w':=by
 have hn:¬n=0/\-1048576<=k/\k<=1048576/\tot l+n<=4611686018427387904:=by
  unfold iR at he
  split at he
  ·omega
  ·split at he
   ·omega
   ·split at he
    ·omega
    ·omega
 obtain⟨hn0,hk0,hk1,ht⟩:=hn;have hpl:=QL k l;have CP:=aB (TB k w h ok ae  ae)
 have t0:=dL ok.pos;have h':=h;obtain⟨v,hB,hO,hFg,hFv,wU⟩:=h';have k1:=hB.cell 1;simp only[aF,aC,aG] at k1;have htt:=uy k n l;obtain⟨l2,hl2⟩:∃x,eQ k n l=x:=⟨_,rfl⟩;rw[hl2] at htt |-;have HL2:=aB hl2;clear hl2;obtain⟨t,hT⟩:∃t,tot l=t:=⟨_,rfl⟩;rw[hT] at htt ht t0 k1;have ZY:=aB htt;have HT:=aB hT;have HH:=aB h;have HP:=aB ok.pos;have hgl:=hB.lt;have h5:¬4611686018427387904 - t<n:=ae
 clear hB hO ok h he hT htt
 go_enter Tryz.func316,Tryz.ntmps316
 go_wp2_with fail;refine(CP.out).mono ?_
 rintro e w1 ⟨rfl,hb1⟩;have H1:=aB ((jf g l).keep HH.out hb1);have hz1:=hb1.size;obtain⟨v1,B1,O1,_,FV1,_⟩:=H1.out;rw[HT.out] at B1;have k0:=B1.cell 0;have k1':=B1.cell 1;have f0:=B1.frozen 0;have f1:=B1.frozen 1;have bm0:=B1.lt;simp only[aF,aC,aG] at k0 k1';have BB1:=aB B1;have OO1:=aB O1;have HFV:=aB FV1;have W_:=aB wU;clear B1 O1 FV1 hFv H1 k1 wU
 -- the list that holds the key,at p,whose count goes up
 rcases hf:VK k l with _|_
 case' false=>
  have HS:=aB (WX hf n);have HI:=aB (WW l (rP k l) (k,0) hpl);have QP:=aB (tu l (rP k l) (k,0) hpl);have hob:=Ip (g:=w1.heap.size) OO1.out (aK _);have CI:=aB (Oh v1 l (rP k l) (k,0) w1.heap.size (w1.alloc (.cells #[.int .i64 k,.int .u64 0] 222)) (OO1.out.alloc _) hpl ae (dH.new w1 _ _) hob)
  clear hf hob;rw[HL2.out] at HS;generalize rP k l=p at *
  go_wp2_with fail;refine(CI.out).mono ?_
  rintro e w2 ⟨v2,rfl,o2,t2,a2⟩;obtain⟨g2,c2,hv2,_,_,_,_⟩:=o2.pos (by rw[QP.out];omega)
  rw[QP.out] at hv2;subst hv2;have hba:Below w1.heap.size w1 (w1.alloc (.cells #[.int .i64 k,.int .u64 0] 222)):=bw;have hz2:=t2.size;simp only[aO] at hz2;have B2:dH w2 g 456 #[v1,.int .u64 t]:=(t2.block g ah (fun e=>own_ne BB1.out OO1.out af e)).trans (BB1.out.alloc _)
  have k0:=B2.cell 0;have f0:=B2.frozen 0;simp only[aF,aC,aG] at k0;have hne:=own_ne B2 o2 af
  have B3:=B2.dP 0 (.slice (some ⟨g2,0,none⟩) (l.length+1) c2);have O3:=o2.far (p:=⟨g,0,none⟩) hne (.slice (some ⟨g2,0,none⟩) (l.length+1) c2);have T3:Hid (Touch F w (w2.setCell ⟨g,0,none⟩ (.slice (some ⟨g2,0,none⟩) (l.length+1) c2))):=aB (((Iq hb1 (Iq hba (t2.mono (fun k e=>HFV.out k e)))).setCell (p:=⟨g,0,none⟩) (.inl hFg) _))
  have A3:Hid (∀k,(Value.slice (some ⟨g2,0,none⟩) (l.length+1) c2).ownBlock=some k->F k\/w.heap.size<=k):=aB (fun k e=>(a2 k e).imp (HFV.out k) (fun h=>by simp at h;omega))
  have hpi:p<(n_ l p (k,0)).length:=by rw[QP.out];omega
  have hln:(n_ l p (k,0)).length<=100000:=by rw[QP.out];omega
  clear t2 a2 B2 hne o2 hba CI;obtain⟨w3,hw3⟩:∃x,w2.setCell ⟨g,0,none⟩ (.slice (some ⟨g2,0,none⟩) (l.length+1) c2)=x:=⟨_,rfl⟩;rw[hw3] at B3 O3 T3;have HW3:=aB hw3;clear hw3;have BB3:=aB B3;have OO3:=aB O3;clear B3 O3
  go_upto_region 10 with fail;rw[HW3.out];clear k0 f0;have B3:=BB3.out;have O3:=OO3.out;generalize n_ l p (k,0)=l1 at *;generalize Value.slice (some ⟨g2,0,none⟩) (l.length+1) c2=v2 at *;obtain⟨m,hm⟩:∃m:Int,0=m:=⟨_,rfl⟩;rw[hm] at HI HS;have hmt:0<=m/\m+n<=4611686018427387904:=ae
 case' true=>
  obtain⟨m,hm,hs⟩:=aa6 hf;have HS:=aB (hs n);have HI:=aB hm;have hpi:=(List.getElem?_eq_some_iff.1 hm).1;have hmt:0<=m/\m+n<=4611686018427387904:=by
   have h1:=pR HP.out _ (List.mem_of_getElem? hm);have h2:=HP.out _ (List.mem_of_getElem? hm);rw[HT.out] at h1;simp only at h1 h2;omega
  clear hf hs hm;rw[HL2.out] at HS;generalize rP k l=p at *
  go_upto_region 10 with fail;have T3:Hid (Touch F w w1):=aB (Touch.of_below hb1 (aK _));have A3:Hid (∀k,v1.ownBlock=some k->F k\/w.heap.size<=k):=aB (fun k e=>.inl (HFV.out k e))
  have B3:dH w1 g 456 (#[v1,.int .u64 t].setIfInBounds 0 v1):=BB1.out;have O3:=OO1.out;have hln:l.length<=100000:=ae
 all_goals
  obtain⟨g3,c3,hv3,_,hg3,hc3,_⟩:=O3.pos ae
  subst hv3;have hgg:g3≠g:=fun e=>own_ne B3 O3 af (by rw[e];rfl)
  have k0:=B3.cell 0;have k1:=B3.cell 1;have f1:=B3.frozen 1;simp only[bP,List.set_cons_zero,aF,aC,aG] at k0 k1;have hce:=O3.cellAt hpi 1 af
  rw[(List.getElem?_eq_some_iff.1 HI.out).2] at hce;have cm:=hce;simp only[fU,aC,aG] at cm;have fm:=O3.frozenAt (p * 2+1);have hpz:(p:Int)<((_:List Pr).length:Int):=Int.ofNat_lt.2 hpi;have BB:=aB B3;have OO:=aB O3;have OS:=aB (J8 O3 hpi (m+n));clear B3 O3 hce
  go_wp2_with fail
  go_ret;have b9:=(BB.out.far (p:=⟨g3,p * 2+1,none⟩) (fun e=>hgg e.symm) (.int .u64 (m+n))).dP 1 (.int .u64 (t+n))
  have o9:=OS.out.far (p:=⟨g,1,none⟩) (fun e=>hgg (Option.some.inj e)) (.int .u64 (t+n))
  rw[(List.getElem?_eq_some_iff.1 HI.out).2] at o9;rw[HS.out] at o9;have t9:=(T3.out.setCell (p:=⟨g3,p * 2+1,none⟩) (A3.out g3 rfl) (.int .u64 (m+n))).setCell (p:=⟨g,1,none⟩) (.inl hFg) (.int .u64 (t+n));refine⟨rfl,⟨_,?_,o9,.inl hFg,fun q e=>?_,jI W_.out t9.size⟩,t9⟩
  ·rw[ZY.out];exact b9
  ·obtain rfl:g3=q:=Option.some.inj e
   exact(A3.out _ rfl).imp id (fun h=>⟨h,by simp;exact hg3⟩)
open Go.RowKit
theorem QR(v:Value)(l:List Pr)(w:World)(h:gz fU w v l)(hlen:l.length<=1000000000) :
 Calls Tryz.prog 422 #[v] w fun e w'=>∃v',e=.returned v'/\dI fU w.heap.size w' v' l/\Below w.heap.size w w':=by
 obtain⟨A,c,rfl,hn,hc,hp⟩:=h.form;have HR:=aB h;clear h
 by_cases hnil:A=none
 ·subst hnil
  have h0:l=[]:=by
   rcases bT l.length with h0|h0
   ·exact aW h0
   ·obtain⟨g,off,e,_⟩:=hp h0;cases e
  subst h0;clear hp;have he:(binOp .eql 161 (.slice none 0 c) (.slice none 0 0)).run Tryz.prog w=.ok (.bool true) w:=Lib.run_eql_slice_nil w _ _ _ _ _ _ _ Tryz.underlying161
  go_enter Tryz.func422,Tryz.ntmps422
  go_wp2_with fail
  go_ret;exact⟨_,rfl,dI.nil_ _ _,bw⟩
 ·obtain⟨a,rfl⟩:∃a,A=some a:=by
   cases A with
   | none=>exact absurd rfl hnil
   | some a=>exact⟨a,rfl⟩
  clear hnil hp;have he:(binOp .eql 161 (.slice (some a) l.length c) (.slice none 0 0)).run Tryz.prog w=.ok (.bool false) w:=Lib.run_eql_slice_nil w _ _ _ _ _ _ _ Tryz.underlying161
  go_enter Tryz.func422,Tryz.ntmps422
  go_wp2_with (at_builtin;refine pY tq rfl (.tmp 5) (.tmp 6) rfl (dI.lit (E:=fU) w [] _ rfl _ rfl af) rfl _ l rfl (HR.out.keep (bw)) ah ag ?_;intro v1 w7 o1 g1 a1)
  have yT:Below w.heap.size w w7:=(dB (aH _ _) (aK _) _).grown g1 ag (fun k hk=>by have:=Option.some.inj (show some w.heap.size=some k from hk);omega)
  simp only[List.nil_append] at o1
  go_ret;exact⟨_,rfl,o1,yT⟩
theorem av2{w:World}{v:Value}{l:List Pr}{base:Nat}(h:dI fU base w v l){m:Nat}(hm:m<l.length):∃g c,v=.slice (some ⟨g,0,none⟩) l.length c/\l.length<=c/\c<=9223372036854775807/\gz fU w (.slice (some ⟨g,m * 2,none⟩) (l.length - m) (c - m)) (l.drop m):=by
 obtain⟨g,c,rfl,_,_,h1,h2⟩:=h.pos ae
 refine⟨g,c,rfl,h1,h2,?_⟩
 obtain⟨A,c',e,h3,h4,hf⟩:=h.form;injection e with e1 e2 e3;subst e1;subst e3;rw[<-bn];refine gz.iO (by rw[bn];omega) ae ?_
 have:=hf.drop rfl m
 rwa [Nat.zero_add] at this
theorem sum_any{g:Nat}{l:List Pr}{F:Ft}(i:Nat)(w:World)(h:oQ g l F w)(ok:yw l)(hi:i<=l.length)(hp:0<i) :
 Calls Tryz.prog 386 #[.pointer (some ⟨g,0,none⟩),.int .i64 i] w fun e w'=>e=.returned (.int .u64 (tot (l.take i)))/\Below w.heap.size w w':=by
 obtain⟨v,hB,hO,_⟩:=h;obtain⟨sg,c,rfl,_,_,hc,hc2⟩:=hO.pos ae
 have k0:=hB.cell 0;simp only[aF,aC] at k0;have HO:=aB hO;have hlen:=ok.len;have HT:Hid (∀j (hj:j<l.length),tot (l.take (j+1))=tot (l.take j)+l[j].2):=aB (fun j hj=>by rw[aT hj,dS];simp)
 have HB:Hid (∀j,0<=tot (l.take j)/\tot (l.take j)<=4611686018427387904):=aB (fun j=>by
  have e:tot l=tot (l.take j)+tot (l.drop j):=by rw[<-dS,List.take_append_drop]
  have h1:=dL (l:=l.take j) (fun p hp=>ok.pos p (List.mem_of_mem_take hp))
  have h2:=dL (l:=l.drop j) (fun p hp=>ok.pos p (List.mem_of_mem_drop hp))
  have:=ok.tot;omega)
 have hil:(i:Int)<=(l.length:Int):=ae
 have hic:(i:Int)<=(c:Int):=ae
 clear hB hO ok
 go_enter Tryz.func386,Tryz.ntmps386
 go_wp2_with fail
 go_loopg [5,15] i (fun q s x wr=>∃j:Nat,q=i - j/\j<=i/\x=.int .i64 j/\s=.int .u64 (tot (l.take j))/\Below w.heap.size w wr)
 case atStart=>exact⟨0,rfl,ae,rfl,rfl,aH _ _⟩
 case round=>
  obtain⟨j,hq,hj,rfl,rfl,hb⟩:=hrel;have HQ:=aB hq;have hz:=hb.size;clear hq
  by_cases hlt:j<i
  ·have hjl:j<l.length:=ae
   obtain⟨c0,c1⟩:=Oi (HO.out.keep hb) hjl;have HS:=aB (HT.out j hjl);have b1:=HB.out j;have b2:=HB.out (j+1);rw[HS.out] at b2;have hji:(j:Int)<(i:Int):=ae
   obtain⟨s,hs⟩:∃s,tot (l.take j)=s:=⟨_,rfl⟩;rw[hs] at HS b1 b2 |-;clear hs;generalize l[j].1=x at *;generalize l[j].2=n at *
   go_wp2_with fail
   go_roundg (i - (j+1))
   case measure=>have:=HQ.out;omega
   case rel=>exact⟨j+1,rfl,ae,ai,by rw[HS.out],bw⟩
  ·obtain rfl:j=i:=ae
   go_wp2_with fail
   go_ret;exact⟨rfl,hb⟩
theorem Gn{g:Nat}{l:List Pr}{F:Ft}(w:World)(h:oQ g l F w)(hlen:l.length<=100000) :
 Calls Tryz.prog 355 #[.pointer (some ⟨g,0,none⟩)] w fun e w'=>∃v',e=.returned v'/\dI fU w.heap.size w' v' l/\Below w.heap.size w w':=by
 obtain⟨v,hB,hO,_⟩:=h;have C:=aB (QR v l w hO.rd ae)
 have k0:=hB.cell 0;simp only[aF,aC] at k0;clear hB hO
 go_enter Tryz.func355,Tryz.ntmps355
 go_wp2_with fail;refine(C.out).mono ?_
 rintro e w1 ⟨v1,rfl,o1,hb1⟩
 go_wp2_with fail
 go_ret;exact⟨_,rfl,o1,hb1⟩
theorem Oj{g:Nat}{l:List Pr}{F:Ft}(w:World)(h:oQ g l F w) :
 Calls Tryz.prog 312 #[.pointer (some ⟨g,0,none⟩)] w fun e w'=>e=.returned (.int .u64 (tot l))/\w=w':=by
 obtain⟨v,hB,hO,_⟩:=h;have k1:=hB.cell 1;simp only[aF,aC,aG] at k1;clear hB hO
 go_enter Tryz.func312,Tryz.ntmps312
 go_wp2_with fail
 go_ret;exact⟨rfl,rfl⟩
theorem aa8{g:Nat}{l:List Pr}{F:Ft}(m:Nat)(w:World)(h:oQ g l F w)(ok:yw l)(hm:0<m)(hm1:m<=100000) :
 Calls Tryz.prog 359 #[.pointer (some ⟨g,0,none⟩),.int .i64 m] w fun e w'=>e=.returned (.int .u64 (dW m l).2)/\oQ g (dW m l).1 (Gr F w w') w'/\Touch F w w':=by
 have h':=h;obtain⟨v,hB,hO,hFg,hFv,wU⟩:=h';obtain⟨A,c,hv,_,_,_⟩:=hO.form;have hlen:=ok.len
 by_cases hle:l.length<=m
 ·have hcut:=lT hle
  rw[hcut];subst hv;have k0:=hB.cell 0;simp only[aF,aC] at k0;have HH:=aB h;have HF:=aB wU;have hmx:max (m:Int) 1=m:=ae
  clear hB hO h ok wU hcut
  go_enter Tryz.func359,Tryz.ntmps359
  go_wp2_with fail
  go_ret;have ht:Touch F w w:=Touch.refl _ _;exact⟨rfl,(jf g l).more HH.out (fun _ h=>.inl h) (jI HF.out (aK _)),ht⟩
 ·obtain⟨i,hi⟩:∃i,l.length=i+m:=⟨l.length - m,ae⟩
  obtain⟨sg,c,hv',hc1,hc2,hrd⟩:=av2 hO (m:=i) ae
  subst hv';have hpos:0<i:=ae
  have CS:=aB (sum_any i w h ok ae hpos)
  have ZB:dW m l=(bump (tot (l.take i)) (l.drop i),tot (l.take i)):=by unfold dW;rw[show l.length - m=i by omega]
  have hdl:(l.drop i).length=m:=by rw[bn];omega
  obtain⟨q,r,hqr⟩:∃q r,l.drop i=q::r:=by
   cases hx:l.drop i with
   | nil=>rw[hx] at hdl;simp at hdl;omega
   | cons q r=>exact⟨q,r,rfl⟩
  obtain⟨x,n⟩:=q;have ett:tot l=tot (l.take i)+tot (l.drop i):=by rw[<-dS,List.take_append_drop]
  have b0:=dL (l:=l.take i) (fun p hp=>ok.pos p (List.mem_of_mem_take hp))
  have b1:=dL (l:=r) (fun p hp=>ok.pos p (List.mem_of_mem_drop (i:=i) (by rw[hqr];exact aV _ hp)))
  have b2:=ok.pos (x,n) (List.mem_of_mem_drop (i:=i) (by rw[hqr];exact aQ ..))
  have b3:=ok.tot;simp only at b2;rw[ZB,hqr];rw[hqr] at hrd ett hdl;rw[hqr] at ZB;obtain⟨s,hs⟩:∃s,tot (l.take i)=s:=⟨_,rfl⟩;rw[hs] at CS ett b0 |-;have hbump:bump s ((x,n)::r)=(x,n+s)::r:=rfl;have htb:tot ((x,n+s)::r)=tot l:=by rw[jk,ett,jk];omega
  rw[hbump];obtain⟨t,ht⟩:∃t,tot l=t:=⟨_,rfl⟩;rw[ht] at htb hB b3 ett;rw[jk] at ett;simp only at ett;have HTB:=aB htb;have k0:=hB.cell 0;simp only[aF,aC] at k0;have HB:=aB hB;have HO:=aB hO;have W_:=aB wU;have HRD:=aB hrd;have HDL:=aB hdl;rw[show l.length - i=m by omega] at HRD
  clear hB hO h ok wU ZB hs hqr hbump htb ht hdl hrd;have hlz:(l.length:Int)=(i:Int)+(m:Int):=ae
  have hmx:max (m:Int) 1=m:=ae
  have hgl:=HB.out.lt;rw[show l.length=i+m by omega] at k0
  have Xa:(i:Int)<=(c:Int):=ae
  have hci:¬(c=i):=ae
  go_enter Tryz.func359,Tryz.ntmps359
  go_wp2_with fail;refine(CS.out).mono ?_
  rintro e w1 ⟨rfl,hb1⟩;have k0':=(hb1.cell (p:=⟨g,0,none⟩) hgl).trans k0;have hz1:=hb1.size;have f0:=(HB.out.keep hb1).frozen 0
  go_wp2_with fail;refine(QR _ ((x,n)::r) _ (HRD.out.keep hb1) (by have:=HDL.out;omega)).mono ?_
  rintro e w2 ⟨v2,rfl,o2,hb2⟩;obtain⟨g2,c2,rfl,bm1,hg2,hc3,hc4⟩:=o2.pos ag
  have pO:Below w.heap.size w w2:=hb1.trans (hb2.mono hz1);have bm3:=(pO.cell (p:=⟨g,0,none⟩) hgl).trans k0;have f0':=(HB.out.keep pO).frozen 0;have hne:g2≠g:=ae
  have c1:w2.cell? ⟨g2,1,none⟩=some (.int .u64 n):=(Oi o2 (j:=0) (by simp)).2
  have f2:=o2.frozenAt 1;have B2:=aB (HB.out.keep pO);have O2:=aB o2;rw[HDL.out];have hm0:(0:Int)<(m:Int):=ae
  have hq2:n+s<=4611686018427387904:=ae
  clear k0' f0 k0 o2
  go_wp2_with fail
  go_ret;have b9:=(B2.out.dP 0 (.slice (some ⟨g2,0,none⟩) m c2)).far (p:=⟨g2,1,none⟩) (fun e=>hne e.symm) (.int .u64 (n+s))
  have o9:=J8 (O2.out.far (p:=⟨g,0,none⟩) (fun e=>hne (Option.some.inj e)) (.slice (some ⟨g2,0,none⟩) m c2)) (j:=0) (by simp) (n+s)
  have t9:=((Touch.of_below (F:=F) pO (aK _)).setCell (p:=⟨g,0,none⟩) (.inl hFg) (.slice (some ⟨g2,0,none⟩) m c2)).setCell (p:=⟨g2,1,none⟩) (.inr (by show w.heap.size<=g2;omega)) (.int .u64 (n+s))
  refine⟨rfl,⟨.slice (some ⟨g2,0,none⟩) m c2,?_,?_,.inl hFg,fun q e=>?_,jI W_.out t9.size⟩,t9⟩
  ·rw[HTB.out];exact b9
  ·rw[HDL.out] at o9;exact o9.more (bW _)
  ·obtain rfl:g2=q:=Option.some.inj e
   exact .inr ⟨by omega,by simp;exact hg2⟩
end Go.Proofs.YtkiebccnpheloaaGreat.D
