/- Parts of a proof. No condition. -/
import Derived.Test.YtilcnjbpmoijmaaGreatPw15
set_option maxRecDepth 100000
set_option maxHeartbeats 16000000
set_option linter.unusedVariables false
set_option linter.unusedSimpArgs false
namespace Go.Proofs.YtilcnjbpmoijmaaGreat.D
open Tryz
open Go.RowKit
variable{w:World}{l:List Pr}{base c g j n:Nat}{F:Ft}{k:Int}
structure uI(l:List Pr):Prop where
 iU:gU l
 pos:gK l
 key:∀p∈l,-1048576<=p.1/\p.1<=1048576
 tot:tot l<=4611686018427387904
 len:l.length<=100000
def YM(k:Int)(l:List Pr):Bool:=match l[uC k l]? with
 | some p=>p.1 == k
 | none=>false
def nO(g:Nat)(l:List Pr)(F:Ft)(w:World):Prop:=∃v,dK w g 333 #[v,.int .u64 (tot l)]/\dL fZ 0 w v l/\F g/\(∀k,v.ownBlock=some k->F k)/\∀k,F k->k<w.heap.size
theorem iO(g:Nat)(l:List Pr):jV (nO g l) where
 stay:=fun⟨v,h1,h2,h3,h4,h5⟩ hk hz=>⟨v,(hk g h3).trans h1,h2.stay fun k e=>hk k (h4 k e),h3,h4,fun k h=>bF (h5 k h) hz⟩
 more:=fun⟨v,h1,h2,h3,h4,_⟩ h hl=>⟨v,h1,h2,h g h3,fun k e=>h k (h4 k e),hl⟩
 low:=fun⟨_,_,_,_,_,h5⟩=>h5
theorem xZ(x n k:Int)(w:World)(h0:-1048577<=x)(h1:x<=1048577)(h2:-1048577<=k)(h3:k<=1048577) :
 aH 405 #[.agg #[.int .i64 x,.int .u64 n],.int .i64 k] w (aG w (.int .i64 (x - k))):=by
 go_enter func405,ntmps405
 go_wp2_with fail
 go_ret;exact⟨rfl,bw⟩
theorem jQ{A:Option Addr}(h:kG fZ w A l)(hj:j<l.length):∃g off,A=some ⟨g,off,none⟩/\g<w.heap.size/\w.cell? ⟨g,off+j * 2,none⟩=some (.int .i64 l[j].1)/\w.cell? ⟨g,off+j * 2+1,none⟩=some (.int .u64 l[j].2):=by
 obtain⟨g,off,e,hg,hc⟩:=h ae
 exact⟨g,off,e,hg,hc j hj 0 af,hc j hj 1 af⟩
theorem NV(v:Value)(k:Int)(l:List Pr)(w:World)(h:iM fZ w v l)(ok:uI l)(h2:-1048577<=k)(h3:k<=1048577) :
 aH 404 #[v,.int .i64 k,.func (.func 405) #[] #[]] w (aG w (.tuple #[.int .i64 (uC k l:Nat),.bool (YM k l)])):=by
 obtain⟨A,c,rfl,_,_,hf⟩:=h.form;have HF:=aI hf;have xq:=aI ok;have hlen:=ok.len;clear h hf ok
 go_enter func404,ntmps404
 go_wp2_with fail
 go_loopg [9,10] l.length (fun q x y wr=>∃i j:Nat,x=.int .i64 i/\y=.int .i64 j/\i<=j/\j<=l.length/\j - i<=q/\Hid (∀(t:Nat) (h:t<l.length),t<i->l[t].1<k)/\Hid (∀(t:Nat) (h:t<l.length),j<=t->k<=l[t].1)/\Below w.heap.size w wr)
 case atStart=>exact⟨0,l.length,rfl,rfl,ae,ae,ae,aI (fun t h ht=>absurd ht ae),aI (fun t h ht=>absurd h ae),aO _ _⟩
 case round=>
  obtain⟨i,j,rfl,rfl,hij,hjl,hq,H1,H2,hb⟩:=hrel;have hz:=hb.size
  by_cases hlt:i<j
  ·have hm:(i+j) / 2<l.length:=ae
   obtain⟨g,off,rfl,hg,c0,c1⟩:=jQ (HF.o.keep hb) hm;obtain⟨k0,k1⟩:=xq.o.key _ (bf hm);have hsrt:=List.pairwise_iff_getElem.1 xq.o.iU;have HS:Hid (∀t (h:t<l.length),t<(i+j) / 2->l[t].1<l[(i+j) / 2].1):=aI (fun t h ht=>hsrt t _ h hm ht)
   have HS2:Hid (∀t (h:t<l.length),(i+j) / 2<=t->l[(i+j) / 2].1<=l[t].1):=aI (fun t h ht=>by
    rcases Nat.lt_or_eq_of_le ht with h'|rfl
    ·exact Int.le_of_lt (hsrt _ t hm h h')
    ·exact Int.le_refl _)
   clear hsrt;have hmi:((i:Int)+(j:Int)) / 2=(((i+j) / 2:Nat):Int):=ae
   have HMI:=aI hmi;have hml:((((i+j) / 2:Nat)):Int)<(l.length:Int):=ae
   have hmd:i<=(i+j) / 2/\(i+j) / 2<j:=ae
   clear hmi;obtain⟨x,hxe⟩:=aF (l[(i+j) / 2].1);rw[hxe] at HS HS2 c0 k0 k1;have HX:=aI hxe;clear hxe;generalize l[(i+j) / 2].2=n at *
   by_cases hx:x<k
   ·go_wp2_with fail
    refine(xZ x n k _ ae  ae h2 h3).mono ?_
    rintro e w1 ⟨rfl,hb1⟩
    go_wp2_with fail
    go_roundg (j - ((i+j) / 2+1))
    case measure=>omega
    case rel=>exact⟨(i+j) / 2+1,j,by rw[HMI.o];go_num,rfl,ae,hjl,ae,aI (fun t h ht=>by
     rcases bV t ((i+j) / 2) with h'|h'
     ·have:=HS.o t h h';omega
     ·obtain rfl:t=(i+j) / 2:=ae
      have:=HX.o;omega),H2,hb.trans (hb1.mono hz)⟩
   ·go_wp2_with fail
    refine(xZ x n k _ ae  ae h2 h3).mono ?_
    rintro e w1 ⟨rfl,hb1⟩
    go_wp2_with fail
    go_roundg ((i+j) / 2 - i)
    case measure=>omega
    case rel=>exact⟨i,(i+j) / 2,rfl,by rw[HMI.o],ae,ae,ae,H1,aI (fun t h ht=>by have:=HS2.o t h ht;omega),hb.trans (hb1.mono hz)⟩
  ·obtain rfl:j=i:=ae
   have hpl:j=uC k l:=WO k xq.o.iU j hjl H1.o H2.o
   by_cases hj:j<l.length
   ·obtain⟨g,off,rfl,hg,c0,c1⟩:=jQ (HF.o.keep hb) hj
    obtain⟨k0,k1⟩:=xq.o.key _ (bf hj);have HFD:Hid (YM k l=(l[j].1 - k == 0)):=aI (by
     unfold YM;rw[<-hpl,a_ hj];show(l[j].1 == k)=_
     rw[Bool.eq_iff_iff];simp;omega)
    have HP:=aI hpl;clear hpl;have hji:(j:Int)<(l.length:Int):=ae
    generalize l[j].1=x at *;generalize l[j].2=n at *
    go_wp2_with fail;refine(xZ x n k _ ae  ae h2 h3).mono ?_
    rintro e w1 ⟨rfl,hb1⟩
    go_wp2_with fail
    go_ret2
    exact⟨by rw[HFD.o,<-HP.o];rfl,hb.trans (hb1.mono hz)⟩
   ·have HFD:Hid (YM k l=false):=aI (by
     unfold YM;rw[<-hpl,List.getElem?_eq_none ae])
    have HP:=aI hpl;clear hpl;have hji:¬(j:Int)<(l.length:Int):=ae
    go_wp2_with fail
    go_ret2
    exact⟨by rw[HFD.o,<-HP.o];rfl,hb⟩
theorem WR(k:Int)(w:World)(h:nO g l F w)(ok:uI l)(h2:-1048577<=k)(h3:k<=1048577) :
 aH 331 #[.pointer (some ⟨g,0,none⟩),.int .i64 k] w (aG w (.tuple #[.int .i64 (uC k l:Nat),.bool (YM k l)])):=by
 obtain⟨v,hB,hO,_⟩:=h;have C:=aI (NV v k l w hO.rd ok h2 h3);have k0:=hB.cell 0;simp only[aK,aJ] at k0;clear hB hO ok;generalize uC k l=p at *;generalize YM k l=f at *
 go_enter func331,ntmps331
 go_wp2_with fail;refine(C.o).mono ?_
 rintro e w1 ⟨rfl,hb1⟩
 go_wp2_with fail
 go_ret2
 exact⟨rfl,hb1⟩
theorem Rx(v:Value)(l:List Pr)(i:Nat)(x:Pr)(ub:Nat)(w:World)(h:dL fZ 0 w v l)(hi:i<=l.length)(hl:l.length<=100000)(hu:dK w ub 178 #[.int .i64 x.1,.int .u64 x.2])(hne:v.ownBlock≠some ub) :
 aH 332 #[v,.int .i64 i,.slice (some ⟨ub,0,none⟩) 1 1] w fun e w'=>∃v',e=.returned v'/\dL fZ 0 w' v' (pJ l i x)/\Touch (fun k=>v.ownBlock=some k) w w'/\∀k,v'.ownBlock=some k->v.ownBlock=some k\/w.heap.size<=k:=by
 by_cases he:i=l.length
 ·subst he
  have hr:iM fZ w (.slice (some ⟨ub,0,none⟩) 1 1) [x]:=iM.jY (l:=[x]) ag  ag (fun _=>⟨ub,0,rfl,hu.lt,fun j hj q hq=>by
   obtain rfl:j=0:=by simp at hj;exact hj
   simp only[Nat.zero_mul,Nat.zero_add];rw[hu.cell q];simp[fZ]⟩)
  refine(Rt v 0 l x _ w h hr hl (df _)).mono ?_
  rintro e w' ⟨v',rfl,o1,g1,a1⟩;exact⟨v',rfl,o1,(Touch.refl _ _).grown g1 (fun k e=>.inl e),a1⟩
 ·obtain⟨g,c,rfl,_,hg,h1,h2⟩:=h.pos ae
  have hne':ub≠g:=fun e=>hne (by rw[e];rfl)
  by_cases hc:l.length+1<=c
  ·refine(NT g c 0 l i x ub _ w h ae hl hc hu hne').mono ?_
   rintro e w' ⟨v',rfl,o1,e1,t1⟩;exact⟨v',rfl,o1,t1.mono (fun k e=>by rw[e];rfl),fun k e=>.inl (by rw[e1] at e;exact e)⟩
  ·refine(NU g c 0 l i x ub _ w h ae hl ae hu).mono ?_
   rintro e w' ⟨v',rfl,o1,hb⟩;exact⟨v',rfl,o1.more (df _),Touch.of_below hb (aS _),fun k e=>.inr (o1.lt k e).1⟩
theorem Ry(h:dL fZ base w (.slice (some ⟨g,0,none⟩) n c) l)(hj:j<l.length) :
 w.cell? ⟨g,j * 2,none⟩=some (.int .i64 l[j].1)/\w.cell? ⟨g,j * 2+1,none⟩=some (.int .u64 l[j].2):=⟨h.cellAt hj 0 af,h.cellAt hj 1 af⟩
theorem NW(h:dL fZ base w (.slice (some ⟨g,0,none⟩) n c) l)(hj:j<l.length)(m:Int) :
 dL fZ base (w.setCell ⟨g,j * 2+1,none⟩ (.int .u64 m)) (.slice (some ⟨g,0,none⟩) n c) (l.set j (l[j].1,m)):=by
 have hn:n=l.length:=by obtain⟨A,c',hv,_⟩:=h.form;injection hv
 subst hn;have h1:=(World.ownsRow.stored h (j * 2+1) (.int .u64 m)).1;have e:(cellsE fZ l).set (j * 2+1) (.int .u64 m)=cellsE fZ (l.set j (l[j].1,m)):=by
  have:=FQ fZ l j hj (l[j].1,m);rw[<-this];show _=((cellsE fZ l).set (j * 2) (.int .i64 l[j].1)).set (j * 2+1) (.int .u64 m)
  congr 1
  refine(List.ext_getElem? fun i=>?_).symm
  rw[List.getElem?_set]
  split
  ·rename_i hi;subst hi
   have:=mZ fZ l j hj 0 af
   rw[show j * fZ.k+0=j * 2 from rfl] at this
   rw[this]
   split
   ·rfl
   ·rename_i hx
    have h2:=fC fZ l;rw[h2] at hx;exact absurd (show j * 2<l.length * 2 by omega) hx
  ·rfl
 rw[e] at h1;unfold dL;rw[bK];exact h1
theorem ZI(l:List Pr)(i:Nat)(x:Pr)(h:i<=l.length):(pJ l i x)[i]?=some x:=by
 unfold pJ;rw[List.getElem?_append_right (by rw[bG];omega),bG,Nat.min_eq_left h];simp
theorem ZJ(h:YM k l=false)(n:Int):(pJ l (uC k l) (k,0)).set (uC k l) (k,0+n)=gz k n l:=by
 rw[NP,UZ k n l];intro p hp e;unfold YM at h;rw[hp] at h;simp[e] at h
theorem an1(h:YM k l=true):∃m,l[uC k l]?=some (k,m)/\∀n,l.set (uC k l) (k,m+n)=gz k n l:=by
 unfold YM at h
 cases hp:l[uC k l]? with
 | none=>rw[hp] at h;cases h
 | some p=>
  rw[hp] at h;obtain⟨a,m⟩:=p;have:a=k:=by simpa using h
  subst this;exact⟨m,rfl,fun n=>(Jd _ _ _ _ hp).symm⟩
def jK(l:List Pr)(k n:Int):Int:=if n=0 then 4 else if k < -1048576\/1048576<k then 5 else if 4611686018427387904<tot l+n then 6 else 0
theorem ZK{n:Int}(ok:uI l)(h:jK l k n=0)(hn:0<=n)(hl:l.length<100000):uI (gz k n l):=by
 unfold jK at h
 split at h
 ·omega
 ·split at h
  ·omega
  ·split at h
   ·omega
   ·exact⟨Eh ok.iU,put_pos ae ok.pos,Je ok.key ae,by rw[wJ];omega,by have:=(xW k n l).2;omega⟩
theorem an2(k n:Int)(w:World)(h:nO g l F w)(ok:uI l)(n0:0<=n)(n1:n<18446744073709551616)(he:jK l k n≠0) :
 aH 264 #[.pointer (some ⟨g,0,none⟩),.int .i64 k,.int .u64 n] w fun e w'=>e=.returned (.int .i64 (jK l k n))/\w=w':=by
 obtain⟨v,hB,hO,_⟩:=h;have k1:=hB.cell 1;simp only[aK,aJ,aN] at k1;have t0:=dN ok.pos;have t1:=ok.tot;have HE:Hid (jK l k n=if n=0 then 4 else if k < -1048576\/1048576<k then 5 else if 4611686018427387904<tot l+n then 6 else 0):=aI rfl
 have HN:=aI he;clear hB hO ok he;generalize jK l k n=er at *;generalize tot l=t at *
 by_cases h1:n=0
 ·go_enter func264,ntmps264
  go_wp2_with fail
  go_ret;exact⟨kK (by rw[HE.o,if_pos h1]),rfl⟩
 ·by_cases h2:k < -1048576
  ·go_enter func264,ntmps264
   go_wp2_with fail
   go_ret;exact⟨kK (by rw[HE.o,if_neg h1,if_pos (.inl h2)]),rfl⟩
  ·by_cases h3:1048576<k
   ·go_enter func264,ntmps264
    go_wp2_with fail
    go_ret;exact⟨kK (by rw[HE.o,if_neg h1,if_pos (.inr h3)]),rfl⟩
   ·have h4:4611686018427387904<t+n:=by
     have:=HN.o;rw[HE.o,if_neg h1,if_neg ae] at this
     split at this
     ·assumption
     ·omega
    have h5:4611686018427387904 - t<n:=ae
    go_enter func264,ntmps264
    go_wp2_with fail
    go_ret;exact⟨kK (by rw[HE.o,if_neg h1,if_neg ae,if_pos h4]),rfl⟩
theorem NY(k n:Int)(w:World)(h:nO g l F w)(ok:uI l)(n0:0<=n)(he:jK l k n=0)(hl:l.length<100000) :
 aH 264 #[.pointer (some ⟨g,0,none⟩),.int .i64 k,.int .u64 n] w fun e w'=>e=.returned (.int .i64 0)/\nO g (gz k n l) (Gr F w w') w'/\Touch F w w':=by
 have hn:¬n=0/\-1048576<=k/\k<=1048576/\tot l+n<=4611686018427387904:=by
  unfold jK at he
  split at he
  ·omega
  ·split at he
   ·omega
   ·split at he
    ·omega
    ·omega
 obtain⟨hn0,hk0,hk1,ht⟩:=hn;have hpl:=UY k l;have CP:=aI (WR k w h ok ae  ae)
 have t0:=dN ok.pos;have h':=h;obtain⟨v,hB,hO,hFg,hFv,yG⟩:=h';have k1:=hB.cell 1;simp only[aK,aJ,aN] at k1;have htt:=wJ k n l;obtain⟨l2,hl2⟩:∃x,gz k n l=x:=⟨_,rfl⟩;rw[hl2] at htt |-;have HL2:=aI hl2;clear hl2;obtain⟨t,hT⟩:=aF (tot l);rw[hT] at htt ht t0 k1;have U5:=aI htt;have HT:=aI hT;have HH:=aI h;have HP:=aI ok.pos;have hgl:=hB.lt;have h5:¬4611686018427387904 - t<n:=ae
 clear hB hO ok h he hT htt
 go_enter func264,ntmps264
 go_wp2_with fail;refine(CP.o).mono ?_
 rintro e w1 ⟨rfl,hb1⟩;have H1:=aI ((iO g l).keep HH.o hb1);have hz1:=hb1.size;obtain⟨v1,B1,O1,_,FV1,_⟩:=H1.o;rw[HT.o] at B1;have k0:=B1.cell 0;have k1':=B1.cell 1;have f0:=B1.frozen 0;have f1:=B1.frozen 1;have bv8:=B1.lt;simp only[aK,aJ,aN] at k0 k1';have BB1:=aI B1;have OO1:=aI O1;have HFV:=aI FV1;have HFL:=aI yG;clear B1 O1 FV1 hFv H1 k1 yG
 -- the list that holds the key,at p,whose count goes up
 rcases hf:YM k l with _|_
 case' false=>
  have HS:=aI (ZJ hf n);have HI:=aI (ZI l (uC k l) (k,0) hpl);have YL:=aI (vg l (uC k l) (k,0) hpl);have hob:=KP (g:=w1.heap.size) OO1.o (aS _);have CI:=aI (Rx v1 l (uC k l) (k,0) w1.heap.size (w1.alloc (.cells #[.int .i64 k,.int .u64 0] 178)) (OO1.o.alloc _) hpl ae (dK.new w1 _ _) hob)
  clear hf hob;rw[HL2.o] at HS;generalize uC k l=p at *
  go_wp2_with fail;refine(CI.o).mono ?_
  rintro e w2 ⟨v2,rfl,o2,t2,a2⟩;obtain⟨g2,c2,hv2,_,_,_,_⟩:=o2.pos (by rw[YL.o];omega)
  rw[YL.o] at hv2;subst hv2;have hba:Below w1.heap.size w1 (w1.alloc (.cells #[.int .i64 k,.int .u64 0] 178)):=bw;have hz2:=t2.size;simp only[aV] at hz2;have B2:dK w2 g 333 #[v1,.int .u64 t]:=(t2.block g ah (fun e=>own_ne BB1.o OO1.o af e)).trans (BB1.o.alloc _)
  have k0:=B2.cell 0;have f0:=B2.frozen 0;simp only[aK,aJ,aN] at k0;have hne:=own_ne B2 o2 af
  have B3:=B2.dQ 0 (.slice (some ⟨g2,0,none⟩) (l.length+1) c2);have O3:=o2.far (p:=⟨g,0,none⟩) hne (.slice (some ⟨g2,0,none⟩) (l.length+1) c2);have T3:Hid (Touch F w (w2.setCell ⟨g,0,none⟩ (.slice (some ⟨g2,0,none⟩) (l.length+1) c2))):=aI (((Rw hb1 (Rw hba (t2.mono (fun k e=>HFV.o k e)))).setCell (p:=⟨g,0,none⟩) (.inl hFg) _))
  have A3:Hid (∀k,(Value.slice (some ⟨g2,0,none⟩) (l.length+1) c2).ownBlock=some k->F k\/w.heap.size<=k):=aI (fun k e=>(a2 k e).imp (HFV.o k) (fun h=>by simp at h;omega))
  have hpi:p<(pJ l p (k,0)).length:=by rw[YL.o];omega
  have hln:(pJ l p (k,0)).length<=100000:=by rw[YL.o];omega
  clear t2 a2 B2 hne o2 hba CI;obtain⟨w3,hw3⟩:∃x,w2.setCell ⟨g,0,none⟩ (.slice (some ⟨g2,0,none⟩) (l.length+1) c2)=x:=⟨_,rfl⟩;rw[hw3] at B3 O3 T3;have HW3:=aI hw3;clear hw3;have BB3:=aI B3;have OO3:=aI O3;clear B3 O3
  go_upto_region 10 with fail;rw[HW3.o];clear k0 f0;have B3:=BB3.o;have O3:=OO3.o;generalize pJ l p (k,0)=l1 at *;generalize Value.slice (some ⟨g2,0,none⟩) (l.length+1) c2=v2 at *;obtain⟨m,hm⟩:∃m:Int,0=m:=⟨_,rfl⟩;rw[hm] at HI HS;have hmt:0<=m/\m+n<=4611686018427387904:=ae
 case' true=>
  obtain⟨m,hm,hs⟩:=an1 hf;have HS:=aI (hs n);have HI:=aI hm;have hpi:=(List.getElem?_eq_some_iff.1 hm).1;have hmt:0<=m/\m+n<=4611686018427387904:=by
   have h1:=pK HP.o _ (List.mem_of_getElem? hm);have h2:=HP.o _ (List.mem_of_getElem? hm);rw[HT.o] at h1;simp only at h1 h2;omega
  clear hf hs hm;rw[HL2.o] at HS;generalize uC k l=p at *
  go_upto_region 10 with fail;have T3:Hid (Touch F w w1):=aI (Touch.of_below hb1 (aS _));have A3:Hid (∀k,v1.ownBlock=some k->F k\/w.heap.size<=k):=aI (fun k e=>.inl (HFV.o k e))
  have B3:dK w1 g 333 (#[v1,.int .u64 t].setIfInBounds 0 v1):=BB1.o;have O3:=OO1.o;have hln:l.length<=100000:=ae
 all_goals
  obtain⟨g3,c3,hv3,_,hg3,hc3,_⟩:=O3.pos ae
  subst hv3;have hgg:g3≠g:=fun e=>own_ne B3 O3 af (by rw[e];rfl)
  have k0:=B3.cell 0;have k1:=B3.cell 1;have f1:=B3.frozen 1;simp only[bY,List.set_cons_zero,aK,aJ,aN] at k0 k1;have hce:=O3.cellAt hpi 1 af
  rw[(List.getElem?_eq_some_iff.1 HI.o).2] at hce;have cm:=hce;simp only[fZ,aJ,aN] at cm;have fm:=O3.frozenAt (p * 2+1);have hpz:(p:Int)<((_:List Pr).length:Int):=Int.ofNat_lt.2 hpi;have BB:=aI B3;have OO:=aI O3;have OS:=aI (NW O3 hpi (m+n));clear B3 O3 hce
  go_wp2_with fail
  go_ret;have b9:=(BB.o.far (p:=⟨g3,p * 2+1,none⟩) (fun e=>hgg e.symm) (.int .u64 (m+n))).dQ 1 (.int .u64 (t+n))
  have o9:=OS.o.far (p:=⟨g,1,none⟩) (fun e=>hgg (Option.some.inj e)) (.int .u64 (t+n))
  rw[(List.getElem?_eq_some_iff.1 HI.o).2] at o9;rw[HS.o] at o9;have t9:=(T3.o.setCell (p:=⟨g3,p * 2+1,none⟩) (A3.o g3 rfl) (.int .u64 (m+n))).setCell (p:=⟨g,1,none⟩) (.inl hFg) (.int .u64 (t+n));refine⟨rfl,⟨_,?_,o9,.inl hFg,fun q e=>?_,jU HFL.o t9.size⟩,t9⟩
  ·rw[U5.o];exact b9
  ·obtain rfl:g3=q:=Option.some.inj e
   exact(A3.o _ rfl).imp id (fun h=>⟨h,by simp;exact hg3⟩)
open Tryz
open Go.RowKit
theorem U6(v:Value)(l:List Pr)(w:World)(h:iM fZ w v l)(hlen:l.length<=1000000000) :
 aH 351 #[v] w fun e w'=>∃v',e=.returned v'/\dL fZ w.heap.size w' v' l/\Below w.heap.size w w':=by
 obtain⟨A,c,rfl,hn,hc,hp⟩:=h.form;have HR:=aI h;clear h
 by_cases hnil:A=none
 ·subst hnil
  have h0:l=[]:=by
   rcases bQ l.length with h0|h0
   ·exact bz h0
   ·obtain⟨g,off,e,_⟩:=hp h0;cases e
  subst h0;clear hp;have he:(binOp .eql 128 (.slice none 0 c) (.slice none 0 0)).run prog w=.ok (.bool true) w:=Lib.run_eql_slice_nil w _ _ _ _ _ _ _ underlying128
  go_enter func351,ntmps351
  go_wp2_with fail
  go_ret;exact⟨_,rfl,dL.nil_ _ _,bw⟩
 ·obtain⟨a,rfl⟩:∃a,A=some a:=by
   cases A with
   | none=>exact absurd rfl hnil
   | some a=>exact⟨a,rfl⟩
  clear hnil hp;have he:(binOp .eql 128 (.slice (some a) l.length c) (.slice none 0 0)).run prog w=.ok (.bool false) w:=Lib.run_eql_slice_nil w _ _ _ _ _ _ _ underlying128
  go_enter func351,ntmps351
  go_wp2_with (at_builtin;refine uk zq rfl (.tmp 5) (.tmp 6) rfl (dL.lit (E:=fZ) w [] _ rfl _ rfl af) rfl _ l rfl (HR.o.keep (bw)) ah ag ?_;intro v1 w7 o1 g1 a1)
  have AZ:Below w.heap.size w w7:=(dG (aO _ _) (aS _) _).grown g1 ag (fun k hk=>by have:=Option.some.inj (show some w.heap.size=some k from hk);omega)
  simp only[List.nil_append] at o1
  go_ret;exact⟨_,rfl,o1,AZ⟩
theorem bl3{v:Value}(h:dL fZ base w v l){m:Nat}(hm:m<l.length):∃g c,v=.slice (some ⟨g,0,none⟩) l.length c/\l.length<=c/\c<=9223372036854775807/\iM fZ w (.slice (some ⟨g,m * 2,none⟩) (l.length - m) (c - m)) (l.drop m):=by
 obtain⟨g,c,rfl,_,_,h1,h2⟩:=h.pos ae
 refine⟨g,c,rfl,h1,h2,?_⟩
 obtain⟨A,c',e,h3,h4,hf⟩:=h.form;injection e with e1 e2 e3;subst e1;subst e3;rw[<-bu];refine iM.jY (by rw[bu];omega) ae ?_
 have:=hf.drop rfl m
 rwa [Nat.zero_add] at this
theorem sum_any(i:Nat)(w:World)(h:nO g l F w)(ok:uI l)(hi:i<=l.length)(hp:0<i) :
 aH 350 #[.pointer (some ⟨g,0,none⟩),.int .i64 i] w (aG w (.int .u64 (tot (l.take i)))):=by
 obtain⟨v,hB,hO,_⟩:=h;obtain⟨sg,c,rfl,_,_,hc,hc2⟩:=hO.pos ae
 have k0:=hB.cell 0;simp only[aK,aJ] at k0;have HO:=aI hO;have hlen:=ok.len;have HT:Hid (∀j (hj:j<l.length),tot (l.take (j+1))=tot (l.take j)+l[j].2):=aI (fun j hj=>by rw[bg hj,eH];simp)
 have HB:Hid (∀j,0<=tot (l.take j)/\tot (l.take j)<=4611686018427387904):=aI (fun j=>by
  have e:tot l=tot (l.take j)+tot (l.drop j):=by rw[<-eH,List.take_append_drop]
  have h1:=dN (l:=l.take j) (fun p hp=>ok.pos p (List.mem_of_mem_take hp))
  have h2:=dN (l:=l.drop j) (fun p hp=>ok.pos p (List.mem_of_mem_drop hp))
  have:=ok.tot;omega)
 have hil:(i:Int)<=(l.length:Int):=ae
 have hic:(i:Int)<=(c:Int):=ae
 clear hB hO ok
 go_enter func350,ntmps350
 go_wp2_with fail
 go_loopg [5,15] i (fun q s x wr=>∃j:Nat,q=i - j/\j<=i/\x=.int .i64 j/\s=.int .u64 (tot (l.take j))/\Below w.heap.size w wr)
 case atStart=>exact⟨0,rfl,ae,rfl,rfl,aO _ _⟩
 case round=>
  obtain⟨j,hq,hj,rfl,rfl,hb⟩:=hrel;have HQ:=aI hq;have hz:=hb.size;clear hq
  by_cases hlt:j<i
  ·have hjl:j<l.length:=ae
   obtain⟨c0,c1⟩:=Ry (HO.o.keep hb) hjl;have HS:=aI (HT.o j hjl);have b1:=HB.o j;have b2:=HB.o (j+1);rw[HS.o] at b2;have hji:(j:Int)<(i:Int):=ae
   obtain⟨s,hs⟩:=aF (tot (l.take j));rw[hs] at HS b1 b2 |-;clear hs;generalize l[j].1=x at *;generalize l[j].2=n at *
   go_wp2_with fail
   go_roundg (i - (j+1))
   case measure=>have:=HQ.o;omega
   case rel=>exact⟨j+1,rfl,ae,ai,by rw[HS.o],bw⟩
  ·obtain rfl:j=i:=ae
   go_wp2_with fail
   go_ret;exact⟨rfl,hb⟩
theorem Jg(w:World)(h:nO g l F w)(hlen:l.length<=100000) :
 aH 309 #[.pointer (some ⟨g,0,none⟩)] w fun e w'=>∃v',e=.returned v'/\dL fZ w.heap.size w' v' l/\Below w.heap.size w w':=by
 obtain⟨v,hB,hO,_⟩:=h;have C:=aI (U6 v l w hO.rd ae)
 have k0:=hB.cell 0;simp only[aK,aJ] at k0;clear hB hO
 go_enter func309,ntmps309
 go_wp2_with fail;refine(C.o).mono ?_
 rintro e w1 ⟨v1,rfl,o1,hb1⟩
 go_wp2_with fail
 go_ret;exact⟨_,rfl,o1,hb1⟩
theorem Rz(w:World)(h:nO g l F w) :
 aH 177 #[.pointer (some ⟨g,0,none⟩)] w fun e w'=>e=.returned (.int .u64 (tot l))/\w=w':=by
 obtain⟨v,hB,hO,_⟩:=h;have k1:=hB.cell 1;simp only[aK,aJ,aN] at k1;clear hB hO
 go_enter func177,ntmps177
 go_wp2_with fail
 go_ret;exact⟨rfl,rfl⟩
theorem an3(m:Nat)(w:World)(h:nO g l F w)(ok:uI l)(hm:0<m)(hm1:m<=100000) :
 aH 294 #[.pointer (some ⟨g,0,none⟩),.int .i64 m] w fun e w'=>e=.returned (.int .u64 (dY m l).2)/\nO g (dY m l).1 (Gr F w w') w'/\Touch F w w':=by
 have h':=h;obtain⟨v,hB,hO,hFg,hFv,yG⟩:=h';obtain⟨A,c,hv,_,_,_⟩:=hO.form;have hlen:=ok.len
 by_cases hle:l.length<=m
 ·have hcut:=lT hle
  rw[hcut];subst hv;have k0:=hB.cell 0;simp only[aK,aJ] at k0;have HH:=aI h;have HF:=aI yG;have hmx:max (m:Int) 1=m:=ae
  clear hB hO h ok yG hcut
  go_enter func294,ntmps294
  go_wp2_with fail
  go_ret;have ht:Touch F w w:=Touch.refl _ _;exact⟨rfl,(iO g l).more HH.o (fun _ h=>.inl h) (jU HF.o (aS _)),ht⟩
 ·obtain⟨i,hi⟩:∃i,l.length=i+m:=⟨l.length - m,ae⟩
  obtain⟨sg,c,hv',hc1,hc2,hrd⟩:=bl3 hO (m:=i) ae
  subst hv';have hpos:0<i:=ae
  have CS:=aI (sum_any i w h ok ae hpos)
  have hcu:dY m l=(bump (tot (l.take i)) (l.drop i),tot (l.take i)):=by unfold dY;rw[show l.length - m=i by omega]
  have hdl:(l.drop i).length=m:=by rw[bu];omega
  obtain⟨q,r,hqr⟩:∃q r,l.drop i=q::r:=by
   cases hx:l.drop i with
   | nil=>rw[hx] at hdl;simp at hdl;omega
   | cons q r=>exact⟨q,r,rfl⟩
  obtain⟨x,n⟩:=q;have ett:tot l=tot (l.take i)+tot (l.drop i):=by rw[<-eH,List.take_append_drop]
  have b0:=dN (l:=l.take i) (fun p hp=>ok.pos p (List.mem_of_mem_take hp))
  have b1:=dN (l:=r) (fun p hp=>ok.pos p (List.mem_of_mem_drop (i:=i) (by rw[hqr];exact aY _ hp)))
  have b2:=ok.pos (x,n) (List.mem_of_mem_drop (i:=i) (by rw[hqr];exact aT ..))
  have b3:=ok.tot;simp only at b2;rw[hcu,hqr];rw[hqr] at hrd ett hdl;rw[hqr] at hcu;obtain⟨s,hs⟩:=aF (tot (l.take i));rw[hs] at CS ett b0 |-;have hbump:bump s ((x,n)::r)=(x,n+s)::r:=rfl;have htb:tot ((x,n+s)::r)=tot l:=by rw[jI,ett,jI];omega
  rw[hbump];obtain⟨t,ht⟩:=aF (tot l);rw[ht] at htb hB b3 ett;rw[jI] at ett;simp only at ett;have HTB:=aI htb;have k0:=hB.cell 0;simp only[aK,aJ] at k0;have HB:=aI hB;have HO:=aI hO;have HFL:=aI yG;have HRD:=aI hrd;have HDL:=aI hdl;rw[show l.length - i=m by omega] at HRD
  clear hB hO h ok yG hcu hs hqr hbump htb ht hdl hrd;have hlz:(l.length:Int)=(i:Int)+(m:Int):=ae
  have hmx:max (m:Int) 1=m:=ae
  have hgl:=HB.o.lt;rw[show l.length=i+m by omega] at k0
  have U8:(i:Int)<=(c:Int):=ae
  have hci:¬(c=i):=ae
  go_enter func294,ntmps294
  go_wp2_with fail;refine(CS.o).mono ?_
  rintro e w1 ⟨rfl,hb1⟩;have k0':=(hb1.cell (p:=⟨g,0,none⟩) hgl).trans k0;have hz1:=hb1.size;have f0:=(HB.o.keep hb1).frozen 0
  go_wp2_with fail;refine(U6 _ ((x,n)::r) _ (HRD.o.keep hb1) (by have:=HDL.o;omega)).mono ?_
  rintro e w2 ⟨v2,rfl,o2,hb2⟩;obtain⟨g2,c2,rfl,cf4,hg2,hc3,hc4⟩:=o2.pos ag
  have jD:Below w.heap.size w w2:=hb1.trans (hb2.mono hz1);have cf5:=(jD.cell (p:=⟨g,0,none⟩) hgl).trans k0;have f0':=(HB.o.keep jD).frozen 0;have hne:g2≠g:=ae
  have c1:w2.cell? ⟨g2,1,none⟩=some (.int .u64 n):=(Ry o2 (j:=0) (by simp)).2
  have f2:=o2.frozenAt 1;have B2:=aI (HB.o.keep jD);have O2:=aI o2;rw[HDL.o];have hm0:(0:Int)<(m:Int):=ae
  have hq2:n+s<=4611686018427387904:=ae
  clear k0' f0 k0 o2
  go_wp2_with fail
  go_ret;have b9:=(B2.o.dQ 0 (.slice (some ⟨g2,0,none⟩) m c2)).far (p:=⟨g2,1,none⟩) (fun e=>hne e.symm) (.int .u64 (n+s))
  have o9:=NW (O2.o.far (p:=⟨g,0,none⟩) (fun e=>hne (Option.some.inj e)) (.slice (some ⟨g2,0,none⟩) m c2)) (j:=0) (by simp) (n+s)
  have t9:=((Touch.of_below (F:=F) jD (aS _)).setCell (p:=⟨g,0,none⟩) (.inl hFg) (.slice (some ⟨g2,0,none⟩) m c2)).setCell (p:=⟨g2,1,none⟩) (.inr (by show w.heap.size<=g2;omega)) (.int .u64 (n+s))
  refine⟨rfl,⟨.slice (some ⟨g2,0,none⟩) m c2,?_,?_,.inl hFg,fun q e=>?_,jU HFL.o t9.size⟩,t9⟩
  ·rw[HTB.o];exact b9
  ·rw[HDL.o] at o9;exact o9.more (df _)
  ·obtain rfl:g2=q:=Option.some.inj e
   exact .inr ⟨by omega,by simp;exact hg2⟩
end Go.Proofs.YtilcnjbpmoijmaaGreat.D
