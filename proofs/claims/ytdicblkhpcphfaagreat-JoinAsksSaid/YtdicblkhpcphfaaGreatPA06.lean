/- Parts. No condition. -/
import Derived.Test.YtdicblkhpcphfaaGreatPA05
set_option maxRecDepth 100000
set_option maxHeartbeats 0
set_option linter.all false
namespace Go.Proofs.YtdicblkhpcphfaaGreat
open Tryz Go.RowKit Go.Lib
open _root_.List renaming length→ao
open _root_.Go renaming Calls→ar
open Tryz renaming prog→Oe
variable{base g i k:Nat}{w w':World}{v:Value}{T l:List Pt}{o:Oper}{a:Act}{Q:Exit->Act->World->Prop}{d hi lo n:Int}{s:St}{F:Nat->Prop}{L W:List Mn}
def kT(base:Nat)(w:World)(v:Value)(l:List Pt):Prop:=w.ownsRow base 246 2 v (ao l) (hI l)
def kT.rd(h:kT base w v l):kR w v l:=Rd.lT h
def kT.alloc{base:Nat}{w:World}{v:Value}{l:List Pt}(h:kT base w v l)(o:Obj):kT base (w.alloc o) v l:=eI h o
def kT.drew(h:kT base w v l):kT base w.drew v l:=h
def kT.lt{base:Nat}{w:World}{v:Value}{l:List Pt}(h:kT base w v l):∀g,v.ownBlock=some g->base<=g/\g<w.heap.size:=fc h
def kT.stay(h:kT base w v l)(q:∀g,v.ownBlock=some g->w'.heap[g]?=w.heap[g]?):kT base w' v l:=by
 obtain⟨s,z⟩:=h;refine⟨s,?_⟩
 rcases z with z|⟨g,y,x,rfl,u,t,r⟩
 ·exact .inl z
 ·exact .inr ⟨g,y,x,rfl,u,(q g rfl).trans t,r⟩
def kT.keep(h:kT base w v l)(z:aq w w'):kT base w' v l:=h.stay λg y=>z.block g (h.lt g y).2
def kT.one(w:World)(m:Pt):kT w.heap.size (w.alloc (.cells #[.int .i64 m.1,.int .u64 m.2] 246)) (.slice (some ⟨w.heap.size,0,none⟩) 1 1) [m]:=
 ⟨rfl,.inr ⟨w.heap.size,1,_,rfl,aD _,cm _ _,ad,by unfold maxLen;omega,rfl,by simp[hI,tQ]⟩⟩
def kR.QY(w:World)(m:Pt):kR (w.alloc (.cells #[.int .i64 m.1,.int .u64 m.2] 246)) (.slice (some ⟨w.heap.size,0,none⟩) 1 1) [m]:=(kT.one w m).rd
def kR.MG(w:World)(m:Pt)(H:Nat)(h:w.heap.size=H):kR (w.alloc (.cells #[.int .i64 m.1,.int .u64 m.2] 246)) (.slice (some ⟨H,0,none⟩) 1 1) [m]:=by
 subst h;exact kR.QY w m
def Oo:(prog.info? 246).map (λi=>(i.zero,i.size,i.bytes))=some (some (.agg #[.int .i64 0,.int .u64 0]),2,16):=by kernel_rfl
def Ju{ops:Array Oper}{rest:List Oper}(b:o.guard=none)(s x:Operand)
 (X:o.op=.call {callee:=.builtin .append,args:=#[s,x],argTypes:=#[242,242]})
 (r:Nat) (v:Value) (xs:List Pt) (U:a.eval s=v) (V:kT r w v xs)
 (u:Value) (y:List Pt) (T:a.eval x=u) (q:kR w u y)
 (N:ao xs+ao y<=1099511627776) (d:r<=w.heap.size)
 (h:∀z t,kT r t z (xs++y)->w.grownBy t v.ownBlock->(z.ownBlock=v.ownBlock\/z.ownBlock=some w.heap.size)->wpList prog ops Q rest (a.put o.dst z) t):wpList prog ops Q (o::rest) a w:=by
 obtain⟨O,Y,S,R,P⟩:=cx Oo;obtain⟨A,c,rfl,_,_,_⟩:=q.form;refine jv w b s x 242 X r 246 O _ 2 16 underlying242 Y S R P rfl aa v (ao xs) (hI xs) U V A (ao y) c (hI y) T q (nY _)
  (by unfold maxLen;omega) aa d λz t p g f=>h z t ?_ g f
 unfold kT;rw[aE,lC];exact p
def zL{K:Act->World->Prop}(s x:Operand)
 (Y:o.op=.call {callee:=.builtin .append,args:=#[s,x],argTypes:=#[242,242]})
 (r:Nat) (v:Value) (xs:List Pt) (V:a.eval s=v) (X:kT r w v xs)
 (u:Value) (y:List Pt) (U:a.eval x=u) (q:kR w u y)
 (O:ao xs+ao y<=1099511627776) (d:r<=w.heap.size)
 (h:∀z t,kT r t z (xs++y)->w.grownBy t v.ownBlock->(z.ownBlock=v.ownBlock\/z.ownBlock=some w.heap.size)->K (a.put o.dst z) t):o.wp prog a w K Q:=by
 obtain⟨P,b,T,S,R⟩:=cx Oo;obtain⟨A,c,rfl,_,_,_⟩:=q.form;refine kF w s x 242 Y r 246 P _ 2 16 underlying242 b T S R rfl aa v (ao xs) (hI xs) V X A (ao y) c (hI y) U q (nY _)
  (by unfold maxLen;omega) aa d λz t p g f=>h z t ?_ g f
 unfold kT;rw[aE,lC];exact p
def qg:List Mn->Int->List Pt
 | [],_=>[]
 | m::l,done=>(m.1,2 * done+m.2)::qg l (done+m.2)
def wW:∀(l:List Mn) (done:Int) (m:Mn),qg (l++[m]) done=qg l done++[(m.1,2 * (done+tot l)+m.2)]
 | [],done,m=>by simp[qg,tot]
 | x::l,done,m=>by
  simp only[b8,qg,wW l,tot];rw[show done+x.2+tot l=done+(x.2+tot l) by omega]
def yp(z n:Int):∀(l:List Mn) (done:Int),kE z n l done=qg l done++[(z,2 * n)]
 | [],_=>rfl
 | m::l,done=>by simp only[kE,qg,yp z n l,b8]
def mZ:∀(l:List Mn) (done:Int),ao (qg l done)=ao l
 | [],_=>rfl
 | m::l,done=>by simp only[qg,aJ,mZ l]
def qD(y z:Int)(P:List Mn):ao (pts y z P)=ao P+2:=by
 simp only[pts,yp,aJ,aE,mZ,aV]
def uu(l:List Mn)(j:Nat)(h:j<ao l):qg (l.take (j+1)) 0=qg (l.take j) 0++[(l[j].1,2 * tot (l.take j)+l[j].2)]:=by
 rw[aM h,wW,fC]
def uv(g:Nat)(F:Nat->Prop)(d x J:Int)(L W:List Mn)(w:World)(h:Dg w g F d L W x J (tot (L++W)))(q:kg (L++W))(r:L++W≠[])(hlen:ao L+ao W<=100000000)(ht:tot (L++W)<=281474976710656)(d0:0<=d)(d1:d<=1000) :
 ar Oe 153 #[.pointer (some ⟨g,0,none⟩)] w λe t=>∃v,e=.returned v/\kT w.heap.size t v (pts x J (jM d (L++W)))/\aq w t:=by
 obtain⟨lv,wv,u,y,s,R,X,U,T,S⟩:=h;have Y:=u.k3;have f:=u.lt;have D:=ay u;have HL:=ay y;have HW:=ay s;obtain⟨A,ca,rfl,na,ma,p⟩:=y.form;obtain⟨B,cb,rfl,nb,mb,a⟩:=s.form;have b:=ay q;have Sq:0<ao L+ao W:=by
  rcases bh (ao L+ao W) with z|z
  ·exact absurd (aN (by rw[aE];exact z)) r
  ·exact z
 have c:=ay (j' d (L++W));have V:=ay (lf d (L++W));clear u y s p a q R X U T S r
 go_in
 go_upto_region 3 with fail;have O0:=ay (kT.one w (x,0));obtain⟨z,y⟩:∃z,z=w.alloc (.cells #[.int .i64 x,.int .u64 0] 246):=⟨_,rfl⟩;have N:aq w z:=by rw[y];exact bw
 have s:z.heap.size=w.heap.size+1:=by rw[y];simp
 rw[<-y];rw[show w.alloc (.cells #[.int .i64 ((x,0):Pt).1,.int .u64 ((x,0):Pt).2] 246)=z from y.symm] at O0
 have hz0':w.heap.size<z.heap.size:=aa
 clear y Y s;have S:=ay (D.o.keep N);have L0:=ay (HL.o.keep N);have W0:=ay (HW.o.keep N);have I:g<z.heap.size:=aa
 have y:=S.o.k0;have H:=S.o.k1;have G:=S.o.k2;have s:=S.o.k5;have Q0:=ay y;have Q1:=ay H;have Q2:=ay G;have Q5:=ay s;clear y H G s;have Z:=ay (λ(t:World) (r:aq z t)=>(aF ((r.cell (p:=⟨g,0,none⟩) I).trans Q0.o) (aF ((r.cell (p:=⟨g,1,none⟩) I).trans Q1.o) (aF ((r.cell (p:=⟨g,2,none⟩) I).trans Q2.o) ((r.cell (p:=⟨g,5,none⟩) I).trans Q5.o)))))
 refine i' (λt=>aq z t) (gW 0 16 (gW 21 1 (ib 16 (ib 17 (ib 18 (ib 19 (gW 20 1 []))))))) ((aC _ _).drew) ?_
 iterate 17 refine hC ?_
 refine iy λK y=>?_
 go_simp;refine y _ _ (((aC _ _).drew).alloc ah _) ?_
 clear y K;refine iy λK y=>?_
 go_simp;have hrow:sW (z.drew.alloc (.cells #[.slice A (ao L) ca,.slice B (ao W) cb] 109)) z.heap.size [L,W]:=yo (L0.o.rd.keep (((aC _ _).drew).alloc ah _)) (W0.o.rd.keep (((aC _ _).drew).alloc ah _))
 refine(uq z.heap.size [L,W] _ ah hrow ad af).mono ?_
 rintro e w1 ⟨v1,rfl,s,E⟩;have a:aq z w1:=(((aC _ _).drew).alloc ah _).trans (E.mono ah)
 have l:=a.size;rw[show([L,W]:List (List Mn)).flatten=L++W by simp] at s
 have Q:=ay s;clear s;refine y _ _ (a) ?_
 clear y K;refine iy λK y=>?_
 go_simp;refine(ur _ (L++W) v1 _ (aD _) (by rw[aE];omega) Q.o.rd).mono ?_
 rintro e s ⟨v2,rfl,X,C⟩;have q:aq z s:=a.trans (C.mono l);have n:=q.size;have M:=ay X;clear X;refine y _ _ (q) ?_
 clear y K;refine iy λK y=>?_
 go_simp;have X:=sX d v2 (iJ (L++W)) s M.o (by rw[jr,aE];exact Sq) (b.o.iJ) (pK _) (by rw[jr,aE];omega) (by rw[nZ];exact ht) d0 d1
 rw[nZ] at X;refine X.mono ?_
 rintro e U ⟨v3,rfl,T,j⟩;have o:aq z U:=q.trans (j.mono n);have R:Hid (g7 s.heap.size U v3 (jM d (L++W))):=ay T;clear T X;obtain⟨A3,Y,rfl,n3,i,X⟩:=R.o.form;clear X;refine y _ _ (o) ?_
 clear y K;refine hC ?_
 refine gM ?_
 have T:=o5 d (-9223372036854775808) 9223372036854775807 b.o (λm X=>⟨(b.o m X).1,(b.o m X).2.1⟩)
 have O:=T.1;clear T;obtain⟨P,T⟩:=au (jM d (L++W));rw[T] at R c V O n3 |-;have hPl:ao P<=100000000:=by have:=V.o;rw[aE] at this;omega
 have Y1:tot P<=281474976710656:=by rw[c.o];exact ht
 have Wb:=ay c.o.symm;have SO:=ay T;have Z2:z.heap.size<=s.heap.size:=q.size;have Wc:=ay (O0.o.keep (o.mono aa))
 clear T V c i a q l n E C j Q M
 go_wp2
 go_loopg [3,4,34] (ao P) (λq v c i wr=>∃j:Nat,q=ao P - j/\j<=ao P/\i=.int .i64 j/\c=.int .u64 (tot (P.take j))/\kT w.heap.size wr v ((x,0)::qg (P.take j) 0) /\
  g7 s.heap.size wr (.slice A3 (ao P) Y) P/\aq w wr/\U.heap.size<=wr.heap.size/\Hid (∀k,v.ownBlock=some k->k<s.heap.size\/U.heap.size<=k))
 exact⟨0,rfl,aa,rfl,rfl,Wc.o,R.o,N.trans (o.mono aa),aD _,λk e=>by simp only[Value.ownBlock,aW] at e;omega⟩
 case round=>
  obtain⟨j,q,hj,rfl,rfl,V,v,u,hz,n⟩:=hrel;have HK:=ay q;have c:=ay V;have E:=ay v;obtain⟨A4,c4,hv4,n4,m4,a⟩:=v.form;simp only[fS,true_and] at hv4;obtain⟨rfl,rfl⟩:=hv4;have HF:=ay a;have hzw:=u.size;clear q V v a
  by_cases f:j<ao P
  ·obtain⟨g3,SP,rfl,hg3,e0,e1⟩:=HF.o.at_ f
   have Qx:=ay (uu P j f);have zM:=ay (hQ P j f);have htj:=O.pL f;have We:=(O.mC j).1;have X:=O.get f;have hm2:=X.2.2;have m:ao ((x,0)::qg (P.take j) 0)+1<=1099511627776:=by simp only[aJ,mZ,aU];omega
   clear X
   go_wp2_with (first
    | (at_builtin
       go_must (refine Ju rfl (.tmp 38) (.tmp 47) rfl w.heap.size u3 ((x,0)::qg (P.take j) 0) rfl ((c.o.alloc _).alloc _) _ [(P[j].1,2 * tot (P.take j)+P[j].2)] rfl (kR.MG _ (P[j].1,2 * tot (P.take j)+P[j].2) _ ad) m (by simp only[aI];omega) ?_)
       intro v5 T V v Q;have M:aq w T:=((u.alloc aa _).alloc af _).grown v af (λk q=>(c.o.lt k q).1)
       have C:=ay V;have zN:=v.size;simp only[aI] at zN;have M5:=ay (show g7 s.heap.size T (.slice (some ⟨g3,SP,none⟩) (ao P) Y) P from((E.o.alloc _).alloc _).stay λk e=>v.block k (by have:=(E.o.lt k e).2;simp;omega) (λl=>by have H:=n.o k l.symm;have G:=(E.o.lt k e).1;have q3:=(R.o.lt k e).2;omega))
       have S5:Hid (∀k,v5.ownBlock=some k->k<s.heap.size\/U.heap.size<=k):=λk e=>by
        rcases Q with a|a
        ·exact n.o k (by rw[<-a];exact e)
        ·rw[a] at e;simp only[aI,aW] at e;omega
       have i:(wr.alloc (.cells #[.int .i64 P[j].1,.int .u64 P[j].2] 216)).cell? ⟨wr.heap.size,1,none⟩=some (.int .u64 P[j].2):=by simp[bU]
       have x1:T.cell? ⟨wr.heap.size,1,none⟩=some (.int .u64 P[j].2):=(bA (a:=⟨wr.heap.size,1,none⟩) (v.block wr.heap.size (by simp only[aI];omega) (λl=>by have:=(c.o.lt _ l.symm).2;omega))).trans ((((aC (wr.alloc (.cells #[.int .i64 P[j].1,.int .u64 P[j].2] 216)).heap.size _).alloc (aD _) _).cell (p:=⟨wr.heap.size,1,none⟩) (by show wr.heap.size<_;simp only[aI];omega)).trans i)
       clear i;clear V v Q))
   go_roundg (ao P - (j+1))
   exact⟨j+1,rfl,aa,ag,by rw[zM.o],by rw[Qx.o];exact C.o,M5.o,M,aa,S5⟩
   have:=HK.o;omega
  ·have hE:Hid (P.take j=P):=by show _=_;rw[bj aa]
   have m:ao ((x,0)::qg (P.take j) 0)+1<=1099511627776:=by simp only[aJ,mZ,aU];omega
   have a:=D.o.k4;have l:=D.o.k5;have K4:=ay a;have K5:=ay l;have EW:=ay (fG (2 * tot (L++W)) (by have:=b.o.gP;omega))
   have i:g<w.heap.size:=by assumption
   clear a l;clear n
   go_wp2_with fail;have Z:=ay (λ(t:World) (r:aq w t)=>(aF ((r.cell (p:=⟨g,4,none⟩) i).trans K4.o) (aF ((r.cell (p:=⟨g,5,none⟩) i).trans K5.o) (EW.o))))
   refine i' (λt=>aq w t) (gW 0 11 (ib 11 (ib 12 (gW 13 1 [])))) (u.drew) ?_
   iterate 11 refine hC ?_
   refine iy λK y=>?_
   go_simp;refine y _ _ (u.drew.alloc ah _) ?_
   clear y K;refine iy λK y=>?_
   refine zL (.tmp 54) (.tmp 65) rfl w.heap.size u3 ((x,0)::qg (P.take j) 0) rfl ((c.o.drew).alloc _) _ [(J,2 * tot (L++W))] rfl (kR.QY _ (J,2 * tot (L++W))) m ah ?_
   intro v5 T V v Q;have M:aq w T:=(u.drew.alloc ah _).grown v ah (λk q=>(c.o.lt k q).1)
   have C:=ay V;clear V v Q
   go_simp;refine y _ _ (M) ?_
   clear y K;refine hC ?_
   refine gM ?_
   go_wp2;refine an ?_
   refine⟨_,rfl,?_,M⟩
   have:=C.o;rw[hE.o,Wb.o] at this;rw[SO.o,pts,yp];rw[b8] at this;exact this
def Found(n:Nat)(p:Nat->Bool)(w:World)(e:Ending)(w':World):Prop:=∃i q:Nat,e=.returned (.int .i64 i)/\i<=n/\(∀t,t<i->p t=false)/\(∀t,i<=t->t<n->p t=true)/\w'=w.drewN q
def ks(K:Nat)(f:Array Value)(n:Nat)(p:Nat->Bool)(w:World)(Y:∀z w,(callFunc K z).run prog w=.ok (.enter K z) w)(S:n<4611686018427387904)
 (y:∀(m i:Nat),i<n->Calls prog K (#[.int .i64 i]++f) (w.drewN m) λe g=>e=.returned (.bool (p i))/\∃q,g=(w.drewN m).drewN q)
 (x:∀a b,a<=b->b<n->p a=true->p b=true) :
 ar Oe 154 #[.int .i64 n,.func (.func K) #[] f] w (Found n p w):=by
 have c:=ay y;have M:=ay x;clear y x
 go_in
 go_wp2
 go_loopg [5,6] n (λx v u wr=>∃y z q:Nat,v=.int .i64 y/\u=.int .i64 z/\y<=z/\z<=n/\z - y<=x/\wr=w.drewN q /\
  Hid ((∀t,t<y->p t=false)/\(∀t,z<=t->t<n->p t=true)))
 exact⟨0,n,0,rfl,rfl,bB _,aD _,aa,rfl,(⟨λt v=>absurd v (fp _),λt a X=>by omega⟩:(∀t,t<0->p t=false)/\(∀t,n<=t->t<n->p t=true))⟩
 case round=>
  obtain⟨y,z,q,rfl,rfl,U,d,V,rfl,I⟩:=hrel
  by_cases T:y<z
  ·have x:=c.o q ((y+z) / 2) aa
   rw[show(((y+z) / 2:Nat):Int)=((y:Int)+(z:Int)) / 2 by omega] at x
   cases hp:p ((y+z) / 2)<;>rw[hp] at x
   ·have s:=ay hp
    have u:=ay x;clear hp x
    go_wp2_with (go_at_fn K;refine u.o.mono ?_;rintro e g ⟨rfl,nq,rfl⟩)
    go_roundg (z - ((y+z) / 2+1))
    case measure=>omega
    case rel=>
     have r:Hid ((∀t,t<(y+z) / 2+1->p t=false)/\(∀t,z<=t->t<n->p t=true)):=⟨λt v=>(by
      cases h:p t with
      | false=>rfl
      | true=>have:=M.o t ((y+z) / 2) aa  aa h;rw[s.o] at this;cases this),I.o.2⟩
     exact⟨(y+z) / 2+1,z,q+nq,by rw[show((y:Int)+(z:Int)) / 2+1=(((y+z) / 2+1:Nat):Int) by omega],rfl,aa,d,aD _,rfl,r⟩
   ·have s:=ay hp
    have u:=ay x;clear hp x
    go_wp2_with (go_at_fn K;refine u.o.mono ?_;rintro e g ⟨rfl,nq,rfl⟩)
    go_roundg ((y+z) / 2 - y)
    case measure=>omega
    case rel=>
     have r:Hid ((∀t,t<y->p t=false)/\(∀t,(y+z) / 2<=t->t<n->p t=true)):=⟨I.o.1,λt v b=>M.o ((y+z) / 2) t v b s.o⟩
     exact⟨y,(y+z) / 2,q+nq,rfl,by rw[show((y:Int)+(z:Int)) / 2=(((y+z) / 2:Nat):Int) by omega],aa,aa,aD _,rfl,r⟩
  ·obtain rfl:z=y:=aa
   go_wp2
   go_ret;exact⟨z,q,rfl,d,I.o.1,I.o.2,rfl⟩
def MH(z u v t c:Nat)(l:List Pt)(x:Int)(i:Nat)(W:World)(g:i<ao l)(Wf:ao l<=1099511627776)
 (p:W.cell? ⟨z,0,none⟩=some (.slice (some ⟨v,t,none⟩) (ao l) c)) (d:W.cell? ⟨u,0,none⟩=some (.int .u64 x)) (s:W.cell? ⟨v,t+i * 2+1,none⟩=some (.int .u64 l[i].2)) :
 ar Oe 223 (#[.int .i64 i]++#[.pointer (some ⟨z,0,none⟩),.pointer (some ⟨u,0,none⟩)]) W λe r=>e=.returned (.bool (decide (x<l[i].2)))/\∃q,r=W.drewN q:=by
 generalize l[i].2=y at s |-;have f:(i:Int)<(ao l:Int):=aa
 have q:(0:Int)<=(i:Int):=aa
 go_in
 go_wp2_with fail
 go_quiet (fail)
 go_wp2
 go_ret;exact⟨rfl,_,rfl⟩
def Gz(z u v t c:Nat)(l:List Pt)(x:Int)(i:Nat)(W:World)(g:i<ao l)(Wf:ao l<=1099511627776)
 (p:W.cell? ⟨z,0,none⟩=some (.slice (some ⟨v,t,none⟩) (ao l) c)) (d:W.cell? ⟨u,0,none⟩=some (.int .i64 x)) (s:W.cell? ⟨v,t+i * 2,none⟩=some (.int .i64 l[i].1)) :
 ar Oe 155 (#[.int .i64 i]++#[.pointer (some ⟨z,0,none⟩),.pointer (some ⟨u,0,none⟩)]) W λe r=>e=.returned (.bool (decide (x<l[i].1)))/\∃q,r=W.drewN q:=by
 generalize l[i].1=y at s |-;have f:(i:Int)<(ao l:Int):=aa
 have q:(0:Int)<=(i:Int):=aa
 go_in
 go_wp2_with fail
 go_quiet (fail)
 go_wp2
 go_ret;exact⟨rfl,_,rfl⟩
def zO(w:World)(g:Nat)(F:Nat->Prop)(d:Int)(s:St):Prop:=Dg w g F d s.L s.W s.lo s.hi (tot (s.L++s.W))
structure Fit(d:Int)(s:St)(k:Nat):Prop where
 ok:s.Ok d k
 k1:k<=100000000
 t:tot (s.L++s.W)<=281474976710656
 d0:10<=d
 d1:d<=1000
def th(d:Int)(s:St)(num den:Int):Int × Int:=if (jD num den (tot (s.L++s.W))).2=0 then(Mx s.lo s.hi (jM d (s.L++s.W)) (jD num den (tot (s.L++s.W))).1,0) else(0,(jD num den (tot (s.L++s.W))).2)
def zP{num den:Int}(z:0<=num)(r:0<=den)(q:0<=n)(h:(jD num den n).2=0):0<n/\0<=(jD num den n).1/\(jD num den n).1<=2 * n/\0<den/\num<=den/\(jD num den n).1=2 * n * num / den:=by
 unfold jD at *
 split at h
 ·simp at h
 ·rename_i y
  split at h
  ·simp at h
  ·rename_i x
   split at h
   ·simp at h
   ·rename_i v
    simp only[aG y,aG x,aG v];have u:0<=2 * n * num / den:=cP (cG aa z) aa
    have t:2 * n * num<=2 * n * den:=bH aa  aa
    have s:2 * n * num / den<=2 * n:=fh aa t
    exact⟨by omega,u,s,aa,aa,trivial⟩
structure Jv(lo hi:Int)(T:List Pt)(n:Int):Prop where
 mono:∀i j (hi:i<ao T) (hj:j<ao T),i<j->T[i].1<=T[j].1/\T[i].2<T[j].2
 len:2<=ao T
 h0:∀h:0<ao T,T[0]=(lo,0)
 hl:∀h:ao T - 1<ao T,T[ao T - 1]=(hi,2 * n)
def Fit.pts(h:Fit d s k)(z:0<tot (s.L++s.W)):Jv s.lo s.hi (pts s.lo s.hi (jM d (s.L++s.W))) (tot (s.L++s.W)):=by
 have y:s.L++s.W≠[]:=λe=>by rw[e] at z;simp[tot] at z
 obtain⟨x,v,u⟩:=o5 d s.lo s.hi h.ok.ok h.ok.bd;obtain⟨t,r⟩:=tS x v u (tv d y);refine⟨t.get,by rw[qD];omega,λ_=>rfl,λh=>?_⟩
 have:=wM (kE s.hi (tot (jM d (s.L++s.W))) (jM d (s.L++s.W)) 0) (s.lo,0);rw[r] at this;exact this.trans (by rw[j'])
def Jv.bd(h:Jv lo hi T n)(v:i<ao T):lo<=T[i].1/\T[i].1<=hi/\0<=T[i].2/\T[i].2<=2 * n:=by
 have l:=h.len;have y:=h.h0 aa
 have x:=h.hl aa
 have u:lo<=T[i].1/\0<=T[i].2:=by
  rcases bh i with rfl|z
  ·rw[y];exact⟨cR _,cR _⟩
  ·have:=h.mono 0 i aa v z
   rw[y] at this;simp only at this;omega
 have t:T[i].1<=hi/\T[i].2<=2 * n:=by
  rcases bg i (ao T - 1) with z|z
  ·have:=h.mono i (ao T - 1) v aa z
   rw[x] at this;simp only at this;omega
  ·have:i=ao T - 1:=aa
   subst this;rw[x];exact⟨cR _,cR _⟩
 omega
def SQ(T:List Pt)(s:Int)(i:Nat):Bool:=decide (s<(T[i]?.getD (0,0)).2)
def og{s:Int}(h:i<ao T):SQ T s i=decide (s<T[i].2):=by simp[SQ,aQ h]
def SR(T:List Pt)(s:Int)(i:Nat):Bool:=decide (s<(T[i]?.getD (0,0)).1)
def oh{s:Int}(h:i<ao T):SR T s i=decide (s<T[i].1):=by simp[SR,aQ h]
def Cu(U X:Int)(w:World)(h:zO w g F d s)(V:Fit d s k)(a0:0<=U)(a1:U<18446744073709551616)(e0:0<=X)(e1:X<18446744073709551616) :
 ar Oe 139 #[.pointer (some ⟨g,0,none⟩),.int .u64 U,.int .u64 X] w (aw w (.tuple #[.int .i64 (th d s U X).1,.int .i64 (th d s U X).2])):=by
 obtain⟨lv,wv,R,y⟩:=id h;have c5:=R.k5;have z:=R.k4;have hlt:=R.lt;have HD:=ay h;have n0:=V.ok.i7;have n1:=V.t;have HS:=ay (zP a0 e0 n0);have D:Hid (th d s U X=if (jD U X (tot (s.L++s.W))).2=0 then(Mx s.lo s.hi (jM d (s.L++s.W)) (jD U X (tot (s.L++s.W))).1,0) else(0,(jD U X (tot (s.L++s.W))).2)):=rfl
 have RS:=λw=>ay (Gk U X (tot (s.L++s.W)) w a0 a1 e0 e1 n0 aa)
 have C4:=ay z;clear h R y z;generalize jD U X (tot (s.L++s.W))=r at *;generalize th d s U X=ans at *;obtain⟨y,er⟩:=r;obtain⟨av,ae⟩:=ans
 by_cases W:er=0
 ·subst W
  obtain⟨nn,s0,s1,dn,ne,-⟩:=HS.o rfl;have Q:Hid (av=Mx s.lo s.hi (jM d (s.L++s.W)) y/\ae=0):=by
   have:=D.o;simp only[aH,fM] at this;exact this
  have PT:=V.pts nn;have t:=qD s.lo s.hi (jM d (s.L++s.W));have z:=lf d (s.L++s.W);have q:=V.ok.len;have hk1:=V.k1;rw[aE] at z;have d0:=V.d0;have d1:=V.d1;have wk:=V.ok.wk;have hi1:=V.ok.hi1;have u:s.L++s.W≠[]:=λe=>by rw[e] at nn;simp[tot] at nn
  have v:ao s.L+ao s.W<=100000000:=aa
  have PC:=λx (R:aq w x)=>ay (uv g F d s.lo s.hi s.L s.W x (HD.o.keep R) V.ok.ok u v V.t aa  aa)
  have G:Hid (Mx s.lo s.hi (jM d (s.L++s.W)) y=mE s.hi y (s.lo,0) (kE s.hi (tot (jM d (s.L++s.W))) (jM d (s.L++s.W)) 0)):=rfl;have O:Hid (pts s.lo s.hi (jM d (s.L++s.W))=(s.lo,0)::kE s.hi (tot (jM d (s.L++s.W))) (jM d (s.L++s.W)) 0):=rfl;generalize kE s.hi (tot (jM d (s.L++s.W))) (jM d (s.L++s.W)) 0=S at G O;generalize pts s.lo s.hi (jM d (s.L++s.W))=T at *;have hT:ao T<=100000002:=aa
  have hT2:=PT.len;have N:=ay PT;clear D HS PT t z q v u V
  go_in
  go_wp2_with fail;refine((RS _).o).mono ?_
  rintro e x ⟨rfl,n⟩;have hz1:=n.size
  go_wp2_with fail;have hb2:aq w (x.alloc (.cells #[.int .u64 y] 36)):=n.alloc aa _
  refine((PC _ hb2).o).mono ?_
  rintro e Y ⟨v,rfl,o,hb3⟩;have hz3:=hb3.size;simp only[aI] at hz3;have hbw3:aq w Y:=hb2.trans (hb3.mono af)
  obtain⟨A,c,rfl,n1',Wg,z⟩:=o.rd.form;obtain⟨u,t,rfl,Jw,_,_⟩:=z.at_ (j:=0) (by omega)
  have FF:=ay z;have X1:Y.cell? ⟨x.heap.size,0,none⟩=some (.int .u64 y):=(hb3.cell (p:=⟨x.heap.size,0,none⟩) ad).trans (by simp[bU])
  clear o z
  go_wp2_with fail;have o:aq Y (Y.alloc (.cells #[.slice (some ⟨u,t,none⟩) (ao T) c] 242)):=(aC _ _).alloc (aD _) _;have M:=(o.cell (p:=⟨x.heap.size,0,none⟩) (by show x.heap.size<_;omega)).trans X1
  have L:(Y.alloc (.cells #[.slice (some ⟨u,t,none⟩) (ao T) c] 242)).cell? ⟨Y.heap.size,0,none⟩=some (.slice (some ⟨u,t,none⟩) (ao T) c):=by simp[bU]
  have E:=ay (FF.o.keep o);refine(ks 223 #[.pointer (some ⟨Y.heap.size,0,none⟩),.pointer (some ⟨x.heap.size,0,none⟩)] (ao T) (SQ T y) _ (enters_of func223 (by kernel_rfl) rfl) aa (λm i hi=>?_) (λa b hab R h=>?_)).mono ?_
  ·obtain⟨g5,OZ,I,_,_,K⟩:=E.o.at_ hi
   simp only[aW,bY] at I;obtain⟨rfl,rfl,-⟩:=I;rw[og hi];exact MH Y.heap.size x.heap.size _ _ c T y i _ hi aa L M K
  ·rw[og R]
   rw[og aa] at h
   rcases dM hab with rfl|hab
   ·exact h
   ·have:=N.o.mono a b aa R hab
    simp only[a_] at h |-;omega
  rintro e w5 ⟨i,q,rfl,hi,z,f,rfl⟩;have C:=ay z;have l:=ay f;have hb5:aq w ((Y.alloc (.cells #[.slice (some ⟨u,t,none⟩) (ao T) c] 242)).drewN q):=below_drewN (hbw3.trans (o.mono aa)) q
  have k4:=(hb5.cell (p:=⟨g,4,none⟩) (by show g<_;omega)).trans C4.o
  clear z f
  by_cases hiT:i=ao T
  ·subst hiT
   have H:Hid (mE s.hi y (s.lo,0) S=s.hi):=by
    refine tT s.hi y S (s.lo,0) (λj a B=>?_)
    have z:=C.o j (by rw[O.o];exact a)
    rw[og (by rw[O.o];exact a)] at z
    simp only[cD] at z;have e:T[j]'(by rw[O.o];exact a)=((s.lo,0)::S)[j]:=by congr 1
    rw[<-e];omega
   go_wp2;refine an ?_
   rw[Q.o.1,Q.o.2,G.o,H.o];exact⟨rfl,hb5⟩
  ·have f:i<ao T:=aa
   have h0:0<i:=by
    rcases bh i with rfl|h
    ·have z:=l.o 0 (aD _) f
     rw[og f,N.o.h0 f] at z;simp only[a_] at z;omega
    ·exact h
   have H:Hid (mE s.hi y (s.lo,0) S=jN T[i - 1].1 T[i].1 (y - T[i - 1].2) (T[i].2 - T[i - 1].2)):=by
    have b:=O.o;have:=zx s.hi y S (s.lo,0) i (by rw[<-b];exact f) h0 (λj a B J=>by
     have z:=C.o j J;rw[og aa] at z
     simp only[cD] at z;have e:T[j]' aa =((s.lo,0)::S)[j]:=by congr 1
     rw[<-e];omega) (by
     have z:=l.o i (aD _) f;rw[og f] at z;simp only[a_] at z;have e:T[i]=((s.lo,0)::S)[i]'(by rw[<-b];exact f):=by congr 1
     rw[<-e];exact z)
    show mE s.hi y (s.lo,0) S=_
    rw[this];have e:T[i]=((s.lo,0)::S)[i]'(by rw[<-b];exact f):=by congr 1
    have e1:T[i - 1]=((s.lo,0)::S)[i - 1]'(by rw[<-b];omega):=by congr 1
    rw[e,e1]
   have hsp1:y<T[i].2:=by
    have z:=l.o i (aD _) f;rw[og f] at z
    simpa using z
   have Jx:T[i - 1].2<=y:=by
    have z:=C.o (i - 1) aa
    rw[og aa] at z
    simpa using z
   have hm:=N.o.mono (i - 1) i aa f aa
   have hB1:=N.o.bd (i:=i - 1) aa
   have hB2:=N.o.bd f;obtain⟨g5,OZ,I,_,B,K⟩:=E.o.at_ (j:=i - 1) (by omega)
   simp only[aW,bY] at I;obtain⟨rfl,rfl,-⟩:=I;obtain⟨g6,SS,QZ,_,x6,y6⟩:=E.o.at_ f;simp only[aW,bY] at QZ;obtain⟨rfl,rfl,-⟩:=QZ;have hs4:=o.size;generalize Y.alloc (.cells #[.slice (some ⟨u,t,none⟩) (ao T) c] 242)=z at *;obtain⟨m,rfl⟩:∃m,i=m+1:=⟨i - 1,aa⟩
   simp only[da] at H Jx hm hB1 B K;obtain⟨b,hpa⟩:=au (T[m]);obtain⟨a,hpb⟩:=au (T[m+1]);rw[hpa,hpb] at H hm;rw[hpa] at Jx hB1 B K;rw[hpb] at hsp1 hB2 x6 y6;have J:=ay (aF (aF B K) (aF x6 y6));have j:=ay (aF M L);have jz:(0:Int)<=(m:Int):=aa
   have jz1:(m:Int)+1<(ao T:Int):=aa
   have Wh:=G;clear C l O G N hpa hpb hiT B K x6 y6 M L PC RS X1 C4 k4 E FF HD;have L:=j.o.2;have M:=j.o.1;have hnb:(((m:Int)+1) == (ao T:Int))=false:=af
   go_upto_region 8 with fail;have g1:(z.drewN q).cell? ⟨u,t+m * 2,none⟩=some (.int .i64 b.1):=J.o.1.1;have g2:(z.drewN q).cell? ⟨u,t+m * 2+1,none⟩=some (.int .u64 b.2):=J.o.1.2;have g3:(z.drewN q).cell? ⟨u,t+(m+1) * 2,none⟩=some (.int .i64 a.1):=J.o.2.1;have g4:(z.drewN q).cell? ⟨u,t+(m+1) * 2+1,none⟩=some (.int .u64 a.2):=J.o.2.2;have Y5:(z.drewN q).cell? ⟨Y.heap.size,0,none⟩=some (.slice (some ⟨u,t,none⟩) (ao T) c):=L;have K:(z.drewN q).cell? ⟨x.heap.size,0,none⟩=some (.int .u64 y):=M;have SU:z.heap.size<=(z.drewN q).heap.size:=aD _;clear M L J j;generalize z.drewN q=w5 at *;have j:(0:Int)<=(m:Int)+1:=aa
   have j2:(m:Int)<(ao T:Int):=aa
   have j3:((m:Int)+1).toNat=m+1:=aa
   have j4:IntKind.i64.wrap (m:Int)=(m:Int):=cy _ aa
   go_region_held3 (λP=>P.cell? ⟨u,t+m * 2,none⟩=some (.int .i64 b.1)/\P.cell? ⟨u,t+m * 2+1,none⟩=some (.int .u64 b.2)/\P.cell? ⟨u,t+(m+1) * 2,none⟩=some (.int .i64 a.1)/\P.cell? ⟨u,t+(m+1) * 2+1,none⟩=some (.int .u64 a.2)/\P.cell? ⟨Y.heap.size,0,none⟩=some (.slice (some ⟨u,t,none⟩) (ao T) c)) (go_keep) (fail)
   all_goals
    clear j j2 j3 j4;have HX:∀A B,((w5.alloc A).alloc B).cell? ⟨x.heap.size,0,none⟩=some (.int .u64 y):=λA B=>(((aC _ _).alloc (aD _) _).cell (p:=⟨x.heap.size,0,none⟩) (by show x.heap.size<_;simp;omega)).trans ((((aC _ _).alloc (aD _) _).cell (p:=⟨x.heap.size,0,none⟩) (by show x.heap.size<_;omega)).trans K)
    go_wp2_with fail;refine(zu b.1 a.1 (y - b.2) (a.2 - b.2) _ aa hm.1 aa  aa  aa  aa  aa).mono ?_
    rintro e w6 ⟨rfl,p⟩;have J:=p.size;simp only[aI,cW] at J
    go_wp2;refine an ?_
    rw[Q.o.1,Q.o.2,Wh.o,H.o];exact⟨rfl,nx p ah (((hb5.alloc aa _).alloc ah _).drew)⟩
 ·have Q:Hid (av=0/\ae=er):=by
   have:=D.o;simp only[aG W,fM] at this;exact this
  have R:(er != 0)=true:=by simpa using W
  clear D HS W
  go_in
  go_wp2_with fail;refine((RS _).o).mono ?_
  rintro e x ⟨rfl,n⟩;have hz1:=n.size
  go_wp2;refine an ?_
  rw[Q.o.1,Q.o.2];exact⟨rfl,bw⟩
def jb(d:Int)(s:St)(v:Int):Int:=sS s.lo s.hi (jM d (s.L++s.W)) v
def uw(v:Int)(w:World)(h:zO w g F d s)(X:Fit d s k)(v0:-9223372036854775808<=v)(v1:v<=9223372036854775807) :
 ar Oe 81 #[.pointer (some ⟨g,0,none⟩),.int .i64 v] w (aw w (.int .u64 (jb d s v))):=by
 obtain⟨lv,wv,V,z⟩:=id h;have C:=V.k5;have c4:=V.k4;have c3:=V.k3;have n:=V.lt;have HD:=ay h;have n0:=X.ok.i7;have n1:=X.t;have hw0:(w.alloc (.cells #[.int .i64 v] 2)).cell? ⟨w.heap.size,0,none⟩=some (.int .i64 v):=by simp[bU]
 have Q:aq w (w.alloc (.cells #[.int .i64 v] 2)):=(aC _ _).alloc (aD _) _;have b5:=(Q.cell (p:=⟨g,5,none⟩) n).trans C;have b4:=(Q.cell (p:=⟨g,4,none⟩) n).trans c4;have b3:=(Q.cell (p:=⟨g,3,none⟩) n).trans c3;clear V z h
 by_cases N:tot (s.L++s.W)=0
 ·have U:Hid (jb d s v=0):=by show jb d s v=0;unfold jb sS;rw[j',aH (.inl N)]
  rw[N] at C b5;clear N
  go_in
  go_wp2_with fail
  go_quiet (fail)
  go_wp2;refine an ?_
  rw[U.o];exact⟨rfl,bw⟩
 ·have nn:0<tot (s.L++s.W):=aa
  have hnb:(tot (s.L++s.W) == 0)=false:=by simpa using N
  by_cases hlo:v<s.lo
  ·have U:Hid (jb d s v=0):=by show jb d s v=0;unfold jb sS;rw[j',aH (.inr hlo)]
   go_in
   go_wp2_with fail
   go_quiet (fail)
   go_wp2;refine an ?_
   rw[U.o];exact⟨rfl,bw⟩
  ·by_cases hhi:s.hi<=v
   ·have U:Hid (jb d s v=tot (s.L++s.W)):=by show jb d s v=_;unfold jb sS;rw[j',aG aa,aH hhi]
    go_in
    go_wp2_with fail
    go_quiet (fail)
    go_wp2_with fail
    go_quiet (fail)
    go_wp2;refine an ?_
    rw[U.o];exact⟨rfl,bw⟩
   ·have U:Hid (jb d s v=oI (tot (s.L++s.W)) v (s.lo,0) (kE s.hi (tot (jM d (s.L++s.W))) (jM d (s.L++s.W)) 0)):=by
     show jb d s v=_;unfold jb sS;rw[j',aG aa,aG hhi]
    have PT:=X.pts nn;have t:=qD s.lo s.hi (jM d (s.L++s.W));have z:=lf d (s.L++s.W);have r:=X.ok.len;have hk1:=X.k1;rw[aE] at z;have d0:=X.d0;have d1:=X.d1;have wk:=X.ok.wk;have hi1:=X.ok.hi1;have u:s.L++s.W≠[]:=λe=>by rw[e] at nn;simp[tot] at nn
    have x:ao s.L+ao s.W<=100000000:=aa
    have PC:=λw1 (V:aq w w1)=>ay (uv g F d s.lo s.hi s.L s.W w1 (HD.o.keep V) X.ok.ok u x X.t aa  aa)
    have G:Hid (pts s.lo s.hi (jM d (s.L++s.W))=(s.lo,0)::kE s.hi (tot (jM d (s.L++s.W))) (jM d (s.L++s.W)) 0):=rfl;generalize kE s.hi (tot (jM d (s.L++s.W))) (jM d (s.L++s.W)) 0=S at G U;generalize pts s.lo s.hi (jM d (s.L++s.W))=T at *;have hT:ao T<=100000002:=aa
    have hT2:=PT.len;have y:=ay PT;clear PT t z r x u X N
    go_in
    go_wp2_with fail
    go_quiet (fail)
    go_wp2_with fail
    go_quiet (fail)
    go_wp2_with fail;refine((PC _ (below_drewN Q _)).o).mono ?_
    rintro e Y ⟨vv,rfl,o,M⟩;have hz3:=M.size;simp only[aI,hN] at hz3;have hbw3:aq w Y:=(below_drewN Q _).trans (M.mono (by simp only[aI,hN];omega))
    obtain⟨A,c,rfl,n1',Wg,z⟩:=o.rd.form;obtain⟨t,r,rfl,Jw,_,_⟩:=z.at_ (j:=0) (by omega)
    have FF:=ay z;have X1:Y.cell? ⟨w.heap.size,0,none⟩=some (.int .i64 v):=(M.cell (p:=⟨w.heap.size,0,none⟩) (by simp only[aI,hN];omega)).trans hw0
    clear o z b5 b4 b3
    go_wp2_with fail;have L:aq Y (Y.alloc (.cells #[.slice (some ⟨t,r,none⟩) (ao T) c] 242)):=(aC _ _).alloc (aD _) _;have E:=(L.cell (p:=⟨w.heap.size,0,none⟩) (by show w.heap.size<_;omega)).trans X1
    have D:(Y.alloc (.cells #[.slice (some ⟨t,r,none⟩) (ao T) c] 242)).cell? ⟨Y.heap.size,0,none⟩=some (.slice (some ⟨t,r,none⟩) (ao T) c):=by simp[bU]
    have x:=ay (FF.o.keep L);refine(ks 155 #[.pointer (some ⟨Y.heap.size,0,none⟩),.pointer (some ⟨w.heap.size,0,none⟩)] (ao T) (SR T v) _ (enters_of func155 (by kernel_rfl) rfl) aa (λm i K=>?_) (λa b l V h=>?_)).mono ?_
    ·obtain⟨g5,OZ,O,_,P,_⟩:=x.o.at_ K
     simp only[aW,bY] at O;obtain⟨rfl,rfl,-⟩:=O;rw[oh K];exact Gz Y.heap.size w.heap.size _ _ c T v i _ K aa D E P
    ·rw[oh V]
     rw[oh aa] at h
     rcases dM l with rfl|l
     ·exact h
     ·have:=y.o.mono a b aa V l
      simp only[a_] at h |-;omega
    rintro e w5 ⟨i,q,rfl,K,J,I,rfl⟩;have hb5:aq w ((Y.alloc (.cells #[.slice (some ⟨t,r,none⟩) (ao T) c] 242)).drewN q):=below_drewN (hbw3.trans (L.mono aa)) q
    have f:i<ao T:=by
     rcases bg i (ao T) with h|h
     ·exact h
     ·have z:=J (ao T - 1) aa
      rw[oh aa,y.o.hl aa] at z
      simp only[cD] at z;omega
    have h0:0<i:=by
     rcases bh i with rfl|h
     ·have z:=I 0 (aD _) f
      rw[oh f,y.o.h0 f] at z;simp only[a_] at z;omega
     ·exact h
    have a:Hid (oI (tot (s.L++s.W)) v (s.lo,0) S=(T[i - 1].2+(T[i].2 - T[i - 1].2) * (v - T[i - 1].1) / (T[i].1 - T[i - 1].1)) / 2):=by
     have u:=G.o;have:=zy (tot (s.L++s.W)) v S (s.lo,0) i (by rw[<-u];exact f) h0 (λj H B b=>by
      have z:=J j b;rw[oh aa] at z
      simp only[cD] at z;have e:T[j]' aa =((s.lo,0)::S)[j]:=by congr 1
      rw[<-e];omega) (by
      have z:=I i (aD _) f;rw[oh f] at z;simp only[a_] at z;have e:T[i]=((s.lo,0)::S)[i]'(by rw[<-u];exact f):=by congr 1
      rw[<-e];exact z)
     show oI (tot (s.L++s.W)) v (s.lo,0) S=_
     rw[this];have e:T[i]=((s.lo,0)::S)[i]'(by rw[<-u];exact f):=by congr 1
     have b:T[i - 1]=((s.lo,0)::S)[i - 1]'(by rw[<-u];omega):=by congr 1
     rw[e,b]
    have hsp1:v<T[i].1:=by
     have z:=I i (aD _) f;rw[oh f] at z
     simpa using z
    have Jx:T[i - 1].1<=v:=by
     have z:=J (i - 1) aa
     rw[oh aa] at z
     simpa using z
    have hm:=y.o.mono (i - 1) i aa f aa
    have hB1:=y.o.bd (i:=i - 1) aa
    have hB2:=y.o.bd f;obtain⟨g5,OZ,O,_,H,P⟩:=x.o.at_ (j:=i - 1) (by omega)
    simp only[aW,bY] at O;obtain⟨rfl,rfl,-⟩:=O;obtain⟨g6,SS,QZ,_,o,W⟩:=x.o.at_ f;simp only[aW,bY] at QZ;obtain⟨rfl,rfl,-⟩:=QZ;have hs4:=L.size;generalize Y.alloc (.cells #[.slice (some ⟨t,r,none⟩) (ao T) c] 242)=b at *;obtain⟨m,rfl⟩:∃m,i=m+1:=⟨i - 1,aa⟩
    simp only[da] at a Jx hm hB1 H P;obtain⟨z,B⟩:=au (T[m]);obtain⟨u,j⟩:=au (T[m+1]);rw[B,j] at a hm;rw[B] at Jx hB1 H P;rw[j] at hsp1 hB2 o W;have hE2:Hid (jb d s v=(z.2+(u.2 - z.2) * (v - z.1) / (u.1 - z.1)) / 2):=U.o.trans a.o;have jz:(0:Int)<=(m:Int):=aa
    have jz1:(m:Int)+1<(ao T:Int):=aa
    clear J I G y B j PC X1 x FF HD a U hw0 Q M hbw3;have SU:b.heap.size<=(b.drewN q).heap.size:=aD _;replace H:(b.drewN q).cell? ⟨t,r+m * 2,none⟩=some (.int .i64 z.1):=H;replace P:(b.drewN q).cell? ⟨t,r+m * 2+1,none⟩=some (.int .u64 z.2):=P;replace o:(b.drewN q).cell? ⟨t,r+(m+1) * 2,none⟩=some (.int .i64 u.1):=o;replace W:(b.drewN q).cell? ⟨t,r+(m+1) * 2+1,none⟩=some (.int .u64 u.2):=W;replace D:(b.drewN q).cell? ⟨Y.heap.size,0,none⟩=some (.slice (some ⟨t,r,none⟩) (ao T) c):=D;have J:(b.drewN q).cell? ⟨w.heap.size,0,none⟩=some (.int .i64 v):=E;clear E;generalize b.drewN q=w5 at *;have a:=λw=>ay (rZ (u.2 - z.2) (v - z.1) (u.1 - z.1) w aa  aa  aa  aa  aa  aa)
    have M:=yh (p:=u.2 - z.2) (x:=v - z.1) (y:=u.1 - z.1) aa  aa  aa  aa rfl
    generalize (u.2 - z.2) * (v - z.1) / (u.1 - z.1)=fr at a M hE2;generalize (u.2 - z.2) * (v - z.1) % (u.1 - z.1)=fm at a
    go_upto_region 7 with fail;have j:(0:Int)<=(m:Int)+1:=aa
    have j2:(m:Int)<(ao T:Int):=aa
    have j3:((m:Int)+1).toNat=m+1:=aa
    have j4:IntKind.i64.wrap (m:Int)=(m:Int):=cy _ aa
    go_region_held3 (λR=>R.cell? ⟨t,r+m * 2,none⟩=some (.int .i64 z.1)/\R.cell? ⟨t,r+m * 2+1,none⟩=some (.int .u64 z.2)/\R.cell? ⟨t,r+(m+1) * 2,none⟩=some (.int .i64 u.1)/\R.cell? ⟨t,r+(m+1) * 2+1,none⟩=some (.int .u64 u.2)/\R.cell? ⟨Y.heap.size,0,none⟩=some (.slice (some ⟨t,r,none⟩) (ao T) c)) (go_keep) (fail)
    all_goals
     clear j j2 j3 j4;have HX:∀A B,((w5.alloc A).alloc B).cell? ⟨w.heap.size,0,none⟩=some (.int .i64 v):=λA B=>(((aC _ _).alloc (aD _) _).cell (p:=⟨w.heap.size,0,none⟩) (by show w.heap.size<_;simp;omega)).trans ((((aC _ _).alloc (aD _) _).cell (p:=⟨w.heap.size,0,none⟩) (by show w.heap.size<_;omega)).trans J)
     have I:IntKind.u64.wrap (IntKind.u64.wrap v - IntKind.u64.wrap z.1)=v - z.1:=by simp only[g_];omega
     have G:IntKind.u64.wrap (IntKind.u64.wrap u.1 - IntKind.u64.wrap z.1)=u.1 - z.1:=by simp only[g_];omega
     go_wp2_with fail;refine((a _).o).mono ?_
     rintro e w6 ⟨rfl,p⟩;have E:=p.size;simp only[aI,cW] at E;clear I G;have⟨I,G⟩:=oW p
     go_wp2;refine an ?_
     rw[hE2.o];exact⟨rfl,nx p ah (((hb5.alloc aa _).alloc ah _).drew)⟩
structure Qy(g:Nat)(d:Int)(w w':World):Prop where
 touch:Touch (λk=>k=g) w w'
 c0:w'.cell? ⟨g,0,none⟩=some (.int .i64 d)
def Qy.gR(h:Qy g d w w')(v:Value):Qy g d w (w'.setCell ⟨g,1,none⟩ v):=
 ⟨h.touch.setCell (.inl rfl) v,(bX _ _ _ _ ad).trans h.c0⟩
def oO.low(h:oO w g F d L W lo hi):∀k,F k->k<w.heap.size:=by
 obtain⟨y,x,_,_,_,_,_,_,_,z⟩:=h;exact z
def ux(g:Nat)(F:Nat->Prop)(d X Y:Int)(L W:List Mn)(w:World)(h:oO w g F d L W X Y)(q:kg (L++W))(hlen:ao L+ao W<=100000000)(j:tot (L++W)<=281474976710656)(I:0<=d)(H:d<=1000) :
 ar Oe 115 #[.pointer (some ⟨g,0,none⟩)] w λe t=>e=.returned (.tuple #[])/\∃z:Nat->Prop,(∀k,z k->F k\/w.heap.size<=k)/\oO t g z d (jM d (L++W)) [] X Y/\Touch F w t:=by
 have N:=ay h;obtain⟨lv,wv,y,r,p,u,a,V,U,T⟩:=h;have z:=y.k0;have x:=y.k1;have v:=y.k2;have G:=y.frozen 1;have E:=y.frozen 2;have s:=y.lt;have R:=ay y;obtain⟨A,n,rfl,na,ma,f⟩:=r.form;obtain⟨B,cb,rfl,nb,mb,b⟩:=p.form;have c:=ay u;have Q:=ay z;have P:=ay x;have O:=ay v;have M:=ay q;have S:ao (L++W)<=1000000000:=by rw[aE];omega
 clear y r p f b q u a V U T z x v
 go_in
 go_wp2_with fail;have r:∀t,aq w t->Qy g d w t:=λt y=>⟨Touch.of_below y (aD _),(y.cell (p:=⟨g,0,none⟩) s).trans Q.o⟩
 have Z:=ay (λ(t:World) (z:(Qy g d w) t)=>(z.c0))
 refine i' (Qy g d w) (gW 0 6 (ib 6 (ib 7 (gW 8 2 (ib 10 []))))) (r _ (aC _ _).drew) ?_
 iterate 6 refine hC ?_
 refine iy λK u=>?_
 go_simp;refine(jx g F d X Y L W _ (N.o.keep (aC _ _).drew) aa).mono ?_
 rintro e o ⟨m,rfl,z,D⟩;have a:aq w o:=((aC _ _).drew).trans (D.mono ah)
 have l:=a.size;have J:=ay z;clear z;refine u _ _ (r _ a) ?_
 clear u K;refine iy λK u=>?_
 go_simp;refine(od d m (L++W) _ J.o.rd M.o S j I H).mono ?_
 rintro e T ⟨v3,rfl,z,C⟩;have x:aq w T:=a.trans (C.mono l);have hz3:=x.size;have q:=ay z;clear z;refine u _ _ (r _ x) ?_
 clear u K
 iterate 2 refine hC ?_
 refine iy λK u=>?_
 obtain⟨f,b,rfl,n3,m3,z⟩:=q.o.form;clear z;have k1:=(x.frozen (p:=⟨g,1,none⟩) s).trans G;have k3:=(x.cell (p:=⟨g,1,none⟩) s).trans P.o
 go_simp;refine u _ _ ((r _ x).gR _) ?_
 clear u K;refine gM ?_
 have k2:=(x.frozen (p:=⟨g,2,none⟩) s).trans E;have k4:=(x.cell (p:=⟨g,2,none⟩) s).trans O.o
 go_wp2_with fail;refine cp (v:=.tuple #[]) (by simp[results,Tryz.results115,go_sem, *];try rfl) rfl ?_
 refine⟨rfl,λk=>k=g\/(Value.slice f (ao (jM d (L++W))) b).ownBlock=some k,?_,?_,?_⟩
 ·rintro k (rfl|z)
  ·exact .inl c.o
  ·exact .inr (by have:=(q.o.lt k z).1;omega)
 ·have U:∀k,(Value.slice f (ao (jM d (L++W))) b).ownBlock=some k->w.heap.size<=k/\k<T.heap.size:=λk z=>by have:=q.o.lt k z;omega
  have V:∀i,(Value.slice f (ao (jM d (L++W))) b).ownBlock≠some (⟨g,i,none⟩:Addr).block:=λi z=>by have:=U g z;omega
  refine⟨_,_,((R.o.keep x).gR 1 _).gR 2 _,((q.o.more (bB _)).far (V 1) _).far (V 2) _,g7.nil_ _ _,.inl rfl,λk z=>.inr z,λk z=>(by cases z),λk z=>(by cases z),λk z=>?_⟩
  simp only[bW]
  rcases z with rfl|z
  ·omega
  ·have:=U k z;omega
 ·exact((Touch.of_below x (aD _)).setCell (.inl c.o) _).setCell (.inl c.o) _
def oO.cells{d' lo' hi':Int}{lv wv:Value}(u:gN w g 111 #[.int .i64 d,lv,wv,.int .i64 lo,.int .i64 hi])(t:g7 0 w lv L)(s:g7 0 w wv W)
 (q:F g/\(∀k,lv.ownBlock=some k->F k)/\(∀k,wv.ownBlock=some k->F k)/\(∀k,wv.ownBlock=some k->lv.ownBlock≠some k)/\(∀k,F k->k<w.heap.size))
 (y:Touch (λk=>k=g) w w') (p:gN w' g 111 #[.int .i64 d',lv,wv,.int .i64 lo',.int .i64 hi']):oO w' g F d' L W lo' hi':=by
 obtain⟨c,x,v,r,z⟩:=q;have b:=u.kr t ab
 have a:=u.kr s ab
 exact⟨lv,wv,p,t.stay λk e=>y.block k (z k (x k e)) (λh=>b (by rw[e,h])),s.stay λk e=>y.block k (z k (v k e)) (λh=>a (by rw[e,h])),c,x,v,r,λk f=>aR (z k f) y.size⟩
def wX(a b:Int)(w:World)(h:oO w g F d L W lo hi)(M:ao L+ao W<=100000000) :
 ar Oe 114 #[.pointer (some ⟨g,0,none⟩),.int .i64 a,.int .i64 b] w λe Y=>e=.returned (.tuple #[])/\oO Y g F d L W (if ao L+ao W=0 then a else min lo a) (if ao L+ao W=0 then b else max hi b)/\Touch (λk=>k=g) w Y:=by
 obtain⟨K,E,z,x,v,c,u,q,p,f⟩:=h;obtain⟨A,Q,rfl,H,J,S⟩:=x.form;obtain⟨B,P,rfl,G,I,R⟩:=v.form;have y:=ay z;have s:=ay x;have r:=ay v;have t:=ay (aF c (aF u (aF q (aF p f))));have X:=z.k1;have V:=z.k2;have U:=z.k3;have T:=z.k4;have O:=z.frozen 3;have N:=z.frozen 4;clear z x v c u q p f S R
 by_cases x:ao L+ao W=0
 ·simp only[aH x]
  have q:(((ao L:Int)+(ao W:Int)) == 0)=true:=af
  clear x;have u:IntKind.i64.wrap ((ao L:Int)+(ao W:Int))=(ao L:Int)+(ao W:Int):=cy _ aa
  go_in
  go_wp2_with fail
  go_quiet (fail)
  clear u
  go_wp2_with fail;refine cp (v:=.tuple #[]) (by simp[results,Tryz.results114,go_sem, *];try rfl) rfl ?_
  have z:=((((((Touch.refl (λk=>k=g) w).drewN nq).setCell (p:=⟨g,3,none⟩) (.inl rfl) (.int .i64 a)).setCell (p:=⟨g,4,none⟩) (.inl rfl) (.int .i64 b)).setCell (p:=⟨g,3,none⟩) (.inl rfl) (.int .i64 a)).setCell (p:=⟨g,4,none⟩) (.inl rfl) (.int .i64 b))
  exact⟨rfl,oO.cells y.o s.o r.o t.o z (((((y.o.drewN nq).gR 3 _).gR 4 _).gR 3 _).gR 4 _),z⟩
 ·simp only[aG x]
  have q:(((ao L:Int)+(ao W:Int)) == 0)=false:=af
  clear x;have u:IntKind.i64.wrap ((ao L:Int)+(ao W:Int))=(ao L:Int)+(ao W:Int):=cy _ aa
  go_in
  go_wp2_with fail
  go_quiet (fail)
  clear u
  go_wp2_with fail;refine cp (v:=.tuple #[]) (by simp[results,Tryz.results114,go_sem, *];try rfl) rfl ?_
  have z:=(((Touch.refl (λk=>k=g) w).drewN nq).setCell (p:=⟨g,3,none⟩) (.inl rfl) (.int .i64 (min lo a))).setCell (p:=⟨g,4,none⟩) (.inl rfl) (.int .i64 (max hi b))
  exact⟨rfl,oO.cells y.o s.o r.o t.o z (((y.o.drewN nq).gR 3 _).gR 4 _),z⟩
end Go.Proofs.YtdicblkhpcphfaaGreat
