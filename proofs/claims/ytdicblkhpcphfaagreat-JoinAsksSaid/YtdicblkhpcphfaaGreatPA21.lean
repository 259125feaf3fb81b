/- Parts. No condition. -/
import Derived.Test.YtdicblkhpcphfaaGreatPA20
set_option maxRecDepth 100000
set_option maxHeartbeats 0
set_option linter.all false
namespace Go.Proofs.YtdicblkhpcphfaaGreat
open Tryz Go.RowKit Go.Lib Go.Shelf
open _root_.List renaming length→ao
open _root_.Go renaming Calls→ar
open Tryz renaming prog→Oe
namespace D
section
variable {y y2 lo hi dg u m bk bt : Nat} {gr : Bool} {l t : List Pr} {F Fy : Ft}
def Hl(w:World)(h:nc y lo hi dg u m gr bk l F w)(hy:nc y2 lo hi dg u m gr bt t Fy w)(ok:iG lo hi dg u m gr bk l)(v:iG lo hi dg u m gr bt t) :
 ar Oe 49 #[.pointer (some ⟨y,0,none⟩),.pointer (some ⟨y2,0,none⟩)] w (tk (nc y lo hi dg u m gr (M_ l t bk bt) (M9 l t)) F (Dd l t) w):=by
 have HH:=ay h;have a:Hid (Dd l t=if 4611686018427387904<tot l+tot t then 6 else 0):=ay rfl
 have g:Hid (M9 l t=if Dd l t=0 then hX l t else l):=ay rfl
 have p:Hid (M_ l t bk bt=if Dd l t=0 then max bk bt else bk):=ay rfl
 obtain⟨z,S,d,O,P,Q⟩:=h;obtain⟨z2,T,s,_⟩:=hy;have t0:=gP ok.pos;have t1:=gP v.pos;have l0:=ok.len;have l1:=v.len;have s0:=ok.sum;have s1:=v.sum;have M:Hid (∀r,aq w r->_):=ay (λr U=>lN z l r ((d.keep U).rd) ok.pos aa  aa)
 have N:Hid (∀r,aq w r->_):=ay (λr U=>lN z2 t r ((s.keep U).rd) v.pos aa  aa)
 have I:=ay (aF ok v);have X:=ay (aF S (aF d (aF O (aF P Q))));have Y:=ay (aF T s);have hyl:=T.lt;obtain⟨A,c,rfl,_,_,_⟩:=d.form;obtain⟨A2,c2,rfl,_,_,V⟩:=s.form;have HF2:=ay V;have hne2:=own_ne S s ab
 obtain⟨J,b⟩:=au (Dd l t);rw[b] at a g p |-;obtain⟨B,f⟩:=au (M9 l t);obtain⟨C,q⟩:=au (M_ l t bk bt);rw[f] at g |-;rw[q] at p |-;clear b f q V;have R:Hid (IntKind.u64.wrap (4611686018427387904 - tot l)=4611686018427387904 - tot l):=ay (by rw[g_];omega)
 have q:Hid (4611686018427387904<tot l+tot t<->4611686018427387904 - tot l<tot t):=ay aa
 clear S d O P Q ok v T s;have Bd:aq w w.drew:=(aC _ _).drew;have f:aq w w.drew.drew:=Bd.drew
 go_in
 go_upto_region 1 with fail;refine i' (aq w) (gW 0 20 []) (Bd) ?_
 iterate 20 refine hC (h:=λL x=>by have k0:=(X.o.1.keep x).cell 0;have k1:=(X.o.1.keep x).k1;have k2:=(X.o.1.keep x).k2;have k5:=(X.o.1.keep x).k5;have j0:=(Y.o.1.keep x).k0;have j1:=(Y.o.1.keep x).k1;have j2:=(Y.o.1.keep x).k2;have j5:=(Y.o.1.keep x).k5;simp only[aA,az,aB] at k0;exact Qv) ?_
 refine gM ?_
 go_upto_region 3 with fail;have v:(4611686018427387904 - tot l<tot t)\/¬(4611686018427387904 - tot l<tot t):=Classical.em _;refine i' (aq w) (gW 0 4 (gW 5 4 (ib 4 (ib 9 (gW 10 2 []))))) (f) ?_
 iterate 8 refine hC (h:=λL x=>by have ew:=R.o;have V:=(X.o.1.keep x).k7;have G:=(Y.o.1.keep x).k7;exact Qv) ?_
 refine iy λK b=>?_
 go_simp;refine(N.o w.drew.drew f).mono ?_
 rintro e H ⟨rfl,rfl⟩;refine b _ _ (f) ?_
 clear b K;refine iy λK b=>?_
 go_simp;refine(M.o w.drew.drew f).mono ?_
 rintro e H ⟨rfl,rfl⟩;refine b _ _ (f) ?_
 clear b K
 iterate 2 refine hC (h:=λL x=>by have ew:=R.o;have V:=(X.o.1.keep x).k7;have G:=(Y.o.1.keep x).k7;exact Qv) ?_
 refine gM ?_
 by_cases hc:4611686018427387904 - tot l<tot t
 ·obtain rfl:J=6:=by rw[a.o,aH (q.o.2 hc)]
  obtain rfl:B=l:=by rw[g.o];rfl
  obtain rfl:C=bk:=by rw[p.o];rfl
  clear q a g p
  go_wp2
  go_ret;exact kj (mN y lo hi dg u m gr C B) HH.o rfl f
 obtain rfl:J=0:=by rw[a.o,aG (λh=>hc (q.o.1 h))]
 obtain rfl:B=hX l t:=by rw[g.o];rfl
 obtain rfl:C=max bk bt:=by rw[p.o];rfl
 clear q a g p R M N v;have y7:=(Y.o.1.keep f).k7
 go_wp2
 go_loopg [6] (ao t) (λq s wr=>∃(j:Nat) (v:Value),q=ao t - j/\j<=ao t/\s=.int .i64 j/\Hid (gN wr y 128 #[.int .i64 lo,.int .i64 hi,.int .i64 dg,.int .i64 u,.int .i64 m,.bool gr,.int .i64 bk,v]/\gO il 0 wr v (hX l (t.take j))/\(∀k,v.ownBlock=some k->F k\/w.heap.size<=k))/\Hid (Touch (λk=>k=y) w wr))
 exact⟨0,_,rfl,aa,rfl,ay ⟨X.o.1.keep f,by rw[cY,om];exact X.o.2.1.keep f,λk e=>.inl (X.o.2.2.2.1 k e)⟩,ay (Touch.of_below f (aD _))⟩
 case round=>
  obtain⟨j,v,s,hj,rfl,g,d⟩:=hrel;have HQ:=ay s;clear s
  by_cases O:j<ao t
  ·obtain⟨Q,R,rfl,i,q,s⟩:=j7 HF2.o O
   have W:Q≠y:=λe=>hne2 (by rw[e];rfl)
   have q:=(ik d.o (R+j * 2) i W).trans q;have s:=(ik d.o (R+j * 2+1) i W).trans s;have o:Q<wr.heap.size:=by have:=d.o.size;omega
   have N:=ay (aF q s);clear q s;have hji:(j:Int)<(ao t:Int):=aa
   have hmem:t[j]∈t:=aX O;obtain⟨z,P⟩:=au (t[j].1);obtain⟨n,T⟩:=au (t[j].2);rw[P,T] at N;have hn0:0<n:=by rw[<-T];exact I.o.2.pos _ hmem
   have a:iu (hX l (t.take j)):=kJ I.o.1.pos (λp s=>I.o.2.pos p (cB s))
   have q:ao (hX l (t.take j))<=1000000000:=by
    have E:=tC (t.take j) l;have S:=fF j t;omega
   have s:=hQ O;rw[T] at s;have D:=iV I.o.2.pos (j+1);have M:tot (hX l (t.take j))+n<=4611686018427387904:=by rw[mj];omega
   have Fj:Hid (hX l (t.take (j+1))=hO z n (hX l (t.take j))):=ay (by rw[aM O,uH,P,T])
   have CP:Hid (∀r,aq wr r->_):=ay (λr U=>oq v z n (hX l (t.take j)) r ((g.o.2.1.keep U).rd) a aa  aa q)
   obtain⟨A5,c5,rfl,_,_,_⟩:=g.o.2.1.form;clear s D a q M;have r:aq wr wr.drew:=(aC _ _).drew;generalize hX l (t.take j)=M at *
   go_upto_region 9 with fail;refine ki (aq wr) 16 (gW 0 15 (ib 15 [])) (r) ?_
   iterate 15 refine jw (h:=λL x=>by have V:=(g.o.1.keep x).cell 7;have p0:=(x.cell (p:=⟨Q,R+j * 2,none⟩) o).trans N.o.1;have p1:=(x.cell (p:=⟨Q,R+j * 2+1,none⟩) o).trans N.o.2;simp only[aA,az,aB] at V;exact Qv) ?_
   refine mg λK b=>?_
   go_simp;refine(CP.o wr.drew r).mono ?_
   rintro e H ⟨v3,rfl,q,U⟩;have a:=ay q;have s:aq wr H:=r.trans U;clear q;refine b _ _ (s) ?_
   clear b K;refine gU ?_
   simp only[bc,bp];have V:=(g.o.1.keep s).k7;have f7:=(g.o.1.keep s).frozen 7;obtain⟨A3,D,rfl,_,_,_⟩:=a.o.form
   go_wp2_with fail;refine gQ ?_
   go_wp2
   go_roundg (ao t - (j+1))
   case measure=>have:=HQ.o;omega
   case rel=>
    refine⟨j+1,_,rfl,aa,ag,ay ⟨(g.o.1.keep s).gR 7 _,?_,λk e=>.inr ?_⟩,ay (((d.o.trans (Touch.of_below (F:=λk=>k=y) s (aD _)) (λ_ h=>.inl h)).setCell (p:=⟨y,7,none⟩) (.inl rfl) _))⟩
    ·rw[Fj.o];exact(a.o.far (own_ne (g.o.1.keep s) a.o ab) _).more (bB _)
    ·have:=(a.o.lt k e).1;have:=d.o.size;have q:wr.drew.heap.size=wr.heap.size:=rfl;omega
  ·obtain rfl:j=ao t:=aa
   have s:=g;rw[bj (aD _)] at s;clear g;have r:aq wr wr.drew:=(aC _ _).drew;have q:y2=y->bt=bk:=λe=>by
    have E:=X.o.1.cell 6;have S:=Y.o.1.cell 6;rw[e] at S;rw[E] at S;simp at S
    omega
   have T:Hid (wr.cell? ⟨y2,6,none⟩=some (.int .i64 bt)):=ay (by
    by_cases e:y2=y
    ·rw[q e,e]
     have k:=s.o.1.cell 6
     simpa only[aA,az,aB] using k
    ·have k:=Y.o.1.k6
     exact(ik d.o 6 hyl e).trans k)
   clear q;have U:y2<wr.heap.size:=by have:=d.o.size;omega
   go_upto_region 10 with fail;refine ki (aq wr) 12 (gW 0 12 []) (r) ?_
   iterate 12 refine jw (h:=λL x=>by have q:=(s.o.1.keep x).cell 6;have R:=(x.cell (p:=⟨y2,6,none⟩) U).trans T.o;simp only[aA,az,aB] at q;exact Qv) ?_
   refine gU ?_
   simp only[bc,bp];have q:=(s.o.1.keep r).k6;have S:=(s.o.1.keep r).frozen 6
   go_wp2_with fail;refine gQ ?_
   go_wp2
   go_ret;rw[show max (bk:Int) (bt:Int)=((max bk bt:Nat):Int) by omega]
   have a:Touch F w ((wr.setCell ⟨y,6,none⟩ (.int .i64 ((max bk bt:Nat):Int))).drew):=((d.o.trans (Touch.refl _ _) (λ_ h=>.inl h):Touch (λk=>k=y) w wr).setCell (p:=⟨y,6,none⟩) (.inl rfl) _ |>.drew).mono (λk h=>by cases h;exact X.o.2.2.1)
   have x:=s.o.2.1.far (p:=⟨y,6,none⟩) (own_ne s.o.1 s.o.2.1 ab) (.int .i64 ((max bk bt:Nat):Int))
   refine⟨rfl,⟨_,s.o.1.gR 6 _,x,.inl X.o.2.2.1,λk e=>(s.o.2.2 k e).imp id (λh=>⟨h,?_⟩),ke X.o.2.2.2.2 a.size⟩,a⟩
   exact(x.lt k e).2
end
end D
namespace K
variable{α:Type}{w w':World}{a g j k led n:Nat}{F:Nat->Prop}{lv v:Value}{B l:List Int}{vs:List Sv}{L:LL}{t:TypeId}{y:Int}
def A9{P:Program}(E:uJ α){ts:TypeId}(r:TypeInfo)(z:Value)(g:Nat)(J:P.underlying ts=some (.slice E.t))(T:P.info? E.t=some r)(H:r.zero=some z)(L:r.size=E.k)(U:r.bytes=g)(G:z.cells.size=E.k)(S:0<E.k)(X:g<=128)
  {o:Oper} {a:Act} {K:Act->World->Prop} {Q:Exit->Act->World->Prop} (s x:Operand)
 (O:o.op=.call {callee:=.builtin .append,args:=#[s,x],argTypes:=#[ts,ts]})
 (p:Nat) (v:Value) (xs:List α) (M:a.eval s=v) (N:gO E p w v xs) (u:Value) (y:List α) (I:a.eval x=u) (f:iA E w u y) (R:ao xs+ao y<=1099511627776) (V:p<=w.heap.size)
 (h:∀t q,gO E p q t (xs++y)->w.grownBy q v.ownBlock->(t.ownBlock=v.ownBlock\/t.ownBlock=some w.heap.size)->K (a.put o.dst t) q):o.wp P a w K Q:=by
 obtain⟨A,c,rfl,_,_,_⟩:=f.form;have F:(ao xs+ao y) * g<=1099511627776 * 128:=cT R X;refine kF w s x ts O p E.t r z E.k g J T H L U G S v (ao xs) (cellsE E xs) M N A (ao y) c (cellsE E y) I f (mK E y) (by unfold maxLen;omega) aa V λt q d b Y=>h t q ?_ b Y
 unfold gO;rw[aE,js];exact d
def Aside(F:Nat->Prop)(w:World)(v:Value)(l:List Int):Prop:=∀W,(∀k,k<w.heap.size->¬F k->W.heap[k]?=w.heap[k]?)->w.heap.size<=W.heap.size->iA ig W v l
def Aside.rd(h:Aside F w v l):iA ig w v l:=h w (λ_ _ _=>rfl) (aD _)
def Aside.next{G:Nat->Prop}(h:Aside F w v l)(t:∀k,k<w.heap.size->¬F k->w'.heap[k]?=w.heap[k]?)(q:w.heap.size<=w'.heap.size)(x:∀k,G k->F k\/w.heap.size<=k):Aside G w' v l:=
 λW y r=>h W (λk s z=>(y k aa (λu=>(x k u).elim z aa)).trans (t k s z)) aa
def Aside.lT{base:Nat}(h:gO ig base w v l)(y:∀k,v.ownBlock=some k->¬F k):Aside F w v l:=
 λ_ z _=>(h.stay λk e=>z k (h.lt k e).2 (y k e)).rd
def A_(L:LL)(j:Nat):L++List.replicate (j+1) []=(L++List.replicate j [])++[([]:List Int)]:=by rw[List.replicate_succ',aO]
def oy.TB(h:oy F w g k n led lv vs L)(x:0<ao L):∃z c,lv=.slice (some ⟨z,0,none⟩) (ao L) c/\z<w.heap.size/\z≠g/\F z:=by
 have u:0<ao vs:=by rw[h.iC.len];exact x
 obtain⟨z,c,e,_,v,_,_⟩:=h.iC.row.pos u;rw[h.iC.len] at e;refine⟨z,c,e,v,λy=>h.g1 ?_,h.iC.fl z ?_⟩
 ·rw[e,y];rfl
 ·rw[e];rfl
def put_any(h:Nat)(u:Value)(v:List Int)(w:World)(P:oy F w g k n led lv vs L)(s:Aside F w u v)(r:mQ (lvl L h))(hh:h<=100)(hL:ao L<=1000)(hl:ao (lvl L h)<=1000000000)(hn:ao v<=1000000000) :
 ar Oe 177 #[.pointer (some ⟨g,0,none⟩),.int .i64 h,u] w λe O=>e=.returned (.tuple #[])/\∃z y x,(∀k,z k->F k\/w.heap.size<=k)/\(∀k,F k->z k)/\oy z O g k n led y x (kk L h v)/\Touch F w O:=by
 obtain⟨i0,z,t,x,y⟩:=cx Dl;have HI:=ay z;have HZ:=ay t;have Rw:=ay x;have PO:=ay y;clear z t x y;obtain⟨i1,z,t,x,y⟩:=cx QH;have JI:=ay z;have JZ:=ay t;have KA:=ay x;have KD:=ay y;clear z t x y;have HU:=ay s;have HS:=ay P;have Mp:=ay r;obtain⟨A0,c0,rfl,_,_,_⟩:=s.rd.form;clear P s r
 go_in
 go_wp2
 go_loopg [6] (h+1 - ao L) (λq _ wr=>∃(j:Nat) (Q:Nat->Prop) (Cs:Value) (Y:List Sv),q=h+1 - ao L - j/\(j=0\/ao L+j<=h+1)/\Hid ((∀k,Q k->F k\/w.heap.size<=k)/\(∀k,F k->Q k)/\oy Q wr g k n led Cs Y (L++List.replicate j [])/\Touch F w wr))
 exact⟨0,F,lv,vs,rfl,.inl rfl,ay ⟨λk t=>.inl t,λk t=>t,by rw[List.replicate_zero,bT];exact HS.o,Touch.refl _ _⟩⟩
 case round=>
  obtain⟨j,Q,Cs,Y,z,hj,d⟩:=hrel;have HQ:=ay z;clear z;have hx:=d.o;have hw1:=hx.2.2.2.size;have y:=hx.2.2.1;obtain⟨A1,c1,rfl,hc1,hc2,_⟩:=y.form;have C:=y.cell1;have hgr:=y.blk.lt;have D:ao (L++List.replicate j ([]:List Int))=ao L+j:=ad
  rw[D] at C hc1 y
  by_cases hle:ao L+j<=h
  ·have N:((ao L+j:Nat):Int)<=(h:Int):=aa
   have q:=y.iC.row;have U:=ay q;have M:=ay y;have x:∀z,(Value.slice A1 (ao L+j) c1).ownBlock=some z->Q z:=λz e=>y.iC.fl z e
   have s:(Value.slice A1 (ao L+j) c1).ownBlock≠some g:=y.g1;have r:=ay x;have V:=ay s;have T:ao Y=ao L+j:=by rw[y.iC.len,D]
   clear q y hx x s D
   go_wp2_with (at_builtin;refine g8 qV (ts:=112) i1 _ 24 underlying112 JI.o JZ.o KA.o KD.o rfl ab  ab rfl (.tmp 17) (.tmp 18) rfl 0 (.slice A1 (ao L+j) c1) Y rfl (U.o.alloc _) _ [(none,0,0)] rfl (iA.hJ (E:=qV) wr (none,0,0) _ rfl _ rfl _ rfl) af aa ?_;intro v7 B f X x;have s:=(X.block g af (λe=>V.o e.symm)).trans (gN.alloc M.o.blk _);have S:=gN.cell s 1;have R:=gN.frozen s 1;simp only[aA,aB,az] at S;have l:=ay f;have a:=ay X;have A:=ay x;obtain⟨c,b,rfl,_,_,_⟩:=f.form;clear f X x s;go_simp)
   have o:ao (Y++[((none,0,0):Sv)])=ao L+j+1:=by rw[aE,T];rfl
   have f:=l.o;have x:=A.o;have X:=a.o;rw[o] at f x;have s:=l6.more (M.o.keep ((aC _ _).alloc (aD _) (.cells #[.slice none 0 0] 196))) f X x
   go_roundg (h+1 - ao L - (j+1))
   case measure=>have:=HQ.o;omega
   case rel=>
    refine⟨j+1,_,_,_,rfl,.inr aa,ay ⟨?_,?_,by rw[A_];exact s,?_⟩⟩
    ·intro z q
     rcases q with q|q
     ·exact d.o.1 z q
     ·rcases x with p|p
      ·rw[p] at q;exact d.o.1 z (r.o z q)
      ·rw[p] at q
       injection q with q;rw[<-q];refine .inr ?_
       simp;omega
    ·exact λz q=>.inl (d.o.2.1 z q)
    ·refine Touch.setCell (Touch.grown (Touch.alloc d.o.2.2.2 _) X λz q=>?_) ?_ _
     ·exact d.o.1 z (r.o z q)
     ·exact .inl HS.o.fg
  ·have E:ext L h=L++List.replicate j []:=by
    unfold ext
    congr 2
    omega
   rw[<-E] at y;have i:h<ao (ext L h):=by rw[lu];omega
   have hlen:ao (ext L h)=ao L+j:=by rw[E,D]
   obtain⟨r,cl,W,hgl,Ds,qW⟩:=oy.TB y aa
   rw[hlen] at W;injection W with W e2 e3;subst W;subst e3;have U:h<ao Y:=by rw[y.iC.len];exact i
   have g2:=y.g2 h U;have J:(iW Y[h]).ownBlock≠some r:=λe=>y.iC.apart h U r e rfl
   have V:=y.iC.each h U;rw[rH] at V;have a:=y.iC.row.cellAt U 0 ab
   rw[show h * qV.k+0=h by show h * 1+0=h;omega] at a
   have Vk:=y.iC.row.frozenAt h;have K:=y.iC.fv h U;have M:=ay y;have T:=d.o.2.2.2;have Xq:=ay T;have N:=ay d.o.1;have TC:=ay d.o.2.1;obtain⟨s,P⟩:=au (Y[h]);rw[P] at g2 J V a K;have TD:=ay P;obtain⟨S,sn,R⟩:=s;obtain⟨_,_,es,_,_,_⟩:=V.form;injection es with es1 es2 es3;subst es2;have m:=ay V;have C1:=ay C;have C2:Hid (wr.cell? ⟨r,h,none⟩=some (.slice S (ao (lvl L h)) R)):=ay (a.trans rfl);have Vl:=ay Vk;have TE:=ay K;have Vm:=ay (HU.o.next (G:=Q) (λz I H=>T.block z I H) T.size d.o.1)
   clear hx d y a Vk V P es1 es3 K T D E
   go_upto_region 2 with fail;clear C;have Z:=ay (λ(O:World) (T:Touch (λz=>(Value.slice S (ao (lvl L h)) R).ownBlock=some z) wr O)=>(aF ((bA (a:=⟨g,1,none⟩) (T.block g hgr g2)).trans C1.o) ((bA (a:=⟨r,h,none⟩) (T.block r hgl J)).trans C2.o)))
   refine yC (λO=>Touch (λz=>(Value.slice S (ao (lvl L h)) R).ownBlock=some z) wr O) 15 (yA 0 13 (CI 13 (yA 14 1 (CI 15 [])))) ((Touch.refl _ _).drew) ?_
   iterate 13 refine oQ ?_
   refine GF λK E=>?_
   refine A9 ig (ts:=196) i0 _ 8 underlying196 HI.o HZ.o Rw.o PO.o rfl ab  ab (.tmp 33) (.tmp 34) rfl 0 (.slice S (ao (lvl L h)) R) (lvl L h) rfl (gO.drew m.o) (.slice A0 (ao v) c0) v rfl (Vm.o.rd.keep (aC _ _).drew) aa  aa ?_
   intro v7 B f X x;have T:Touch (λz=>(Value.slice S (ao (lvl L h)) R).ownBlock=some z) wr B:=((Touch.refl _ _).drew).grown X (λz t=>.inl t)
   have l:=ay f;have A:=ay x;obtain⟨c,b,rfl,_,_,_⟩:=f.form;clear f X x
   go_simp;refine E _ _ (T) ?_
   clear E K;refine oQ ?_
   refine yB λK E=>?_
   have k2:=(bA (a:=⟨r,h,none⟩) (T.block r hgl J)).trans C2.o;have X:=(df (a:=⟨r,h,none⟩) (T.block r hgl J)).trans Vl.o
   go_simp;refine E _ _ ?_
   clear E K;refine jk ?_
   clear k2 X;have o:ao (lvl L h++v)=ao (lvl L h)+ao v:=aE;have f:=l.o;have x:=A.o;rw[o] at f x;have hown:∀z,(Value.slice c (ao (lvl L h)+ao v) b).ownBlock=some z->(Value.slice S (ao (lvl L h)) R).ownBlock=some z\/wr.heap.size<=z:=λz e=>by
    rcases x with p|p
    ·rw[p] at e;exact .inl e
    ·rw[p] at e;injection e with e;exact .inr (by rw[<-e];exact aD _)
   have hvb:(iW Y[h]).ownBlock=(Value.slice S (ao (lvl L h)) R).ownBlock:=by rw[TD.o];rfl
   have iC:=l6.level (s':=(c,ao (lvl L h)+ao v,b)) (l':=lvl L h++v) M.o i rfl f (λz I H=>T.block z I (λe=>H (hvb.trans e))) T.size (by
    rcases x with p|p
    ·exact .inl (p.trans hvb.symm)
    ·exact .inr λz e=>by have e:=p.symm.trans e;injection e with e;rw[<-e];exact aD _)
   have TT:Touch F w B:=Xq.o.trans T λz t=>N.o z (TE.o z t)
   have T8:=ay (TT.setCell (p:=⟨r,h,none⟩) (N.o r qW) (iW (c,ao (lvl L h)+ao v,b)));have X:=ay iC;have HOWN:=ay hown;clear iC f x TT T l A hown M m Vm C1 C2 Vl hvb g2 J;obtain⟨M,f⟩:=au (B.setCell ⟨r,h,none⟩ (iW (c,ao (lvl L h)+ao v,b)));rw[f] at X T8;show Exit.then _ _ Exit.normal _ (B.setCell ⟨r,h,none⟩ (iW (c,ao (lvl L h)+ao v,b)))
   rw[f];clear f;have C:=X.o.cell1;have x:(Y.set h (c,ao (lvl L h)+ao v,b))[h]'(by rw[bD];exact U)=(c,ao (lvl L h)+ao v,b):=gw ..
   have f:=X.o.iC.row.cellAt (j:=h) (by rw[bD];exact U) 0 ab
   rw[show h * qV.k+0=h by show h * 1+0=h;omega,x] at f
   have k2:M.cell? ⟨r,h,none⟩=some (.slice c (ao (lvl L h)+ao v) b):=f.trans rfl;clear f;have V:=X.o.iC.each h (by rw[bD];exact U)
   rw[x,mn _ _ _ _ i,aH rfl] at V;have m:=ay V;clear V
   go_wp2_with fail;refine(AQ (iW (c,ao (lvl L h)+ao v,b)) 0 (lvl L h++v) M m.o (by rw[o];omega)).mono ?_
   rintro e A ⟨rfl,T,f⟩;rw[Kk Mp.o v] at T;have V:=X.o.turn (j:=h) (l':=insL (lvl L h) v) (by rw[bD];exact i) (by rw[x];exact T) (λz I H=>f.block z I (λe=>H (by rw[x];exact e))) f.size
   rw[gD] at V;have J:=ay V;have I:=ay (T8.o.trans f (λz t=>by
    rcases HOWN.o z t with e|e
    ·exact N.o z (TE.o z e)
    ·exact .inr aa))
   clear V T f C k2
   go_wp2_with fail
   go_end0
   refine⟨rfl,_,_,_,?_,?_,J.o,I.o⟩
   ·intro z t
    rcases t with t|t
    ·exact N.o z t
    ·rcases HOWN.o z t with e|e
     ·exact N.o z (TE.o z e)
     ·exact .inr aa
   ·exact λz t=>.inl (TC.o z t)
def tn.TB(h:tn F w g k led lv vs L)(x:0<ao L):∃z c,lv=.slice (some ⟨z,0,none⟩) (ao L) c/\z<w.heap.size/\z≠g/\F z:=by
 have u:0<ao vs:=by rw[h.iC.len];exact x
 obtain⟨z,c,e,_,v,_,_⟩:=h.iC.row.pos u;rw[h.iC.len] at e;refine⟨z,c,e,v,λy=>h.g1 ?_,h.iC.fl z ?_⟩
 ·rw[e,y];rfl
 ·rw[e];rfl
def nF(h:Nat)(x:Int)(w:World)(U:tn F w g k led lv vs L)(hh:h<=100)(hL:ao L<=1000)(hl:ao (lvl L h)<=1000000000) :
 ar Oe 116 #[.pointer (some ⟨g,0,none⟩),.int .i64 h,.int .i64 x] w λe c=>e=.returned (.tuple #[])/\∃z y v,(∀k,z k->F k\/w.heap.size<=k)/\(∀k,F k->z k)/\tn z c g k led y v (kk L h [x])/\Touch F w c:=by
 obtain⟨i1,z,u,v,y⟩:=cx QH;have JI:=ay z;have JZ:=ay u;have KA:=ay v;have KD:=ay y;clear z u v y;have D:=ay U;clear U
 go_in
 go_wp2
 go_loopg [6] (h+1 - ao L) (λq _ wr=>∃(j:Nat) (b:Nat->Prop) (o:Value) (f:List Sv),q=h+1 - ao L - j/\(j=0\/ao L+j<=h+1)/\Hid ((∀k,b k->F k\/w.heap.size<=k)/\(∀k,F k->b k)/\tn b wr g k led o f (L++List.replicate j [])/\Touch F w wr))
 exact⟨0,F,lv,vs,rfl,.inl rfl,ay ⟨λk u=>.inl u,λk u=>u,by rw[List.replicate_zero,bT];exact D.o,Touch.refl _ _⟩⟩
 case round=>
  obtain⟨j,b,o,f,z,hj,t⟩:=hrel;have HQ:=ay z;clear z;have S:=t.o;have hw1:=S.2.2.2.size;have y:=S.2.2.1;obtain⟨R,P,rfl,hc1,hc2,_⟩:=y.form;have M:=y.cell1;have hgr:=y.blk.lt;have V:ao (L++List.replicate j ([]:List Int))=ao L+j:=ad
  rw[V] at M hc1 y
  by_cases hle:ao L+j<=h
  ·have A:((ao L+j:Nat):Int)<=(h:Int):=aa
   have r:=y.iC.row;have O:=ay r;have a:=ay y;have v:∀z,(Value.slice R (ao L+j) P).ownBlock=some z->b z:=λz e=>y.iC.fl z e
   have s:(Value.slice R (ao L+j) P).ownBlock≠some g:=y.g1;have d:=ay v;have Q:=ay s;have I:ao f=ao L+j:=by rw[y.iC.len,V]
   clear r y S v s V
   go_wp2_with (at_builtin;refine g8 qV (ts:=112) i1 _ 24 underlying112 JI.o JZ.o KA.o KD.o rfl ab  ab rfl (.tmp 17) (.tmp 18) rfl 0 (.slice R (ao L+j) P) f rfl (O.o.alloc _) _ [(none,0,0)] rfl (iA.hJ (E:=qV) wr (none,0,0) _ rfl _ rfl _ rfl) af aa ?_;intro l J r q s;have v:=(q.block g af (λe=>Q.o e.symm)).trans (gN.alloc a.o.blk _);have H:=gN.cell v 1;have B:=gN.frozen v 1;simp only[aA,aB,az] at H;have Y:=ay r;have T:=ay q;have X:=ay s;obtain⟨G,C,rfl,_,_,_⟩:=r.form;clear r q s v;go_simp)
   have N:ao (f++[((none,0,0):Sv)])=ao L+j+1:=by rw[aE,I];rfl
   have r:=Y.o;have s:=X.o;have q:=T.o;rw[N] at r s;have K:=l6.more (a.o.keep ((aC _ _).alloc (aD _) (.cells #[.slice none 0 0] 196))) r q s
   go_roundg (h+1 - ao L - (j+1))
   case measure=>have:=HQ.o;omega
   case rel=>
    refine⟨j+1,_,_,_,rfl,.inr aa,ay ⟨?_,?_,by rw[A_];exact K,?_⟩⟩
    ·intro z v
     rcases v with v|v
     ·exact t.o.1 z v
     ·rcases s with p|p
      ·rw[p] at v;exact t.o.1 z (d.o z v)
      ·rw[p] at v
       injection v with v;rw[<-v];refine .inr ?_
       simp;omega
    ·exact λz v=>.inl (t.o.2.1 z v)
    ·refine Touch.setCell (Touch.grown (Touch.alloc t.o.2.2.2 _) q λz v=>?_) ?_ _
     ·exact t.o.1 z (d.o z v)
     ·exact .inl D.o.fg
  ·have X:ext L h=L++List.replicate j []:=by
    unfold ext
    congr 2
    omega
   rw[<-X] at y;have l:h<ao (ext L h):=by rw[lu];omega
   have hlen:ao (ext L h)=ao L+j:=by rw[X,V]
   obtain⟨d,cl,T,N,Ds,qW⟩:=tn.TB y aa
   rw[hlen] at T;injection T with T e2 e3;subst T;subst e3;have m:h<ao f:=by rw[y.iC.len];exact l
   have q:=y.iC.each h m;rw[rH] at q;have p:=y.iC.row.cellAt m 0 ab
   rw[show h * qV.k+0=h by show h * 1+0=h;omega] at p
   have K:=y.iC.row.frozenAt h;have a:=ay y;have B:=t.o.2.2.2;have G:=ay B;have E:=ay t.o.1;have TC:=ay t.o.2.1;obtain⟨s,U⟩:=au (f[h]);rw[U] at q p;obtain⟨W,sn,i⟩:=s;obtain⟨_,_,O,_,_,_⟩:=q.form;injection O with es1 es2 es3;subst es2;have C:=ay q.rd;have I:=ay M;have Q:Hid (wr.cell? ⟨d,h,none⟩=some (.slice W (ao (lvl L h)) i)):=ay (p.trans rfl);have H:=ay K;clear S t y p K q U es1 es3 B V X
   go_upto_region 2 with fail;clear M;have Z:=ay (λ(c:World) (q:aq wr c)=>(aF ((q.cell (p:=⟨g,1,none⟩) hgr).trans I.o) ((q.cell (p:=⟨d,h,none⟩) N).trans Q.o)))
   refine yC (λc=>aq wr c) 15 (yA 0 13 (CI 13 (yA 14 1 (CI 15 [])))) ((aC _ _).drew) ?_
   iterate 13 refine oQ ?_
   refine GF λK X=>?_
   go_simp;refine(Ko (.slice W (ao (lvl L h)) i) (lvl L h) x _ (C.o.keep (aC _ _).drew) hl).mono ?_
   rintro e J ⟨⟨n,n7,B⟩,rfl,r,A⟩;have q:aq wr J:=((aC _ _).drew).trans A;obtain⟨_,_,O,_,_,_⟩:=r.form;injection O with es1 es2 es3;subst es2;have Y:=ay r;clear r A es1 es3;unfold iW;refine X _ _ (q) ?_
   clear X K;refine oQ ?_
   refine yB λK X=>?_
   have A:=(q.cell (p:=⟨d,h,none⟩) N).trans Q.o;have r:=(q.frozen (p:=⟨d,h,none⟩) N).trans H.o
   go_simp;refine X _ _ ?_
   clear X K;refine jk ?_
   clear A r;have X:=l6.level (s':=(n,ao (ins x (lvl L h)),B)) (l':=ins x (lvl L h)) a.o l rfl (Y.o.more (bB _)) (λz r _=>q.block z r) q.size (.inr λz e=>(Y.o.lt z e).1)
   have r:Touch F w J:=G.o.trans (Touch.of_below (F:=λ_=>False) q (aD _)) λz u=>u.elim
   have T8:=ay (r.setCell (p:=⟨d,h,none⟩) (E.o d qW) (iW (n,ao (ins x (lvl L h)),B)));have K:=ay X;have hzw:w.heap.size<=wr.heap.size:=G.o.size;have A:=ay (λz e=>(Y.o.lt z e).1)
   clear X r q a C I Q H
   go_wp2_with fail
   go_end0
   refine⟨rfl,_,?_,?_,⟨_,_,K.o⟩,T8.o⟩
   ·intro z u
    rcases u with u|u
    ·exact E.o z u
    ·exact .inr (bf hzw (A.o z u))
   ·exact λz u=>.inl (TC.o z u)
def Fm:uJ Int where
 k:=1
 t:=5
 enc x:=[.int .u8 x]
 len _:=rfl
 one x u hu:=by
  simp only[aS,cQ,or_false] at hu;subst hu;rfl
def _root_.Go.Proofs.YtdicblkhpcphfaaGreat.jQ.u8{A:Option Addr}(h:jQ Fm w A l)(u:j<ao l) :
 ∃g z,A=some ⟨g,z,none⟩/\g<w.heap.size/\w.cell? ⟨g,z+j,none⟩=some (.int .u8 l[j]):=by
 obtain⟨g,z,y,v,x⟩:=h aa
 refine⟨g,z,y,v,?_⟩
 have:=x j u 0 ab
 rw[show z+j * Fm.k+0=z+j by show z+j * 1+0=_;omega] at this
 exact this
def _root_.Go.Proofs.YtdicblkhpcphfaaGreat.iA.stay{E:uJ α}{l:List α}(h:iA E w v l)(q:∀k,v.ownBlock=some k->w'.heap[k]?=w.heap[k]?)(d:w.heap.size<=w'.heap.size):iA E w' v l:=by
 obtain⟨A,c,rfl,y,x,u⟩:=h.form;refine iA.jj y x λz=>?_
 obtain⟨g,p,rfl,f,t⟩:=u z;exact⟨g,p,rfl,aa,λj r i s=>(bA (q g rfl)).trans (t j r i s)⟩
def QK(B:List Int):Prop:=ao B<=1000000/\∀x∈B,0<=x/\x<=255
structure Hm(t:TypeId)(w:World)(g:Nat)(v:Value)(B:List Int)(a:Nat):Prop where
 blk:gN w g t #[v,.int .i64 a]
 rd:iA Fm w v B
 ne:v.ownBlock≠some g
 at_:a<=8 * ao B
 PQ:QK B
def Hm.stay(h:Hm t w g v B a)(z:w'.heap[g]?=w.heap[g]?)(y:∀k,v.ownBlock=some k->w'.heap[k]?=w.heap[k]?)(x:w.heap.size<=w'.heap.size):Hm t w' g v B a:=
 ⟨z.trans h.blk,h.rd.stay y x,h.ne,h.at_,h.PQ⟩
def Hm.drewN(h:Hm t w g v B a)(n:Nat):Hm t (w.drewN n) g v B a:=h.stay rfl (λ_ _=>rfl) (aD _)
def Hm.step(h:Hm t w g v B a)(x:a<8 * ao B):Hm t (w.setCell ⟨g,1,none⟩ (.int .i64 (a+1:Nat))) g v B (a+1):=by
 have z:∀k,k≠g->(w.setCell ⟨g,1,none⟩ (.int .i64 (a+1:Nat))).heap[k]?=w.heap[k]?:=λk z=>bl w ⟨g,1,none⟩ _ k z
 refine⟨?_,h.rd.stay (λk e=>z k λy=>h.ne (by rw[e,y])) ad,h.ne,x,h.PQ⟩
 have:=h.blk.gR 1 (.int .i64 (a+1:Nat))
 simpa using this
def RC(w:World)(g:Nat)(v:Value)(B:List Int)(a:Nat):Prop:=Hm 57 w g v B a\/(B=[]/\a=0/\v=.slice none 0 0/\∃A c,c<=maxLen/\gN w g 57 #[.slice A 0 c,.int .i64 0])
def RC.stay(h:RC w g v B a)(z:w'.heap[g]?=w.heap[g]?)(r:∀k,v.ownBlock=some k->w'.heap[k]?=w.heap[k]?)(q:w.heap.size<=w'.heap.size):RC w' g v B a:=by
 rcases h with h|⟨y,x,u,A,c,s,t⟩
 ·exact .inl (h.stay z r q)
 ·exact .inr ⟨y,x,u,A,c,s,z.trans t⟩
abbrev BR:=Hm 219
def Hn(h:0<=y/\y<=255):wrap64 y=y:=by unfold wrap64;omega
def Dt(g:Nat)(v:Value)(B:List Int)(a:Nat)(w:World)(h:Hm 57 w g v B a) :
 ar Oe 191 #[.pointer (some ⟨g,0,none⟩)] w λe f=>e=.returned (.int .i64 (iB B a:Nat))/\Hm 57 f g v B (jh B a)/\Touch (λk=>k=g) w f:=by
 have s:=ay h;obtain⟨A,c,rfl,O,r,z⟩:=h.rd.form;have X:=h.blk.k0;have V:=h.blk.k1;have S:=h.blk.frozen 1;have P:=h.PQ.1;have Q:=h.at_;have d:=ay z;clear h z
 by_cases u:a<8 * ao B
 ·have q:a / 8<ao B:=aa
  obtain⟨R,M,rfl,N,U⟩:=d.o.u8 q;have t:=s.o.PQ.2 _ (aX q);obtain⟨x,z⟩:=au (B[a / 8]);rw[z] at U t;have b:=ay z;clear z;have T:¬(a:Int)>=8 * (ao B:Int):=aa
  go_in
  go_wp2_with fail
  go_quiet (fail)
  go_wp2_with fail
  go_quiet (fail)
  have z:0<=x / 2 ^ (a % 8)/\x / 2 ^ (a % 8)<=255:=by
   have y:(0:Int)<2 ^ (a % 8):=dH ab
   exact⟨cP t.1 aa,gJ (fY _ t.1) t.2⟩
  have y:Hid (x / 2 ^ (a % 8) % 2=((iB B a:Nat):Int)):=ay (by
   unfold iB;rw[aH u];simp only[List.getD];rw[aQ q,eB,b.o];omega)
  have p:(wrap64 (x / 2 ^ (a % 8))).tmod 2=((iB B a:Nat):Int):=by
   rw[Hn z,eF z.1];exact y.o
  rw[p];clear p y z;have r:jh B a=a+1:=by unfold jh;rw[aH u]
  have p:=ay r;clear r;obtain⟨y,z⟩:=au (iB B a);rw[z];have Y:=ay z;clear z
  go_wp2;refine an ?_
  refine⟨by rw[Y.o],?_,?_⟩
  ·rw[p.o]
   exact(s.o.drewN _).step u
  ·exact Touch.setCell (F:=λk=>k=g) (Touch.drewN (Touch.refl _ _) _) (.inl rfl) _
 ·have T:(a:Int)>=8 * (ao B:Int):=aa
  go_in
  go_wp2_with fail
  go_quiet (fail)
  go_wp2;refine an ?_
  have z:jh B a=a:=by unfold jh;rw[aG u]
  have y:iB B a=0:=by unfold iB;rw[aG u]
  rw[z,y];exact⟨rfl,s.o.stay rfl (λ_ _=>rfl) (aD _),Touch.drewN (Touch.refl _ _) _⟩
def Du(g c:Nat)(A:Option Addr)(w:World)(h:gN w g 57 #[.slice A 0 c,.int .i64 0]) :
 ar Oe 191 #[.pointer (some ⟨g,0,none⟩)] w λe z=>e=.returned (.int .i64 0)/\∃n,z=w.drewN n:=by
 obtain⟨y,x⟩:=h.c2;clear h
 go_in
 go_wp2_with fail
 go_quiet (fail)
 go_wp2;refine an ?_
 exact⟨rfl,_,rfl⟩
def Ho(g:Nat)(v:Value)(B:List Int)(a:Nat)(w:World)(h:RC w g v B a) :
 ar Oe 191 #[.pointer (some ⟨g,0,none⟩)] w λe z=>e=.returned (.int .i64 (iB B a:Nat))/\RC z g v B (jh B a)/\Touch (λk=>k=g) w z:=by
 rcases h with h|⟨rfl,rfl,rfl,A,c,t,h⟩
 ·exact(Dt g v B a w h).mono λe z ⟨y,x,u⟩=>⟨y,.inl x,u⟩
 ·refine(Du g c A w h).mono ?_
  rintro e z ⟨rfl,n,rfl⟩;exact⟨rfl,.inr ⟨rfl,rfl,rfl,A,c,t,h⟩,Touch.drewN (Touch.refl _ _) _⟩
def Xr:(prog.info? 5).map (λi=>(i.zero,i.size,i.bytes))=some (some (.int .u8 0),1,1):=by kernel_rfl
def KE(v:Value)(l:List Int)(w:World)(h:iA Fm w v l)(S:ao l<=1000000000000) :
 ar Oe 129 #[v] w λe t=>∃s:Sv,e=.returned (iW s)/\gO Fm w.heap.size t (iW s) l/\aq w t:=by
 obtain⟨X,z,u,x,y⟩:=cx Xr;have q:=ay z;have d:=ay u;have f:=ay x;have r:=ay y;clear z u x y;obtain⟨A,c,rfl,R,T,x⟩:=h.form;have p:=ay h;clear h
 by_cases y:A=none
 ·subst y
  have z:l=[]:=by
   rcases bh (ao l) with z|z
   ·exact aN z
   ·obtain⟨g,u,e,_⟩:=x z;cases e
  subst z;clear x;have Y:(binOp .eql 37 (.slice none 0 c) (.slice none 0 0)).run prog w=.ok (.bool true) w:=Lib.run_eql_slice_nil w _ _ _ _ _ _ _ underlying37
  go_in
  go_wp2
  go_ret;exact⟨(none,0,0),rfl,gO.nil_ _ _,bw⟩
 ·obtain⟨a,rfl⟩:∃a,A=some a:=by
   cases A with
   | none=>exact absurd rfl y
   | some a=>exact⟨a,rfl⟩
  clear y x;have Y:(binOp .eql 37 (.slice (some a) (ao l) c) (.slice none 0 0)).run prog w=.ok (.bool false) w:=Lib.run_eql_slice_nil w _ _ _ _ _ _ _ underlying37
  go_in
  go_wp2_with (at_builtin;refine g8 Fm (ts:=37) X _ 1 underlying37 q.o d.o f.o r.o rfl ab  ab rfl (.tmp 5) (.tmp 6) rfl w.heap.size _ [] rfl (gO.lit (E:=Fm) w [] _ rfl _ rfl ab) _ l rfl (p.o.keep (bw)) af ad ?_;intro Q V z b U)
  have s:aq w V:=(dG (aC _ _) (aD _) _).grown b ad (λk u=>by have:=bC (show some w.heap.size=some k from u);omega)
  simp only[cZ] at z;obtain⟨u,g,rfl,_,_,_⟩:=z.form
  go_wp2
  go_ret;exact⟨(u,_,g),rfl,z,s⟩
structure KC(w:World)(g r:Nat)(v:Value)(B:List Int)(a:Nat):Prop where
 blk:gN w g 137 #[.pointer (some ⟨r,0,none⟩)]
 rd:BR w r v B a
 ne:g≠r
 nv:v.ownBlock≠some g
def Hp(r:Nat)(v:Value)(B:List Int)(a:Nat)(w:World)(h:BR w r v B a) :
 ar Oe 393 #[.pointer (some ⟨r,0,none⟩)] w λe u=>e=.returned (.int .i64 (8 * (ao B:Int) - a))/\∃n,u=w.drewN n:=by
 obtain⟨A,c,rfl,q,p,x⟩:=h.rd.form;have z:=h.blk.k0;have y:=h.blk.k1;have s:=h.PQ.1;have t:=h.at_;clear h x
 go_in
 go_wp2_with fail
 go_quiet (fail)
 go_wp2;refine an ?_
 exact⟨rfl,_,rfl⟩
def Np:(List.range 256).all (λ(y:Nat)=>bits .or .u32 0 (bits .and .u8 (y:Int) 1 % 4294967296) == ((y % 2:Nat):Int))=true:=by kernel_rfl
def KF(h:0<=y/\y<=255):bits .or .u32 0 (bits .and .u8 y 1 % 4294967296)=y % 2:=by
 obtain⟨n,rfl⟩:∃n:Nat,y=n:=⟨y.toNat,aa⟩
 have z:=e_.1 Np n (ep.2 aa)
 have x:=eq_of_beq z;rw[x];omega
def group_any(r:Nat)(v:Value)(B:List Int)(a:Nat)(w:World)(h:BR w r v B a) :
 ar Oe 328 #[.pointer (some ⟨r,0,none⟩),.int .i64 1] w λe b=>∃q:Int,e=.returned (.tuple #[.int .u32 (iB B a:Nat),.int .i64 q])/\BR b r v B (jh B a)/\Touch (λk=>k=r) w b:=by
 have d:=ay (Hp r v B a w h);have p:=ay h;obtain⟨A,c,rfl,H,g,z⟩:=h.rd.form;have R:=h.blk.k0;have Q:=h.blk.k1;have K:=h.blk.frozen 1;have I:=h.PQ.1;have J:=h.at_;have V:=ay z;clear h z
 by_cases u:a<8 * ao B
 ·have f:a / 8<ao B:=aa
  obtain⟨O,M,rfl,G,P⟩:=V.o.u8 f;have s:=p.o.PQ.2 _ (aX f);obtain⟨x,z⟩:=au (B[a / 8]);rw[z] at P s;have S:=ay z;clear z;have N:¬8 * (ao B:Int) - a<1:=aa
  go_in
  go_wp2_with fail;refine(d.o).mono ?_
  rintro e L ⟨rfl,n,rfl⟩
  go_wp2
  go_loopg [6,7,19] 1 (λq y _ z wr=>(q=1/\y=.int .u32 0/\z=.int .i64 0/\Hid (wr=w.drewN n))\/(q=0/\y=.int .u32 (iB B a:Nat)/\z=.int .i64 1/\Hid (BR wr r (Value.slice (some ⟨O,M,none⟩) (ao B) c) B (a+1))/\Hid (Touch (λk=>k=r) w wr)))
  exact .inl ⟨rfl,rfl,rfl,ay rfl⟩
  case round=>
   rcases hrel with⟨t,rfl,rfl,T⟩|⟨t,rfl,rfl,Y,U⟩
   ·have X:=ay t
    clear t;obtain⟨⟨rfl⟩⟩:Nonempty (Hid (wr=w.drewN n)):=⟨T⟩
    go_wp2_with fail
    go_quiet (fail)
    have z:0<=x / 2 ^ (a % 8)/\x / 2 ^ (a % 8)<=255:=by
     have y:(0:Int)<2 ^ (a % 8):=dH ab
     exact⟨cP s.1 aa,gJ (fY _ s.1) s.2⟩
    have y:x / 2 ^ (a % 8) % 2=((iB B a:Nat):Int):=by
     unfold iB;rw[aH u];simp only[List.getD];rw[aQ f,eB,S.o];omega
    rw[KF z,y];clear y z;obtain⟨y,z⟩:=au (iB B a);rw[z];have q:=ay z;clear z
    go_wp2
    go_roundg 0
    case measure=>have:=X.o;omega
    case rel=>
     refine .inr ⟨rfl,by rw[q.o],rfl,ay ?_,ay ?_⟩
     ·exact(p.o.drewN _).step u
     ·exact Touch.setCell (F:=λk=>k=r) (Touch.drewN (Touch.refl _ _) _) (.inl rfl) _
   ·have g:jh B a=a+1:=by unfold jh;rw[aH u]
    have X:=ay g;clear g t;obtain⟨y,z⟩:=au (iB B a);rw[z];have q:=ay z;clear z
    go_wp2;refine an ?_
    refine⟨0,by rw[q.o],?_,U.o⟩
    rw[X.o];exact Y.o
 ·have N:8 * (ao B:Int) - a<1:=aa
  go_in
  go_wp2_with fail;refine(d.o).mono ?_
  rintro e L ⟨rfl,n,rfl⟩
  go_wp2;refine an ?_
  have z:jh B a=a:=by unfold jh;rw[aG u]
  have y:iB B a=0:=by unfold iB;rw[aG u]
  rw[z,y];exact⟨20,rfl,p.o.drewN _,(Touch.refl _ _).drewN _⟩
def Nq(r:Nat)(v:Value)(B:List Int)(a:Nat)(w:World)(h:BR w r v B a) :
 ar Oe 262 #[.pointer (some ⟨r,0,none⟩)] w λe x=>∃q:Int,e=.returned (.tuple #[.int .u32 (iB B a:Nat),.int .i64 q])/\BR x r v B (jh B a)/\Touch (λk=>k=r) w x:=by
 have s:=ay (group_any r v B a w h);clear h
 go_in
 go_wp2_with fail;refine(s.o).mono ?_
 rintro e p ⟨q,rfl,z,y⟩;have u:=ay z;have t:=ay y;clear z y
 go_wp2;refine an ?_
 exact⟨q,rfl,u.o,t.o⟩
def Hq(g r:Nat)(v:Value)(B:List Int)(a:Nat)(w:World)(h:KC w g r v B a) :
 ar Oe 179 #[.pointer (some ⟨g,0,none⟩)] w λe p=>e=.returned (.int .i64 (iB B a:Nat))/\KC p g r v B (jh B a)/\Touch (λk=>k=r) w p:=by
 have u:=ay (Nq r v B a w h.rd);have d:=h.blk.k0;have z:=ay h;have c:=p_ B a;clear h;obtain⟨y,x⟩:=au (iB B a);rw[x] at u c;rw[x];clear x
 go_in
 go_wp2_with fail;refine(u.o).mono ?_
 rintro e b ⟨q,rfl,t,s⟩;have f:=ay t;have x:=ay s;clear t s
 go_wp2;refine an ?_
 refine⟨rfl,⟨?_,f.o,z.o.ne,z.o.nv⟩,x.o⟩
 exact(x.o.block g z.o.blk.lt (λe=>z.o.ne e)).trans z.o.blk
def KG(v:Value)(B:List Int)(w:World)(h:iA Fm w v B)(z:QK B) :
 ar Oe 63 #[v] w λe x=>∃r y,e=.returned (.pointer (some ⟨r,0,none⟩))/\w.heap.size<=r/\BR x r y B 0/\(∀k,y.ownBlock=some k->w.heap.size<=k/\k<x.heap.size)/\aq w x:=by
 have g:=ay (KE v B w h (by have:=z.1;omega))
 have p:=ay z;clear h z
 go_in
 go_wp2_with fail;refine(g.o).mono ?_
 rintro e d ⟨s,rfl,z,u⟩;obtain⟨q,f,t,_,_,_⟩:=z.form;rw[t] at z |-;have y:=ay z;have r:=u.size;clear z t
 go_wp2;refine an ?_
 refine⟨_,.slice q (ao B) f,rfl,r,⟨gN.new _ _ _,iA.keep y.o.rd ((aC _ _).alloc (aD _) _),λe=>?_,bB _,p.o⟩,λk e=>?_,u.alloc r _⟩
 ·have:=(y.o.lt _ e).2;omega
 ·have:=y.o.lt k e
  refine⟨this.1,?_⟩
  simp;omega
def KH(v:Value)(B:List Int)(w:World)(h:iA Fm w v B)(y:QK B) :
 ar Oe 20 #[v] w λe x=>∃g r z,e=.returned (.pointer (some ⟨g,0,none⟩))/\w.heap.size<=g/\w.heap.size<=r/\KC x g r z B 0/\(∀k,z.ownBlock=some k->w.heap.size<=k/\k<x.heap.size)/\aq w x:=by
 have g:=ay (KG v B w h y);clear h y
 go_in
 go_wp2_with fail;refine(g.o).mono ?_
 rintro e d ⟨r,z,rfl,f,s,q,t⟩;have u:=ay s;have y:=ay q;have p:=t.size;clear s q
 go_wp2;refine an ?_
 have s:=u.o.blk.lt;refine⟨_,r,z,rfl,p,f,⟨gN.new _ _ _,u.o.stay ?_ (λk e=>?_) ad,aa,λe=>?_⟩,λk e=>?_,t.alloc p _⟩
 ·exact eE _ _ _ s
 ·exact eE _ _ _ (y.o k e).2
 ·have:=(y.o _ e).2;omega
 ·have:=y.o k e
  refine⟨this.1,?_⟩
  simp;omega
def l6.at_{a:Value}{rest:List Value}(h:l6 t a rest F w g lv vs L)(S:j<ao L) :
 ∃z c x v,lv=.slice (some ⟨z,0,none⟩) (ao L) c/\z<w.heap.size/\z≠g/\F z/\vs[j]?=some (x,ao (lvl L j),v)/\w.cell? ⟨z,j,none⟩=some (.slice x (ao (lvl L j)) v)/\w.frozen? ⟨z,j,none⟩=false /\
  gO ig 0 w (.slice x (ao (lvl L j)) v) (lvl L j)/\(∀k,(Value.slice x (ao (lvl L j)) v).ownBlock=some k->F k/\k≠z/\k≠g):=by
 have y:j<ao vs:=by rw[h.iC.len];exact S
 have R:0<ao vs:=aa
 obtain⟨z,c,e,_,T,_,_⟩:=h.iC.row.pos R;rw[h.iC.len] at e;have f:=h.iC.each j y;have r:=h.iC.row;rw[e] at r;have q:=r.cellAt y 0 ab
 rw[show j * qV.k+0=j by show j * 1+0=j;omega] at q
 have U:=r.frozenAt j;have d:=h.iC.apart j y;have b:=h.iC.fv j y;have Y:=h.g2 j y;obtain⟨s,X⟩:=au (vs[j]);rw[X] at f q d b Y;obtain⟨x,Q,v⟩:=s;obtain⟨_,_,V,_,_,_⟩:=f.form;injection V with es1 es2 es3;subst es2;refine⟨z,c,x,v,e,T,λu=>h.g1 (by rw[e,u];rfl),h.iC.fl z (by rw[e];rfl),by rw[aQ y,X],q.trans rfl,U,f,λk p=>⟨b k p,λu=>d k p (by rw[e,u];rfl),λu=>Y (by rw[<-u];exact p)⟩⟩
def oL(k:Nat)(L:LL):Int:=match iY k L with|none=>-1|some h=>(h:Int)
def Dv{h:Nat}(z:h<ao L)(y:room k (ao L) h<ao (lvl L h))(x:∀j,j<h->ao (lvl L j)<=room k (ao L) j):oL k L=h:=by
 unfold oL;rw[AL z y x]
def Dw(h:∀j,j<ao L->ao (lvl L j)<=room k (ao L) j):oL k L=-1:=by
 unfold oL;rw[nr h]
def vi(w:World)(y:oy F w g k n led lv vs L)(f:2<=k)(S:k<=1000000)(M:ao L<=1000)(R:cnt L<=1000000000) :
 ar Oe 261 #[.pointer (some ⟨g,0,none⟩)] w λe Q=>e=.returned (.int .i64 (oL k L))/\w=Q:=by
 have X:=ay (λh z=>AR h w y f S aa z)
 obtain⟨A,c,z,K,J,_⟩:=y.form;have P:=y.cell1;have U:=ay y;have a:=ay (λj=>bf (hD L j) R)
 have V:=ay (λj=>room_le (k:=k) (len:=ao L) (h:=j) f)
 clear y;subst z
 go_in
 go_wp2
 go_loopg [3,4,10] (ao L) (λq _ _ i wr=>(∃j:Nat,q=ao L - j/\j<=ao L/\i=.int .i64 (j:Int)/\Hid (∀i,i<j->ao (lvl L i)<=room k (ao L) i))/\w=wr)
 exact⟨⟨0,aa,aa,rfl,ay (λi t=>absurd t aa)⟩,rfl⟩
 case round=>
  obtain⟨⟨j,y,G,rfl,v⟩,rfl⟩:=hrel;have Y:=ay y;clear y
  by_cases d:j<ao L
  ·obtain⟨N,O,D,C,z,I,_,_,_,T,_,_,_⟩:=U.o.at_ d
   injection z with z e2 e3;subst z;subst e3;have b:=ay (a.o j);have u:=ay (X.o j aa)
   obtain⟨r,y⟩:=au (room k (ao L) j);obtain⟨x,s⟩:=au (ao (lvl L j));have E:r<=k:=by rw[<-y];exact V.o j
   rw[y] at u;rw[s] at T b;have q:=ay y;have p:=ay s;clear y s
   by_cases H:(x:Int) > (r:Int)
   ·go_wp2_with fail
    refine(u.o).mono ?_
    rintro e s ⟨rfl,rfl⟩
    go_wp2;refine an ?_
    exact⟨by rw[Dv d (by rw[q.o,p.o];omega) v.o],rfl⟩
   ·go_wp2_with fail
    refine(u.o).mono ?_
    rintro e s ⟨rfl,rfl⟩
    go_wp2
    go_roundg (ao L - (j+1))
    case measure=>have:=Y.o;omega
    case rel=>
     refine⟨⟨j+1,rfl,aa,ag,ay λi t=>?_⟩,rfl⟩
     rcases bg i j with y|y
     ·exact v.o i y
     ·obtain rfl:i=j:=aa
      rw[q.o,p.o];omega
  ·have y:=ay (Dw (k:=k) (L:=L) (λi t=>v.o i aa))
   go_wp2;refine an ?_
   exact⟨by rw[y.o],rfl⟩
end K
end Go.Proofs.YtdicblkhpcphfaaGreat
