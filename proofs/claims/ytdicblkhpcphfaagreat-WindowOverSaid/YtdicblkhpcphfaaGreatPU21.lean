/- Parts. -/
import Derived.Test.YtdicblkhpcphfaaGreatPU18
set_option maxRecDepth 100000
set_option maxHeartbeats 0
set_option linter.all false
namespace Go.Proofs.YtdicblkhpcphfaaGreat
open Tryz Go.RowKit
open _root_.List renaming length→ab0
open Go.IntKind renaming wrap→ad0
open _root_.Go renaming Calls→af4
open Tryz renaming prog→af5
namespace K
variable{α:Type}{w w':World}{a base g h j k led n r:Nat}{F:Nat->Prop}{lv v:Value}{B l:List Int}{vs:List Sv}{L:LL}{A:Option Addr}{t:TypeId}{y:Int}{s:KS}
def El{P:Program}(E:vT α){ts:TypeId}(r:TypeInfo)(z:Value)(g:Nat)(J:P.underlying ts=some (.slice E.t))(T:P.info? E.t=some r)(H:r.zero=some z)(L:r.size=E.k)(U:r.bytes=g)(G:z.cells.size=E.k)(S:0<E.k)(X:g<=128)
  {o:Oper} {a:Act} {K:Act->World->Prop} {Q:Exit->Act->World->Prop} (s x:Operand)
 (O:o.op=.call {callee:=.builtin .append,args:=#[s,x],argTypes:=#[ts,ts]})
 (p:Nat) (v:Value) (xs:List α) (M:a.eval s=v) (N:g8 E p w v xs) (u:Value) (y:List α) (I:a.eval x=u) (f:iQ E w u y) (R:ab0 xs+ab0 y<=1099511627776) (V:p<=w.heap.size)
 (h:∀t q,g8 E p q t (xs++y)->w.grownBy q v.ownBlock->(t.ownBlock=v.ownBlock\/t.ownBlock=some w.heap.size)->K (a.put o.dst t) q):o.wp P a w K Q:=by
 obtain⟨A,c,rfl,_,_,_⟩:=f.form;have F:(ab0 xs+ab0 y) * g<=1099511627776 * 128:=cL R X;refine nt w s x ts O p E.t r z E.k g J T H L U G S v (ab0 xs) (cellsE E xs) M N A (ab0 y) c (cellsE E y) I f (nX E y) (by unfold maxLen;omega) aa V λt q d b Y=>h t q ?_ b Y;unfold g8;rw[aE,jW];exact d
def Aside(F:Nat->Prop)(w:World)(v:Value)(l:List Int):Prop:=∀W,(∀k,k<w.heap.size->¬F k->W.heap[k]?=w.heap[k]?)->w.heap.size<=W.heap.size->iQ iY W v l
def Aside.rd(h:Aside F w v l):iQ iY w v l:=h w (λ_ _ _=>rfl) (aD _)
def Aside.next{G:Nat->Prop}(h:Aside F w v l)(t:∀k,k<w.heap.size->¬F k->w'.heap[k]?=w.heap[k]?)(q:w.heap.size<=w'.heap.size)(x:∀k,G k->F k\/w.heap.size<=k):Aside G w' v l:=
 λW y r=>h W (λk s z=>(y k aa (λu=>(x k u).elim z aa)).T (t k s z)) aa
def Aside.oX(h:g8 iY base w v l)(y:∀k,v.ownBlock=some k->¬F k):Aside F w v l:=
 λ_ z _=>(h.stay λk e=>z k (h.lt k e).2 (y k e)).rd
def Em(L:LL)(j:Nat):L++List.replicate (j+1) []=(L++List.replicate j [])++[([]:List Int)]:=by rw[List.replicate_succ',aN]
def rl.Yl(h:rl F w g k n led lv vs L)(x:0<ab0 L):∃z c,lv=.slice (some (af7 z 0)) (ab0 L) c/\z<w.heap.size/\z≠g/\F z:=by
 have u:0<ab0 vs:=by rw[h.iN.len];exact x
 obtain⟨z,c,e,_,v,_,_⟩:=h.iN.row.pos u;rw[h.iN.len] at e;refine⟨z,c,e,v,λy=>h.g1 ?_,h.iN.fl z ?_⟩
 .rw[e,y];rfl
 .rw[e];rfl
def put_any(h:Nat)(u:Value)(v:List Int)(w:World)(P:rl F w g k n led lv vs L)(s:Aside F w u v)(r:pz (lvl L h))(hh:h<=100)(hL:ab0 L<=1000)(hl:ab0 (lvl L h)<=1000000000)(hn:ab0 v<=1000000000):af4 af5 177 #[aq g,af6 h,u] w λe O=>e=.returned (.tuple #[])/\∃z y x,(∀k,z k->F k\/w.heap.size<=k)/\(∀k,F k->z k)/\rl z O g k n led y x (lN L h v)/\Touch F w O:=by
 obtain⟨i0,z,t,x,y⟩:=cR La;have HI:=ax z;have HZ:=ax t;have Vy:=ax x;have TK:=ax y;clear z t x y;obtain⟨i1,z,t,x,y⟩:=cR Tu;have JI:=ax z;have JZ:=ax t;have Oo:=ax x;have Ot:=ax y;clear z t x y;have HU:=ax s;have HS:=ax P;have PW:=ax r;obtain⟨A0,c0,rfl,_,_,_⟩:=s.rd.form;clear P s r;go_in;go_wp2;go_loopg [6] (h+1 - ab0 L) (λq _ wr=>∃(j:Nat) (Q:Nat->Prop) (Gj:Value) (Y:List Sv),q=h+1 - ab0 L - j/\(j=0\/ab0 L+j<=h+1)/\Hid ((∀k,Q k->F k\/w.heap.size<=k)/\(∀k,F k->Q k)/\rl Q wr g k n led Gj Y (L++List.replicate j [])/\Touch F w wr))
 exact⟨0,F,lv,vs,rfl,.inl rfl,ax ⟨λk t=>.inl t,λk t=>t,by rw[fU,bP];exact HS.o,Touch.refl _ _⟩⟩
 case round=>
  obtain⟨j,Q,Gj,Y,z,hj,d⟩:=hrel;have HQ:=ax z;clear z;have hx:=d.o;have hw1:=hx.2.2.2.size;have y:=hx.2.2.1;obtain⟨A1,c1,rfl,hc1,hc2,_⟩:=y.form;have C:=y.cell1;have hgr:=y.blk.lt;have D:ab0 (L++List.replicate j ([]:List Int))=ab0 L+j:=ad;rw[D] at C hc1 y;by_cases hle:ab0 L+j<=h
  .have N:((ab0 L+j:Nat):Int)<=(h:Int):=aa
   have q:=y.iN.row;have U:=ax q;have M:=ax y;have x:∀z,(Value.slice A1 (ab0 L+j) c1).ownBlock=some z->Q z:=λz e=>y.iN.fl z e;have s:(Value.slice A1 (ab0 L+j) c1).ownBlock≠some g:=y.g1;have r:=ax x;have V:=ax s;have T:ab0 Y=ab0 L+j:=by rw[y.iN.len,D]
   clear q y hx x s D;go_wp2_with (at_builtin;refine ij rZ (ts:=112) i1 _ 24 underlying112 JI.o JZ.o Oo.o Ot.o rfl ab  ab rfl (.tmp 17) (.tmp 18) rfl 0 (.slice A1 (ab0 L+j) c1) Y rfl (U.o.alloc _) _ [(none,0,0)] rfl (iQ.ig (E:=rZ) wr (none,0,0) _ rfl _ rfl _ rfl) ae aa ?_;intro v7 B f X x;have s:=(X.block g ae (λe=>V.o e.Y)).T (g7.alloc M.o.blk _);have S:=g7.C s 1;have R:=g7.F s 1;simp only[az,aA,ay] at S;have l:=ax f;have a:=ax X;have A:=ax x;obtain⟨c,b,rfl,_,_,_⟩:=f.form;clear f X x s;go_simp)
   have o:ab0 (Y++[((none,0,0):Sv)])=ab0 L+j+1:=by rw[aE,T];rfl
   have f:=l.o;have x:=A.o;have X:=a.o;rw[o] at f x;have s:=mR.more (M.o.K ((aC _ _).alloc (aD _) (.cells #[.slice none 0 0] 196))) f X x;go_roundg (h+1 - ab0 L - (j+1))
   case measure=>have:=HQ.o;omega
   case rel=>
    refine⟨j+1,_,_,_,rfl,.inr aa,ax ⟨?_,?_,by rw[Em];exact s,?_⟩⟩
    .intro z q
     rcases q with q|q
     .exact d.o.1 z q
     .rcases x with p|p
      .rw[p] at q;exact d.o.1 z (r.o z q)
      .rw[p] at q
       injection q with q;rw[<-q];refine .inr ?_;simp;omega
    .exact λz q=>.inl (d.o.2.1 z q)
    .refine Touch.setCell (Touch.grown (Touch.alloc d.o.2.2.2 _) X λz q=>?_) ?_ _
     .exact d.o.1 z (r.o z q)
     .exact .inl HS.o.fg
  .have E:ext L h=L++List.replicate j []:=by
    unfold ext
    congr 2
    omega
   rw[<-E] at y;have i:h<ab0 (ext L h):=by rw[mF];omega
   have hlen:ab0 (ext L h)=ab0 L+j:=by rw[E,D]
   obtain⟨r,cl,W,hgl,Ho,sZ⟩:=rl.Yl y aa;rw[hlen] at W;injection W with W e2 e3;subst W;subst e3;have U:h<ab0 Y:=by rw[y.iN.len];exact i
   have g2:=y.g2 h U;have J:(jc Y[h]).ownBlock≠some r:=λe=>y.iN.apart h U r e rfl;have V:=y.iN.each h U;rw[tT] at V;have a:=y.iN.row.cellAt U 0 ab;rw[show h * rZ.k+0=h by show h * 1+0=h;omega] at a;have fl2:=y.iN.row.frozenAt h;have K:=y.iN.fv h U;have M:=ax y;have T:=d.o.2.2.2;have HFT:=ax T;have N:=ax d.o.1;have Ym:=ax d.o.2.1;have⟨s,P⟩:=ar (Y[h]);rw[P] at g2 J V a K;have Yn:=ax P;obtain⟨S,sn,R⟩:=s;obtain⟨_,_,es,_,_,_⟩:=V.form;injection es with es1 es2 es3;subst es2;have m:=ax V;have C1:=ax C;have C2:Hid (wr.cell? (af7 r h)=some (.slice S (ab0 (lvl L h)) R)):=ax (a.T rfl);have FL2:=ax fl2;have Yo:=ax K;have HU1:=ax (HU.o.next (G:=Q) (λz I H=>T.block z I H) T.size d.o.1);clear hx d y a fl2 V P es1 es3 K T D E;go_upto_region 2 with fail;clear C;have Z:=ax (λ(O:World) (T:Touch (λz=>(Value.slice S (ab0 (lvl L h)) R).ownBlock=some z) wr O)=>(aB ((bn (a:=af7 g 1) (T.block g hgr g2)).T C1.o) ((bn (a:=af7 r h) (T.block r hgl J)).T C2.o)));refine qd (λO=>Touch (λz=>(Value.slice S (ab0 (lvl L h)) R).ownBlock=some z) wr O) 15 (pW 0 13 (o_ 13 (pW 14 1 (o_ 15 [])))) ((Touch.refl _ _).drew) ?_;iterate 13 refine kz ?_
   refine nC λK E=>?_;refine El iY (ts:=196) i0 _ 8 underlying196 HI.o HZ.o Vy.o TK.o rfl ab  ab (.tmp 33) (.tmp 34) rfl 0 (.slice S (ab0 (lvl L h)) R) (lvl L h) rfl (g8.drew m.o) (.slice A0 (ab0 v) c0) v rfl (HU1.o.rd.K (aC _ _).drew) aa  aa ?_;intro v7 B f X x;have T:Touch (λz=>(Value.slice S (ab0 (lvl L h)) R).ownBlock=some z) wr B:=((Touch.refl _ _).drew).grown X (λz t=>.inl t);have l:=ax f;have A:=ax x;obtain⟨c,b,rfl,_,_,_⟩:=f.form;clear f X x;go_simp;refine E _ _ (T) ?_;refine kz ?_;refine qc λK E=>?_;have k2:=(bn (a:=af7 r h) (T.block r hgl J)).T C2.o;have X:=(dr (a:=af7 r h) (T.block r hgl J)).T FL2.o;go_simp;refine E _ _ ?_;refine iq ?_;clear k2 X;have o:ab0 (lvl L h++v)=ab0 (lvl L h)+ab0 v:=aE;have f:=l.o;have x:=A.o;rw[o] at f x;have hown:∀z,(Value.slice c (ab0 (lvl L h)+ab0 v) b).ownBlock=some z->(Value.slice S (ab0 (lvl L h)) R).ownBlock=some z\/wr.heap.size<=z:=λz e=>by
    rcases x with p|p
    .rw[p] at e;exact .inl e
    .rw[p] at e;injection e with e;exact .inr (by rw[<-e];exact aD _)
   have hvb:(jc Y[h]).ownBlock=(Value.slice S (ab0 (lvl L h)) R).ownBlock:=by rw[Yn.o];rfl
   have iN:=mR.level (s':=(c,ab0 (lvl L h)+ab0 v,b)) (l':=lvl L h++v) M.o i rfl f (λz I H=>T.block z I (λe=>H (hvb.T e))) T.size (by
    rcases x with p|p
    .exact .inl (p.T hvb.Y)
    .exact .inr λz e=>by have e:=p.Y.T e;injection e with e;rw[<-e];exact aD _)
   have TT:Touch F w B:=HFT.o.T T λz t=>N.o z (Yo.o z t);have T8:=ax (TT.setCell (p:=af7 r h) (N.o r sZ) (jc (c,ab0 (lvl L h)+ab0 v,b)));have X:=ax iN;have HOWN:=ax hown;clear iN f x TT T l A hown M m HU1 C1 C2 FL2 hvb g2 J;have⟨M,f⟩:=ar (B.setCell (af7 r h) (jc (c,ab0 (lvl L h)+ab0 v,b)));rw[f] at X T8;show Exit.then _ _ Exit.normal _ (B.setCell (af7 r h) (jc (c,ab0 (lvl L h)+ab0 v,b)))
   rw[f];clear f;have C:=X.o.cell1;have x:(Y.set h (c,ab0 (lvl L h)+ab0 v,b))[h]'(by rw[aZ];exact U)=(c,ab0 (lvl L h)+ab0 v,b):=eH ..;have f:=X.o.iN.row.cellAt (j:=h) (by rw[aZ];exact U) 0 ab;rw[show h * rZ.k+0=h by show h * 1+0=h;omega,x] at f;have k2:M.cell? (af7 r h)=some (.slice c (ab0 (lvl L h)+ab0 v) b):=f.T rfl;clear f;have V:=X.o.iN.each h (by rw[aZ];exact U);rw[x,nF _ _ _ _ i,aH rfl] at V;have m:=ax V;clear V;go_wp21;refine RX (Oa (jc (c,ab0 (lvl L h)+ab0 v,b)) 0 (lvl L h++v) M m.o (by rw[o];omega)) ?_;rintro A ⟨T,f⟩;rw[N8 PW.o v] at T;have V:=X.o.turn (j:=h) (l':=insL (lvl L h) v) (by rw[aZ];exact i) (by rw[x];exact T) (λz I H=>f.block z I (λe=>H (by rw[x];exact e))) f.size;rw[gT] at V;have J:=ax V;have I:=ax (T8.o.T f (λz t=>by
    rcases HOWN.o z t with e|e
    .exact N.o z (Yo.o z e)
    .exact .inr aa))
   clear V T f C k2;go_wp21
   go_end0
   refine⟨rfl,_,_,_,?_,?_,J.o,I.o⟩
   .intro z t
    rcases t with t|t
    .exact N.o z t
    .rcases HOWN.o z t with e|e
     .exact N.o z (Yo.o z e)
     .exact .inr aa
   .exact λz t=>.inl (Ym.o z t)
def xv.Yl(h:xv F w g k led lv vs L)(x:0<ab0 L):∃z c,lv=.slice (some (af7 z 0)) (ab0 L) c/\z<w.heap.size/\z≠g/\F z:=by
 have u:0<ab0 vs:=by rw[h.iN.len];exact x
 obtain⟨z,c,e,_,v,_,_⟩:=h.iN.row.pos u;rw[h.iN.len] at e;refine⟨z,c,e,v,λy=>h.g1 ?_,h.iN.fl z ?_⟩
 .rw[e,y];rfl
 .rw[e];rfl
def pr(h:Nat)(x:Int)(w:World)(U:xv F w g k led lv vs L)(hh:h<=100)(hL:ab0 L<=1000)(hl:ab0 (lvl L h)<=1000000000):af4 af5 116 #[aq g,af6 h,af6 x] w λe c=>e=.returned (.tuple #[])/\∃z y v,(∀k,z k->F k\/w.heap.size<=k)/\(∀k,F k->z k)/\xv z c g k led y v (lN L h [x])/\Touch F w c:=by
 obtain⟨i1,z,u,v,y⟩:=cR Tu;have JI:=ax z;have JZ:=ax u;have Oo:=ax v;have Ot:=ax y;clear z u v y;have D:=ax U;clear U;go_in;go_wp2;go_loopg [6] (h+1 - ab0 L) (λq _ wr=>∃(j:Nat) (b:Nat->Prop) (o:Value) (f:List Sv),q=h+1 - ab0 L - j/\(j=0\/ab0 L+j<=h+1)/\Hid ((∀k,b k->F k\/w.heap.size<=k)/\(∀k,F k->b k)/\xv b wr g k led o f (L++List.replicate j [])/\Touch F w wr))
 exact⟨0,F,lv,vs,rfl,.inl rfl,ax ⟨λk u=>.inl u,λk u=>u,by rw[fU,bP];exact D.o,Touch.refl _ _⟩⟩
 case round=>
  obtain⟨j,b,o,f,z,hj,t⟩:=hrel;have HQ:=ax z;clear z;have S:=t.o;have hw1:=S.2.2.2.size;have y:=S.2.2.1;obtain⟨R,P,rfl,hc1,hc2,_⟩:=y.form;have M:=y.cell1;have hgr:=y.blk.lt;have V:ab0 (L++List.replicate j ([]:List Int))=ab0 L+j:=ad;rw[V] at M hc1 y;by_cases hle:ab0 L+j<=h
  .have A:((ab0 L+j:Nat):Int)<=(h:Int):=aa
   have r:=y.iN.row;have O:=ax r;have a:=ax y;have v:∀z,(Value.slice R (ab0 L+j) P).ownBlock=some z->b z:=λz e=>y.iN.fl z e;have s:(Value.slice R (ab0 L+j) P).ownBlock≠some g:=y.g1;have d:=ax v;have Q:=ax s;have I:ab0 f=ab0 L+j:=by rw[y.iN.len,V]
   clear r y S v s V;go_wp2_with (at_builtin;refine ij rZ (ts:=112) i1 _ 24 underlying112 JI.o JZ.o Oo.o Ot.o rfl ab  ab rfl (.tmp 17) (.tmp 18) rfl 0 (.slice R (ab0 L+j) P) f rfl (O.o.alloc _) _ [(none,0,0)] rfl (iQ.ig (E:=rZ) wr (none,0,0) _ rfl _ rfl _ rfl) ae aa ?_;intro l J r q s;have v:=(q.block g ae (λe=>Q.o e.Y)).T (g7.alloc a.o.blk _);have H:=g7.C v 1;have B:=g7.F v 1;simp only[az,aA,ay] at H;have Y:=ax r;have T:=ax q;have X:=ax s;obtain⟨G,C,rfl,_,_,_⟩:=r.form;clear r q s v;go_simp)
   have N:ab0 (f++[((none,0,0):Sv)])=ab0 L+j+1:=by rw[aE,I];rfl
   have r:=Y.o;have s:=X.o;have q:=T.o;rw[N] at r s;have K:=mR.more (a.o.K ((aC _ _).alloc (aD _) (.cells #[.slice none 0 0] 196))) r q s;go_roundg (h+1 - ab0 L - (j+1))
   case measure=>have:=HQ.o;omega
   case rel=>
    refine⟨j+1,_,_,_,rfl,.inr aa,ax ⟨?_,?_,by rw[Em];exact K,?_⟩⟩
    .intro z v
     rcases v with v|v
     .exact t.o.1 z v
     .rcases s with p|p
      .rw[p] at v;exact t.o.1 z (d.o z v)
      .rw[p] at v
       injection v with v;rw[<-v];refine .inr ?_;simp;omega
    .exact λz v=>.inl (t.o.2.1 z v)
    .refine Touch.setCell (Touch.grown (Touch.alloc t.o.2.2.2 _) q λz v=>?_) ?_ _
     .exact t.o.1 z (d.o z v)
     .exact .inl D.o.fg
  .have X:ext L h=L++List.replicate j []:=by
    unfold ext
    congr 2
    omega
   rw[<-X] at y;have l:h<ab0 (ext L h):=by rw[mF];omega
   have hlen:ab0 (ext L h)=ab0 L+j:=by rw[X,V]
   obtain⟨d,cl,T,N,Ho,sZ⟩:=xv.Yl y aa;rw[hlen] at T;injection T with T e2 e3;subst T;subst e3;have m:h<ab0 f:=by rw[y.iN.len];exact l
   have q:=y.iN.each h m;rw[tT] at q;have p:=y.iN.row.cellAt m 0 ab;rw[show h * rZ.k+0=h by show h * 1+0=h;omega] at p;have K:=y.iN.row.frozenAt h;have a:=ax y;have B:=t.o.2.2.2;have G:=ax B;have E:=ax t.o.1;have Ym:=ax t.o.2.1;have⟨s,U⟩:=ar (f[h]);rw[U] at q p;obtain⟨W,sn,i⟩:=s;obtain⟨_,_,O,_,_,_⟩:=q.form;injection O with es1 es2 es3;subst es2;have C:=ax q.rd;have I:=ax M;have Q:Hid (wr.cell? (af7 d h)=some (.slice W (ab0 (lvl L h)) i)):=ax (p.T rfl);have H:=ax K;clear S t y p K q U es1 es3 B V X;go_upto_region 2 with fail;clear M;have Z:=ax (λ(c:World) (q:af3 wr c)=>(aB ((q.C (p:=af7 g 1) hgr).T I.o) ((q.C (p:=af7 d h) N).T Q.o)));refine qd (λc=>af3 wr c) 15 (pW 0 13 (o_ 13 (pW 14 1 (o_ 15 [])))) ((aC _ _).drew) ?_;iterate 13 refine kz ?_
   refine nC λK X=>?_;go_simp;refine(Ob (.slice W (ab0 (lvl L h)) i) (lvl L h) x _ (C.o.K (aC _ _).drew) hl).M ?_;rintro e J ⟨⟨n,n7,B⟩,rfl,r,A⟩;have q:af3 wr J:=((aC _ _).drew).T A;obtain⟨_,_,O,_,_,_⟩:=r.form;injection O with es1 es2 es3;subst es2;have Y:=ax r;clear r A es1 es3;unfold jc;refine X _ _ (q) ?_;refine kz ?_;refine qc λK X=>?_;have A:=(q.C (p:=af7 d h) N).T Q.o;have r:=(q.F (p:=af7 d h) N).T H.o;go_simp;refine X _ _ ?_;refine iq ?_;clear A r;have X:=mR.level (s':=(n,ab0 (ins x (lvl L h)),B)) (l':=ins x (lvl L h)) a.o l rfl (Y.o.more (bl _)) (λz r _=>q.block z r) q.size (.inr λz e=>(Y.o.lt z e).1);have r:Touch F w J:=G.o.T (Touch.of_below (F:=λ_=>False) q (aD _)) λz u=>u.elim;have T8:=ax (r.setCell (p:=af7 d h) (E.o d sZ) (jc (n,ab0 (ins x (lvl L h)),B)));have K:=ax X;have hzw:w.heap.size<=wr.heap.size:=G.o.size;have A:=ax (λz e=>(Y.o.lt z e).1);clear X r q a C I Q H;go_wp21
   go_end0
   refine⟨rfl,_,?_,?_,⟨_,_,K.o⟩,T8.o⟩
   .intro z u
    rcases u with u|u
    .exact E.o z u
    .exact .inr (bf hzw (A.o z u))
   .exact λz u=>.inl (Ym.o z u)
def Hp:vT Int where
 k:=1
 t:=5
 enc x:=[.int .u8 x]
 len _:=rfl
 one x u hu:=by
  simp only[aS,cx,or_false] at hu;subst hu;rfl
def _root_.Go.Proofs.YtdicblkhpcphfaaGreat.ky.u8(h:ky Hp w A l)(u:j<ab0 l):∃g z,A=some (af7 g z)/\g<w.heap.size/\w.cell? (af7 g (z+j))=some (.int .u8 l[j]):=by
 obtain⟨g,z,y,v,x⟩:=h aa;refine⟨g,z,y,v,?_⟩;have:=x j u 0 ab;rw[show z+j * Hp.k+0=z+j by show z+j * 1+0=_;omega] at this;exact this
def _root_.Go.Proofs.YtdicblkhpcphfaaGreat.iQ.stay{E:vT α}{l:List α}(h:iQ E w v l)(q:∀k,v.ownBlock=some k->w'.heap[k]?=w.heap[k]?)(d:w.heap.size<=w'.heap.size):iQ E w' v l:=by
 obtain⟨A,c,rfl,y,x,u⟩:=h.form;refine iQ.kn y x λz=>?_;obtain⟨g,p,rfl,f,t⟩:=u z;exact⟨g,p,rfl,aa,λj r i s=>(bn (q g rfl)).T (t j r i s)⟩
def TM(B:List Int):Prop:=ab0 B<=1000000/\∀x∈B,0<=x/\x<=255
structure Lu(t:TypeId)(w:World)(g:Nat)(v:Value)(B:List Int)(a:Nat):Prop where
 blk:g7 w g t #[v,af6 a]
 rd:iQ Hp w v B
 ne:v.ownBlock≠some g
 at_:a<=8 * ab0 B
 TO:TM B
def Lu.stay(h:Lu t w g v B a)(z:w'.heap[g]?=w.heap[g]?)(y:∀k,v.ownBlock=some k->w'.heap[k]?=w.heap[k]?)(x:w.heap.size<=w'.heap.size):Lu t w' g v B a:=
 ⟨z.T h.blk,h.rd.stay y x,h.ne,h.at_,h.TO⟩
def Lu.drewN(h:Lu t w g v B a)(n:Nat):Lu t (w.drewN n) g v B a:=h.stay rfl (λ_ _=>rfl) (aD _)
def Lu.step(h:Lu t w g v B a)(x:a<8 * ab0 B):Lu t (w.setCell (af7 g 1) (af6 (a+1:Nat))) g v B (a+1):=by
 have z:∀k,k≠g->(w.setCell (af7 g 1) (af6 (a+1:Nat))).heap[k]?=w.heap[k]?:=λk z=>a_ w (af7 g 1) _ k z;refine⟨?_,h.rd.stay (λk e=>z k λy=>h.ne (by rw[e,y])) ad,h.ne,x,h.TO⟩;have:=h.blk.hJ 1 (af6 (a+1:Nat));simpa using this
def RC(w:World)(g:Nat)(v:Value)(B:List Int)(a:Nat):Prop:=Lu 57 w g v B a\/(B=[]/\a=0/\v=.slice none 0 0/\∃A c,c<=maxLen/\g7 w g 57 #[.slice A 0 c,af6 0])
def RC.stay(h:RC w g v B a)(z:w'.heap[g]?=w.heap[g]?)(r:∀k,v.ownBlock=some k->w'.heap[k]?=w.heap[k]?)(q:w.heap.size<=w'.heap.size):RC w' g v B a:=by
 rcases h with h|⟨y,x,u,A,c,s,t⟩
 .exact .inl (h.stay z r q)
 .exact .inr ⟨y,x,u,A,c,s,z.T t⟩
abbrev BR:=Lu 219
def Lv(h:0<=y/\y<=255):wrap64 y=y:=by unfold wrap64;omega
def Hq(g:Nat)(v:Value)(B:List Int)(a:Nat)(w:World)(h:Lu 57 w g v B a):af4 af5 191 #[aq g] w λe f=>e=.returned (af6 (i5 B a:Nat))/\Lu 57 f g v B (jP B a)/\Touch (λk=>k=g) w f:=by
 have s:=ax h;obtain⟨A,c,rfl,O,r,z⟩:=h.rd.form;have X:=h.blk.k0;have V:=h.blk.k1;have S:=h.blk.F 1;have P:=h.TO.1;have Q:=h.at_;have d:=ax z;clear h z;by_cases u:a<8 * ab0 B
 .have q:a / 8<ab0 B:=aa
  obtain⟨R,M,rfl,N,U⟩:=d.o.u8 q;have t:=s.o.TO.2 _ (aP q);have⟨x,z⟩:=ar (B[a / 8]);rw[z] at U t;have b:=ax z;clear z;have T:¬(a:Int)>=8 * (ab0 B:Int):=aa;go_in;go_wp21
  go_quiet (fail)
  go_wp21
  go_quiet (fail)
  have z:0<=x / 2 ^ (a % 8)/\x / 2 ^ (a % 8)<=255:=by
   have y:(0:Int)<2 ^ (a % 8):=dp ab;exact⟨dh t.1 aa,gW (fx _ t.1) t.2⟩
  have y:Hid (x / 2 ^ (a % 8) % 2=((i5 B a:Nat):Int)):=ax (by
   unfold i5;rw[aH u];simp only[List.getD];rw[aL q,br,b.o];omega)
  have p:(wrap64 (x / 2 ^ (a % 8))).tmod 2=((i5 B a:Nat):Int):=by
   rw[Lv z,eO z.1];exact y.o
  rw[p];clear p y z;have r:jP B a=a+1:=by unfold jP;rw[aH u]
  have p:=ax r;clear r;have⟨y,z⟩:=ar (i5 B a);rw[z];have Y:=ax z;clear z;go_wp2;refine ak ?_;refine⟨by rw[Y.o],?_,?_⟩
  .rw[p.o]
   exact(s.o.drewN _).step u
  .exact Touch.setCell (F:=λk=>k=g) (Touch.drewN (Touch.refl _ _) _) (.inl rfl) _
 .have T:(a:Int)>=8 * (ab0 B:Int):=aa
  go_in;go_wp21
  go_quiet (fail)
  go_wp2;refine ak ?_;have z:jP B a=a:=by unfold jP;rw[aF u]
  have y:i5 B a=0:=by unfold i5;rw[aF u]
  rw[z,y];exact⟨rfl,s.o.stay rfl (λ_ _=>rfl) (aD _),Touch.drewN (Touch.refl _ _) _⟩
def Hr(g c:Nat)(A:Option Addr)(w:World)(h:g7 w g 57 #[.slice A 0 c,af6 0]):af4 af5 191 #[aq g] w λe z=>e=.returned (af6 0)/\∃n,z=w.drewN n:=by
 obtain⟨y,x⟩:=h.c2;clear h;go_in;go_wp21
 go_quiet (fail)
 go_wp2;refine ak ?_;exact⟨rfl,_,rfl⟩
def Lw(g:Nat)(v:Value)(B:List Int)(a:Nat)(w:World)(h:RC w g v B a):af4 af5 191 #[aq g] w λe z=>e=.returned (af6 (i5 B a:Nat))/\RC z g v B (jP B a)/\Touch (λk=>k=g) w z:=by
 rcases h with h|⟨rfl,rfl,rfl,A,c,t,h⟩
 .exact(Hq g v B a w h).M λe z ⟨y,x,u⟩=>⟨y,.inl x,u⟩
 .refine RX (Hr g c A w h) ?_
  rintro z ⟨n,rfl⟩;exact⟨rfl,.inr ⟨rfl,rfl,rfl,A,c,t,h⟩,Touch.drewN (Touch.refl _ _) _⟩
def u8I:(prog.info? 5).map (λi=>(i.zero,i.size,i.bytes))=some (some (.int .u8 0),1,1):=by kernel_rfl
def Ou(v:Value)(l:List Int)(w:World)(h:iQ Hp w v l)(S:ab0 l<=1000000000000):af4 af5 129 #[v] w λe t=>∃s:Sv,e=.returned (jc s)/\g8 Hp w.heap.size t (jc s) l/\af3 w t:=by
 obtain⟨X,z,u,x,y⟩:=cR u8I;have q:=ax z;have d:=ax u;have f:=ax x;have r:=ax y;clear z u x y;obtain⟨A,c,rfl,R,T,x⟩:=h.form;have p:=ax h;clear h;by_cases y:A=none
 .subst y
  have z:l=[]:=by
   rcases bo (ab0 l) with z|z
   .exact aV z
   .obtain⟨g,u,e,_⟩:=x z;cases e
  subst z;clear x;have Y:(binOp .eql 37 (.slice none 0 c) (.slice none 0 0)).run prog w=.ok (.bool true) w:=Lib.run_eql_slice_nil w _ _ _ _ _ _ _ underlying37;go_in;go_wp2;go_ret;exact⟨(none,0,0),rfl,g8.nil_ _ _,bw⟩
 .obtain⟨a,rfl⟩:∃a,A=some a:=by
   cases A with
   | none=>exact absurd rfl y
   | some a=>exact⟨a,rfl⟩
  clear y x;have Y:(binOp .eql 37 (.slice (some a) (ab0 l) c) (.slice none 0 0)).run prog w=.ok (.bool false) w:=Lib.run_eql_slice_nil w _ _ _ _ _ _ _ underlying37;go_in;go_wp2_with (at_builtin;refine ij Hp (ts:=37) X _ 1 underlying37 q.o d.o f.o r.o rfl ab  ab rfl (.tmp 5) (.tmp 6) rfl w.heap.size _ [] rfl (g8.lit (E:=Hp) w [] _ rfl _ rfl ab) _ l rfl (p.o.K (bw)) ae ad ?_;intro Q V z b U)
  have s:af3 w V:=(dD (aC _ _) (aD _) _).grown b ad (λk u=>by have:=bJ (show some w.heap.size=some k from u);omega);simp only[bB] at z;obtain⟨u,g,rfl,_,_,_⟩:=z.form;go_wp2;go_ret;exact⟨(u,_,g),rfl,z,s⟩
structure KC(w:World)(g r:Nat)(v:Value)(B:List Int)(a:Nat):Prop where
 blk:g7 w g 137 #[aq r]
 rd:BR w r v B a
 ne:g≠r
 nv:v.ownBlock≠some g
def Lx(r:Nat)(v:Value)(B:List Int)(a:Nat)(w:World)(h:BR w r v B a):af4 af5 393 #[aq r] w λe u=>e=.returned (af6 (8 * (ab0 B:Int) - a))/\∃n,u=w.drewN n:=by
 obtain⟨A,c,rfl,q,p,x⟩:=h.rd.form;have z:=h.blk.k0;have y:=h.blk.k1;have s:=h.TO.1;have t:=h.at_;clear h x;go_in;go_wp21
 go_quiet (fail)
 go_wp2;refine ak ?_;exact⟨rfl,_,rfl⟩
def Q7:(List.range 256).all (λ(y:Nat)=>bits .or .u32 0 (bits .and .u8 (y:Int) 1 % 4294967296) == ((y % 2:Nat):Int))=true:=by kernel_rfl
def Ov(h:0<=y/\y<=255):bits .or .u32 0 (bits .and .u8 y 1 % 4294967296)=y % 2:=by
 obtain⟨n,rfl⟩:∃n:Nat,y=n:=⟨y.toNat,aa⟩;have z:=gB.1 Q7 n (eG.2 aa);have x:=eq_of_beq z;rw[x];omega
def group_any(r:Nat)(v:Value)(B:List Int)(a:Nat)(w:World)(h:BR w r v B a):af4 af5 328 #[aq r,af6 1] w λe b=>∃q:Int,e=.returned (.tuple #[.int .u32 (i5 B a:Nat),af6 q])/\BR b r v B (jP B a)/\Touch (λk=>k=r) w b:=by
 have d:=ax (Lx r v B a w h);have p:=ax h;obtain⟨A,c,rfl,H,g,z⟩:=h.rd.form;have R:=h.blk.k0;have Q:=h.blk.k1;have K:=h.blk.F 1;have I:=h.TO.1;have J:=h.at_;have V:=ax z;clear h z;by_cases u:a<8 * ab0 B
 .have f:a / 8<ab0 B:=aa
  obtain⟨O,M,rfl,G,P⟩:=V.o.u8 f;have s:=p.o.TO.2 _ (aP f);have⟨x,z⟩:=ar (B[a / 8]);rw[z] at P s;have S:=ax z;clear z;have N:¬8 * (ab0 B:Int) - a<1:=aa;go_in;go_wp21;refine RX d.o ?_;rintro L ⟨n,rfl⟩;go_wp2;go_loopg [6,7,19] 1 (λq y _ z wr=>(q=1/\y=.int .u32 0/\z=af6 0/\Hid (wr=w.drewN n))\/(q=0/\y=.int .u32 (i5 B a:Nat)/\z=af6 1/\Hid (BR wr r (Value.slice (some (af7 O M)) (ab0 B) c) B (a+1))/\Hid (Touch (λk=>k=r) w wr)))
  exact .inl ⟨rfl,rfl,rfl,ax rfl⟩
  case round=>
   rcases hrel with⟨t,rfl,rfl,T⟩|⟨t,rfl,rfl,Y,U⟩
   .have X:=ax t
    clear t;obtain⟨⟨rfl⟩⟩:Nonempty (Hid (wr=w.drewN n)):=⟨T⟩;go_wp21
    go_quiet (fail)
    have z:0<=x / 2 ^ (a % 8)/\x / 2 ^ (a % 8)<=255:=by
     have y:(0:Int)<2 ^ (a % 8):=dp ab;exact⟨dh s.1 aa,gW (fx _ s.1) s.2⟩
    have y:x / 2 ^ (a % 8) % 2=((i5 B a:Nat):Int):=by
     unfold i5;rw[aH u];simp only[List.getD];rw[aL f,br,S.o];omega
    rw[Ov z,y];clear y z;have⟨y,z⟩:=ar (i5 B a);rw[z];have q:=ax z;clear z;go_wp2;go_roundg 0
    case measure=>have:=X.o;omega
    case rel=>
     refine .inr ⟨rfl,by rw[q.o],rfl,ax ?_,ax ?_⟩
     .exact(p.o.drewN _).step u
     .exact Touch.setCell (F:=λk=>k=r) (Touch.drewN (Touch.refl _ _) _) (.inl rfl) _
   .have g:jP B a=a+1:=by unfold jP;rw[aH u]
    have X:=ax g;clear g t;have⟨y,z⟩:=ar (i5 B a);rw[z];have q:=ax z;clear z;go_wp2;refine ak ?_;refine⟨0,by rw[q.o],?_,U.o⟩;rw[X.o];exact Y.o
 .have N:8 * (ab0 B:Int) - a<1:=aa
  go_in;go_wp21;refine RX d.o ?_;rintro L ⟨n,rfl⟩;go_wp2;refine ak ?_;have z:jP B a=a:=by unfold jP;rw[aF u]
  have y:i5 B a=0:=by unfold i5;rw[aF u]
  rw[z,y];exact⟨20,rfl,p.o.drewN _,(Touch.refl _ _).drewN _⟩
def Q8(r:Nat)(v:Value)(B:List Int)(a:Nat)(w:World)(h:BR w r v B a):af4 af5 262 #[aq r] w λe x=>∃q:Int,e=.returned (.tuple #[.int .u32 (i5 B a:Nat),af6 q])/\BR x r v B (jP B a)/\Touch (λk=>k=r) w x:=by
 have s:=ax (group_any r v B a w h);clear h;go_in;go_wp21;refine WE s.o ?_;rintro q p ⟨z,y⟩;have u:=ax z;have t:=ax y;clear z y;go_wp2;refine ak ?_;exact⟨q,rfl,u.o,t.o⟩
def Ly(g r:Nat)(v:Value)(B:List Int)(a:Nat)(w:World)(h:KC w g r v B a):af4 af5 179 #[aq g] w λe p=>e=.returned (af6 (i5 B a:Nat))/\KC p g r v B (jP B a)/\Touch (λk=>k=r) w p:=by
 have u:=ax (Q8 r v B a w h.rd);have d:=h.blk.k0;have z:=ax h;have c:=rX B a;clear h;have⟨y,x⟩:=ar (i5 B a);rw[x] at u c;rw[x];clear x;go_in;go_wp21;refine WE u.o ?_;rintro q b ⟨t,s⟩;have f:=ax t;have x:=ax s;clear t s;go_wp2;refine ak ?_;refine⟨rfl,⟨?_,f.o,z.o.ne,z.o.nv⟩,x.o⟩;exact(x.o.block g z.o.blk.lt (λe=>z.o.ne e)).T z.o.blk
def Ox(v:Value)(B:List Int)(w:World)(h:iQ Hp w v B)(z:TM B):af4 af5 63 #[v] w λe x=>∃r y,e=.returned (aq r)/\w.heap.size<=r/\BR x r y B 0/\(∀k,y.ownBlock=some k->w.heap.size<=k/\k<x.heap.size)/\af3 w x:=by
 have g:=ax (Ou v B w h (aa2 z.1));have p:=ax z;clear h z;go_in;go_wp21;refine WE g.o ?_;rintro s d ⟨z,u⟩;obtain⟨q,f,t,_,_,_⟩:=z.form;rw[t] at z |-;have y:=ax z;have r:=u.size;clear z t
 go_wp2;refine ak ?_;refine⟨_,.slice q (ab0 B) f,rfl,r,⟨g7.new _ _ _,iQ.K y.o.rd ((aC _ _).alloc (aD _) _),λe=>?_,bl _,p.o⟩,λk e=>?_,u.alloc r _⟩
 .have:=(y.o.lt _ e).2;omega
 .have:=y.o.lt k e
  refine⟨this.1,?_⟩;simp;omega
def Oz(v:Value)(B:List Int)(w:World)(h:iQ Hp w v B)(y:TM B):af4 af5 20 #[v] w λe x=>∃g r z,e=.returned (aq g)/\w.heap.size<=g/\w.heap.size<=r/\KC x g r z B 0/\(∀k,z.ownBlock=some k->w.heap.size<=k/\k<x.heap.size)/\af3 w x:=by
 have g:=ax (Ox v B w h y);clear h y;go_in;go_wp21;refine(g.o).M ?_;rintro e d ⟨r,z,rfl,f,s,q,t⟩;have u:=ax s;have y:=ax q;have p:=t.size;clear s q;go_wp2;refine ak ?_;have s:=u.o.blk.lt;refine⟨_,r,z,rfl,p,f,⟨g7.new _ _ _,u.o.stay ?_ (λk e=>?_) ad,aa,λe=>?_⟩,λk e=>?_,t.alloc p _⟩
 .exact eJ _ _ _ s
 .exact eJ _ _ _ (y.o k e).2
 .have:=(y.o _ e).2;omega
 .have:=y.o k e
  refine⟨this.1,?_⟩;simp;omega
def mR.at_{a:Value}{rest:List Value}(h:mR t a rest F w g lv vs L)(S:j<ab0 L):∃z c x v,lv=.slice (some (af7 z 0)) (ab0 L) c/\z<w.heap.size/\z≠g/\F z/\vs[j]?=some (x,ab0 (lvl L j),v)/\w.cell? (af7 z j)=some (.slice x (ab0 (lvl L j)) v)/\w.frozen? (af7 z j)=false /\
  g8 iY 0 w (.slice x (ab0 (lvl L j)) v) (lvl L j)/\(∀k,(Value.slice x (ab0 (lvl L j)) v).ownBlock=some k->F k/\k≠z/\k≠g):=by
 have y:j<ab0 vs:=by rw[h.iN.len];exact S
 have R:0<ab0 vs:=aa;obtain⟨z,c,e,_,T,_,_⟩:=h.iN.row.pos R;rw[h.iN.len] at e;have f:=h.iN.each j y;have r:=h.iN.row;rw[e] at r;have q:=r.cellAt y 0 ab;rw[show j * rZ.k+0=j by show j * 1+0=j;omega] at q;have U:=r.frozenAt j;have d:=h.iN.apart j y;have b:=h.iN.fv j y;have Y:=h.g2 j y;have⟨s,X⟩:=ar (vs[j]);rw[X] at f q d b Y;obtain⟨x,Q,v⟩:=s;obtain⟨_,_,V,_,_,_⟩:=f.form;injection V with es1 es2 es3;subst es2;refine⟨z,c,x,v,e,T,λu=>h.g1 (by rw[e,u];rfl),h.iN.fl z (by rw[e];rfl),by rw[aL y,X],q.T rfl,U,f,λk p=>⟨b k p,λu=>d k p (by rw[e,u];rfl),λu=>Y (by rw[<-u];exact p)⟩⟩
def qG(k:Nat)(L:LL):Int:=match jo k L with|none=>-1|some h=>(h:Int)
def Hs(z:h<ab0 L)(y:room k (ab0 L) h<ab0 (lvl L h))(x:∀j,j<h->ab0 (lvl L j)<=room k (ab0 L) j):qG k L=h:=by
 unfold qG;rw[D5 z y x]
def Ht(h:∀j,j<ab0 L->ab0 (lvl L j)<=room k (ab0 L) j):qG k L=-1:=by
 unfold qG;rw[mQ h]
def yO(w:World)(y:rl F w g k n led lv vs L)(f:2<=k)(S:k<=1000000)(M:ab0 L<=1000)(R:cnt L<=1000000000):af4 af5 261 #[aq g] w λe Q=>e=.returned (af6 (qG k L))/\w=Q:=by
 have X:=ax (λh z=>D_ h w y f S aa z);obtain⟨A,c,z,K,J,_⟩:=y.form;have P:=y.cell1;have U:=ax y;have a:=ax (λj=>bf (iD L j) R);have V:=ax (λj=>room_le (k:=k) (len:=ab0 L) (h:=j) f);clear y;subst z;go_in;go_wp2;go_loopg [3,4,10] (ab0 L) (λq _ _ i wr=>(∃j:Nat,q=ab0 L - j/\j<=ab0 L/\i=af6 (j:Int)/\Hid (∀i,i<j->ab0 (lvl L i)<=room k (ab0 L) i))/\w=wr)
 exact⟨⟨0,aa,aa,rfl,ax (λi t=>absurd t aa)⟩,rfl⟩
 case round=>
  obtain⟨⟨j,y,G,rfl,v⟩,rfl⟩:=hrel;have Y:=ax y;clear y;by_cases d:j<ab0 L
  .obtain⟨N,O,D,C,z,I,_,_,_,T,_,_,_⟩:=U.o.at_ d
   injection z with z e2 e3;subst z;subst e3;have b:=ax (a.o j);have u:=ax (X.o j aa);have⟨r,y⟩:=ar (room k (ab0 L) j);have⟨x,s⟩:=ar (ab0 (lvl L j));have E:r<=k:=by rw[<-y];exact V.o j
   rw[y] at u;rw[s] at T b;have q:=ax y;have p:=ax s;clear y s;by_cases H:(x:Int) > (r:Int)
   .go_wp21
    refine Ix u.o ?_;go_wp2;refine ak ?_;exact⟨by rw[Hs d (by rw[q.o,p.o];omega) v.o],rfl⟩
   .go_wp21
    refine Ix u.o ?_;go_wp2;go_roundg (ab0 L - (j+1))
    case measure=>have:=Y.o;omega
    case rel=>
     refine⟨⟨j+1,rfl,aa,af,ax λi t=>?_⟩,rfl⟩;rcases bm i j with y|y
     .exact v.o i y
     .obtain rfl:i=j:=aa
      rw[q.o,p.o];omega
  .have y:=ax (Ht (k:=k) (L:=L) (λi t=>v.o i aa))
   go_wp2;refine ak ?_;exact⟨by rw[y.o],rfl⟩
structure ku(s:KS):Prop where
 jk:∀j,pz (lvl s.1 j)
 top:D8 s.1
 wt:wt s.1<=281474976710656
 cnt:cnt s.1<=1000000
 led:s.2.1<=4611686018427387904
def ku.len(h:ku s):ab0 s.1<=49:=QW h.top h.wt
def OB(h:pz l):pz (m8 l):=h.sublist (List.drop_sublist ..)
def OD(z:h<ab0 L)(c j:Nat):lvl (mu L h c) j=if j=h+1 then insL (lvl L (h+1)) (N_ (lvl L h) c) else if j=h then m8 (lvl L h) else lvl L j:=by
 unfold mu;rw[l_,nF _ _ _ _ z,nF _ _ _ _ z,aF (show ¬h+1=h by omega)]
def ku.step(z:ku s)(e:jo k s.1=some h):ku (kO B h s):=by
 obtain⟨y,x,_⟩:=lE e;have u:=xt (k:=k) y;have v:=AF y (i5 B s.2.2);refine⟨λj=>?_,z.top.pack y aa _,?_,?_,?_⟩
 .show pz (lvl (mu s.1 h (i5 B s.2.2)) j)
  rw[OD y];split
  .exact yH (z.jk _) _
  .split
   .exact OB (z.jk _)
   .exact z.jk j
 .show Go.Proofs.YtdicblkhpcphfaaGreat.K.wt (mu s.1 h (i5 B s.2.2))<=_
  rw[D6 y];exact z.wt
 .show Go.Proofs.YtdicblkhpcphfaaGreat.K.cnt (mu s.1 h (i5 B s.2.2))<=_
  have:=z.cnt;omega
 .show min _ _<=_
  omega
def _root_.Go.Proofs.YtdicblkhpcphfaaGreat.g8.ef{E:vT α}{c:Nat}{l:List α}(h:g8 E base w (.slice A n c) l):ky E w A l:=by
 obtain⟨y,x,e,_,_,z⟩:=h.form;injection e with e;subst e;exact z
def _root_.Go.Proofs.YtdicblkhpcphfaaGreat.g8.Yp{ga sc m:Nat}(h:g8 iY base w (.slice (some (af7 ga 0)) (ab0 l) sc) l)(s:m<=ab0 l):iQ iY w (.slice (if sc=m then some (af7 ga 0) else some (af7 ga m)) (ab0 l - m) (sc - m)) (l.drop m):=by
 obtain⟨x,v,e,u,t,y⟩:=h.form;injection e with e1 e2 e3;subst e1;subst e3;rw[<-aW];by_cases z:sc=m
 .rw[aH z]
  have:l.drop m=[]:=db aa;rw[this];exact iQ.kn ad aa ky.nil
 .rw[aF z]
  refine iQ.kn (by rw[aW];omega) aa ?_;have:=y.drop rfl m
  rwa [show 0+m * iY.k=m by show 0+m * 1=m;omega] at this
def Q9(v:h<=48):ad0 .u64 (1 * 2 ^ h)=((2 ^ h:Nat):Int):=by
 have y:2 ^ h<=281474976710656:=bM ab v;have x:(2:Int) ^ h=((2 ^ h:Nat):Int):=by rw[fG];rfl
 rw[ez,x,c_];generalize 2 ^ h=z at y;omega
def Jx(l:List Int)(c i:Nat):List Int:=(List.range i).map λi=>l.getD (2 * i+c) 0
def En(l:List Int)(c i:Nat):Jx l c (i+1)=Jx l c i++[l.getD (2 * i+c) 0]:=by unfold Jx;rw[List.range_succ,dU];rfl
def yP(l:List Int)(c i:Nat):ab0 (Jx l c i)=i:=by simp[Jx]
def Jy(l:List Int)(c:Nat):Jx l c (ab0 l / 2)=N_ l c:=rfl
def KC.stay(h:KC w g r v B a)(z:w'.heap[g]?=w.heap[g]?)(x:w'.heap[r]?=w.heap[r]?)(y:∀k,v.ownBlock=some k->w'.heap[k]?=w.heap[k]?)(u:w.heap.size<=w'.heap.size):KC w' g r v B a:=
 ⟨z.T h.blk,h.rd.stay x y u,h.ne,h.nv⟩
structure BY(F:Nat->Prop)(w:World)(g k n cg r:Nat)(cv:Value)(B:List Int)(s0:KS)(F1:Nat->Prop)(wr:World)(lv:Value)(vs:List Sv)(s:KS):Prop where
 st:rl F1 wr g k n s.2.1 lv vs s.1
 co:KC wr cg r cv B s.2.2
 ok:ku s
 eq:je k B s0=je k B s
 sub:∀k,F1 k->F k\/w.heap.size<=k
 sup:∀k,F k->F1 k
 touch:Touch (λk=>F k\/k=r) w wr
structure yQ(F:Nat->Prop)(w:World)(cg r:Nat)(cv:Value):Prop where
 fg:¬F cg
 fr:¬F r
 fv:∀k,cv.ownBlock=some k->¬F k/\k<w.heap.size
 lg:cg<w.heap.size
 lr:r<w.heap.size
def Eo{cg:Nat}{cv:Value}{s0:KS}(w:World)(u:rl F w g k n s0.2.1 lv vs s0.1)(t:KC w cg r cv B s0.2.2)(hf:yQ F w cg r cv)(v:ku s0)(o:2<=k)(W:k<=1000000):af4 af5 178 #[aq g,.func (.func 179) #[aq cg] #[]] w λe H=>e=.returned (.tuple #[])/\∃z y x,BY F w g k n cg r cv B s0 z H y x (je k B s0)/\jo k (je k B s0).1=none:=by
 have Yq:Hid (BY F w g k n cg r cv B s0 F w lv vs s0):=ax ⟨u,t,v,rfl,λk W=>.inl W,λk W=>W,Touch.refl _ _⟩;have HFU:=ax (yO w u o W (aa2 v.len) (aa2 v.cnt));have P:=ax hf;clear u t v hf;go_in;go_wp21;refine Ix HFU.o ?_;go_wp2;go_loopg [4,5,6,7,8,9,29] (cnt s0.1) (λq z _ _ _ _ _ _ wr=>∃A Gj vs1 s,q=cnt s.1/\z=af6 (qG k s.1)/\Hid (BY F w g k n cg r cv B s0 A wr Gj vs1 s))
 exact⟨F,lv,vs,s0,rfl,rfl,Yq⟩
 case round=>
  obtain⟨A,Gj,vs1,s,hq,rfl,U⟩:=hrel;have HQ:=ax hq;clear hq;cases hfu:jo k s.1 with
  | none=>
   have C:qG k s.1=-1:=by unfold qG;rw[hfu]
   rw[C];have FK:=ax hfu;clear hfu C;go_wp21
   go_end0
   refine⟨rfl,A,Gj,vs1,?_⟩;have D:=U.o.eq;rw[qj FK.o] at D;rw[D];exact⟨U.o,FK.o⟩
  | some h=>
   have C:qG k s.1=h:=by unfold qG;rw[hfu]
   rw[C];obtain⟨hh,f,_⟩:=lE hfu;have FK:=ax hfu;clear hfu C;have hlen:=U.o.ok.len;have p:=xt (k:=k) hh;obtain⟨d,cc,sA,sc,Sr,u,Ho,sZ,v,c,Y,z,x⟩:=U.o.st.at_ hh;subst Sr;have J:=U.o.st.cell1;have hx2:2<=ab0 (lvl s.1 h):=aa;have UA:=iD s.1 h;have hcn:=U.o.ok.cnt;have⟨l,y⟩:=ar (lvl s.1 h);rw[y] at c z x v hx2 UA;have HL:=ax y;obtain⟨ga,c5,es,_,Yr,hc5,hc6⟩:=z.pos aa;injection es with es1 es2 es3;subst es1;subst es3;have t:=ax z;have HOWN:=ax x;have HVS:=ax v;have b:=ax (Ly cg r cv B s.2.2 wr U.o.co);clear y z x v f p;have y:∀z,A z->z≠r/\z≠cg/\cv.ownBlock≠some z:=λz hk1=>by
    have a1:=P.o.lr;have a2:=P.o.lg;rcases U.o.sub z hk1 with f|f
    .exact⟨λe=>P.o.fr (e▸f),λe=>P.o.fg (e▸f),λe=>(P.o.fv z e).1 f⟩
    .exact⟨aa,aa,λe=>by have:=(P.o.fv z e).2;omega⟩
   have I:=ax y;clear y;go_wp21;refine RX b.o ?_;rintro V ⟨p,v⟩;have Ys:=ax p;have Hu:Hid (rl A V g k n s.2.1 (.slice (some (af7 d 0)) (ab0 s.1) cc) vs1 s.1):=ax (U.o.st.stay (λz hk1=>v.block z (U.o.st.low z hk1) (I.o z hk1).1) v.size);have TP:Hid (Touch (λk=>F k\/k=r) w V):=ax (U.o.touch.T v λi y=>.inl (.inr y));have zC:=ax U.o.ok;have Yt:=ax U.o.eq;have Hv:=ax U.o.sub;have Yu:=ax U.o.sup;have C2:=ax ((bn (a:=af7 d h) (v.block d u (I.o d sZ).1)).T c);have Yv:=ax ((dr (a:=af7 d h) (v.block d u (I.o d sZ).1)).T Y);have uS:d<V.heap.size:=aG u v.size;have ad5:g<V.heap.size:=Hu.o.blk.lt;have OL2:Hid (g8 iY 0 V (.slice (some (af7 ga 0)) (ab0 l) sc) l):=ax (t.o.stay λz e=>v.block z (t.o.lt z e).2 (I.o z (HOWN.o z e).1).1);have TQ:=rX B s.2.2;have⟨y,x⟩:=ar (i5 B s.2.2);rw[x] at TQ |-;have HY:=ax x;have hlc:ab0 l<=1000000:=aa
   clear p v x b U t J c Y u;obtain⟨i0,t,u,v,x⟩:=cR La;have HI:=ax t;have HZ:=ax u;have Vy:=ax v;have TK:=ax x;clear t u v x;go_wp2;go_loopg [8,9,29] (ab0 l / 2) (λq u _ i x=>∃j:Nat,q=ab0 l / 2 - j/\j<=ab0 l / 2/\i=af6 (j:Int)/\Hid (g8 iY V.heap.size x u (Jx l y j))/\Hid (af3 V x))
   exact⟨0,rfl,aa,rfl,ax (g8.nil_ _ _),ax (aC _ _)⟩
   case round=>
    obtain⟨j,hq,hj,rfl,M,Q⟩:=hrel;have Mm:=ax hq;clear hq;by_cases hjl:j<ab0 l / 2
    .have R:2 * j+y<ab0 l:=aa
     have N:=ax OL2.o.ef;obtain⟨m,G,Y,K,S⟩:=(N.o.K Q.o).i64 R;injection Y with Y;injection Y with OF OG;subst OF;subst OG;rw[cG] at S;have T:ab0 (Jx l y j)=j:=yP l y j;have b:=ax (by rw[En,List.getD,aL R];rfl:Jx l y (j+1)=Jx l y j++[l[2 * j+y]]);have⟨x,t⟩:=ar (l[2 * j+y]);rw[t] at S b;have⟨u,v⟩:=ar (Jx l y j);rw[v] at M T b;have hzx:=Q.o.size;obtain⟨O,c5,rfl,_,_,_⟩:=M.o.form;rw[T] at M |-;clear t v
     go_wp2_with (at_builtin;refine ij iY (ts:=196) i0 _ 8 underlying196 HI.o HZ.o Vy.o TK.o rfl ab  ab rfl (.tmp 32) (.tmp 40) rfl V.heap.size (.slice O j c5) u rfl (M.o.alloc _) _ [x] rfl (iQ.ig (E:=iY) _ x _ rfl _ rfl _ rfl) ae  ae ?_;intro L c t v q)
     have X:Hid (af3 V c):=ax ((Q.o.alloc hzx _).grown v ae (λk W=>(M.o.lt k W).1));have p:=ax t;clear t v q;go_wp2;go_roundg (ab0 l / 2 - (j+1))
     exact⟨j+1,rfl,aa,af,ax (by rw[b.o];exact p.o),X⟩;have:=Mm.o;omega
    .obtain rfl:j=ab0 l / 2:=aa
     rw[Jy] at M;have hzx:=Q.o.size;have K1:Hid (wr.cell? (af7 g 1)=some (.slice (some (af7 d 0)) (ab0 s.1) cc)):=ax (Hu.o.K Q.o).cell1;have C3:Hid (wr.cell? (af7 d h)=some _):=ax ((bn (a:=af7 d h) (Q.o.block d uS)).T C2.o);have F3:Hid (wr.frozen? (af7 d h)=false):=ax ((dr (a:=af7 d h) (Q.o.block d uS)).T Yv.o);have OL3:=ax (OL2.o.K Q.o);have hgr:g<wr.heap.size:=aa;have Q_:d<wr.heap.size:=aa;have⟨m,v⟩:=ar (2 * (ab0 l / 2));have HW:=ax (by rw[cy _ aa];omega:ad0 .i64 (2 * ((ab0 l:Int) / 2))=(m:Int));have hml:m<=ab0 l:=aa;have hmi:(m:Int)<=(ab0 l:Int):=aa;have HM:=ax v;have WQ:=ax (OL3.o.Yp hml);clear v;go_upto_region 12 with fail;have Z:=ax (λ(H:World) (hS':af3 wr H)=>(aB ((hS'.C (p:=af7 g 1) hgr).T K1.o) (HW.o)));refine qd (λH=>af3 wr H) 11 (pW 0 9 (o_ 9 (pW 10 1 (o_ 11 [])))) ((aC _ _).drew) ?_;iterate 9 refine kz ?_
     refine nC λK N=>?_;go_simp;refine(vh _ (l.drop m) _ (WQ.o.K (aC _ _).drew) (by rw[aW];omega)).M ?_;rintro e T ⟨⟨R,n7,S⟩,rfl,v,q⟩;obtain⟨_,_,es,_,_,_⟩:=v.form;injection es with _ es2 _;rw[aW] at es2;subst es2;have t:af3 wr T:=((aC wr.heap.size wr).drew).T q;have X:=ax v;clear v q;simp only[jc];refine N _ _ (t) ?_;refine kz ?_;refine qc λK N=>?_;have v:=(bn (a:=af7 d h) (t.block d Q_)).T C3.o;have f9:=(dr (a:=af7 d h) (t.block d Q_)).T F3.o;go_simp;refine N _ _ ?_;refine iq ?_;clear v f9;generalize (if sc=m then some ((af7 ga 0):Addr) else some ((af7 ga m):Addr))=oA;have L:=Hu.o.K Q.o;have hv3:h<ab0 vs1:=by rw[L.iN.len];exact hh
     have hodd:l.drop m=m8 (lvl s.1 h):=by rw[HL.o,<-HM.o];rfl
     have E:=mR.level (s':=(R,ab0 l - m,S)) (l':=m8 (lvl s.1 h)) (w1:=T) L hh rfl (by rw[<-hodd];exact X.o.more (bl _)) (λz f _=>t.block z f) t.size (.inr λz e=>(X.o.lt z e).1);have Y:=ax E;have Yw:Hid (Touch (λk=>F k\/k=r) w (T.setCell (af7 d h) (jc (R,ab0 l - m,S)))):=ax (Touch.setCell ((TP.o.T (Touch.of_below (F:=λ_=>False) Q.o (aD _)) (λ_ hf=>hf.elim)).T (Touch.of_below (F:=λ_=>False) t (aD _)) (λ_ hf=>hf.elim)) (by
      rcases Hv.o d sZ with f|f
      .exact .inl (.inl f)
      .exact .inr f) _)
     have G:∀z,(jc (R,ab0 l - m,S)).ownBlock=some z->wr.heap.size<=z:=λz e=>(X.o.lt z e).1;have Jz:=ax G;have Yx:Hid (g8 iY V.heap.size (T.setCell (af7 d h) (jc (R,ab0 l - m,S))) u8 (N_ l y)):=ax ((M.o.K t).far (λe=>by have:=(M.o.lt d e).1;omega) _);have O:KC (T.setCell (af7 d h) (jc (R,ab0 l - m,S))) cg r cv B (jP B s.2.2):=by
      have b:∀z,z<V.heap.size->z≠d->(T.setCell (af7 d h) (jc (R,ab0 l - m,S))).heap[z]?=V.heap[z]?:=λz f o=>
       (a_ T (af7 d h) _ z o).T ((t.block z aa).T (Q.o.block z f))
      have hzw:w.heap.size<=V.heap.size:=TP.o.size;have a1:=P.o.lr;have a2:=P.o.lg;have q:=I.o d sZ;have Sn:=t.size;refine Ys.o.stay (b cg aa (λe=>q.2.1 e.Y)) (b r aa (λe=>q.1 e.Y)) (λz e=>b z (aa2 (P.o.fv z e).2) (λD=>q.2.2 (by rw[e,D]))) ae
     have i:=ax O;have Sn:=t.size;have hzw:w.heap.size<=V.heap.size:=TP.o.size;have⟨c,v⟩:=ar (T.setCell (af7 d h) (jc (R,ab0 l - m,S)));rw[v] at Y Yw Yx i;have hz8:c.heap.size=T.heap.size:=by rw[<-v];simp
     show Exit.then _ _ Exit.normal _ (T.setCell (af7 d h) (jc (R,ab0 l - m,S)))
     rw[v];clear E v G O L t X WQ OL3 K1 C3 F3 hodd hv3;have O:=Y.o.AH;have f3:=Y.o.blk.F 3;have BZ:=zC.o.led;have TR:h<=48:=aa;have⟨p,v⟩:=ar (2 ^ h);have hpb:p<=281474976710656:=by rw[<-v];exact bM ab TR
     have UB:=ax (by rw[<-v];exact Q9 TR:ad0 .u64 (1 * 2 ^ h)=(p:Int));have Yy:=ax v;clear v;go_upto_region 13 with fail;have Z:=ax (λ(H:World) (hS':af3 c H)=>(aB (UB.o) ((hS'.C (p:=af7 g 3) Y.o.blk.lt).T O)));refine qd (λH=>af3 c H) 11 (pW 0 9 (FH 9 1 (pW 10 1 (o_ 11 [])))) ((aC _ _).drew) ?_;iterate 9 refine kz ?_
     refine sQ ?_;refine kz ?_;refine qc λK N=>?_;have k9:(c.drew).cell? (af7 g 3)=_:=O;have f9:(c.drew).frozen? (af7 g 3)=false:=f3;go_simp;refine N _ _ ?_;refine iq ?_;have G:min (ad0 .u64 ((s.2.1:Int)+ad0 .u64 (2 ^ h))) 4611686018427387904=((min (s.2.1+p) 4611686018427387904:Nat):Int):=by
      have C:=UB.o;rw[ez] at C;rw[C,c_];omega
     rw[G];have L:rl _ ((c.setCell (af7 g 3) (.int .u64 (min (s.2.1+p) 4611686018427387904:Nat))).drew) g k n (min (s.2.1+p) 4611686018427387904) _ _ _:=(Y.o.Tt _).K (aC _ _).drew;have Vz:=ax L;have VA:=Hu.o.fg;have HT9:Hid (Touch (λk=>F k\/k=r) w ((c.setCell (af7 g 3) (.int .u64 (min (s.2.1+p) 4611686018427387904:Nat))).drew)):=ax (Touch.drew (Touch.setCell Yw.o (by
      rcases Hv.o g VA with f|f
      .exact .inl (.inl f)
      .exact .inr f) _))
     have X:∀z,u8.ownBlock=some z->V.heap.size<=z/\z<wr.heap.size:=M.o.lt;have HO9:Hid (g8 iY V.heap.size ((c.setCell (af7 g 3) (.int .u64 (min (s.2.1+p) 4611686018427387904:Nat))).drew) u8 (N_ l y)):=ax ((Yx.o.far (λe=>by have:=(X g e).1;omega) _).drew);have t:KC ((c.setCell (af7 g 3) (.int .u64 (min (s.2.1+p) 4611686018427387904:Nat))).drew) cg r cv B (jP B s.2.2):=by
      have b:∀z,z≠g->((c.setCell (af7 g 3) (.int .u64 (min (s.2.1+p) 4611686018427387904:Nat))).drew).heap[z]?=c.heap[z]?:=λz o=>a_ c (af7 g 3) _ z o;have q:=I.o g VA;exact i.o.stay (b cg (λe=>q.2.1 e.Y)) (b r (λe=>q.1 e.Y)) (λz e=>b z (λD=>q.2.2 (by rw[e,D]))) (by simp[World.drew])
     have VB:=ax t;have Uw:((c.setCell (af7 g 3) (.int .u64 (min (s.2.1+p) 4611686018427387904:Nat))).drew).heap.size=T.heap.size:=by rw[<-hz8];simp[World.drew]
     have⟨E,v⟩:=ar ((c.setCell (af7 g 3) (.int .u64 (min (s.2.1+p) 4611686018427387904:Nat))).drew);rw[v] at Vz HT9 HO9 VB Uw;show Exit.then _ _ Exit.normal _ ((c.setCell (af7 g 3) (.int .u64 (min (s.2.1+p) 4611686018427387904:Nat))).drew)
     rw[v];clear v L t G O f3 Y Yw Yx i;have b:∀z,(A z\/(jc (R,ab0 l - m,S)).ownBlock=some z)->u8.ownBlock≠some z:=λz f e=>by
      have q:=X z e;rcases f with f|f
      .have:=Hu.o.low z f;omega
      .have:=Jz.o z f;omega
     have t:Aside (λz=>A z\/(jc (R,ab0 l - m,S)).ownBlock=some z) E u8 (N_ l y):=Aside.oX HO9.o λz e f=>b z f e;have v:lvl (s.1.set h (m8 (lvl s.1 h))) (h+1)=lvl s.1 (h+1):=by rw[nF _ _ _ _ hh,aF aa]
     have L:=ax (put_any (h+1) u8 (N_ l y) E Vz.o t (by rw[v];exact zC.o.jk _) aa (by rw[aZ];omega) (by rw[v];have:=iD s.1 (h+1);omega) (by rw[qh];omega));have Qy:=ax (by rw[<-HL.o,<-HY.o];rfl:lN (s.1.set h (m8 (lvl s.1 h))) (h+1) (N_ l y)=(kO B h s).1);have TS:=ax (by rw[<-Yy.o];rfl:min (s.2.1+p) 4611686018427387904=(kO B h s).2.1);have Yz:Hid (jP B s.2.2=(kO B h s).2.2):=ax rfl;have i:=ax (zC.o.step (B:=B) FK.o);have Ss:=ax (nO (B:=B) FK.o);have YA:=ax (Yt.o.T (sX (B:=B) FK.o));clear t b v X;go_wp21;refine RX L.o ?_;rintro G ⟨F3,lv3,vs3,X,Y,t,b⟩;have Q1:=ax X;have Q2:=ax Y;have O:=ax b;rw[Qy.o,TS.o] at t;have Q3:=ax t;have v:=i.o;have YB:=ax (yO G t o W (aa2 v.len) (aa2 v.cnt));clear X Y t b v L;go_wp21;refine Ix YB.o ?_;go_wp2;go_roundg (cnt (kO B h s).1)
     case measure=>have:=HQ.o;have:=Ss.o;omega
     case rel=>
      refine⟨F3,lv3,vs3,kO B h s,rfl,rfl,ax ⟨Q3.o,?_,i.o,YA.o,?_,?_,?_⟩⟩
      .rw[<-Yz.o]
       have a1:=P.o.lr;have a2:=P.o.lg;have v:∀z,z<w.heap.size->(∀J,A J->z≠J)->G.heap[z]?=E.heap[z]?:=λz f o=>O.o.block z aa λt=>by
        rcases t with t|t
        .exact o z t rfl
        .have:=Jz.o z t;omega
       exact VB.o.stay (v cg a2 λJ f e=>(I.o J f).2.1 e.Y) (v r a1 λJ f e=>(I.o J f).1 e.Y) (λz e=>v z (P.o.fv z e).2 λJ f D=>(I.o J f).2.2 (by rw[e,D])) O.o.size
      .intro z t
       rcases Q1.o z t with q|q
       .rcases q with q|q
        .exact Hv.o z q
        .have:=Jz.o z q
         exact .inr aa
       .exact .inr aa
      .exact λz t=>Q2.o z (.inl (Yu.o z t))
      .refine HT9.o.T O.o λz t=>?_
       rcases t with q|q
       .rcases Hv.o z q with v|v
        .exact .inl (.inl v)
        .exact .inr v
       .have:=Jz.o z q
        exact .inr aa
