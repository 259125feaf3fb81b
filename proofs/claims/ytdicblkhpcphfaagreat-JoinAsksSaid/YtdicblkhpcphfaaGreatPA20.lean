/- Parts. No condition. -/
import Derived.Test.YtdicblkhpcphfaaGreatPA19
set_option maxRecDepth 100000
set_option maxHeartbeats 0
set_option linter.all false
namespace Go.Proofs.YtdicblkhpcphfaaGreat
open Tryz Go.RowKit Go.Lib Go.Shelf
open _root_.List renaming length→ao
open _root_.Go renaming Calls→ar
open Tryz renaming prog→Oe
namespace D
open Go.RowKit Go.Lib Go.Shelf Go.Maps
def Hi{l:List Pr}(s:iE l)(z:iu l)(k:Int):0<=kn l k/\kn l k<=tot l:=by
 have x:=jy (k:=k) z;refine⟨x,?_⟩
 by_cases v:kn l k=0
 ·have:=gP z;omega
 ·obtain⟨p,y,e⟩:=(lV z _).2 v
  rw[<-e,J2 s y];exact nm z p y
section
variable {x y lo hi dg u m bk bt : Nat} {gr : Bool} {l t : List Pr} {F Fy : Ft}
def Kx(w:World)(h:mO x lo hi dg u m gr bk l F w)(hy:mO y lo hi dg u m gr bt t Fy w)(ok:iG lo hi dg u m gr bk l)(s:iG lo hi dg u m gr bt t) :
 ar Oe 103 #[.pointer (some ⟨x,0,none⟩),.pointer (some ⟨y,0,none⟩)] w (tk (mO x lo hi dg u m gr (M_ l t bk bt) (M9 l t)) F (Dd l t) w):=by
 have HH:=ay h;have CX:Hid (∀z,aq w z->_):=ay (λz v=>mP (x:=x) z ((kq x lo hi dg u m gr bk l).keep h v))
 have CY:Hid (∀z,aq w z->_):=ay (λz v=>mP (x:=y) z ((kq y lo hi dg u m gr bt t).keep hy v))
 have a:Hid (Dd l t=if 4611686018427387904<tot l+tot t then 6 else 0):=ay rfl
 have q:Hid (M9 l t=if Dd l t=0 then hX l t else l):=ay rfl
 have r:Hid (M_ l t bk bt=if Dd l t=0 then max bk bt else bk):=ay rfl
 obtain⟨g,b,z,Q,f,N,O,P,S⟩:=h;obtain⟨gy,c,U,T,V,_⟩:=hy;have t0:=gP ok.pos;have t1:=gP s.pos;have l0:=ok.len;have l1:=s.len;have s0:=ok.sum;have s1:=s.sum;have R:=ay (aF ok s);have X:=ay (aF z (aF Q (aF f (aF N (aF O (aF P S))))));have Y:=ay (aF U (aF T V));have hxg:x≠g:=by
  rintro rfl;have:=z.symm.trans Q;simp at this
 have hxb:=(f.ne z).symm;have hgb:=(f.ne Q).symm;have QJ:=(V.ne z).symm;have hyl:=U.lt;obtain⟨er,d⟩:=au (Dd l t);rw[d] at a q r |-;obtain⟨L9,p⟩:=au (M9 l t);obtain⟨I,v⟩:=au (M_ l t bk bt);rw[p] at q |-;rw[v] at r |-;clear d p v;have d:Hid (IntKind.u64.wrap (4611686018427387904 - tot l)=4611686018427387904 - tot l):=ay (by rw[g_];omega)
 have p:Hid (4611686018427387904<tot l+tot t<->4611686018427387904 - tot l<tot t):=ay aa
 have HS:=ay (tA (A:=l) (B:=t) ok.pos s.pos);clear z Q f N O P S ok s U T V;have Bd:aq w w.drew:=(aC _ _).drew
 go_in
 go_upto_region 3 with fail;refine i' (aq w) (gW 0 1 (gW 2 1 (ib 1 (ib 3 (gW 4 13 []))))) (Bd) ?_
 iterate 2 refine hC (h:=λJ v=>by have k1:=(X.o.1.keep v).cell 1;have j1:=(Y.o.1.keep v).k1;simp only[aA,az,aB] at k1;exact Qv) ?_
 refine iy λK W=>?_
 go_simp;refine(CY.o w.drew Bd).mono ?_
 rintro e w3 ⟨rfl,hb3⟩;have B3:aq w w3:=Bd.trans hb3;refine W _ _ (B3) ?_
 clear W K;refine iy λK W=>?_
 go_simp;refine(CX.o w3 B3).mono ?_
 rintro e S ⟨rfl,hb4⟩;have V:aq w S:=B3.trans (hb4.mono B3.size);refine W _ _ (V) ?_
 clear W K
 iterate 13 refine hC (h:=λJ v=>by have k1:=(X.o.1.keep v).cell 1;have j1:=(Y.o.1.keep v).k1;simp only[aA,az,aB] at k1;exact Qv) ?_
 refine gM ?_
 go_upto_region 5 with fail;have f:aq w S.drew:=V.drew
 by_cases z:4611686018427387904 - tot l<tot t
 ·obtain rfl:er=6:=by rw[a.o,aH (p.o.2 z)]
  obtain rfl:L9=l:=by rw[q.o];rfl
  obtain rfl:I=bk:=by rw[r.o];rfl
  clear p a q r;refine i' (aq w) (gW 0 11 []) (f) ?_
  iterate 11 refine hC (h:=λJ v=>by have ew:=d.o;have hc':=z;have s:=(X.o.1.keep v).k4;have o:=(Y.o.1.keep v).k4;exact Qv) ?_
  refine gM ?_
  go_wp2
  go_ret;exact kj (kq x lo hi dg u m gr I L9) HH.o rfl f
 obtain rfl:er=0:=by rw[a.o,aG (λh=>z (p.o.1 h))]
 have Rv:Hid (tot l+tot t<=4611686018427387904):=ay (by have:=p.o;omega)
 obtain rfl:L9=hX l t:=by rw[q.o];rfl
 obtain rfl:I=max bk bt:=by rw[r.o];rfl
 clear p a q r;refine i' (aq w) (gW 0 11 []) (f) ?_
 iterate 11 refine hC (h:=λJ v=>by have ew:=d.o;have hc':=z;have s:=(X.o.1.keep v).k4;have o:=(Y.o.1.keep v).k4;exact Qv) ?_
 refine gM ?_
 clear z d;have ET:Hid (IntKind.u64.wrap (tot l+tot t)=tot l+tot t):=ay (by have:=Rv.o;rw[g_];omega)
 go_upto_region 7 with fail;have d:aq w S.drew.drew:=f.drew;refine ki (aq w) 11 (gW 0 11 []) (d) ?_
 iterate 11 refine jw (h:=λJ v=>by have et:=ET.o;have s:=(X.o.1.keep v).k4;have o:=(Y.o.1.keep v).k4;exact Qv) ?_
 refine gU ?_
 simp only[bc,bp];have s:=(X.o.1.keep d).k4;have O:=(X.o.1.keep d).frozen 4
 go_wp2_with fail;refine gQ ?_
 obtain⟨r,a⟩:=au ((S.setCell ⟨x,4,none⟩ (.int .u64 (tot l+tot t))).drew.drew);have P:=X.o.1.keep V;have q:Hid (gN r x 206 #[.pointer (some ⟨g,0,none⟩),.bool gr,.int .i64 bk,.map (some b),.int .u64 (tot l+tot t)]/\mM r g lo hi dg u m/\kU r b l/\kU r c t/\Touch F w r/\r.cell? ⟨y,2,none⟩=some (.int .i64 bt)/\r.cell? ⟨y,3,none⟩=some (.map (some c))):=ay (by
  have T:=(Y.o.1.keep V).k2;have U:=(Y.o.1.keep V).k3;rw[<-a];refine⟨P.gR 4 _,(bl S ⟨x,4,none⟩ _ g (λe=>hxg e.symm)).trans (gN.keep X.o.2.1 V),(X.o.2.2.1.keep V).stay (bl S ⟨x,4,none⟩ _ b (λe=>hxb e.symm)),(Y.o.2.2.keep V).stay (bl S ⟨x,4,none⟩ _ c (λe=>QJ e.symm)),(((Touch.of_below V (aD _)).setCell (p:=⟨x,4,none⟩) (.inl X.o.2.2.2.1) _).drew).drew,?_,?_⟩
  ·exact(bX _ _ _ _ (by intro h;injection h with _ h;omega)).trans T
  ·exact(bX _ _ _ _ (by intro h;injection h with _ h;omega)).trans U)
 rw[a];clear a s O P d f
 go_upto_region 8 with fail;have d:aq r r.drew:=(aC _ _).drew;have T:y<r.heap.size:=by have:=q.o.2.2.2.2.1.size;omega
 refine ki (aq r) 12 (gW 0 12 []) (d) ?_
 iterate 12 refine jw (h:=λJ v=>by have s:=(q.o.1.keep v).cell 2;have j2:=(v.cell (p:=⟨y,2,none⟩) T).trans q.o.2.2.2.2.2.1;simp only[aA,az,aB] at s;exact Qv) ?_
 refine gU ?_
 simp only[bc,bp];have s:=(q.o.1.keep d).k2;have G:=(q.o.1.keep d).frozen 2
 go_wp2_with fail;refine gQ ?_
 obtain⟨a,U⟩:=au ((r.setCell ⟨x,2,none⟩ (.int .i64 (max (bk:Int) (bt:Int)))).drew);have f:Hid (gN a x 206 #[.pointer (some ⟨g,0,none⟩),.bool gr,.int .i64 ((max bk bt:Nat):Int),.map (some b),.int .u64 (tot l+tot t)]/\mM a g lo hi dg u m/\kU a b l/\kU a c t/\Touch F w a/\a.cell? ⟨y,3,none⟩=some (.map (some c))):=ay (by
  obtain⟨H,L,M,N,O,_,P⟩:=q.o;have e:max (bk:Int) (bt:Int)=((max bk bt:Nat):Int):=aa
  rw[<-U,e];exact⟨H.gR 2 _,(bl r ⟨x,2,none⟩ _ g (λe=>hxg e.symm)).trans L,M.stay (bl r ⟨x,2,none⟩ _ b (λe=>hxb e.symm)),N.stay (bl r ⟨x,2,none⟩ _ c (λe=>QJ e.symm)),(O.setCell (p:=⟨x,2,none⟩) (.inl X.o.2.2.2.1) _).drew,(bX _ _ _ _ (by intro h;injection h with _ h;omega)).trans P⟩)
 rw[U];clear U s G d T q
 go_wp2_with fail;refine(vf a f.o.2.2.2.2.2 f.o.2.2.2.1 R.o.2).mono ?_
 rintro e L ⟨v7,rfl,s,T⟩;obtain⟨A7,c7,rfl,_,_,q⟩:=s.form;have Xm:=ay q;have hbl:b<a.heap.size:=f.o.2.2.1.lt;have Z7:Hid (kU L b l/\Touch F w L/\gN L x 206 #[.pointer (some ⟨g,0,none⟩),.bool gr,.int .i64 ((max bk bt:Nat):Int),.map (some b),.int .u64 (tot l+tot t)]/\mM L g lo hi dg u m):=ay ⟨f.o.2.2.1.keep T,U6 f.o.2.2.2.2.1 T,f.o.1.keep T,gN.keep f.o.2.1 T⟩;have O7:=ay s;clear s q
 go_wp2
 go_loopg [64] (ao t) (λq s wr=>∃j:Nat,q=ao t - j/\j<=ao t/\s=.int .i64 j/\Hid (kU wr b (hX l (t.take j)))/\Hid (Touch (λk=>k=b) L wr))
 exact⟨0,rfl,aa,rfl,ay (by rw[cY,om];exact Z7.o.1),ay (Touch.refl _ _)⟩
 case round=>
  obtain⟨j,s,hj,rfl,Tz,q⟩:=hrel;have HQ:=ay s;clear s
  by_cases C:j<ao t
  ·obtain⟨gp,off,rfl,Jw,N,O⟩:=j7 Xm.o C
   have hgb':gp≠b:=λe=>by have:=(O7.o.lt gp rfl).1;omega
   have N:=(ik q.o (off+j * 2) Jw hgb').trans N;have O:=(ik q.o (off+j * 2+1) Jw hgb').trans O;have hji:(j:Int)<(ao t:Int):=aa
   obtain⟨z,hz⟩:=au (t[j].1);obtain⟨n,H⟩:=au (t[j].2);rw[hz] at N;rw[H] at O
   go_upto_region 12 with fail;have hmem:t[j]∈t:=aX C;have hn0:0<n:=by rw[<-H];exact R.o.2.pos _ hmem
   have hzb:0<=z/\z<=16777216:=by rw[<-hz];exact R.o.2.kb _ hmem
   have D:iE (hX l (t.take j)):=lD R.o.1.iJ;have E:iu (hX l (t.take j)):=kJ R.o.1.pos (λp s=>R.o.2.pos p (cB s))
   have hlen:ao (hX l (t.take j))<=1000000000:=by
    have d:=tC (t.take j) l;have s:=fF j t;omega
   have hcn:=Hi D E z;rw[mj] at hcn;have hts:=hQ C;rw[H] at hts;have htl:=iV R.o.2.pos (j+1);have hsm:=Rv.o;have hstep:hX l (t.take (j+1))=hO z n (hX l (t.take j)):=by rw[aM C,uH,hz,H]
   have Fj:=ay hstep;have hcb:kn (hX l (t.take j)) z+n<=4611686018427387904:=aa
   have i:=Tz;have hxr:x<wr.heap.size:=by have:=q.o.size;have:=T.size;have:=f.o.1.lt;omega
   have K3:Hid (wr.cell? ⟨x,3,none⟩=some (.map (some b))):=ay (by
    have k:=Z7.o.2.2.1.k3;exact(ik q.o 3 (by have:=T.size;have:=f.o.1.lt;omega) hxb).trans k)
   have P:Hid (gN (wr.alloc (.cells #[.int .i64 z,.int .u64 n] 192)) wr.heap.size 192 #[.int .i64 z,.int .u64 n]):=ay (gN.new _ _ _);have d:aq wr (wr.alloc (.cells #[.int .i64 z,.int .u64 n] 192)):=bw;obtain⟨s,M⟩:=au (wr.alloc (.cells #[.int .i64 z,.int .u64 n] 192));obtain⟨q0,G⟩:=au (wr.heap.size);rw[M] at P d |-;rw[G] at P |-;have EN:Hid (IntKind.u64.wrap (kn (hX l (t.take j)) z+n)=kn (hX l (t.take j)) z+n):=ay (by rw[g_];omega)
   have U:=ay (aF D (aF E (aF hlen hcb)));clear M N O hstep hts htl hsm D E hlen hcb hcn;obtain⟨M,Q⟩:=au (hX l (t.take j));rw[Q] at EN U i Fj;clear Q Tz;have O:aq s s.drew:=(aC _ _).drew;clear G;have E:x<s.heap.size:=by have:=d.size;omega
   refine ki (aq s) 10 (gW 0 6 (gW 7 2 (gW 6 1 (gW 9 1 [])))) (O) ?_
   iterate 10 refine jw (h:=λJ v=>by have en:=EN.o;have k3:=(v.cell (p:=⟨x,3,none⟩) E).trans ((d.cell (p:=⟨x,3,none⟩) hxr).trans K3.o);have G:=(P.o.keep v).k0;have N:=(P.o.keep v).k1;have D:=((i.o.keep d).keep v).look (k:=z) aa  aa ;exact Qv) ?_
   refine gU ?_
   simp only[bc,bp]
   go_wp2_with (at_mapUpdate;refine Vh rfl _ _ _ rfl ((i.o.keep d).keep O) U.o.1 U.o.2.1 U.o.2.2.1 aa  aa hn0 (by have:=U.o.2.2.2;omega) rfl rfl rfl ?_;intro J p v)
   refine gQ ?_
   go_wp2
   go_roundg (ao t - (j+1))
   exact⟨j+1,rfl,aa,ag,ay (by rw[Fj.o];exact p),ay ((q.o.trans ((Touch.of_below d (aD _)).trans ((Touch.of_below O (aD _)).trans (xx (F:=λk=>k=b) rfl v) (λ_ h=>.inl h)) (λ_ h=>.inl h)) (λ_ h=>.inl h)))⟩
   have:=HQ.o;omega
  ·obtain rfl:j=ao t:=aa
   have d:=Tz;rw[bj (aD _)] at d
   go_wp2
   go_ret;obtain⟨_,U,p,s⟩:=Z7.o;have v:Touch F w wr:=U.trans q.o (λk h=>by cases h;exact .inl X.o.2.2.2.2.2.1)
   have I:gN wr x 206 #[.pointer (some ⟨g,0,none⟩),.bool gr,.int .i64 ((max bk bt:Nat):Int),.map (some b),.int .u64 (tot l+tot t)]:=(q.o.block x p.lt hxb).trans p;rw[<-mj] at I;exact⟨rfl,⟨g,b,I,(q.o.block g (gN.lt s) hgb).trans s,d.o,.inl X.o.2.2.2.1,.inl X.o.2.2.2.2.1,.inl X.o.2.2.2.2.2.1,ke X.o.2.2.2.2.2.2 v.size⟩,v⟩
end
variable{l:List Pr}{bk dg hi lo m u x:Nat}{gr:Bool}{F:Ft}
def Oz(g:Nat)(w w':World):Prop:=∀k T cs,gN w k T cs->T≠5->k≠g->gN w' k T cs
def tI(x:Int)(g t:Nat)(bs:List Int)(w:World)(h:Wr 37 t w g bs)(K:-9223372036854775808<=x)(J:x<=9223372036854775807)(C:ao bs<=1000000000000) :
 ar Oe 355 #[.int .i64 x,.pointer (some ⟨g,0,none⟩)] w λe a=>e=.returned (.tuple #[])/\Wr 37 t a g (bs++nn x)/\Below t w a/\Oz g w a:=by
 have B:=h.lt;have H:=ay h;have P:Hid (∀(v:Value) (p:World),jf .u64 p v [ub x]->_):=ay (λv p z=>Kw x v p z K J)
 have O:Hid (IntKind.u64.wrap x=ub x):=ay rfl;have A:=uX x;clear h;generalize nn x=N at *;generalize ub x=u at *;have q:=O.o
 go_in
 go_wp2_with fail;refine(P.o _ _ (jf.hJ _ _ _ _ _ rfl)).mono ?_
 rintro e p ⟨m,rfl,r,d⟩;have G:Below t w (w.alloc (.cells #[.int .u64 u] 36)):=(aC _ _).alloc aa _
 have S:Below t w p:=G.trans (d.mono af)
 obtain⟨R,o,z,s⟩:=(H.o.keep ((aC w.heap.size w).alloc (aD _) (.cells #[.int .u64 u] 36))).keep d;have L:=ay r;have y:=ay (aF z (aF R s));have c:=z.k0;clear q z s r;have j:=S.size
 go_wp2_with (at_builtin;refine nu qQ rfl (.tmp 12) (.tmp 13) rfl (gX.1 y.o.2.2) rfl _ N rfl (gX.1 L.o).rd aa  aa ?_;intro n Y b r _;have V:=ay (nG (i:=0) y.o.1 (gX.1 y.o.2.2) ab r b);have X:=ia y.o.1 (gX.1 y.o.2.2) ab r;have M:Hid (∀k T s,gN w k T s->T≠5->gN Y k T s):=ay (λk T s q f=>ia ((gN.alloc q (.cells #[.int .u64 u] 36)).keep d) (gX.1 y.o.2.2) f r);have I:Below t w Y:=S.grown r aa (λk q=>(gO.lt (gX.1 y.o.2.2) k q).1);have c:=X.k0;have D:=X.frozen 0;obtain⟨F,E,U,_,_,_⟩:=b.form;obtain⟨l,Q⟩:=au (ao (bs++N));rw[Q] at U;subst U;clear Q b r)
 refine cp (v:=.tuple #[]) (by simp[results,Tryz.results355,go_sem, *];try rfl) rfl ?_
 exact⟨rfl,⟨R,_,V.o.1,gX.2 V.o.2⟩,I.setCell aa _,λk T s q f z=>(bl Y ⟨g,0,none⟩ _ k z).trans (M.o k T s q f)⟩
def Nn(n:Int)(g r z:Nat)(bs:List Int)(w:World)(h:Wr 37 z w g bs)(V:w.cell? ⟨r,0,none⟩=some (.func (.func 355) #[] #[.pointer (some ⟨g,0,none⟩)]))(Y:-9223372036854775808<n)(X:n<=9223372036854775807)(q:ao bs<=1000000000000) :
 ar Oe 356 #[.int .i64 n,.pointer (some ⟨r,0,none⟩)] w λe s=>e=.returned (.tuple #[])/\Wr 37 z s g (bs++qh (nK n))/\Below z w s/\Oz g w s:=by
 have H:=ay h;have f:=ay (tI 0 g z bs w h aa  aa q)
 have d:=ay (tI (-n) g z bs w h aa  aa q)
 clear h
 by_cases y:n=1
 ·subst y
  have e:qh (nK 1)=nn 0:=aj
  rw[e]
  go_in
  go_wp2_with fail;refine(f.o).mono ?_
  rintro e b ⟨rfl,x,u,t⟩
  go_wp2_with fail;refine cp (v:=.tuple #[]) (by simp[results,Tryz.results356,go_sem, *];try rfl) rfl ?_
  exact⟨rfl,x,u,t⟩
 ·have U:(n == 1)=false:=by simpa using y
  by_cases p:1<n
  ·have e:qh (nK n)=nn (-n):=by
    unfold nK;rw[aG y,aH p];simp[qh]
   have c:Hid (IntKind.i64.wrap (-n)=-n):=ay ai
   have a:=c.o;rw[e]
   go_in
   go_wp2_with fail;refine(d.o).mono ?_
   rintro e b ⟨rfl,x,u,t⟩
   go_wp2_with fail;refine cp (v:=.tuple #[]) (by simp[results,Tryz.results356,go_sem, *];try rfl) rfl ?_
   exact⟨rfl,x,u,t⟩
  ·have e:qh (nK n)=[]:=by
    unfold nK;rw[aG y,aG p];rfl
   rw[e,bT]
   go_in
   go_wp2_with fail;refine cp (v:=.tuple #[]) (by simp[results,Tryz.results356,go_sem, *];try rfl) rfl ?_
   exact⟨rfl,H.o,aC _ _,λ_ _ _ h _ _=>h⟩
def vh:∀(l:List Pr) (a:Int) (p:Pr),wy a (l++[p])=wy a l++(nK (p.1 - qi a l)++[p.2])
 | [],_,_=>by simp[wy,qi]
 | q::l,a,p=>by rw[b8,wy,vh l,wy,qi,aO];rfl
def sC:∀(l:List Pr) (a:Int) (p:Pr),qi a (l++[p])=p.1+1
 | [],_,_=>rfl
 | q::l,a,p=>by rw[b8,qi,sC l]
def Fk(h:∀p∈l,0<=p.1/\p.1<=16777216):∀(a:Int),0<=a->a<=16777217->0<=qi a l/\qi a l<=16777217:=by
 induction l with
 | nil=>intro a z y;exact⟨z,y⟩
 | cons p l ih=>
  intro a z y;have:=h p (aK ..);exact ih (λq x=>h q (aP _ x)) _ aa  aa
def Dq(v:Value)(w:World)(h:iA il w v l)(ok:iG lo hi dg u m gr bk l):ar Oe 277 #[v] w λe F=>∃z,e=.returned z/\OwnB w.heap.size F z (oS l)/\aq w F:=by
 obtain⟨A,c,rfl,_,_,z⟩:=h.form;have B:=ay z;have PB:=ay ok.pb;have hlen:=ok.len;have k:=ay ok.kb;clear h z ok
 go_in
 go_wp2_with fail;obtain⟨g,z⟩:=au (w.heap.size);obtain⟨f,y⟩:=au ((w.alloc (.cells #[.slice none 0 0] 37)).alloc (.cells #[.func (.func 355) #[] #[.pointer (some ⟨w.heap.size,0,none⟩)]] 452));have M:Hid (Wr 37 w.heap.size f g []):=by rw[<-y,<-z];exact ay ((Wr.new _ w w.heap.size (aD _)).keep ((aC _ _).alloc (aD _) _))
 have h:Hid (gN f (g+1) 452 #[.func (.func 355) #[] #[.pointer (some ⟨g,0,none⟩)]]):=by
  rw[<-y,<-z];have:=gN.new (w.alloc (.cells #[.slice none 0 0] 37)) 452 #[.func (.func 355) #[] #[.pointer (some ⟨w.heap.size,0,none⟩)]];rw[aI] at this;exact ay this
 have J:aq w f:=by rw[<-y];exact bw
 rw[y,z];clear y
 go_loopg [6,13] (ao l) (λq s i wr=>∃j:Nat,q=ao l - j/\j<=ao l/\i=.int .i64 j/\s=.int .i64 (qi 0 (l.take j))/\Hid (Wr 37 g wr g (qh (wy 0 (l.take j))))/\Hid (gN wr (g+1) 452 #[.func (.func 355) #[] #[.pointer (some ⟨g,0,none⟩)]])/\Below g w wr)
 exact⟨0,rfl,aa,rfl,rfl,by rw[cY];rw[z] at M;exact M,h,by subst z;exact J⟩
 case round=>
  obtain⟨j,y,hj,rfl,rfl,d,S,r⟩:=hrel;have o:=ay y;have hz:=r.size;clear y
  by_cases T:j<ao l
  ·obtain⟨L,H,rfl,I,b,a⟩:=j7 B.o T
   have K:aq w wr:=by subst z;exact r
   have b:=(K.cell (p:=⟨L,H+j * 2,none⟩) I).trans b;have a:=(K.cell (p:=⟨L,H+j * 2+1,none⟩) I).trans a;have hji:(j:Int)<(ao l:Int):=aa
   have hbd:=PB.o _ (aX T);have Xn:=Fk (l:=l.take j) (λp y=>k.o p (cB y)) 0 aa  aa
   have hnl:=rD (wy 0 (l.take j));have hnm:=tD (l.take j) 0;have htl:ao (l.take j)<=16777217:=by rw[aU];omega
   have R:Hid (qh (wy 0 (l.take (j+1)))=qh (wy 0 (l.take j))++qh (nK (l[j].1 - qi 0 (l.take j)))++nn l[j].2/\qi 0 (l.take (j+1))=l[j].1+1):=ay (by
    rw[aM T,vh,sC,ou,ou,aO];refine⟨?_,rfl⟩
    congr 2
    simp[qh])
   generalize l[j].1=x at *;generalize l[j].2=n at *;generalize qi 0 (l.take j)=s at *;generalize qh (wy 0 (l.take j))=p at *;have C:Hid (IntKind.i64.wrap (x - s)=x - s/\wrap64 n=n/\IntKind.i64.wrap (x+1)=x+1):=ay ⟨by rw[aL];omega,by unfold wrap64;omega,ai⟩
   have hgl:=AH (x - s);have uS:=rD (nK (x - s));have D:Hid (∀y,Wr 37 g y g p->y.cell? ⟨g+1,0,none⟩=some (.func (.func 355) #[] #[.pointer (some ⟨g,0,none⟩)])->_):=ay (λy t q=>Nn (x - s) g (g+1) g p y t q aa  aa  aa)
   have E:Hid (∀y,Wr 37 g y g (p++qh (nK (x - s)))->_):=ay (λy t=>tI n g g (p++qh (nK (x - s))) y t aa  aa (by rw[aE];omega))
   go_upto_region 8 with fail;obtain⟨X,Y⟩:=au (wr.heap.size);obtain⟨q,t⟩:=au (wr.alloc (.cells #[.int .i64 x,.int .u64 n] 192));have O:Hid (gN q X 192 #[.int .i64 x,.int .u64 n]):=by rw[<-t,<-Y];exact ay (gN.new _ _ _)
   have U:aq wr q:=by rw[<-t];exact bw
   rw[t,Y];have hgq:g<X:=by have:=d.o.lt;omega
   clear t Y b a;have WP:=ay (d.o.keep U);have P:=ay (S.o.keep U);have t:=P.o.k0;have Y:=O.o.k0;obtain⟨e1,e2,e3⟩:=C.o
   go_wp2_with fail;refine(D.o q WP.o t).mono ?_
   rintro e y ⟨rfl,a,hb3,b⟩;have Q:=ay (b _ _ _ P.o ab aa)
   have N:=ay (b _ _ _ O.o ab aa)
   have W:=ay a;clear a b t Y;have t:=Q.o.k0;have G:=N.o.k1
   go_wp2_with fail;refine(E.o y W.o).mono ?_
   rintro e w4 ⟨rfl,a,V,b⟩;have P4:=ay (b _ _ _ Q.o ab aa)
   have Q4:=ay (b _ _ _ N.o ab aa)
   have i:=ay a;clear a b t G;have Y:=Q4.o.k0
   go_wp2
   go_roundg (ao l - (j+1))
   exact⟨j+1,rfl,aa,ag,by rw[R.o.2],by rw[R.o.1];exact i,P4,((r.trans (U.mono aa)).trans hb3).trans V⟩
   have:=o.o;omega
  ·obtain rfl:j=ao l:=aa
   have s:=d;rw[bj (aD _)] at s;clear d
   by_cases q:ao l=0
   ·have e:l=[]:=aN q
    subst e;have Y:=ay (tI 0 g g [] wr s.o aa  aa ad)
    have t:=S.o.k0
    go_wp2_with fail;refine(Y.o).mono ?_
    rintro e w4 ⟨rfl,a,V,b⟩;obtain⟨_,X,y,x⟩:=a;have p:=y.k0
    go_wp2
    go_ret;exact⟨_,rfl,by rw[z];simpa[oS,Nb,qh] using x,by subst z;exact r.trans V⟩
   ·have U:((ao l:Int) == 0)=false:=by simpa using q
    obtain⟨_,X,y,x⟩:=s.o;have p:=y.k0;have Y:=ay x;clear y x
    go_wp2
    go_ret;have y:l≠[]:=λe=>q (by rw[e];rfl)
    exact⟨_,rfl,by rw[z];unfold oS Nb;rw[aG y];exact Y.o,by subst z;exact r⟩
def jf.Fl(t:TypeId)(k:IntKind)(w:World)(l:List Int)(z:Array Value)(x:z=(l.map (Value.int k)).toArray)(n:Nat)(v:n=ao l)(s:ao l<=100)(H:Nat)(h:w.heap.size=H):jf k (w.alloc (.cells z t)) (.slice (some ⟨H,0,none⟩) n n) l:=by
 subst x v h;refine⟨by simp,_,ao l,rfl,aD _,by unfold maxLen;omega,λy=>⟨w.heap.size,0,rfl,ad,λj u=>?_⟩⟩
 rw[cJ];have y:(w.alloc (.cells (l.map (Value.int k)).toArray t)).heap[w.heap.size]?=some (.cells (l.map (Value.int k)).toArray t (0,0)):=(gN.new w t (l.map (Value.int k)).toArray);rw[cell_of_row _ _ _ _ _ _ y];simp
def AZ(ok:qP lo hi dg u m)(z:bk<=64):i6 u m hi bk<=9223372036854775807:=by
 have:=ok.h1;unfold i6
 split
 ·exact ok.h1
 ·unfold nJ
  split
  ·exact aD _
  ·rename_i h
   have y:2 ^ (bk - 1+u+m)<=2 ^ 62:=jW aa
   omega
def Ky(w:World)(h:mO x lo hi dg u m gr bk l F w)(ok:iG lo hi dg u m gr bk l):ar Oe 196 #[.pointer (some ⟨x,0,none⟩)] w λe g=>∃v,e=.returned (.tuple #[v,.int .i64 0])/\OwnB w.heap.size g v (hwB lo (i6 u m hi bk) dg l)/\aq w g:=by
 have S:=kq x lo hi dg u m gr bk l;have B:=ay (mP w h);have A:Hid (∀y,aq w y->_):=ay (λy z=>AS y (S.keep h z) ok)
 have j:Hid (∀(v:Value) (y:World),iA il y v l->_):=ay (λv y t=>Dq v y t ok)
 have o:Hid (∀y,aq w y->_):=ay (λy z=>Kf y (S.keep h z) ok.sh ok.b0 ok.b1)
 have hrb:=AZ ok.sh ok.b1 (bk:=bk);have hcl:=rE l;have hll:=ok.len;have hlo:lo<=9223372036854775807:=by have:=ok.sh.h0;have:=ok.sh.h1;omega
 have hdg:=ok.sh.d1;have z:Hid (hwB lo (i6 u m hi bk) dg l=iZ 478450451 (ao (oS l)) 0 dg lo (i6 u m hi bk) 4607182418800017408 7++oS l):=ay rfl;rw[z.o];clear z S h ok;generalize i6 u m hi bk=R at *;generalize oS l=X at *;obtain⟨N,z⟩:=au (ao X);have P:=ay z;rw[z] at hcl |-;have n:Hid (∀(v:Value) (y:World),jf .u64 y v [478450451,(N:Int),0,(dg:Int),(lo:Int),(R:Int),4607182418800017408]->_):=ay (λv y t=>Hh 478450451 N 0 dg lo R 4607182418800017408 v y t aa  aa  aa  aa  aa  aa  aa  aa  aa  aa  aa  aa  aa  aa)
 have V:Hid (IntKind.u64.wrap (N:Int)=(N:Int)/\IntKind.u64.wrap (dg:Int)=(dg:Int)/\IntKind.u64.wrap (lo:Int)=(lo:Int)/\IntKind.u64.wrap (R:Int)=(R:Int)):=ay ⟨by rw[g_];omega,by rw[g_];omega,by rw[g_];omega,by rw[g_];omega⟩
 have Xo:=xC 478450451 N 0 dg lo R 4607182418800017408 7;generalize iZ 478450451 N 0 dg lo R 4607182418800017408 7=OP at *;clear z
 go_in
 go_wp2_with fail;refine(B.o).mono ?_
 rintro e y ⟨rfl,U⟩
 go_wp2_with fail;refine(A.o y U).mono ?_
 rintro e w2 ⟨v2,rfl,v,hb2⟩;have T:=U.trans (hb2.mono U.size)
 go_wp2_with fail;refine(j.o v2 w2 v.rd).mono ?_
 rintro e c ⟨v3,rfl,z,hb3⟩;have S:=T.trans (hb3.mono T.size);have W:=ay z;obtain⟨A3,c3,G,_,_,_⟩:=(gT.rd z).form;rw[P.o] at G;subst G;clear v z
 go_upto_region 4 with fail;obtain⟨b4,q⟩:=au (c.heap.size);obtain⟨v,t⟩:=au (c.alloc (.cells #[.int .i64 lo,.int .i64 hi,.int .i64 dg] 31));have s:Hid (gN v b4 31 #[.int .i64 lo,.int .i64 hi,.int .i64 dg]):=by rw[<-t,<-q];exact ay (gN.new _ _ _)
 have z:aq c v:=by rw[<-t];exact bw
 have r:aq w v:=S.trans (z.mono S.size);have i:=ay (gT.keep W.o z);rw[t,q];clear t q z;have b:aq v v.drew:=(aC _ _).drew;refine i' (aq v) (gW 0 10 (ib 10 (gW 11 1 (ib 12 (ib 13 (gW 14 5 [])))))) (b) ?_
 iterate 10 refine hC (h:=λg t=>by have q:=(s.o.keep t).cell 0;have p:=(s.o.keep t).k2;simp only[aA,az,aB] at q;obtain⟨L,J,I,H⟩:=V.o;exact Qv) ?_
 refine iy λK z=>?_
 go_simp;refine(o.o v.drew (r.trans (b.mono r.size))).mono ?_
 rintro e f ⟨rfl,hb5⟩;have d:aq v f:=b.trans hb5;refine z _ _ (d) ?_
 clear z K;refine hC (h:=λg t=>by have q:=(s.o.keep t).cell 0;have p:=(s.o.keep t).k2;simp only[aA,az,aB] at q;obtain⟨L,J,I,H⟩:=V.o;exact Qv) ?_
 refine iy λK z=>?_
 go_simp;have a:aq v (f.alloc (.cells #[.int .u64 478450451,.int .u64 N,.int .u64 0,.int .u64 dg,.int .u64 lo,.int .u64 R,.int .u64 4607182418800017408] 36)):=d.alloc d.size _;refine z _ _ (a) ?_
 clear z K;refine iy λK z=>?_
 go_simp;refine(n.o _ _ (jf.Fl 36 .u64 f [478450451,(N:Int),0,(dg:Int),(lo:Int),(R:Int),4607182418800017408] _ rfl 7 rfl ad _ rfl)).mono ?_
 rintro e D ⟨v7,rfl,Q,E⟩;have M:=ay Q;have Y:aq v D:=a.trans (E.mono a.size);clear Q;refine z _ _ (Y) ?_
 clear z K
 iterate 5 refine hC (h:=λg t=>by have q:=(s.o.keep t).cell 0;have p:=(s.o.keep t).k2;simp only[aA,az,aB] at q;obtain⟨L,J,I,H⟩:=V.o;exact Qv) ?_
 refine gM ?_
 have Xp:=ay (gT.keep i.o Y);have Q:=r.trans (Y.mono r.size);have hop:ao OP+ao X<=1099511627776:=by have:=P.o;omega
 have t:=M.o;rw[aI] at t;have O:=ay t;have zN:w.heap.size<=f.heap.size+1:=by have:=r.size;have:=d.size;omega
 have TA:f.heap.size+1<=D.heap.size:=by have:=E.size;rw[aI] at this;exact this
 clear t M
 go_wp2_with (at_builtin;refine nu qQ rfl (.tmp 35) (.tmp 36) rfl (gX.1 O.o) rfl _ X rfl (gX.1 Xp.o).rd hop TA ?_;intro v8 w8 M t _;have O8:=ay (gX.2 (M.more zN));have C:aq w w8:=Q.grown t Q.size (λk hk=>by have:=(gO.lt (gX.1 O.o) k hk).1;omega);clear M t)
 go_ret2
 exact⟨_,rfl,O8.o,C⟩
def OB:Bool->Int
 | true=>1
 | false=>0
def Kz(z:Bool):(z=true/\OB z=1)\/(z=false/\OB z=0):=by cases z<;>simp[OB]
def hjB(lo hi dg R:Int)(gr:Bool)(l:List Pr):List Int:=j9 lo hi dg (OB gr) 4++hwB lo R dg l
def A6{y:Nat}{kd p2 p3 p4:Value}(w:World)(r:gN w y 124 #[kd,.pointer (some ⟨x,0,none⟩),p2,p3,p4])(h:mO x lo hi dg u m gr bk l F w)(ok:iG lo hi dg u m gr bk l) :
 ar Oe 124 #[.pointer (some ⟨y,0,none⟩)] w λe d=>∃v,e=.returned v/\OwnB w.heap.size d v (hjB lo hi dg (i6 u m hi bk) gr l)/\aq w d:=by
 have S:=kq x lo hi dg u m gr bk l;have Y:=ay r;have N:=ay (mP w h);have M:Hid (∀t,aq w t->_):=ay (λt z=>rF t (S.keep h z))
 have L:Hid (∀t,aq w t->_):=ay (λt z=>Ky t (S.keep h z) ok)
 have hlo:lo<=9223372036854775807:=by have:=ok.sh.h0;have:=ok.sh.h1;omega
 have hhi:=ok.sh.h1;have hdg:=ok.sh.d1;have hwl:=Fb lo (i6 u m hi bk) dg l;have hcl:=rE l;have hll:=ok.len;have b:=ay (Kz gr);have z:Hid (hjB lo hi dg (i6 u m hi bk) gr l=j9 lo hi dg (OB gr) 4++hwB lo (i6 u m hi bk) dg l):=ay rfl;rw[z.o];have s:=r.k1;clear z S h ok r;generalize OB gr=D at *;have U:0<=D/\D<256:=by have:=b.o;omega
 have K:Hid (∀(v:Value) (t:World),jf .u64 t v [(lo:Int),(hi:Int),(dg:Int),D]->_):=ay (λv t z=>Hg lo hi dg D v t z aa  aa  aa  aa  aa  aa U.1 U.2)
 have J:Hid (IntKind.u64.wrap (lo:Int)=(lo:Int)/\IntKind.u64.wrap (hi:Int)=(hi:Int)/\IntKind.u64.wrap (dg:Int)=(dg:Int)):=ay ⟨by rw[g_];omega,by rw[g_];omega,by rw[g_];omega⟩
 have Xo:=xB lo hi dg D 4;generalize j9 lo hi dg D 4=X at *;generalize hwB (lo:Int) (i6 u m hi bk) dg l=a at *
 go_in
 go_wp2_with fail;refine(N.o).mono ?_
 rintro e t ⟨rfl,T⟩
 go_upto_region 2 with fail;obtain⟨C,p⟩:=au (t.heap.size);obtain⟨v,q⟩:=au (t.alloc (.cells #[.int .i64 lo,.int .i64 hi,.int .i64 dg] 31));have I:Hid (gN v C 31 #[.int .i64 lo,.int .i64 hi,.int .i64 dg]):=by rw[<-q,<-p];exact ay (gN.new _ _ _)
 have g:aq t v:=by rw[<-q];exact bw
 have r:aq w v:=T.trans (g.mono T.size);rw[q,p];clear q p g s;have s:=(Y.o.keep r).k1
 go_wp2_with fail;refine(M.o v r).mono ?_
 rintro e d ⟨rfl,rfl⟩;obtain⟨W,i,h⟩:=I.o.c3
 rcases b.o with⟨rfl,rfl⟩|⟨rfl,rfl⟩
 all_goals
  obtain⟨g,c,V⟩:=J.o
  go_wp2_with fail;refine(K.o _ _ (jf.Fl 36 .u64 v [(lo:Int),(hi:Int),(dg:Int),_] _ rfl 4 rfl ad _ rfl)).mono ?_
  rintro e P ⟨v7,rfl,p,S⟩;have H:=ay (gX.1 p);have f:∀o:Obj,w.heap.size<=(v.alloc o).heap.size:=λo=>bf r.size ad
  have q:aq w P:=(r.alloc r.size _).trans (S.mono (f _));clear p g c V W i h s;have s:=(Y.o.keep q).k1
  go_wp2_with fail;refine(L.o P q).mono ?_
  rintro e O ⟨v8,rfl,Q,g⟩;have G:=ay (gX.1 Q);have p:=ay (gO.keep H.o g);have c:aq w O:=q.trans (g.mono q.size);have j:ao X+ao a<=1099511627776:=aa
  obtain⟨A7,c7,V,_,_,_⟩:=p.o.form;obtain⟨n7,R⟩:=au (ao X);rw[R] at V;subst V;have n:v.heap.size+1<=O.heap.size:=by have B:=S.size;have h2:=g.size;rw[aI] at B;omega
  clear Q s R
  go_wp2_with (at_builtin;refine nu qQ rfl (.tmp 42) (.tmp 43) rfl p.o rfl _ a rfl (G.o.rd) j (by rw[aI];exact n) ?_;intro v9 w9 R z _;have E:=ay (gX.2 (R.more (f _)));have Q:aq w w9:=c.grown z c.size (λk A=>bf (f _) (p.o.lt k A).1);clear R z)
  go_ret;exact⟨_,rfl,E.o,Q⟩
section
variable {y lo hi dg u m bk : Nat} {gr : Bool} {l : List Pr} {F : Ft}
def Hj(v n:Int)(w:World)(h:nc y lo hi dg u m gr bk l F w)(ok:iG lo hi dg u m gr bk l)(o:-9223372036854775808<=v)(W:v<=9223372036854775807)(B:0<=n)(j:n<18446744073709551616) :
 ar Oe 160 #[.pointer (some ⟨y,0,none⟩),.int .i64 v,.int .u64 n] w (aw w (.int .i64 (hsE u m gr bk l v n))):=by
 have H:Hid (hsE u m gr bk l v n=if n=0 then 4 else if v<0 then 5 else if gr=false/\(nJ u m bk:Int)<v then 5 else if 4611686018427387904<tot l+n then 6 else 0):=ay rfl
 obtain⟨z,r,t,_⟩:=h;have L:Hid (∀x,_):=ay (λx=>AE u m bk x ok.sh.um ok.b0 ok.b1)
 have M:Hid (∀x,aq w x->_):=ay (λx s=>lN z l x ((t.keep s).rd) ok.pos (by have:=ok.sum;omega) (by have:=ok.len;omega))
 have s:=ay r;have D:=gP ok.pos;have C:=ok.sum;obtain⟨A,c,rfl,_,_,_⟩:=t.form;clear r t ok;generalize nJ u m bk=T at *;generalize tot l=t at *;have J:Hid (IntKind.u64.wrap (4611686018427387904 - t)=4611686018427387904 - t):=ay (by rw[g_];omega)
 rw[H.o]
 by_cases I:n=0
 ·subst I
  rw[aH rfl]
  go_in
  go_wp2
  go_ret;exact⟨rfl,aC _ _⟩
 rw[aG I];have E:(n == 0)=false:=af
 have r:aq w w.drew:=(aC _ _).drew
 by_cases d:v<0
 ·rw[aH d]
  go_in
  go_upto_region 3 with fail;refine i' (aq w) (gW 0 26 []) (r) ?_
  iterate 3 refine hC ?_
  iterate 22 (refine jI ?_;try go_simp)
  refine hC ?_
  refine gM ?_
  go_wp2
  go_ret;exact⟨rfl,r⟩
 rw[aG d];obtain⟨V,x⟩:∃V:Int,(if 4611686018427387904<t+n then(6:Int) else 0)=V:=⟨_,rfl⟩
 rw[x];have f:=ay x;clear x;have g:Hid (4611686018427387904<t+n<->4611686018427387904 - t<n):=ay aa
 cases gr
 ·by_cases U:(T:Int)<v
  ·rw[aH ⟨rfl,U⟩]
   clear g f
   go_in
   go_upto_region 3 with fail;refine i' (aq w) (gW 0 22 (ib 22 (gW 23 3 []))) (r) ?_
   iterate 22 refine hC (h:=λX x=>by have R:=d;have P:=U;have b:=(s.o.keep x).k3;have a:=(s.o.keep x).k4;have p:=(s.o.keep x).k5;have Y:=(s.o.keep x).k6;exact Qv) ?_
   refine iy λK S=>?_
   go_simp;refine(L.o w.drew).mono ?_
   rintro e N ⟨rfl,rfl⟩;refine S _ _ (r) ?_
   clear S K
   iterate 3 refine hC (h:=λX x=>by have R:=d;have P:=U;have b:=(s.o.keep x).k3;have a:=(s.o.keep x).k4;have p:=(s.o.keep x).k5;have Y:=(s.o.keep x).k6;exact Qv) ?_
   refine gM ?_
   go_wp2
   go_ret;exact⟨rfl,r⟩
  ·rw[aG (λh=>U h.2)]
   go_in
   go_upto_region 3 with fail;refine i' (aq w) (gW 0 22 (ib 22 (gW 23 3 []))) (r) ?_
   iterate 22 refine hC (h:=λX x=>by have R:=d;have P:=U;have b:=(s.o.keep x).k3;have a:=(s.o.keep x).k4;have p:=(s.o.keep x).k5;have Y:=(s.o.keep x).k6;exact Qv) ?_
   refine iy λK S=>?_
   go_simp;refine(L.o w.drew).mono ?_
   rintro e N ⟨rfl,rfl⟩;refine S _ _ (r) ?_
   clear S K
   iterate 3 refine hC (h:=λX x=>by have R:=d;have P:=U;have b:=(s.o.keep x).k3;have a:=(s.o.keep x).k4;have p:=(s.o.keep x).k5;have Y:=(s.o.keep x).k6;exact Qv) ?_
   refine gM ?_
   have O:=(s.o.keep r).k7
   go_wp2_with fail;refine(M.o w.drew r).mono ?_
   rintro e N ⟨rfl,rfl⟩;have G:=J.o
   by_cases q:4611686018427387904<t+n
   ·have Q:4611686018427387904 - t<n:=g.o.1 q
    obtain rfl:V=6:=by rw[<-f.o,aH q]
    clear g f q
    go_wp2
    go_ret;exact⟨rfl,r⟩
   ·have Q:¬4611686018427387904 - t<n:=λh=>q (g.o.2 h)
    obtain rfl:V=0:=by rw[<-f.o,aG q]
    clear g f q
    go_wp2
    go_ret;exact⟨rfl,r⟩
 ·rw[aG (λh=>by cases h.1)]
  go_in
  go_upto_region 3 with fail;refine i' (aq w) (gW 0 26 []) (r) ?_
  iterate 9 refine hC (h:=λX x=>by have R:=d;have p:=(s.o.keep x).k5;exact Qv) ?_
  iterate 15 (refine jI ?_;try go_simp)
  iterate 2 refine hC (h:=λX x=>by have R:=d;have p:=(s.o.keep x).k5;exact Qv) ?_
  refine gM ?_
  have O:=(s.o.keep r).k7
  go_wp2_with fail;refine(M.o w.drew r).mono ?_
  rintro e N ⟨rfl,rfl⟩;have G:=J.o
  by_cases q:4611686018427387904<t+n
  ·have Q:4611686018427387904 - t<n:=g.o.1 q
   obtain rfl:V=6:=by rw[<-f.o,aH q]
   clear g f q
   go_wp2
   go_ret;exact⟨rfl,r⟩
  ·have Q:¬4611686018427387904 - t<n:=λh=>q (g.o.2 h)
   obtain rfl:V=0:=by rw[<-f.o,aG q]
   clear g f q
   go_wp2
   go_ret;exact⟨rfl,r⟩
def Hk(v:Nat)(n:Int)(w:World)(h:nc y lo hi dg u m gr bk l F w)(ok:iG lo hi dg u m gr bk l)(S:v<9223372036854775808)(W:0<n)(o:tot l+n<=4611686018427387904) :
 ar Oe 161 #[.pointer (some ⟨y,0,none⟩),.int .i64 v,.int .u64 n] w λe g=>e=.returned (.tuple #[])/\nc y lo hi dg u m gr (max bk (1+im u m v)) (hO (kh u m v) n l) (Gr F w g) g/\Touch F w g:=by
 obtain⟨z,s,t,q,p,r⟩:=h;have L:Hid (∀x,_):=ay (λx=>uW u m v x ok.sh.um ok.sh.mb.1 ok.sh.mb.2 S)
 have M:Hid (∀x,_):=ay (λx=>lO u m v x ok.sh.um S)
 have J:Hid (∀x,aq w x->_):=ay (λx f=>oq z (kh u m v) n l x ((t.keep f).rd) ok.pos aa  aa (by have:=ok.len;omega))
 have x:=ku (u:=u) (m:=m) S;have f:=ok.sh.um;have j:im u m v<=63:=aa
 have X:=ay (aF s (aF t (aF q (aF p r))));obtain⟨A,c,rfl,_,_,_⟩:=t.form;clear s t q p r ok x f;generalize kh u m v=I at *;generalize im u m v=B at *;have P:Hid (IntKind.i64.wrap (1+(B:Int))=1+(B:Int)):=ay ai
 have H:Hid (max (bk:Int) (1+(B:Int))=((max bk (1+B):Nat):Int)):=ay aa
 have Y:aq w w.drew:=(aC _ _).drew
 go_in
 go_wp2_with fail;refine ki (aq w) 17 (gW 0 14 (gW 15 1 (ib 14 (ib 16 [])))) (Y) ?_
 iterate 15 refine jw (h:=λg t=>by have f:=(X.o.1.keep t).cell 3;have d:=(X.o.1.keep t).k4;have b:=(X.o.1.keep t).k7;simp only[aA,az,aB] at f;exact Qv) ?_
 refine mg λK r=>?_
 go_simp;refine(L.o w.drew).mono ?_
 rintro e R ⟨rfl,rfl⟩;refine r _ _ (Y) ?_
 clear r K;refine mg λK r=>?_
 go_simp;refine(J.o w.drew Y).mono ?_
 rintro e R ⟨i,rfl,x,D⟩;have U:=ay x;have q:aq w R:=Y.trans D;clear x;refine r _ _ (q) ?_
 clear r K;refine gU ?_
 simp only[bc,bp];have b:=(X.o.1.keep q).k7;have Q:=(X.o.1.keep q).frozen 7;obtain⟨V,T,rfl,_,_,_⟩:=U.o.form
 go_wp2_with fail;refine gQ ?_
 obtain⟨s,a⟩:=au (R.setCell ⟨y,7,none⟩ (.slice V (ao (hO (I:Int) n l)) T));have x:Hid (gN s y 128 #[.int .i64 lo,.int .i64 hi,.int .i64 dg,.int .i64 u,.int .i64 m,.bool gr,.int .i64 bk,.slice V (ao (hO (I:Int) n l)) T]/\gO il w.heap.size s (.slice V (ao (hO (I:Int) n l)) T) (hO (I:Int) n l)/\Touch F w s):=ay (by
  rw[<-a];exact⟨(X.o.1.keep q).gR 7 _,U.o.far (own_ne (X.o.1.keep q) U.o ab) _,(Touch.of_below q (aD _)).setCell (p:=⟨y,7,none⟩) (.inl X.o.2.2.1) _⟩)
 rw[a];clear a b Q;have a:aq s s.drew:=(aC _ _).drew
 go_upto_region 1 with fail;refine ki (aq s) 17 (gW 0 14 (ib 14 (gW 15 2 []))) (a) ?_
 iterate 14 refine jw (h:=λg t=>by have f:=(x.o.1.keep t).cell 3;have d:=(x.o.1.keep t).k4;have b:=(x.o.1.keep t).k6;simp only[aA,az,aB] at f;have E:=P.o;exact Qv) ?_
 refine mg λK r=>?_
 go_simp;refine(M.o s.drew).mono ?_
 rintro e w5 ⟨rfl,rfl⟩;refine r _ _ (a) ?_
 clear r K
 iterate 2 refine jw (h:=λg t=>by have f:=(x.o.1.keep t).cell 3;have d:=(x.o.1.keep t).k4;have b:=(x.o.1.keep t).k6;simp only[aA,az,aB] at f;have E:=P.o;exact Qv) ?_
 refine gU ?_
 simp only[bc,bp];have b:=(x.o.1.keep a).k6;have C:=(x.o.1.keep a).frozen 6
 go_wp2_with fail;refine gQ ?_
 go_wp2_with fail;refine cp (v:=.tuple #[]) (by simp[results,Tryz.results161,go_sem, *];try rfl) rfl ?_
 rw[H.o];obtain⟨Q,t,G⟩:=x.o;have N:Touch F w ((s.setCell ⟨y,6,none⟩ (.int .i64 ((max bk (1+B):Nat):Int))).drew):=(G.setCell (p:=⟨y,6,none⟩) (.inl X.o.2.2.1) _).drew;have O:=t.far (p:=⟨y,6,none⟩) (own_ne Q t ab) (.int .i64 ((max bk (1+B):Nat):Int))
 refine⟨rfl,⟨_,Q.gR 6 _,O.more (bB _),.inl X.o.2.2.1,λk e=>.inr ⟨(t.lt k e).1,?_⟩,ke X.o.2.2.2.2 N.size⟩,N⟩
 have:=(O.lt k e).2;exact this
def Dr(v n:Int)(w:World)(h:nc y lo hi dg u m gr bk l F w)(ok:iG lo hi dg u m gr bk l)(T:-9223372036854775808<=v)(S:v<=9223372036854775807)(V:0<=n)(U:n<18446744073709551616) :
 ar Oe 91 #[.pointer (some ⟨y,0,none⟩),.int .i64 v,.int .u64 n] w (tk (nc y lo hi dg u m gr (hsB u m gr bk l v n) (hsL u m gr bk l v n)) F (hsE u m gr bk l v n) w):=by
 have c:=ay h;have r:=ay (Hj v n w h ok T S V U);have p:Hid (hsL u m gr bk l v n=if hsE u m gr bk l v n=0 then hO (kh u m v.toNat) n l else l):=ay rfl
 have q:Hid (hsB u m gr bk l v n=if hsE u m gr bk l v n=0 then max bk (1+im u m v.toNat) else bk):=ay rfl
 rw[p.o,q.o]
 by_cases x:hsE u m gr bk l v n=0
 ·have t:0<n/\0<=v/\tot l+n<=4611686018427387904:=by
   unfold hsE at x
   (repeat' split at x)<;>omega
  obtain⟨z,rfl⟩:=bL t.2.1;have d:Hid (∀s,aq w s->_):=ay (λs g=>Hk (y:=y) z n s ((mN y lo hi dg u m gr bk l).keep h g) ok aa t.1 t.2.2)
  rw[aH x,aH x];rw[x] at r |-;simp only[bM];have X:=(mN y lo hi dg u m gr bk l).low h;clear p q x t h ok
  go_in
  go_wp2_with fail;refine(r.o).mono ?_
  rintro e s ⟨rfl,t⟩
  go_wp2_with fail;refine(d.o s t).mono ?_
  rintro e R ⟨rfl,Y,f⟩
  go_wp2
  go_ret;refine⟨rfl,?_,yE t f⟩
  refine(mN y lo hi dg u m gr _ _).more Y (λk g=>?_) (ke X (yE t f).size)
  rcases g with g|⟨a,b⟩
  ·exact .inl g
  ·exact .inr ⟨bf t.size a,b⟩
 ·rw[aG x,aG x]
  have g:(hsE u m gr bk l v n == 0)=false:=by simpa using x
  clear p q h ok;generalize hsE u m gr bk l v n=z at *
  go_in
  go_wp2_with fail;refine(r.o).mono ?_
  rintro e s ⟨rfl,t⟩
  go_wp2
  go_ret;exact kj (mN y lo hi dg u m gr bk l) c.o rfl t
end
end D
end Go.Proofs.YtdicblkhpcphfaaGreat
