/- Parts. -/
import Derived.Test.YtdicblkhpcphfaaGreatPU34
import Derived.Lib.SliceRun
set_option maxRecDepth 100000
set_option maxHeartbeats 0
set_option linter.all false
namespace Go.Proofs.YtdicblkhpcphfaaGreat
open Tryz Go.RowKit Go.Lib Go.Shelf
open _root_.List renaming length→ab0
open Go.IntKind renaming wrap→ad0
open _root_.Go renaming Calls→af4
open Tryz renaming prog→af5
namespace D
variable{sp:ie}{N b base i n o0 vb wb x:Nat}{S:Nat->Wn}{X Y:Nat->Nat}{Ow:Nat->Ft}{W w w' w0:World}{cv:Value}{l:List zO}{s:Wn}
def WB{j:Nat}{B:List Int}(z c:Nat)(t:Bool)(v:Int)(oks:jR sp)(hsm:sp.small)(h0:0<N)(s:o0<=w.heap.size)(u:Duo sp N o0 S S X Y Ow wb vb w)
 (H:(t=false/\i=0/\j=1)\/(t=true/\i=1/\j=0)) (hkd:z<=255) (hc:c<18446744073709551616) (v0:-9223372036854775808<=v) (v1:v<=9223372036854775807) (f:FO o0 w cv B) (V:K.TM B) :
 af4 af5 11 #[.slice (some (af7 wb 0)) 2 2,.slice (some (af7 vb 0)) 2 2,.agg #[.int .u8 z,.bool t,af6 v,.int .u64 c,cv]] w λe r=>e=.returned (.bool true)/\∃y,Duo sp N o0 (Pm sp ⟨z,t,v,c,B⟩ S) (Pm sp ⟨z,t,v,c,B⟩ S) X Y y wb vb r/\Iv Ow y w r:=by
 obtain⟨b,d,rfl,_,_,_⟩:=f.rd.form;have g:i<2:=aa;have hj:j<2:=aa;have PD:Hid (∀s',s9 sp ⟨z,t,v,c,B⟩ (S i) (S j)=s'->EK S i s'=Pm sp ⟨z,t,v,c,B⟩ S):=ax (λs' e=>by
  subst e;unfold Pm Rz;rcases H with⟨rfl,rfl,rfl⟩|⟨rfl,rfl,rfl⟩<;>rfl)
 have Er:Hid (jX sp N (s9 sp ⟨z,t,v,c,B⟩ (S i) (S j))):=ax (RF oks hsm h0 ⟨by show(0:Int)<=(z:Int);omega,by show(z:Int)<=255;omega,v0,v1,by show(0:Int)<=(c:Int);omega,by show(c:Int)<18446744073709551616;omega,V.2⟩ (u.ok i g) (u.ok j hj));have U:af3 w (w.alloc (.cells #[.int .u8 z,.bool t,af6 v,.int .u64 c,(.slice b (ab0 B) d)] 39)):=(aC _ _).alloc (aD _) _;have T:(w.alloc (.cells #[.int .u8 z,.bool t,af6 v,.int .u64 c,(.slice b (ab0 B) d)] 39)).heap.size=w.heap.size+1:=ad;have y:=g7.new w 39 #[.int .u8 z,.bool t,af6 v,.int .u64 c,(.slice b (ab0 B) d)];have x:=u.K U;have p:=f.K s (U.M s);have q:∀a,¬Ow a w.heap.size:=λa e=>by have:=(u.low a _ e).2;omega
 have L:=x.cw i g;have P:=x.cw j hj;have Q:=x.cv i g;have R:=x.cv j hj;have hmod:((z:Int) % 9)=((z % 9:Nat):Int):=aa;have hji:(1:Int) - (i:Int)=(j:Int):=aa;have ae9:(i:Int)<2:=aa;have af0:(j:Int)<2:=aa;have m:=ax U;have h:=ax q;have J:=ax x;have G:=ax p;have Xf:=ax s;have P0:=ax V;have M:=ax T;clear u x f p s V U q T;go_in;go_upto_region 1 with fail;have⟨u,I⟩:=ar (w.alloc (.cells #[.int .u8 z,.bool t,af6 v,.int .u64 c,(.slice b (ab0 B) d)] 39));rw[I] at m J G M L P Q R y |-;have⟨V,f⟩:=ar (w.heap.size);have W:=ax f;rw[f] at y |-;have p:=y.k0;have T:=y.k1;have q:=y.k2;have s:=y.k3;have x:=y.k4;have U:=y.lt;have O:Hid (kP wb vb V i j (X i) (X j) (Y i) (Y j) z c t v (.slice b (ab0 B) d) u):=ax ⟨L,P,Q,R,p,T,q,s,x⟩;clear I f p q s x L P Q R y
 go_upto_if 11 with(fail)
 go_cut [7] (λx s=>x=af6 (i:Int)/\u=s)
 case first=>
  rcases H with⟨rfl,rfl,rfl⟩|⟨rfl,rfl,rfl⟩
  .go_wp21
   go_meet
   exact⟨rfl,rfl⟩
  .go_wp21
   go_meet
   exact⟨rfl,rfl⟩
 case rest=>
 obtain⟨rfl,rfl⟩:=hcut;clear T H;have l:Hid (∀(s:World) (E Q:Nat) (H:Ft),af3 u s->iT (aq E) B 0 H s->iI o0 (aq Q) B 0 (λk=>k=Q) s->(∀k,H k->u.heap.size<=k)->u.heap.size<=Q->(∀k,H k->k≠Q) ->
  Hid (iT (aq E) B 0 H s)/\Hid (tb sp N o0 S S X Y Ow Ow wb vb V B (aq Q) H (λk=>k=Q) w s)/\Hid (kP wb vb V i j (X i) (X j) (Y i) (Y j) z c t v (.slice b (ab0 B) d) s)):=ax (λs E Q H y T f F C I=>by
  have L:=W.o;have n:=M.o;have e3:=Xf.o;have q:=J.o.low;have P:=T.low;have R:=f.low Q rfl;refine⟨ax T,ax ⟨J.o.K y,(Iv.refl m.o).K y,λk e=>?_,λk e=>?_,λk e p=>I k e p,f,⟨aa,by have:=y.size;omega,λa e=>h.o a (by rw[L];exact e)⟩,e3⟩,ax ?_⟩
  .have D:=F k e;have p:=P k e
   exact⟨aa,p,λa e6=>by have:=(q a k e6).2;omega⟩
  .rw[show k=Q from e]
   exact⟨aa,R,λa e6=>by have:=(q a _ e6).2;omega⟩
  .exact O.o.same (λk p=>y.block k (by
    simp only[aS,cx,or_false] at p;rcases p with rfl|rfl|rfl
    .exact(q 4 _ J.o.rw).2
    .exact(q 4 _ J.o.rv).2
    .exact U)))
 have P:Hid (∀s,af3 u s->FO o0 s (.slice b (ab0 B) d) B):=ax (λs y=>G.o.K (aa6 M.o Xf.o) (y.M (aa6 M.o Xf.o)));have ho0:o0<=u.heap.size:=by have:=M.o;have:=Xf.o;omega
 clear G;go_upto_region 4 with fail;go_cut [8,9] (λx y s=>∃(E Q:Nat) (H:Ft),x=aq E/\y=aq Q/\Hid (iT (aq E) B 0 H s)/\Hid (tb sp N o0 S S X Y Ow Ow wb vb V B (aq Q) H (λk=>k=Q) w s)/\Hid (kP wb vb V i j (X i) (X j) (Y i) (Y j) z c t v (.slice b (ab0 B) d) s))
 case first=>
  refine oz (λr=>af3 u r) (.rd 0 (.rd 1 (.rd 3 (.rd 4 (.rd 5 (.two 2 6 (.rd 7 (.ef 6 (.rd 8 .nil))) (.ef 2 (.rd 7 (.rd 8 .nil))))))))) (by kernel_rfl) (by kernel_rfl) ((aC _ _).drew) ?_
  iterate 5
   refine iU aj  aj (λR y=>?_);apply bp
   refine⟨λr x=>?_,?_⟩
   .have I:=(x.C (p:=af7 V 4) U).T O.o.o4
    exact af8
   go_simp;refine y _ ?_;clear y R
  refine pT aj  aj  aj  aj (λK f=>?_) (λK f=>?_);go_simp;refine WE (pP (.slice b (ab0 B) d) B _ (P.o _ (aC _ u).drew).rd P0.o) ?_;rintro E s ⟨⟨H,T,F⟩,D⟩;have q:af3 u s:=(aC _ u).drew.T D;refine f _ _ (q) ?_
  iterate 1
   refine iU aj  aj (λR y=>?_);apply bp
   refine⟨λr x=>?_,?_⟩
   .have I:=(x.C (p:=af7 V 4) U).T O.o.o4
    exact af8
   go_simp;refine y _ ?_;clear y R
  refine jU aj  aj (λK f=>?_);go_simp;refine f _ _ ((q.alloc q.size _)) ?_
  iterate 1
   refine iU aj  aj (λR y=>?_);apply bp
   refine⟨λr x=>?_,?_⟩
   .have I:=(x.C (p:=af7 V 4) U).T O.o.o4
    exact af8
   go_simp;refine y _ ?_;clear y R
  refine mi ?_
  rotate_left
  go_simp;have L:af3 u (u.drew.alloc (.cells #[(.slice b (ab0 B) d),af6 0] 57)):=(aC _ u).drew.alloc (aD _) _;refine f _ _ (L) ?_;refine jU aj  aj (λK f=>?_);go_simp;refine WE (pP (.slice b (ab0 B) d) B _ (P.o _ L).rd P0.o) ?_;rintro E s ⟨⟨H,T,F⟩,D⟩;have q:af3 u s:=L.T (D.M L.size);refine f _ _ (q) ?_
  iterate 2
   refine iU aj  aj (λR y=>?_);apply bp
   refine⟨λr x=>?_,?_⟩
   .have I:=(x.C (p:=af7 V 4) U).T O.o.o4
    exact af8
   go_simp;refine y _ ?_;clear y R
  refine mi ?_
  .have C:=ot (o:=o0) (P.o u.drew (aC _ u).drew).rd P0.o ho0 (P.o u.drew (aC _ u).drew).own
   have G:(u.drew.alloc (.cells #[(.slice b (ab0 B) d),af6 0] 57)).heap.size=u.heap.size+1:=ad;have A:=C.K aa D;have I:∀k,H k->u.heap.size+1<=k:=λk e=>by have:=F k e;simp at this;omega
   obtain⟨R,p,y⟩:=l.o s E u.heap.size H q T A (λk e=>by have:=I k e;omega) (aD _) (λk e=>by have:=I k e;omega);go_wp21
   go_meet
   exact⟨E,u.heap.size,H,rfl,rfl,R,p,y⟩
  .have G:=q.size
   have C:=ot (o:=o0) (P.o s q).rd P0.o aa (P.o s q).own;have I:af3 s (s.alloc (.cells #[(.slice b (ab0 B) d),af6 0] 57)):=(aC _ _).alloc (aD _) _;obtain⟨R,p,y⟩:=l.o _ E s.heap.size H (q.T (I.M G)) (T.K I) C (λk e=>F k e) G (λk e=>by have:=T.low k e;omega);go_wp21
   go_meet
   exact⟨E,s.heap.size,H,rfl,rfl,R,p,y⟩
 case rest=>
 obtain⟨E,Q,H,rfl,rfl,y,HD2,FO2⟩:=hcut;have T:Hid (tb sp N o0 S S X Y Ow Ow wb vb V B (aq Q) H (λk=>k=Q) w wc.drew):=ax (HD2.o.K (aC _ _).drew);have Uq:Hid (iT (aq E) B 0 H wc.drew):=ax (y.o.K (aC _ _).drew);have A:Hid (kP wb vb V i j (X i) (X j) (Y i) (Y j) z c t v (.slice b (ab0 B) d) wc.drew):=ax (FO2.o.same (λ_ _=>rfl));have b0:=FO2.o.o0;clear y P J m M h O U W l;have G:=ax (HD2.o.du.ok i g);have WC:=ax (HD2.o.du.ok j hj);have Xg:Hid (∀k,H k->¬Ow i k/\¬Ow j k):=ax (λk e=>⟨(HD2.o.hH k e).2.2 i,(HD2.o.hH k e).2.2 j⟩);have⟨m,J⟩:=ar (z % 9);have hm9:m<9:=aa;rw[J] at hmod;have WD:Hid ((z:Int) % 9=(m:Int)):=ax hmod;clear J;by_cases e5:m=5
 .subst e5
  have L:Hid (s9 sp ⟨z,t,v,c,B⟩ (S i) (S j)=kH sp (c % 4) (S i)):=ax (by
   unfold s9;show(if (z:Int) % 9=5 then _ else _)=_
   rw[WD.o];rw[aH ab];show kH sp ((c:Int) % 4).toNat (S i)=_;rw[show((c:Int) % 4).toNat=c % 4 by omega])
  have M:=ax (by rw[<-L.o];exact Er.o:jX sp N (kH sp (c % 4) (S i)));have O:=ax (ug (c % 4) wc.drew oks (T.o.du.win i g) G.o.now aa);have D:(c:Int) % 4=((c % 4:Nat):Int):=aa;go_upto_region 7 with fail;refine kr (λr=>r=wc.drew) 7 (hQ 0 7 []) (rfl) ?_;iterate 7 refine jG (h:=λr x=>by subst x;have W:=A.o.p0;have o:=A.o.o3;exact af8) ?_
  refine hN ?_;simp only[aX,bj];go_wp21;try rw[D]
  refine RX O.o ?_;rintro U ⟨q,s⟩;have p:Touch (λk=>Ow i k\/H k) wc.drew U:=s.M (λk e=>.inl e);have y:=ax (T.o.zn g q M.o p);have C:Hid (kP wb vb V i j (X i) (X j) (Y i) (Y j) z c t v (.slice b (ab0 B) d) U):=ax (A.o.same (T.o.Fv g p));have F:=ax (y.o.K (aC _ _).drew);have I:Hid (kP wb vb V i j (X i) (X j) (Y i) (Y j) z c t v (.slice b (ab0 B) d) U.drew):=ax (C.o.same (λ_ _=>rfl));clear q s p O b0;have R:=ax (vx (c % 4) U.drew oks (F.o.du.ref i g) G.o.now aa);go_wp21;try refine g6 ?_
  go_upto_region 8 with fail;refine kr (λr=>r=U.drew) 7 (hQ 0 7 []) (rfl) ?_;iterate 7 refine jG (h:=λr x=>by subst x;have W:=I.o.q0;have o:=I.o.o3;exact af8) ?_
  refine hN ?_;simp only[aX,bj];go_wp21;try rw[D]
  refine RX R.o ?_;rintro l ⟨q,s⟩;have P:=ax (F.o.zo g q M.o (s.M (λk e=>.inl e)));clear q s R;go_wp21;try refine g6 ?_
  go_wp2;refine ak ?_;rw[<-PD.o _ L.o];exact⟨rfl,_,P.o.1,P.o.2⟩
 by_cases e6:m=6
 .subst e6
  have L:Hid (s9 sp ⟨z,t,v,c,B⟩ (S i) (S j)=kH sp (c) (S i)):=ax (by
   unfold s9;show(if (z:Int) % 9=5 then _ else _)=_
   rw[WD.o];rw[aF ab,aH ab];show kH sp (c:Int).toNat (S i)=_;rw[bY])
  have M:=ax (by rw[<-L.o];exact Er.o:jX sp N (kH sp (c) (S i)));have O:=ax (ug (c) wc.drew oks (T.o.du.win i g) G.o.now aa);have D:(c:Int) % 4=((c % 4:Nat):Int):=aa;go_upto_region 11 with fail;refine kr (λr=>r=wc.drew) 6 (hQ 0 6 []) (rfl) ?_;iterate 6 refine jG (h:=λr x=>by subst x;have W:=A.o.p0;have o:=A.o.o3;exact af8) ?_
  refine hN ?_;simp only[aX,bj];go_wp21;try rw[D]
  refine RX O.o ?_;rintro U ⟨q,s⟩;have p:Touch (λk=>Ow i k\/H k) wc.drew U:=s.M (λk e=>.inl e);have y:=ax (T.o.zn g q M.o p);have C:Hid (kP wb vb V i j (X i) (X j) (Y i) (Y j) z c t v (.slice b (ab0 B) d) U):=ax (A.o.same (T.o.Fv g p));have F:=ax (y.o.K (aC _ _).drew);have I:Hid (kP wb vb V i j (X i) (X j) (Y i) (Y j) z c t v (.slice b (ab0 B) d) U.drew):=ax (C.o.same (λ_ _=>rfl));clear q s p O b0;have R:=ax (vx (c) U.drew oks (F.o.du.ref i g) G.o.now aa);go_wp21;try refine g6 ?_
  go_upto_region 12 with fail;refine kr (λr=>r=U.drew) 6 (hQ 0 6 []) (rfl) ?_;iterate 6 refine jG (h:=λr x=>by subst x;have W:=I.o.q0;have o:=I.o.o3;exact af8) ?_
  refine hN ?_;simp only[aX,bj];go_wp21;try rw[D]
  refine RX R.o ?_;rintro l ⟨q,s⟩;have P:=ax (F.o.zo g q M.o (s.M (λk e=>.inl e)));clear q s R;go_wp21;try refine g6 ?_
  go_wp2;refine ak ?_;rw[<-PD.o _ L.o];exact⟨rfl,_,P.o.1,P.o.2⟩
 by_cases e7:m=7
 .subst e7
  have L:Hid (s9 sp ⟨z,t,v,c,B⟩ (S i) (S j)=pO sp B (S j) (S i) 0):=ax (by
   unfold s9;show(if (z:Int) % 9=5 then _ else _)=_
   rw[WD.o];rw[aF ab,aF ab,aH ab])
  have M:=ax (by rw[<-L.o];exact Er.o:jX sp N (pO sp B (S j) (S i) 0));have O:=ax (Fs oks wc.drew (T.o.du.win i g) (T.o.du.win j hj) G.o WC.o h0 Uq.o (Xg.o) (λq _ e=>by cases e));have⟨er,s⟩:=ar (s8 sp B (S j) (S i) 0);rw[s] at O;have UI:=ax s;have I:Hid (ad0 .i64 (j:Int)=(j:Int)):=ax (cy _ aa);clear s;go_upto_region 15 with fail;clear b0;have Z:=ax (λ(r:World) (x:kP wb vb V i j (X i) (X j) (Y i) (Y j) z c t v (.slice b (ab0 B) d) r)=>(aB (I.o) (aB (x.p0) (aB (x.p1) (aB (x.q0) (x.q1))))));refine jh (λr=>kP wb vb V i j (X i) (X j) (Y i) (Y j) z c t v (.slice b (ab0 B) d) r) (hQ 0 10 (hQ 11 10 (ik 10 (ik 21 (hQ 22 2 []))))) (A.o) ?_;iterate 20 refine ib ?_
  refine iz λK f=>?_;go_simp;refine(O.o).M ?_;rintro e U J;obtain⟨rfl,R,D,p⟩:=J;have y:=ax (T.o.zn g R M.o p);have C:Hid (kP wb vb V i j (X i) (X j) (Y i) (Y j) z c t v (.slice b (ab0 B) d) U):=ax (A.o.same (T.o.Fv g p));clear R D p;refine f _ _ (C.o) ?_;refine iz λK f=>?_;go_simp;refine(Bb oks U (y.o.du.ref i g) (y.o.du.ref j hj) G.o WC.o h0 y.o.rc (aa6 y.o.got.2.size y.o.bz) (λk e=>⟨(y.o.hR k e).2.2 _,(y.o.hR k e).2.2 _⟩) (λk e=>(y.o.du.low _ k e).1)).M ?_;rintro e l J;obtain⟨rfl,R,D,p⟩:=J;rw[UI.o];have P:=ax (y.o.zo g R M.o p);have F8:Hid (kP wb vb V i j (X i) (X j) (Y i) (Y j) z c t v (.slice b (ab0 B) d) l):=ax (C.o.same (y.o.PC g p));clear R D p;refine f _ _ (F8.o) ?_;iterate 2 refine ib ?_
  refine g4 ?_;try refine g6 ?_
  go_wp2;refine ak ?_;rw[<-PD.o _ L.o];exact⟨ad,_,P.o.1,P.o.2⟩
 by_cases e8:m=8
 .subst e8
  have L:Hid (s9 sp ⟨z,t,v,c,B⟩ (S i) (S j)=pO sp B (S i) (S i) 0):=ax (by
   unfold s9;show(if (z:Int) % 9=5 then _ else _)=_
   rw[WD.o];rw[aF ab,aF ab,aF ab,aH ab])
  have M:=ax (by rw[<-L.o];exact Er.o:jX sp N (pO sp B (S i) (S i) 0));have O:=ax (Fs oks wc.drew (T.o.du.win i g) (T.o.du.win i g) G.o G.o h0 Uq.o (λk e=>⟨(Xg.o k e).1,(Xg.o k e).1⟩) (λq _ e=>by cases e));have⟨er,s⟩:=ar (s8 sp B (S i) (S i) 0);rw[s] at O;have UI:=ax s;have I:Hid (ad0 .i64 (j:Int)=(j:Int)):=ax (cy _ aa);clear s;go_upto_region 17 with fail;clear b0;have Z:=ax (λ(r:World) (x:kP wb vb V i j (X i) (X j) (Y i) (Y j) z c t v (.slice b (ab0 B) d) r)=>(aB (I.o) (aB (x.p0) (aB (x.p1) (aB (x.q0) (x.q1))))));refine jh (λr=>kP wb vb V i j (X i) (X j) (Y i) (Y j) z c t v (.slice b (ab0 B) d) r) (hQ 0 9 (hQ 10 9 (ik 9 (ik 19 (hQ 20 2 []))))) (A.o) ?_;iterate 18 refine ib ?_
  refine iz λK f=>?_;go_simp;refine(O.o).M ?_;rintro e U J;obtain⟨rfl,R,D,p⟩:=J;have y:=ax (T.o.zn g R M.o p);have C:Hid (kP wb vb V i j (X i) (X j) (Y i) (Y j) z c t v (.slice b (ab0 B) d) U):=ax (A.o.same (T.o.Fv g p));clear R D p;refine f _ _ (C.o) ?_;refine iz λK f=>?_;go_simp;refine(Bb oks U (y.o.du.ref i g) (y.o.du.ref i g) G.o G.o h0 y.o.rc (aa6 y.o.got.2.size y.o.bz) (λk e=>⟨(y.o.hR k e).2.2 _,(y.o.hR k e).2.2 _⟩) (λk e=>(y.o.du.low _ k e).1)).M ?_;rintro e l J;obtain⟨rfl,R,D,p⟩:=J;rw[UI.o];have P:=ax (y.o.zo g R M.o p);have F8:Hid (kP wb vb V i j (X i) (X j) (Y i) (Y j) z c t v (.slice b (ab0 B) d) l):=ax (C.o.same (y.o.PC g p));clear R D p;refine f _ _ (F8.o) ?_;iterate 2 refine ib ?_
  refine g4 ?_;try refine g6 ?_
  go_wp2;refine ak ?_;rw[<-PD.o _ L.o];exact⟨ad,_,P.o.1,P.o.2⟩
 .have L:Hid (s9 sp ⟨z,t,v,c,B⟩ (S i) (S j)=rA sp B v c (S i) 0):=ax (by
   unfold s9;show(if (z:Int) % 9=5 then _ else _)=_
   rw[WD.o,aF aa,aF aa,aF aa,aF aa])
  have M:=ax (by rw[<-L.o];exact Er.o:jX sp N (rA sp B v c (S i) 0));have O:=ax (RN v c wc.drew (T.o.du.win i g) G.o.each Uq.o (λ_ e=>by cases e) (λk e=>(Xg.o k e).1) v0 v1 aa  aa);have⟨er,s⟩:=ar (ze sp (S i) v c);rw[s] at O;have UI:=ax s;clear s;obtain⟨v3,W,Or,G3,s,UG,F,rF⟩:=T.o.du.ref i g;have hlL:ab0 (S i).L=N:=G.o.len;obtain⟨q,o,rfl,hg3,_,_,hG3,hrow,Fw⟩:=s.ring.pos s.pos;have R1:=ax s;have h:wc.drew.cell? (af7 (Y i) 7)=_:=s.c7;have y0:wc.drew.cell? (af7 q 0)=_:=Fw 0 aa;rw[hlL] at h;have I:Hid (Ow (2+i) (Y i)/\Ow (2+i) q/\¬Or 0 q/\¬Or 0 (Y i)/\(∀k,Or 0 k->Ow (2+i) k)):=ax ⟨UG,F _ hG3,hrow 0,λe=>s.o (s.ring.qu _ _ e),λk e=>F _ (s.ring.qu _ _ e)⟩;have HL:=ax hlL;have HRF:=ax (aB F rF);have YY:Hid (wc.drew.cell? (af7 (Y i) 7)=some (.slice (some (af7 q 0)) N o)/\wc.drew.cell? (af7 q 0)=some (.pointer (some (af7 (W.getD 0 0) 0)))):=ax ⟨h,y0⟩;clear s Fw h y0 UG F rF hG3 hrow hlL hg3;go_upto_region 18 with fail;clear b0;have Z:=ax (λ(r:World) (x:kP wb vb V i j (X i) (X j) (Y i) (Y j) z c t v (.slice b (ab0 B) d) r/\r.cell? (af7 (Y i) 7)=some (.slice (some (af7 q 0)) N o)/\r.cell? (af7 q 0)=some (.pointer (some (af7 (W.getD 0 0) 0))))=>(aB (x.1.p0) (aB (x.1.q0) (aB (x.1.o2) (aB (x.1.o3) (aB (x.2.1) (x.2.2)))))));refine jh (λr=>kP wb vb V i j (X i) (X j) (Y i) (Y j) z c t v (.slice b (ab0 B) d) r/\r.cell? (af7 (Y i) 7)=some (.slice (some (af7 q 0)) N o)/\r.cell? (af7 q 0)=some (.pointer (some (af7 (W.getD 0 0) 0)))) (hQ 0 9 (hQ 10 14 (ik 9 (ik 24 (hQ 25 2 []))))) (⟨A.o,YY.o⟩) ?_;iterate 23 refine ib ?_
  refine iz λK f=>?_;go_simp;refine(O.o).M ?_;rintro e U J;obtain⟨rfl,R,D,p⟩:=J;have y:=ax (T.o.zn g R M.o p);have C:Hid (kP wb vb V i j (X i) (X j) (Y i) (Y j) z c t v (.slice b (ab0 B) d) U):=ax (A.o.same (T.o.Fv g p));have h:Hid (∀k,Ow (2+i) k->U.heap[k]?=wc.drew.heap[k]?):=ax (λk e=>p.block k (T.o.du.low _ k e).2 (λn=>n.elim (λe3=>by have:=T.o.du.uniq _ _ k e e3;omega) (λe3=>(T.o.hH k e3).2.2 _ e)));have x:Hid (jZ sp (S i).now (S i).L (.slice (some (af7 q 0)) (ab0 (S i).L) o) W Or G3 (Y i) U):=ax (R1.o.stay (h.o _ I.o.1) (λk e=>h.o k (HRF.o.1 k e)) p.size);have Y6:Hid (U.cell? (af7 (Y i) 7)=some (.slice (some (af7 q 0)) N o)/\U.cell? (af7 q 0)=some (.pointer (some (af7 (W.getD 0 0) 0)))):=ax ⟨(bn (a:=af7 (Y i) 7) (h.o _ I.o.1)).T YY.o.1,(bn (a:=af7 q 0) (h.o _ I.o.2.1)).T YY.o.2⟩;clear R D p;refine f _ _ (⟨C.o,Y6.o⟩) ?_;refine iz λK f=>?_;go_simp;refine(RU v c U (x.o.js (i:=0) (aa2 HL.o)) (G.o.at_ (aa2 HL.o)) y.o.rc (λk e n=>(y.o.hR k e).2.2 (2+i) (by rw[hX aa];exact I.o.2.2.2.2 k n)) (aa6 y.o.got.2.size y.o.bz) (λk e=>(T.o.du.low _ k (I.o.2.2.2.2 k e)).1) v0 v1 aa  aa).M ?_;rintro e l J;obtain⟨rfl,R,D,p⟩:=J;rw[show mH sp ((S i).L.getD 0 sp.new) v c=er from UI.o];have TN:=ax (Ba (s:=S i) (F:=Ow (2+i)) x.o I.o.1 HRF.o.1 (λk e=>by have:=y.o.du.low (2+i) k (by rw[hX aa];exact e);exact this.2) (aa2 HL.o) R p (λk e n=>(y.o.hR k e).2.2 (2+i) (by rw[hX aa];exact n)));have F8:Hid (kP wb vb V i j (X i) (X j) (Y i) (Y j) z c t v (.slice b (ab0 B) d) l):=ax (C.o.same (y.o.PC g (by rw[hX aa];exact TN.o.2)));have Y8:Hid (l.cell? (af7 (Y i) 7)=some (.slice (some (af7 q 0)) N o)/\l.cell? (af7 q 0)=some (.pointer (some (af7 (W.getD 0 0) 0)))):=ax ⟨(bn (a:=af7 (Y i) 7) (p.block _ x.o.blk.lt (λn=>n.elim I.o.2.2.2.1 (λe3=>(y.o.hR _ e3).2.2 (2+i) (by rw[hX aa];exact I.o.1))))).T Y6.o.1,(bn (a:=af7 q 0) (p.block _ (x.o.ring.low _ (x.o.ring.mg _ rfl).1) (λn=>n.elim I.o.2.2.1 (λe3=>(y.o.hR _ e3).2.2 (2+i) (by rw[hX aa];exact I.o.2.1))))).T Y6.o.2⟩;have P:Hid _:=ax (y.o.zo (s':=rA sp B v c (S i) 0) g (by rw[hX aa];exact TN.o.1) M.o (by rw[hX aa];exact TN.o.2));clear R D p;refine f _ _ (⟨F8.o,Y8.o⟩) ?_;iterate 2 refine ib ?_
  refine g4 ?_;try refine g6 ?_
  go_wp2;refine ak ?_;rw[<-PD.o _ L.o];exact⟨ad,_,P.o.1,P.o.2⟩
def PE(o:zO)(f:jR sp)(g:sp.small)(s:0<N)(p:o0<=w.heap.size)(r:Duo sp N o0 S S X Y Ow wb vb w)(b:o.fits)(y:FO o0 w cv o.B)(c:ab0 o.B<=200):af4 af5 11 #[.slice (some (af7 wb 0)) 2 2,.slice (some (af7 vb 0)) 2 2,.agg #[.int .u8 o.kd,.bool o.who,af6 o.v,.int .u64 o.n,cv]] w λe d=>e=.returned (.bool true)/\∃z,Duo sp N o0 (Pm sp o S) (Pm sp o S) X Y z wb vb d/\Iv Ow z w d:=by
 obtain⟨z,R,v,n,B⟩:=o;obtain⟨a,V,u,t,U,T,x⟩:=b;simp only at a V u t U T x y c |-;obtain⟨z,rfl⟩:∃q:Nat,z=(q:Int):=⟨z.toNat,aa⟩
 obtain⟨n,rfl⟩:∃q:Nat,n=(q:Int):=⟨n.toNat,aa⟩;cases R with
 | false=>exact WB (i:=0) (j:=1) z n false v f g s p r (.inl ⟨rfl,rfl,rfl⟩) aa  aa u t y ⟨aa,x⟩
 | true=>exact WB (i:=1) (j:=0) z n true v f g s p r (.inr ⟨rfl,rfl,rfl⟩) aa  aa u t y ⟨aa,x⟩
def Iv.below{Ow':Nat->Ft}(h:Iv Ow Ow' w w')(z:∀a k,Ow a k->b<=k)(y:b<=w.heap.size):Below b w w':=h.2.below (λk ⟨a,e⟩=>z a k e) y
structure pU(W:World)(sp:ie)(N:Nat)(S:Nat->Wn)(X Y:Nat->Nat)(wb vb:Nat)(w:World):Prop where
 duo:∃Ow,Duo sp N W.heap.size S S X Y Ow wb vb w
 below:af3 W w
def pU.act(h:pU W sp N S X Y wb vb w)(o:zO)(p:jR sp)(q:sp.small)(u:0<N)(r:o.fits)(t:FO W.heap.size w cv o.B)(s:ab0 o.B<=200):af4 af5 11 #[.slice (some (af7 wb 0)) 2 2,.slice (some (af7 vb 0)) 2 2,.agg #[.int .u8 o.kd,.bool o.who,af6 o.v,.int .u64 o.n,cv]] w λe y=>e=.returned (.bool true)/\pU W sp N (Pm sp o S) X Y wb vb y:=by
 obtain⟨⟨f,d⟩,z⟩:=h;refine RX (PE o p q u z.size d r t s) ?_;rintro y ⟨x,v,g⟩;exact⟨rfl,⟨x,v⟩,z.T (g.below (λa k e=>(d.low a k e).1) z.size)⟩
def pU.win(h:pU W sp N S X Y wb vb w)(z:i<2):(∃F,jf sp (S i) (X i) F w)/\(∃F,iV sp (S i) (Y i) F w)/\jX sp N (S i)/\w.cell? (af7 wb i)=some (.pointer (some (af7 (X i) 0)))/\w.cell? (af7 vb i)=some (.pointer (some (af7 (Y i) 0)))/\wb<w.heap.size/\vb<w.heap.size:=by
 obtain⟨⟨y,d⟩,x⟩:=h;exact⟨⟨_,d.win i z⟩,⟨_,d.ref i z⟩,d.ok i z,d.cw i z,d.cv i z,(d.low 4 _ d.rw).2,(d.low 4 _ d.rv).2⟩
def vy.act{A:Option Addr}{c:Nat}(h:vy o0 w (.slice A (ab0 l) c) l)(f:i<ab0 l):∃g z y,A=some (af7 g z)/\g<o0/\FO o0 w y l[i].B /\
 w.cell? (af7 g (z+i * 5))=some (.int .u8 l[i].kd)/\w.cell? (af7 g (z+i * 5+1))=some (.bool l[i].who)/\w.cell? (af7 g (z+i * 5+2))=some (af6 l[i].v)/\w.cell? (af7 g (z+i * 5+3))=some (.int .u64 l[i].n)/\w.cell? (af7 g (z+i * 5+4))=some y:=by
 obtain⟨_,b,a,e,_,_,q⟩:=h;injection e with e1 e2 e3;subst e1;obtain⟨g,z,rfl,p,d⟩:=q aa;obtain⟨y,x,v,u,t,s,r⟩:=d i f;exact⟨g,z,y,rfl,p,r,x,v,u,t,s⟩
def wH:ie:=.d 500 50
def Cn:jR wH:=by unfold wH jR;decide
def oE(w0:World)(s:Wn)(x:Nat)(w:World):Prop:=(∃F,jf wH s x F w/\∀k,F k->w0.heap.size<=k)/\jX wH 3 s/\af3 w0 w
def oE.next{s':Wn}{F:Ft}(z:∀k,F k->w0.heap.size<=k)(y:af3 w0 w)(h:jf wH s' x (Gr F w w') w')(ok:jX wH 3 s')(v:Touch F w w'):oE w0 s' x w':=by
 have u:=y.size;exact⟨⟨_,h,λk e=>e.elim (z k) (λt=>by omega)⟩,ok,y.T (v.below z u)⟩
def PF(v n:Nat)(h:oE w0 s x w)(b:v<=100)(c:n<=100):af4 af5 31 #[aq x,af6 v,.int .u64 n,.pointer none] w λe t=>e=.returned (af6 (ze wH s v n))/\oE w0 (rA wH [] v n s 0) x t:=by
 obtain⟨⟨F,r,g⟩,u,d⟩:=h;refine RX (zf v n w r u.each (iT.nil_ w) (λk e=>e.elim) (λf {_ _ _} z q y p=>Pu (ac:=500) (m:=50) v n f z q y p aa  aa  aa  aa)) ?_;rintro t ⟨z,_,y⟩;exact⟨rfl,oE.next g d z (EJ u ab trivial aa  aa  aa  aa) (y.M λk e=>e.elim id (λf=>f.elim))⟩
def Co(n:Nat)(h:oE w0 s x w)(p:n<=100):af4 af5 32 #[aq x,.int .u64 n] w λe y=>e=.returned (.tuple #[])/\oE w0 (kH wH n s) x y:=by
 obtain⟨⟨F,v,r⟩,z,q⟩:=h;refine RX (ug n w Cn v z.now aa) ?_;rintro y ⟨u,t⟩;exact⟨rfl,oE.next r q u (ud Cn z ab) t⟩
def uq(n:Nat)(h:oE w0 s x w):af4 af5 22 #[aq x,af6 n] w λe r=>e=.returned (.int .u64 (mI wH s n))/\oE w0 s x r:=by
 obtain⟨⟨F,z,g⟩,t,u⟩:=h;have p:=z;obtain⟨b,C,v,a,c,d,q,f,_⟩:=z;refine RX (vt n w q f t.each) ?_;intro r y;exact⟨rfl,⟨F,(jy wH s x).K p y,g⟩,t,u.T (y.M u.size)⟩
def Ur(h:oE w0 s x w):af4 af5 33 #[aq x] w λe u=>e=.returned (.int .u64 s.now)/\w=u:=by
 obtain⟨⟨F,z,p⟩,d,f⟩:=h;obtain⟨q,C,v,c,r,t,y,g,_⟩:=z;exact JP w y
def Xh:Wn:=jM wH 3
def al1:Wn:=rA wH [] (7:Nat) (1:Nat) Xh 0
def al2:Wn:=kH wH 1 al1
def UJ:Wn:=rA wH [] (9:Nat) (2:Nat) al2 0
def Xi:Wn:=kH wH 2 UJ
def Xj:Wn:=kH wH 1 Xi
def PG:ze wH Xh (7:Nat) (1:Nat)=0/\ze wH al2 (9:Nat) (2:Nat)=0/\mI wH UJ (1:Nat)=2/\mI wH UJ (2:Nat)=3/\mI wH Xi (3:Nat)=2/\mI wH Xj (3:Nat)=0/\Xj.now=4:=by
 refine⟨ai,ai,ai,ai,ai,ai,ai⟩
def rE(w:World):af4 af5 7 #[] w (au w (.bool true)):=by
 have z:=ax (JR 3 w Cn ab  ab);obtain⟨y,d,c,b,a,Y,X⟩:=PG;have v:=ax (λW x (h:oE w Xh x W)=>y▸PF 7 1 h ab  ab);have u:=ax (λW x (h:oE w al1 x W)=>Co 1 h ab);have t:=ax (λW x (h:oE w al2 x W)=>d▸PF 9 2 h ab  ab);have s:=ax (λW x (h:oE w UJ x W)=>c▸uq 1 h);have r:=ax (λW x (h:oE w UJ x W)=>b▸uq 2 h);have q:=ax (λW x (h:oE w UJ x W)=>Co 2 h ab);have p:=ax (λW x (h:oE w Xi x W)=>a▸uq 3 h);have g:=ax (λW x (h:oE w Xi x W)=>Co 1 h ab);have f:=ax (λW x (h:oE w Xj x W)=>Y▸uq 3 h);have U:=ax (λW x (h:oE w Xj x W)=>X▸Ur h);have V:Hid (∀x W,jf wH (jM wH 3) x (Gr (λ_=>False) w W) W->af3 w W->oE w Xh x W):=ax (λx W h T=>⟨⟨_,h,λk e=>e.elim False.elim And.left⟩,Cc Cn,T⟩);unfold wH ie.v iB at z;clear y d c b a Y X;go_in;go_wp21;refine WE z.o ?_;rintro x b ⟨d,c⟩;have y:=ax (V.o x b d c);clear d c z V;go_wp21;refine RX (v.o b x y.o) ?_;intro d h;have z:=ax h;clear h v y;go_wp21;refine RX (u.o d x z.o) ?_;intro v h;have y:=ax h;clear h u z;go_wp21;refine RX (t.o v x y.o) ?_;intro u h;have z:=ax h;clear h t y;go_wp21;refine RX (s.o u x z.o) ?_;intro t h;have y:=ax h;clear h s z;go_wp21;refine RX (r.o t x y.o) ?_;intro s h;have z:=ax h;clear h r y;go_wp21;refine RX (q.o s x z.o) ?_;intro r h;have y:=ax h;clear h q z;go_wp21;refine RX (p.o r x y.o) ?_;intro q h;have z:=ax h;clear h p y;go_wp21;refine RX (g.o q x z.o) ?_;intro p h;have y:=ax h;clear h g z;go_wp21;refine RX (f.o p x y.o) ?_;intro g h;have z:=ax h;clear h f y;go_wp21;refine Ix (U.o g x z.o) ?_;go_wp2;refine ak ?_;exact⟨rfl,z.o.2.2⟩
def rG{v:Value}(w:World)(h:vy o0 w v l):af4 af5 8 #[v] w λe T=>(∃g:Bool,e=.returned (.bool g)/\(g=false->∀i,i<100->(Y:i<ab0 l)->ab0 l[i].B<=200))/\af3 w T:=by
 obtain⟨_,A,c,rfl,N,M,z⟩:=h;have p:=ax z;clear z;go_in;go_wp2;go_loopg [3] (ab0 l) (λq z wr=>∃i:Nat,q=ab0 l - i/\i<=ab0 l/\i<=100/\z=af6 (i:Int)/\w=wr/\Hid (∀j,j<i->(r:j<ab0 l)->ab0 l[j].B<=200))
 exact⟨0,aa,aa,aa,rfl,rfl,ax (λj r=>by omega)⟩
 case round=>
  obtain⟨i,z,Y,K,rfl,rfl,y⟩:=hrel;have f:=ax z;clear z;by_cases V:i<ab0 l
  .have X:(i:Int)<(ab0 l:Int):=aa
   by_cases O:i<100
   .have a:(i:Int)<100:=aa
    obtain⟨g,U,rfl,L,t⟩:=p.o aa;obtain⟨P,_,_,_,_,z,s⟩:=t i V;obtain⟨S,Q,rfl,b,R,_⟩:=s.rd.form;have⟨x,u⟩:=ar (ab0 l[i].B);rw[u] at z b;have d:=ax u;have q:=ax z;clear t s u z;have z:w.cell? (af7 g (U+i * 5+4))=_:=q.o;by_cases s:200<x
    .have u:(x:Int) > 200:=aa
     go_wp2;refine ak ?_;exact⟨⟨true,rfl,λe=>by cases e⟩,aC _ _⟩
    .have u:¬((x:Int) > 200):=aa
     go_wp2;go_roundg (ab0 l - (i+1))
     case measure=>have:=f.o;omega
     case rel=>exact⟨i+1,rfl,aa,aa,af,rfl,ax (λj r t=>by
      by_cases e:j=i
      .subst e;rw[d.o];omega
      .exact y.o j aa t)⟩
   .have a:¬((i:Int)<100):=aa
    go_wp2;refine ak ?_
    first
     | exact⟨⟨false,rfl,λ_ j x z=>y.o j aa z⟩,aC _ _⟩
     | exact⟨.inl ⟨rfl,λj x z=>y.o j aa z⟩,aC _ _⟩
  .have X:¬((i:Int)<(ab0 l:Int)):=aa
   go_wp2;refine ak ?_
   first
    | exact⟨⟨false,rfl,λ_ j x z=>y.o j aa z⟩,aC _ _⟩
    | exact⟨.inl ⟨rfl,λj x z=>y.o j aa z⟩,aC _ _⟩
def Duo.down{R:Nat->Wn}(h:Duo sp n base S R X Y Ow wb vb w)(z:o0<=base):Duo sp n o0 S R X Y Ow wb vb w:=
 ⟨h.win,h.ref,h.ok,h.Xe,h.uniq,λa k e=>⟨bf z (h.low a k e).1,(h.low a k e).2⟩,h.rw,h.rv,h.cw,h.cv⟩
def two(a b:Nat):Nat->Nat:=λi=>if i=0 then a else b
def SE(F0 F1 F2 F3:Ft)(wb vb:Nat):Nat->Ft:=λa k=>(a=0/\F0 k)\/(a=1/\F1 k)\/(a=2/\F2 k)\/(a=3/\F3 k)\/(a=4/\(k=wb\/k=vb))
def Us{F0 F1 F2 F3:Ft}{wb vb:Nat}:SE F0 F1 F2 F3 wb vb 0=F0/\SE F0 F1 F2 F3 wb vb 1=F1/\SE F0 F1 F2 F3 wb vb 2=F2/\SE F0 F1 F2 F3 wb vb 3=F3:=by
 refine⟨?_,?_,?_,?_⟩<;>funext k<;>unfold SE<;>simp
def Mf{x0 x1 y0 y1 m1 m2 l2 u2 l3 u3:Nat}{F0 F1 F2 F3:Ft}(ok:jR sp)
 (Y:jf sp (jM sp n) x0 F0 w) (X:jf sp (jM sp n) x1 F1 w) (V:iV sp (jM sp n) y0 F2 w) (U:iV sp (jM sp n) y1 F3 w)
 (g:∀k,F0 k->base<=k/\k<m1) (f:∀k,F1 k->m1<=k/\k<m2) (d:∀k,F2 k->l2<=k/\k<u2) (c:∀k,F3 k->l3<=k/\k<u3) (H:base<=m1) (G:m1<=m2) (F:m2<=l2) (E:m2<=l3) (C:m2<=wb) (D:m2<=vb)
 (B:u2<=l3) (l:wb<l2\/u2<=wb) (m:wb<l3\/u3<=wb) (A:vb<l2\/u2<=vb) (j:vb<l3\/u3<=vb) (W:wb<w.heap.size) (o:vb<w.heap.size)
 (T:w.cell? (af7 wb 0)=some (jw x0)) (S:w.cell? (af7 wb 1)=some (jw x1)) (R:w.cell? (af7 vb 0)=some (jw y0)) (Q:w.cell? (af7 vb 1)=some (jw y1)) :
 Duo sp n base (λ_=>jM sp n) (λ_=>jM sp n) (two x0 x1) (two y0 y1) (SE F0 F1 F2 F3 wb vb) wb vb w:=by
 have L:=(jy sp _ _).low Y;have K:=(jy sp _ _).low X;have J:=(iM sp _ _).low V;have I:=(iM sp _ _).low U;obtain⟨P,O,N,M⟩:=@Us F0 F1 F2 F3 wb vb;refine⟨λi x=>?_,λi x=>?_,λi _=>Cc ok,λi _=>Cc ok,λa b k z y=>?_,λa k e=>?_,.inr (.inr (.inr (.inr ⟨rfl,.inl rfl⟩))),.inr (.inr (.inr (.inr ⟨rfl,.inr rfl⟩))),λi x=>?_,λi x=>?_⟩
 .rcases(by omega:i=0\/i=1) with rfl|rfl
  .rw[P];exact Y
  .rw[O];exact X
 .rcases(by omega:i=0\/i=1) with rfl|rfl
  .show iV sp _ _ (SE F0 F1 F2 F3 wb vb 2) w
   rw[N];exact V
  .show iV sp _ _ (SE F0 F1 F2 F3 wb vb 3) w
   rw[M];exact U
 .have u:=g k;have t:=f k;have s:=d k;have r:=c k
  rcases z with⟨q,z⟩|⟨q,z⟩|⟨q,z⟩|⟨q,z⟩|⟨q,z⟩<;>rcases y with⟨p,y⟩|⟨p,y⟩|⟨p,y⟩|⟨p,y⟩|⟨p,y⟩<;>first
   | omega
   | (have x:=u z;have v:=t y;omega)
   | (have x:=u z;have v:=s y;omega)
   | (have x:=u z;have v:=r y;omega)
   | (have x:=u z;omega)
   | (have x:=t z;have v:=u y;omega)
   | (have x:=t z;have v:=s y;omega)
   | (have x:=t z;have v:=r y;omega)
   | (have x:=t z;omega)
   | (have x:=s z;have v:=u y;omega)
   | (have x:=s z;have v:=t y;omega)
   | (have x:=s z;have v:=r y;omega)
   | (have x:=s z;omega)
   | (have x:=r z;have v:=u y;omega)
   | (have x:=r z;have v:=t y;omega)
   | (have x:=r z;have v:=s y;omega)
   | (have x:=r z;omega)
   | (have v:=u y;omega)
   | (have v:=t y;omega)
   | (have v:=s y;omega)
   | (have v:=r y;omega)
 .have u:=g k;have t:=f k;have s:=d k;have r:=c k
  rcases e with⟨_,e⟩|⟨_,e⟩|⟨_,e⟩|⟨_,e⟩|⟨_,e⟩
  .have:=u e;have:=L k e;omega
  .have:=t e;have:=K k e;omega
  .have:=s e;have:=J k e;omega
  .have:=r e;have:=I k e;omega
  .omega
 .rcases(by omega:i=0\/i=1) with rfl|rfl
  .exact T
  .exact S
 .rcases(by omega:i=0\/i=1) with rfl|rfl
  .exact R
  .exact Q
def ur{kd lo hi dg ac sz:Int}{gr:Bool}(z:sp.v=iB kd lo hi dg gr ac sz)(ok:jR sp)(n:Nat)(w:World)(n1:1<=n)(n60:n<=60):af4 af5 9 #[iB kd lo hi dg gr ac sz,af6 n] w λe g=>∃X Y d wb vb,e=.returned (.tuple #[.slice (some (af7 wb 0)) 2 2,.slice (some (af7 vb 0)) 2 2])/\Duo sp n w.heap.size (λ_=>jM sp n) (λ_=>jM sp n) X Y d wb vb g/\af3 w g:=by
 have CN:=ax (λW=>JR n W ok n1 n60);have l:=ax (λW=>Pz n W ok n1 n60);rw[z] at CN l;unfold iB at CN l |-;have OK:=ax ok;clear z ok;have⟨b,x⟩:=ar (w.heap.size);have⟨wa,y⟩:=ar (w.alloc (.cells #[.int .u8 kd,af6 lo,af6 hi,af6 dg,.bool gr,af6 ac,af6 sz] 33));have ha:=ao y
 have z:=(an y x).o;obtain⟨J,L,M,N,O,P,Q⟩:=z.c7;have T:=ax (aB J (aB L (aB M (aB N (aB O (aB P Q))))));have V:=z.lt;have HB0:=ax ha;clear z;go_in;go_upto_region 1 with fail;clear y x;go_wp21;refine WE (CN.o wa) ?_;rintro a I ⟨y,z⟩;have H0:=ax y;have r:=ax z;clear y z J L M N O P Q;have J:I.cell? (af7 b 0)=_:=(r.o.C (p:=af7 b 0) V).T T.o.1;have L:I.cell? (af7 b 1)=_:=(r.o.C (p:=af7 b 1) V).T T.o.2.1;have M:I.cell? (af7 b 2)=_:=(r.o.C (p:=af7 b 2) V).T T.o.2.2.1;have N:I.cell? (af7 b 3)=_:=(r.o.C (p:=af7 b 3) V).T T.o.2.2.2.1;have O:I.cell? (af7 b 4)=_:=(r.o.C (p:=af7 b 4) V).T T.o.2.2.2.2.1;have P:I.cell? (af7 b 5)=_:=(r.o.C (p:=af7 b 5) V).T T.o.2.2.2.2.2.1;have Q:I.cell? (af7 b 6)=_:=(r.o.C (p:=af7 b 6) V).T T.o.2.2.2.2.2.2;go_wp21;refine WE (CN.o I) ?_;rintro c z ⟨x,y⟩;have H1:=ax x;have H:=ax y;clear x y J L M N O P Q;have S:b<z.heap.size:=by have:=r.o.size;have:=H.o.size;omega
 have j:Hid (z.cell? (af7 b 0)=_/\z.cell? (af7 b 1)=_/\z.cell? (af7 b 2)=_/\z.cell? (af7 b 3)=_/\z.cell? (af7 b 4)=_/\z.cell? (af7 b 5)=_/\z.cell? (af7 b 6)=_):=ax ⟨(H.o.C (p:=af7 b 0) (aG V r.o.size)).T ((r.o.C (p:=af7 b 0) V).T T.o.1),(H.o.C (p:=af7 b 1) (aG V r.o.size)).T ((r.o.C (p:=af7 b 1) V).T T.o.2.1),(H.o.C (p:=af7 b 2) (aG V r.o.size)).T ((r.o.C (p:=af7 b 2) V).T T.o.2.2.1),(H.o.C (p:=af7 b 3) (aG V r.o.size)).T ((r.o.C (p:=af7 b 3) V).T T.o.2.2.2.1),(H.o.C (p:=af7 b 4) (aG V r.o.size)).T ((r.o.C (p:=af7 b 4) V).T T.o.2.2.2.2.1),(H.o.C (p:=af7 b 5) (aG V r.o.size)).T ((r.o.C (p:=af7 b 5) V).T T.o.2.2.2.2.2.1),(H.o.C (p:=af7 b 6) (aG V r.o.size)).T ((r.o.C (p:=af7 b 6) V).T T.o.2.2.2.2.2.2)⟩;have i:Hid (∀(y:World) (wb vb s t:Nat) (f q:Ft) (S u2 x u3:Nat),af3 z y->iV sp (jM sp n) s f y->iV sp (jM sp n) t q y->(∀k,f k->S<=k/\k<u2)->(∀k,q k->x<=k/\k<u3)->z.heap.size<=S->z.heap.size<=x->z.heap.size<=wb->z.heap.size<=vb->u2<=x->(wb<S\/u2<=wb)->(wb<x\/u3<=wb)->(vb<S\/u2<=vb)->(vb<x\/u3<=vb)->wb<y.heap.size->vb<y.heap.size ->
  y.cell? (af7 wb 0)=some (jw a)->y.cell? (af7 wb 1)=some (jw c)->y.cell? (af7 vb 0)=some (jw s)->y.cell? (af7 vb 1)=some (jw t) ->
  ∃X Y d u v,Ending.returned (.tuple #[.slice (some (af7 wb 0)) 2 2,.slice (some (af7 vb 0)) 2 2])=.returned (.tuple #[.slice (some (af7 u 0)) 2 2,.slice (some (af7 v 0)) 2 2])/\Duo sp n w.heap.size (λ_=>jM sp n) (λ_=>jM sp n) X Y d u v y/\af3 w y):=ax (λy wb vb s t f q S u2 x u3 X C D b2 b3 c2 c3 cw cv h W o m A B E F G K R=>by
  have Y:=HB0.o.size;have d:=r.o.size;have u:=H.o.size;have v:af3 I y:=H.o.T (X.M u);have U:=Mf OK.o ((jy sp _ _).K H0.o v) ((jy sp _ _).K H1.o X) C D (base:=wa.heap.size) (m1:=I.heap.size) (m2:=z.heap.size) (wb:=wb) (vb:=vb) (λk e=>e.elim False.elim id) (λk e=>e.elim False.elim id) b2 b3 d u c2 c3 cw cv h W o m A B E F G K R;exact⟨_,_,_,_,_,rfl,U.down Y,HB0.o.T ((r.o.T (v.M d)).M Y)⟩)
 have W:af3 z z.drew:=(aC _ _).drew;go_upto_region 5 with fail;have Z:=ax (λg (u:(λg=>af3 z g) g)=>(aB ((u.C (p:=af7 b 0) S).T j.o.1) (aB ((u.C (p:=af7 b 1) S).T j.o.2.1) (aB ((u.C (p:=af7 b 2) S).T j.o.2.2.1) (aB ((u.C (p:=af7 b 3) S).T j.o.2.2.2.1) (aB ((u.C (p:=af7 b 4) S).T j.o.2.2.2.2.1) (aB ((u.C (p:=af7 b 5) S).T j.o.2.2.2.2.2.1) ((u.C (p:=af7 b 6) S).T j.o.2.2.2.2.2.2))))))));refine oz (λg=>af3 z g) (.rd 0 (.rd 1 (.rd 3 (.rd 4 (.rd 6 (.rd 7 (.two 2 5 (.ef 5 (.ef 8 (.rd 10 (.ef 9 (.rd 11 .nil))))) (.two 2 8 (.ef 8 (.rd 10 (.ef 9 (.rd 11 .nil)))) (.two 2 9 (.rd 10 (.ef 9 (.rd 11 .nil))) (.ef 2 (.rd 10 (.rd 11 .nil)))))))))))) (by kernel_rfl) (by kernel_rfl) ((aC _ _).drew) ?_
 iterate 6
  refine iU aj  aj (λR v=>?_);apply bp
  refine⟨λg u=>?_,?_⟩
  .obtain⟨J,L,M,N,O,P,Q⟩:=Z.o g u
   exact af8
  go_simp;refine v _ ?_;clear v R
 refine pT aj  aj  aj  aj (λK x=>?_) (λK x=>?_);go_simp;have U:af3 z _:=W.alloc W.size (.cells #[aq a,aq c] 41);refine x _ _ (U) ?_;refine jU aj  aj (λK x=>?_);go_simp;refine WE (l.o _) ?_;rintro s d ⟨C,E⟩;have F:af3 z d:=U.T (E.M U.size);refine x _ _ (F) ?_;refine jU aj  aj (λK x=>?_);go_simp;refine WE (l.o _) ?_;rintro t y ⟨D,Y⟩;have f:af3 z y:=F.T (Y.M F.size);refine x _ _ (f) ?_
 iterate 1
  refine iU aj  aj (λR v=>?_);apply bp
  refine⟨λg u=>?_,?_⟩
  .obtain⟨J,L,M,N,O,P,Q⟩:=Z.o g u
   exact af8
  go_simp;refine v _ ?_;clear v R
 refine jU aj  aj (λK x=>?_);go_simp;have G:af3 z _:=f.alloc f.size (.cells #[aq s,aq t] 42);refine x _ _ (G) ?_
 iterate 1
  refine iU aj  aj (λR v=>?_);apply bp
  refine⟨λg u=>?_,?_⟩
  .obtain⟨J,L,M,N,O,P,Q⟩:=Z.o g u
   exact af8
  go_simp;refine v _ ?_;clear v R
 refine mi ?_
 rotate_left
 go_simp;refine WE (l.o _) ?_;rintro s d ⟨C,E⟩;have F:af3 z d:=W.T (E.M W.size);refine x _ _ (F) ?_;refine pT aj  aj  aj  aj (λK x=>?_) (λK x=>?_);go_simp;have U:af3 z _:=F.alloc F.size (.cells #[aq a,aq c] 41);refine x _ _ (U) ?_;refine jU aj  aj (λK x=>?_);go_simp;refine WE (l.o _) ?_;rintro t y ⟨D,Y⟩;have f:af3 z y:=U.T (Y.M U.size);refine x _ _ (f) ?_
 iterate 1
  refine iU aj  aj (λR v=>?_);apply bp
  refine⟨λg u=>?_,?_⟩
  .obtain⟨J,L,M,N,O,P,Q⟩:=Z.o g u
   exact af8
  go_simp;refine v _ ?_;clear v R
 refine jU aj  aj (λK x=>?_);go_simp;have G:af3 z _:=f.alloc f.size (.cells #[aq s,aq t] 42);refine x _ _ (G) ?_
 iterate 1
  refine iU aj  aj (λR v=>?_);apply bp
  refine⟨λg u=>?_,?_⟩
  .obtain⟨J,L,M,N,O,P,Q⟩:=Z.o g u
   exact af8
  go_simp;refine v _ ?_;clear v R
 refine mi ?_
 rotate_left
 go_simp;refine WE (l.o _) ?_;rintro t y ⟨D,Y⟩;have f:af3 z y:=F.T (Y.M F.size);refine x _ _ (f) ?_;refine pT aj  aj  aj  aj (λK x=>?_) (λK x=>?_);go_simp;have U:af3 z _:=f.alloc f.size (.cells #[aq a,aq c] 41);refine x _ _ (U) ?_
 iterate 1
  refine iU aj  aj (λR v=>?_);apply bp
  refine⟨λg u=>?_,?_⟩
  .obtain⟨J,L,M,N,O,P,Q⟩:=Z.o g u
   exact af8
  go_simp;refine v _ ?_;clear v R
 refine jU aj  aj (λK x=>?_);go_simp;have G:af3 z _:=U.alloc U.size (.cells #[aq s,aq t] 42);refine x _ _ (G) ?_
 iterate 1
  refine iU aj  aj (λR v=>?_);apply bp
  refine⟨λg u=>?_,?_⟩
  .obtain⟨J,L,M,N,O,P,Q⟩:=Z.o g u
   exact af8
  go_simp;refine v _ ?_;clear v R
 refine mi ?_
 rotate_left
 go_simp;have G:af3 z _:=f.alloc f.size (.cells #[aq s,aq t] 42);refine x _ _ (G) ?_;refine jU aj  aj (λK x=>?_);go_simp;have U:af3 z _:=G.alloc G.size (.cells #[aq a,aq c] 41);refine x _ _ (U) ?_
 iterate 2
  refine iU aj  aj (λR v=>?_);apply bp
  refine⟨λg u=>?_,?_⟩
  .obtain⟨J,L,M,N,O,P,Q⟩:=Z.o g u
   exact af8
  go_simp;refine v _ ?_;clear v R
 refine mi ?_
 all_goals try refine g6 ?_
 .go_wp2
  refine ak ?_;have X:=g7.new y 42 #[aq s,aq t];have R:af3 y (y.alloc (.cells #[aq s,aq t] 42)):=(aC _ _).alloc (aD _) _;have m:(y.alloc (.cells #[aq s,aq t] 42)).heap.size=y.heap.size+1:=ad;have u:=g7.new (y.alloc (.cells #[aq s,aq t] 42)) 41 #[aq a,aq c];have x:Below (y.alloc (.cells #[aq s,aq t] 42)).heap.size (y.alloc (.cells #[aq s,aq t] 42)) ((y.alloc (.cells #[aq s,aq t] 42)).alloc (.cells #[aq a,aq c] 41)):=(aC _ _).alloc (aD _) _;rw[m] at u;have h:((y.alloc (.cells #[aq s,aq t] 42)).alloc (.cells #[aq a,aq c] 41)).heap.size=y.heap.size+2:=ad;have o:=E.size;have K:=Y.size;have e2:z.drew.heap.size=z.heap.size:=rfl;have v:=R.T (x.M R.size);exact i.o _ _ _ _ _ _ _ z.drew.heap.size d.heap.size d.heap.size y.heap.size (f.T (v.M f.size)) ((iM sp _ _).K C (Y.T (v.M K))) ((iM sp _ _).K D v) (λk e=>e.elim False.elim id) (λk e=>e.elim False.elim id) aa  aa  aa  aa  aa (.inr aa) (.inr aa) (.inr aa) (.inr aa) aa  aa (u.C 0) (u.C 1) ((x.C (p:=af7 (y.heap.size) 0) (by show y.heap.size<_;omega)).T (X.C 0)) ((x.C (p:=af7 (y.heap.size) 1) (by show y.heap.size<_;omega)).T (X.C 1))
 .go_wp2
  refine ak ?_;have u:=(g7.new z 41 #[aq a,aq c]).drew;have⟨A,B⟩:=ar ((z.alloc (.cells #[aq a,aq c] 41)).drew);have m:A.heap.size=z.heap.size+1:=by rw[<-B];simp
  rw[B] at u C E;have X:=g7.new y 42 #[aq s,aq t];have x:af3 y (y.alloc (.cells #[aq s,aq t] 42)):=(aC _ _).alloc (aD _) _;have h:(y.alloc (.cells #[aq s,aq t] 42)).heap.size=y.heap.size+1:=ad;have o:=E.size;have K:=Y.size;have v:=E.T ((Y.T (x.M K)).M o);exact i.o _ _ _ _ _ _ _ A.heap.size d.heap.size d.heap.size y.heap.size (f.T (x.M f.size)) ((iM sp _ _).K C (Y.T (x.M K))) ((iM sp _ _).K D x) (λk e=>e.elim False.elim id) (λk e=>e.elim False.elim id) aa  aa (aD _) aa (aD _) (.inl aa) (.inl aa) (.inr aa) (.inr aa) aa  aa ((v.C (p:=af7 (z.heap.size) 0) (by show z.heap.size<_;omega)).T (u.C 0)) ((v.C (p:=af7 (z.heap.size) 1) (by show z.heap.size<_;omega)).T (u.C 1)) (X.C 0) (X.C 1)
 .go_wp2
  refine ak ?_;have u:=g7.new d 41 #[aq a,aq c];have R:af3 d (d.alloc (.cells #[aq a,aq c] 41)):=(aC _ _).alloc (aD _) _;have⟨A,B⟩:=ar (d.alloc (.cells #[aq a,aq c] 41));have m:A.heap.size=d.heap.size+1:=by rw[<-B];simp
  rw[B] at u D Y R;have X:=g7.new y 42 #[aq s,aq t];have x:af3 y (y.alloc (.cells #[aq s,aq t] 42)):=(aC _ _).alloc (aD _) _;have h:(y.alloc (.cells #[aq s,aq t] 42)).heap.size=y.heap.size+1:=ad;have o:=E.size;have K:=Y.size;have e2:z.drew.heap.size=z.heap.size:=rfl;have v:=Y.T (x.M K);exact i.o _ _ _ _ _ _ _ z.drew.heap.size d.heap.size A.heap.size y.heap.size (f.T (x.M f.size)) ((iM sp _ _).K C (R.T (v.M R.size))) ((iM sp _ _).K D x) (λk e=>e.elim False.elim id) (λk e=>e.elim False.elim id) aa  aa  aa  aa  aa (.inr aa) (.inl aa) (.inr aa) (.inr aa) aa  aa ((v.C (p:=af7 (d.heap.size) 0) (by show d.heap.size<_;omega)).T (u.C 0)) ((v.C (p:=af7 (d.heap.size) 1) (by show d.heap.size<_;omega)).T (u.C 1)) (X.C 0) (X.C 1)
 .go_wp2
  refine ak ?_;have u:=g7.new y 41 #[aq a,aq c];have R:af3 y (y.alloc (.cells #[aq a,aq c] 41)):=(aC _ _).alloc (aD _) _;have m:(y.alloc (.cells #[aq a,aq c] 41)).heap.size=y.heap.size+1:=ad;have X:=g7.new (y.alloc (.cells #[aq a,aq c] 41)) 42 #[aq s,aq t];have x:Below (y.alloc (.cells #[aq a,aq c] 41)).heap.size (y.alloc (.cells #[aq a,aq c] 41)) ((y.alloc (.cells #[aq a,aq c] 41)).alloc (.cells #[aq s,aq t] 42)):=(aC _ _).alloc (aD _) _;rw[m] at X;have h:((y.alloc (.cells #[aq a,aq c] 41)).alloc (.cells #[aq s,aq t] 42)).heap.size=y.heap.size+2:=ad;have o:=E.size;have K:=Y.size;have e2:z.drew.heap.size=z.heap.size:=rfl;have v:=R.T (x.M R.size);exact i.o _ _ _ _ _ _ _ z.drew.heap.size d.heap.size d.heap.size y.heap.size (f.T (v.M f.size)) ((iM sp _ _).K C (Y.T (v.M K))) ((iM sp _ _).K D v) (λk e=>e.elim False.elim id) (λk e=>e.elim False.elim id) aa  aa  aa  aa  aa (.inr aa) (.inr aa) (.inr aa) (.inr aa) aa  aa ((x.C (p:=af7 (y.heap.size) 0) (by show y.heap.size<_;omega)).T (u.C 0)) ((x.C (p:=af7 (y.heap.size) 1) (by show y.heap.size<_;omega)).T (u.C 1)) (X.C 0) (X.C 1)
def tc(ok:jR sp)(n:Nat)(w:World)(z:1<=n)(y:n<=60):af4 af5 9 #[sp.v,af6 n] w λe v=>∃X Y t u x,e=.returned (.tuple #[.slice (some (af7 u 0)) 2 2,.slice (some (af7 x 0)) 2 2])/\Duo sp n w.heap.size (λ_=>jM sp n) (λ_=>jM sp n) X Y t u x v/\af3 w v:=by
 cases sp with
 | h lo hi dg u m gr=>exact ur rfl ok n w z y
 | d a m=>exact ur rfl ok n w z y
 | t d=>exact ur rfl ok n w z y
 | k q=>exact ur rfl ok n w z y
def zp(kind a b:Nat):ie:=
 if kind % 4=0 then .h (1+a % 50) (2 * (1+a % 50)+b) (1+a % 3) (Lib.bitLen (1+a % 50) - 1) (Lib.bitLen (2 * 10 ^ (1+a % 3) - 1)) true
 else if kind % 4=1 then .d (500+a % 46 * 100) (2+b % 20)
 else if kind % 4=2 then .t (10+a % 30)
 else .k (8+a % 30)
def Cp{kind a:Nat}(x:b<=65535):jR (zp kind a b)/\(zp kind a b).small:=by
 unfold zp;split
 .have z:Lib.bitLen (1+a % 50)<=6:=(re aa).2 aa
  have y:=BG (dg:=1+a % 3) aa;exact⟨⟨aa,aa,aa,aa,aa,rfl,rfl,aa⟩,trivial⟩
 .split
  .exact⟨⟨aa,aa,aa,aa⟩,trivial⟩
  .split
   .exact⟨⟨aa,aa⟩,by show 10+a % 30<=300;omega⟩
   .exact⟨⟨aa,aa⟩,trivial⟩
def zq(y a b:Nat)(w:World)(g:y<=255)(q:a<=65535)(p:b<=65535):af4 af5 10 #[.int .u8 y,.int .u16 a,.int .u16 b,.bool true] w λe r=>e=.returned (zp y a b).v/\af3 w r:=by
 have s:((y:Int) % 4)=((y % 4:Nat):Int):=aa;have⟨m,x⟩:=ar (y % 4);have f:m<4:=aa;have z:=ax x;rw[x] at s;clear x;by_cases x:m=0
 .subst x
  go_in;go_wp2;refine ak ?_;refine⟨?_,bw⟩;unfold zp;rw[aH z.o];unfold ie.v iB;simp only[dF,fF]
  congr 1
  try simp
 by_cases v:m=1
 .subst v
  go_in;go_wp2;refine ak ?_;refine⟨?_,bw⟩;unfold zp;rw[aF (by rw[z.o];decide),aH z.o];unfold ie.v iB;simp only[dF,fF]
  congr 1
  try simp
 by_cases u:m=2
 .subst u
  go_in;go_wp2;refine ak ?_;refine⟨?_,bw⟩;unfold zp;rw[aF (by rw[z.o];decide),aF (by rw[z.o];decide),aH z.o];unfold ie.v iB;simp only[dF,fF]
  congr 1
  try simp
 .have t:m=3:=aa
  subst t;go_in;go_wp2;refine ak ?_;refine⟨?_,bw⟩;unfold zp;rw[aF (by rw[z.o];decide),aF (by rw[z.o];decide),aF (by rw[z.o];decide)];unfold ie.v iB;simp only[dF,fF]
  congr 1
  try simp
