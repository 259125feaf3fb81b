/- Parts. -/
import Derived.Test.YtdicblkhpcphfaaGreatPU22
import Derived.Test.YtdicblkhpcphfaaGreatPU20
set_option maxRecDepth 100000
set_option maxHeartbeats 0
set_option linter.all false
namespace Go.Proofs.YtdicblkhpcphfaaGreat
open Tryz Go.RowKit Go.Lib Go.Shelf
open _root_.List renaming length→ab0
open Go.IntKind renaming wrap→ad0
open _root_.Go renaming Calls→af4
open Tryz renaming prog→af5
namespace K
variable{L M:LL}{a b g h i6 k led n:Nat}{F G:Nat->Prop}{FM lv:Value}{vs vs2:List Sv}{B:List Int}{s:KS}{t:LL × Nat}{w w':World}
def ku.s5(h:ku (L,led,a)):ab0 L<=49:=h.len
def ku.TX(h:ku (L,led,a)):Go.Proofs.YtdicblkhpcphfaaGreat.K.cnt L<=1000000:=h.cnt
def ku.JB(h:ku (L,led,a)):Go.Proofs.YtdicblkhpcphfaaGreat.K.wt L<=281474976710656:=h.wt
structure Ep(F:Nat->Prop)(w:World)(g k led:Nat)(L1 M:LL)(lw:Value)(ws:List Sv)(F1:Nat->Prop)(wr:World)(lv:Value)(vs:List Sv):Prop where
 st:xv F1 wr g k led lv vs L1
 al:jQ F1 wr lw ws M
 sub:∀k,F1 k->F k\/w.heap.size<=k
 touch:Touch F w wr
def vm{cg:Nat}{cv:Value}(w:World)(X:xv F w g k led lv vs L)(V:xv G w h k i6 FM vs2 M)(s:RC w cg cv B a)(r:wh F w cg cv)
 (t:ku (L,led,a)) (u:ku (M,i6,b)) (hnm:wt L+wt M<=281474976710656) (hcn:cnt L+cnt M<=900000) (h2:2<=k) (hk:k<=1000000) :
 af4 af5 52 #[aq g,aq h,aq cg] w λe w'=>e=.returned (af6 0)/\∃z y x,vk F w g k cg cv B (jT L M,min (led+i6) 4611686018427387904,a) z w' y x (je k B (jT L M,min (led+i6) 4611686018427387904,a)):=by
 obtain⟨i0,v,x,y,z⟩:=cR La;have HI:=ax v;have HZ:=ax x;have Vy:=ax y;have TK:=ax z;clear v x y z;obtain⟨i1,v,x,y,z⟩:=cR Tu;have JI:=ax v;have JZ:=ax x;have Oo:=ax y;have Ot:=ax z;clear v x y z;have Er:=ax (sd t u hnm hcn);have HTA:=ax (LB (L:=L) u.top);have VJ:=ax (λd=>iJ (w.drewN d) (X.K (below_drewN (aC _ _) d)) t.JB t.s5);have VK:=ax (λd=>iJ (w.drewN d) (V.K (below_drewN (aC _ _) d)) u.JB u.s5);have HT:=ax V;have HS:=ax X;have YN:=ax s;have HF:=ax r;have Sw:led<=4611686018427387904:=t.led;have Sx:i6<=4611686018427387904:=u.led;have hlenL:=t.s5;have Sy:=u.s5;have N:=X.cell0;have x:=V.cell0;have D2:=ax V.cell2;have D1:=ax V.cell1;have hgw:=X.blk.lt;have hhw:=V.blk.lt;have⟨n,y⟩:=ar (wt L);have⟨m,z⟩:=ar (wt M);rw[y,z] at hnm;rw[y] at VJ;rw[z] at VK;clear X V s r t u y z;go_in;go_wp21
 go_quiet (fail)
 clear N x;go_wp21;refine Ix (VK.o _) ?_;go_wp21;refine Ix (VJ.o _) ?_;go_wp21;have y:af3 w (w.drewN nq):=below_drewN (aC _ _) _;have v:(w.drewN nq).heap.size=w.heap.size:=rfl;have Yn:=ax (HS.o.K y);have HBQ:=ax y;have HSQ:=ax v;have⟨wq,z⟩:=ar (w.drewN nq);rw[z] at Yn HBQ HSQ |-;clear z y v;have hsz:=HSQ.o;obtain⟨A2,cM,l,ad8,ad9,_⟩:=HT.o.form;subst l
 go_loopg [7,8] (ab0 M) (λq o i wr=>∃(j:Nat) (r:List Sv),q=ab0 M - j/\j<=ab0 M/\i=af6 (j:Int)/\Hid (zD w.heap.size wr o r (M.take j))/\Hid (∀s∈r,∀k,(jc s).ownBlock=some k->o.ownBlock≠some k)/\Hid (af3 w wr))
 exact⟨0,[],aa,aa,rfl,ax (zD.nil_ _ _),ax (λi P=>absurd P ad),HBQ⟩
 case round=>
  obtain⟨j,r,T,hj,rfl,Y,HD,v⟩:=hrel;have HQ:=ax T;clear T;have hz:=v.o.size;have d1:=(v.o.C (p:=af7 h 1) hhw).T D1.o;by_cases hjl:j<ab0 M
  .obtain⟨gl,cc,sA,sc,l,hgl,_,_,_,J,_,u,_⟩:=HT.o.at_ hjl
   injection l with l z y;subst l;subst y;have W:=ax (u.rd.K v.o);have o:=ax (take_snoc hjl);have hlj:ab0 (lvl M j)<=900000:=by have:=iD M j;omega
   have c3:=(v.o.C (p:=af7 gl j) hgl).T J;have⟨x,A⟩:=ar (lvl M j);rw[A] at o W c3 hlj;have hvl:ab0 r=j:=by rw[Y.o.len,aU];omega
   obtain⟨C,D,rfl,_,_,_⟩:=Y.o.row.form;rw[hvl] at Y HD |-;clear A u J;have hxl:ab0 r<=1000:=aa
   have WN:h<wr.heap.size:=aa;have Q_:gl<wr.heap.size:=aa
   go_wp2_with (first
    | (at_builtin;refine ij iY (ts:=196) i0 _ 8 underlying196 HI.o HZ.o Vy.o TK.o rfl ab  ab rfl (.tmp 36) (.tmp 43) rfl wr.heap.size _ [] rfl (g8.lit (E:=iY) wr [] _ rfl _ rfl ab) _ x rfl (W.o.K (bw)) ae ad ?_;intro S U u f c;simp only[bB] at u;have Q:af3 wr U:=(dD (aC _ _) (aD _) _).grown f ad (λk hk=>by have:=bJ (show some wr.heap.size=some k from hk);omega);have IZ:=Q.size;obtain⟨d,t,rfl,_,_,_⟩:=u.form;have H:=ax u;clear u f c;go_simp)
    | (at_builtin;refine ij rZ (ts:=112) i1 _ 24 underlying112 JI.o JZ.o Oo.o Ot.o rfl ab  ab rfl (.tmp 35) (.tmp 45) rfl w.heap.size (.slice C j D) r rfl ((Y.o.row.K Q).alloc _) _ [(d,ab0 x,t)] rfl (iQ.ig (E:=rZ) U (d,ab0 x,t) _ rfl _ rfl _ rfl) ae  ae ?_;intro v7 w7 c f u;have O7:=ax c;have I:=ax f;have O:=ax u;clear c f u))
   have K:∀s∈r,∀k,(jc s).ownBlock=some k->k<wr.heap.size:=λs X k e=>by
    obtain⟨i,P,rfl⟩:=dt X;exact((Y.o.each i P).lt k e).2
   have R:af3 wr (U.alloc (.cells #[.slice d (ab0 x) t] 196)):=Q.alloc IZ _;have u:∀k,(Value.slice C j D).ownBlock=some k->w.heap.size<=k/\k<wr.heap.size:=λk e=>Y.o.row.lt k e;have S:∀k,(jc (d,ab0 x,t)).ownBlock=some k->wr.heap.size<=k/\k<U.heap.size:=λk e=>H.o.lt k e;have c:=zD.snoc Y.o R (H.o.alloc _ |>.more hz) O7.o I.o (λi P k e=>HD.o _ (aP P) k e) (λk e z=>by have:=S k e;have:=u k z;omega);rw[<-o.o] at c;have VD:=ax c;have E:Hid (∀s∈r++[(d,ab0 x,t)],∀k,(jc s).ownBlock=some k->v7.ownBlock≠some k):=ax λs X k e=>by
    have YM:(U.alloc (.cells #[.slice d (ab0 x) t] 196)).heap.size=U.heap.size+1:=ad;rcases cz.1 X with f|f
    .rcases O.o with z|z
     .rw[z];exact HD.o s f k e
     .rw[z];intro y
      have y:=bJ y;have:=K s f k e;omega
    .obtain rfl:=bQ.1 f
     have h2:=S k e;rcases O.o with z|z
     .rw[z];intro y
      have:=u k y;omega
     .rw[z];intro y
      have y:=bJ y;omega
   have O:Hid (af3 w w7):=ax ((v.o.T (R.M hz)).grown I.o ae (λk hk=>(u k hk).1));clear c K R u S;go_roundg (ab0 M - (j+1))
   exact⟨j+1,_,rfl,aa,af,VD,E,O⟩;have:=HQ.o;omega
  .obtain rfl:j=ab0 M:=aa
   have z:=Y.o;rw[cK] at z;have C:Hid (jQ F wr u7 r M):=ax (jQ.oX z λc e=>HS.o.low c e);have y:=ax (HS.o.K v.o);have D:=ax (Touch.of_below (F:=F) v.o (aD _));have hgr:g<wr.heap.size:=aa;have WN:h<wr.heap.size:=aa;have Q:=ax y.o.cell2;have O:=ax (y.o.blk.F 2);have E:=ax ((v.o.C (p:=af7 h 2) hhw).T D2.o);clear z Y HD v;go_upto_region 10 with fail;clear d1;have Z:=ax (λ(w':World) (z:af3 wr w')=>(aB ((z.C (p:=af7 g 2) hgr).T Q.o) ((z.C (p:=af7 h 2) WN).T E.o)));refine qd (λw'=>af3 wr w') 13 (pW 0 11 (FH 11 1 (pW 12 1 (o_ 13 [])))) ((aC _ _).drew) ?_;iterate 11 refine kz ?_
   refine sQ ?_;refine kz ?_;refine qc λK hK=>?_;have W:(wr.drew).cell? (af7 g 2)=_:=Q.o;have o:(wr.drew).frozen? (af7 g 2)=false:=O.o;go_simp;refine hK _ _ ?_;clear hK K;refine iq ?_;have H:=ax (by rw[c_];omega:min (ad0 .u64 ((led:Int)+(i6:Int))) 4611686018427387904=((min (led+i6) 4611686018427387904:Nat):Int));rw[H.o];have⟨u,S⟩:=ar (min (led+i6) 4611686018427387904);rw[S] at Er |-;have OJ:=ax S;have I:xv F ((wr.setCell (af7 g 2) (.int .u64 (u:Nat))).drew) g k u lv vs L:=(y.o.Hf (.int .u64 (u:Nat))).K (aC _ _).drew;have R:Hid (Touch F w ((wr.setCell (af7 g 2) (.int .u64 (u:Nat))).drew)):=ax (Touch.drew (D.o.setCell (.inl y.o.fg) _));have z:Hid (jQ F ((wr.setCell (af7 g 2) (.int .u64 (u:Nat))).drew) u7 r M):=ax (C.o.next (λc _ f=>a_ wr (af7 g 2) _ c (λe=>f (by rw[e];exact y.o.fg))) (by simp[World.drew]) (λc e=>.inl e))
   have d:=ax I;have⟨w3,t⟩:=ar ((wr.setCell (af7 g 2) (.int .u64 (u:Nat))).drew);rw[t] at d R z;show Exit.then _ _ Exit.normal _ ((wr.setCell (af7 g 2) (.int .u64 (u:Nat))).drew)
   rw[t];clear t I W o S H Q O E y D C;obtain⟨D,N,elw,YO,ae0,_⟩:=z.o.now.row.form;rw[z.o.now.len] at elw YO;subst elw;have HA0:Hid (Ep F w g k u (kV M 0 L) M (.slice D (ab0 M) N) r F w3 lv vs):=ax ⟨d.o,z.o,λ_ h=>.inl h,R.o⟩;clear d z R;go_wp2;go_loopg [9,10] (ab0 M) (λq i _ wr=>∃(j:Nat) (R:Nat->Prop) (S:Value) (vs2:List Sv),q=ab0 M - j/\j<=ab0 M/\i=af6 (j:Int)/\Hid (Ep F w g k u (kV M j L) M (.slice D (ab0 M) N) r R wr S vs2))
   exact⟨0,F,lv,vs,aa,aa,rfl,HA0⟩
   case round=>
    obtain⟨j,R,S,vs2,T,hj,rfl,H⟩:=hrel;have Mm:=ax T;clear T;by_cases hjl:j<ab0 M
    .have hlj:ab0 (lvl M j)<=900000:=by have:=iD M j;omega
     have HAL:=ax (LC M L j);have HI0:Hid (Ep F w g k u (om M L j 0) M (.slice D (ab0 M) N) r R wr S vs2):=H;have HIL:Hid (∀i,ab0 (om M L j i)<=49):=ax λi=>by have:=LD M L j i;omega
     have HIC:Hid (∀i,cnt (om M L j i)<=900000+i):=ax λi=>by have:=LF (L:=L) (i:=i) (show j<=ab0 M by omega);omega
     clear H;go_wp2;go_loopg [10] (ab0 (lvl M j)) (λq i wr=>∃(t:Nat) (R:Nat->Prop) (S:Value) (vs2:List Sv),q=ab0 (lvl M j) - t/\t<=ab0 (lvl M j)/\i=af6 (t:Int)/\Hid (Ep F w g k u (om M L j t) M (.slice D (ab0 M) N) r R wr S vs2))
     exact⟨0,R,S,vs2,aa,aa,rfl,HI0⟩
     case round=>
      obtain⟨t,O,OM,vs3,T,V,rfl,v⟩:=hrel;have HQ3:=ax T;clear T;obtain⟨gl,off,sA,sc,C,hgl,_,J,y⟩:=v.o.al.now.at_ hjl;subst C;obtain⟨_,_,ea,WV,ha4,z⟩:=y.form;injection ea with YP YQ YR;subst YP;subst YR;have FA:=ax z;have ae1:=v.o.touch.size;clear y z YQ;by_cases E:t<ab0 (lvl M j)
      .obtain⟨ga,oa,C,hga,ka⟩:=FA.o.i64 E
       subst C;have HSU:=ax (Hz (L:=L) E);have⟨x,A⟩:=ar ((lvl M j)[t]);rw[A] at ka HSU;have HPU:=ax (pr j x wr v.o.st aa (aa2 (HIL.o t)) (aa6 (iD (om M L j t) j) (HIC.o t)));have⟨y,q⟩:=ar (ab0 (lvl M j));rw[q] at J WV E V HQ3;have UC:=ax q;clear A q;go_wp21;refine RX HPU.o ?_;rintro U ⟨F5,W,o,d,q2,Q,z⟩;rw[HSU.o] at Q;have I:Ep F w g k u (om M L j (t+1)) M (.slice (some (af7 gl off)) (ab0 M) N) r F5 U W o:=by
        refine⟨Q,v.o.al.next (λc f h2=>z.block c f h2) z.size d,λc hk1=>?_,v.o.touch.T z λi P=>v.o.sub i P⟩;rcases d c hk1 with f|f
        .exact v.o.sub c f
        .exact .inr aa
       have Lm:=ax I;clear d q2 Q z I HPU J;go_wp2;go_roundg (ab0 (lvl M j) - (t+1))
       exact⟨t+1,F5,W,o,rfl,by have:=UC.o;omega,af,Lm⟩;have:=HQ3.o;have:=UC.o;omega
      .obtain rfl:t=ab0 (lvl M j):=aa
       have z:=v.o;rw[HAL.o] at z;have Q:=ax z;clear z v;have⟨y,q⟩:=ar (ab0 (lvl M j));rw[q] at J WV hlj |-;clear q
       go_wp2;go_roundg (ab0 M - (j+1))
       exact⟨j+1,O,OM,vs3,rfl,aa,af,Q⟩;have:=Mm.o;omega
    .obtain rfl:j=ab0 M:=aa
     have z:=H.o;rw[HTA.o] at z;have y:=ax (AI (s0:=(jT L M,u,a)) wr z.st (YN.o.touch HF.o z.touch) (HF.o.next z.sub z.touch.size) Er.o h2 hk);have t:=ax z;clear z H;go_wp21;refine RX y.o ?_;rintro q ⟨O,FM,vs2,d⟩;have z:=ax d;clear d y;go_wp2;refine ak ?_;rw[OJ.o];exact⟨rfl,O,FM,vs2,z.o.back t.o.sub t.o.touch⟩
def H4(q:Value)(w:World)(u:xv F w g k led lv vs L)(t:xv G w h k i6 FM vs2 M)(z:ku (L,led,a))(y:ku (M,i6,b))(c:281474976710656<wt L+wt M):af4 af5 52 #[aq g,aq h,q] w λe Y=>e=.returned (af6 6)/\∃n,Y=w.drewN n:=by
 have s:=ax (λd=>iJ (w.drewN d) (u.K (below_drewN (aC _ _) d)) z.JB z.s5);have r:=ax (λd=>iJ (w.drewN d) (t.K (below_drewN (aC _ _) d)) y.JB y.s5);have d:=u.cell0;have X:=t.cell0;have p:=z.JB;have f:=y.JB;have⟨n,v⟩:=ar (wt L);have⟨m,x⟩:=ar (wt M);rw[v,x] at c;rw[v] at s p;rw[x] at r f;have V:(m:Int) > 281474976710656 - (n:Int):=aa;clear u t z y v x;go_in;go_wp21
 go_quiet (fail)
 go_wp21;refine Ix (r.o _) ?_
 go_wp21;refine Ix (s.o _) ?_
 go_wp2;refine ak ?_;exact⟨rfl,by first|exact⟨_,rfl⟩|exact⟨_,r_ _ _ _⟩⟩
def YS{c:Nat}(x:c * 2 ^ h<=281474976710656):ad0 .u64 ((c:Int) * 2 ^ h)=((c * 2 ^ h:Nat):Int):=by
 have y:(2:Int) ^ h=((2 ^ h:Nat):Int):=by rw[fG];rfl
 rw[y,<-fE,c_];generalize c * 2 ^ h=z at x;omega
def rp(L:LL):List Int:=L.flatten
structure Fit(k:Nat)(L:LL)(led:Nat):Prop where
 ok:ku (L,led,0)
 none:jo k L=none
def ku.K_(h:ku (L,led,a)):ku (L,led,b):=⟨h.jk,h.top,h.wt,h.cnt,h.led⟩
def Fit.pk(h:Fit k L led):ku (L,led,a):=h.ok.K_
def vn:∀(L:LL) (k:Nat),(∀j,j<ab0 L->ab0 (lvl L j)<=k)->cnt L<=ab0 L * k
 | [],k,_=>by simp[cnt]
 | l::L,k,h=>by
  have z:=h 0 ad;have x:=vn L k λj y=>by
   have:=h (j+1) (by simpa using y);simpa[lvl] using this
  rw[mZ,aK,eD];simp only[lvl,eh] at z;omega
def Fit.cnt(h:Fit k L led)(z:2<=k)(x:k<=4096):Go.Proofs.YtdicblkhpcphfaaGreat.K.cnt L<=200704:=by
 have v:=vn L k λj y=>bf (qi h.none j y) (room_le z);have y:ab0 L * k<=49 * 4096:=cL h.ok.s5 x;omega
def Fit.nil_(k:Nat):Fit k [] 0:=⟨⟨λj=>by simp[lvl],λh=>absurd h ad,ab,ab,ab⟩,rfl⟩
def qL(L:LL)(n:Nat):Int:=if n=0 then 4 else if 281474976710656<wt L+n then 6 else 0
def pK(k:Nat)(B:List Int)(v:Int)(n:Nat)(s:KS):KS:=if qL s.1 n=0 then je k B (jD s.1 v n,s.2.1,s.2.2) else s
def iO(L M:LL):Int:=if 281474976710656<wt L+wt M then 6 else 0
def kW(k:Nat)(B:List Int)(t:LL × Nat)(s:KS):KS:=if iO s.1 t.1=0 then je k B (jT s.1 t.1,min (s.2.1+t.2) 4611686018427387904,s.2.2) else s
def AK(h:ku s):Fit k (je k B s).1 (je k B s).2.1:=by
 have z:=sY (k:=k) (B:=B) (P:=ku) (λs j z y=>z.step y) h;exact⟨ku.K_ (a:=(je k B s).2.2) z,He k B s⟩
def yU(s:KS):wt (je k B s).1=wt s.1:=by
 refine sY (k:=k) (B:=B) (P:=λt=>wt t.1=wt s.1) (λt h z y=>?_) rfl;show wt (mu t.1 h (i5 B t.2.2))=_
 rw[D6 (lE y).1];exact z
def vo(h:qL L n=0):0<n/\wt L+n<=281474976710656:=by
 unfold qL at h;by_cases z:n=0
 .rw[aH z] at h;cases h
 .rw[aF z] at h
  by_cases y:281474976710656<wt L+n
  .rw[aH y] at h;cases h
  .omega
def ON{v:Int}(h:Fit k s.1 s.2.1)(y:2<=k)(x:k<=4096):Fit k (pK k B v n s).1 (pK k B v n s).2.1:=by
 unfold pK;split
 .rename_i z
  exact AK (yS h.pk v n (vo z).2 (aa2 (h.cnt y x)))
 .exact h
def Rc{v:Int}:wt (pK k B v n s).1=if qL s.1 n=0 then wt s.1+n else wt s.1:=by
 unfold pK;split
 .rename_i z
  rw[yU];exact BQ _ _ (aa2 (vo z))
 .rfl
def H5(h:iO L M=0):wt L+wt M<=281474976710656:=by
 unfold iO at h;by_cases z:281474976710656<wt L+wt M
 .rw[aH z] at h;cases h
 .omega
def LH(h:Fit k s.1 s.2.1)(x:Fit k t.1 t.2)(z:2<=k)(y:k<=4096):Fit k (kW k B t s).1 (kW k B t s).2.1:=by
 unfold kW;split
 .rename_i v
  exact AK (sd h.pk (x.pk (a:=0)) (H5 v) (aa6 (h.cnt z y) (x.cnt z y)))
 .exact h
def Es:wt (kW k B t s).1=if iO s.1 t.1=0 then wt s.1+wt t.1 else wt s.1:=by
 unfold kW;split
 .rw[yU];exact tW _ _
 .rfl
def AL(F:Nat->Prop)(w:World)(g k:Nat)(L:LL)(led:Nat):Prop:=∃lv vs,rl F w g k (wt L) led lv vs L
def OO(F:Nat->Prop)(w:World)(g k:Nat)(L:LL)(led:Nat):Prop:=∃lv vs,xv F w g k led lv vs L
def AL.stay(h:AL F w g k L led)(z:∀x,F x->w'.heap[x]?=w.heap[x]?)(y:w.heap.size<=w'.heap.size):AL F w' g k L led:=by
 obtain⟨x,v,h⟩:=h;exact⟨x,v,h.stay z y⟩
def OO.stay(h:OO F w g k L led)(z:∀x,F x->w'.heap[x]?=w.heap[x]?)(y:w.heap.size<=w'.heap.size):OO F w' g k L led:=by
 obtain⟨x,v,h⟩:=h;exact⟨x,v,h.stay z y⟩
def AL.K(h:AL F w g k L led)(z:af3 w w'):AL F w' g k L led:=by
 obtain⟨y,x,h⟩:=h;exact⟨y,x,h.K z⟩
end K
namespace D
variable{p x:Nat}{F G H:Ft}{w w':World}
inductive ie where
 | h (lo hi dg u m:Nat) (gr:Bool)
 | d (a m:Nat)
 | t (d:Nat)
 | k (q:Nat)
structure Js where
 bk:Nat
 l:List Pr
 s:St
 L:K.LL
 led:Nat
def jw(p:Nat):Value:=aq p
def ie.v:ie->Value
 | .h lo hi dg _ _ gr=>iB 1 lo hi dg gr 0 0
 | .d a m=>iB 2 0 0 0 false a m
 | .t e=>iB 3 0 0 0 false 0 e
 | .k q=>iB 4 0 0 0 false 0 q
def ie.cs:ie->List Value
 | .h lo hi dg _ _ gr=>[.int .u8 1,af6 lo,af6 hi,af6 dg,.bool gr,af6 0,af6 0]
 | .d a m=>[.int .u8 2,af6 0,af6 0,af6 0,.bool false,af6 a,af6 m]
 | .t e=>[.int .u8 3,af6 0,af6 0,af6 0,.bool false,af6 0,af6 e]
 | .k q=>[.int .u8 4,af6 0,af6 0,af6 0,.bool false,af6 0,af6 q]
def ie.five(p:Nat):ie->Array Value
 | .h ..=>#[.int .u8 1,jw p,.pointer none,.pointer none,.pointer none]
 | .d ..=>#[.int .u8 2,.pointer none,jw p,.pointer none,.pointer none]
 | .t ..=>#[.int .u8 3,.pointer none,.pointer none,jw p,.pointer none]
 | .k ..=>#[.int .u8 4,.pointer none,.pointer none,.pointer none,jw p]
def ie.four(p:Nat):ie->List Value
 | .h ..=>[jw p,.pointer none,.pointer none,.pointer none]
 | .d ..=>[.pointer none,jw p,.pointer none,.pointer none]
 | .t ..=>[.pointer none,.pointer none,jw p,.pointer none]
 | .k ..=>[.pointer none,.pointer none,.pointer none,jw p]
def rq(sp:ie)(c:Js)(p:Nat)(G:Ft)(w:World):Prop:=match sp with
 | .h lo hi dg u m gr=>mE p lo hi dg u m gr c.bk c.l G w
 | .d a m=>px p a m c.l G w
 | .t d=>vR w p G d c.s
 | .k q=>K.AL G w p q c.L c.led
def rr(sp:ie)(c:Js)(p:Nat)(G:Ft)(w:World):Prop:=match sp with
 | .h lo hi dg u m gr=>pw p lo hi dg u m gr c.bk c.l G w
 | .d a m=>tN p a m c.l G w
 | .t d=>uP w p G d c.s
 | .k q=>K.OO G w p q c.L c.led
def Re(p:Nat)(d:Int)(s:St):kK (λG w=>vR w p G d s) where
 stay:=λh z y=>Dg.stay h z y
 more:=λ⟨g,f,z,y,x,v,u,t,r,_⟩ h q=>⟨g,f,z,y,x,h _ v,λk e=>h k (u k e),λk e=>h k (t k e),r,q⟩
 low:=λh=>Dg.low h
def OQ(p:Nat)(d:Int)(s:St):kK (λG w=>uP w p G d s) where
 stay:=λh z y=>q8.stay h z y
 more:=λ⟨g,f,z,y,x,v,u,t,r,_⟩ h q=>⟨g,f,z,y,x,h _ v,λk e=>h k (u k e),λk e=>h k (t k e),r,q⟩
 low:=λh=>q8.low h
def ru(p q:Nat)(L:K.LL)(x:Nat):kK (λG w=>K.AL G w p q L x) where
 stay:=λh z y=>h.stay z y
 more:=λ⟨v,u,h⟩ z y=>⟨v,u,⟨h.blk,h.iN.M z,z _ h.fg,h.g1,h.g2,y⟩⟩
 low:=λ⟨_,_,h⟩=>h.low
def oQ(p q:Nat)(L:K.LL)(x:Nat):kK (λG w=>K.OO G w p q L x) where
 stay:=λh z y=>h.stay z y
 more:=λ⟨v,u,h⟩ z y=>⟨v,u,⟨h.blk,h.iN.M z,z _ h.fg,h.g1,h.g2,y⟩⟩
 low:=λ⟨_,_,h⟩=>h.low
def jL(z:ie)(c:Js)(p:Nat):kK (rq z c p):=by
 cases z with
 | h lo hi dg u m gr=>exact i_ p lo hi dg u m gr c.bk c.l
 | d a m=>exact ks p a m c.l
 | t d=>exact Re p d c.s
 | k q=>exact ru p q c.L c.led
def kB(z:ie)(c:Js)(p:Nat):kK (rr z c p):=by
 cases z with
 | h lo hi dg u m gr=>exact nZ p lo hi dg u m gr c.bk c.l
 | d a m=>exact yB p a m c.l
 | t d=>exact OQ p d c.s
 | k q=>exact oQ p q c.L c.led
def jq(sp:ie)(c:Js)(x:Nat)(F:Ft)(w:World):Prop:=∃p G,g7 w x 124 (sp.five p)/\rq sp c p G w/\F x/\¬G x/\(∀k,G k->F k)/\∀k,F k->k<w.heap.size
def iH(sp:ie)(c:Js)(x:Nat)(F:Ft)(w:World):Prop:=∃p G,g7 w x 106 (sp.cs++sp.four p).toArray/\rr sp c p G w/\F x/\¬G x/\(∀k,G k->F k)/\∀k,F k->k<w.heap.size
def ju(g:ie)(c:Js)(x:Nat):kK (jq g c x) where
 stay:=λ⟨p,G,v,u,z,t,y,s⟩ r q=>⟨p,G,(r x z).T v,(jL g c p).stay u (λk e=>r k (y k e)) q,z,t,y,λk h=>aG (s k h) q⟩
 more:=λ⟨p,G,v,u,z,t,y,_⟩ h r=>⟨p,G,v,u,h x z,t,λk e=>h k (y k e),r⟩
 low:=λ⟨_,_,_,_,_,_,_,s⟩=>s
def ke(g:ie)(c:Js)(x:Nat):kK (iH g c x) where
 stay:=λ⟨p,G,v,u,z,t,y,s⟩ r q=>⟨p,G,(r x z).T v,(kB g c p).stay u (λk e=>r k (y k e)) q,z,t,y,λk h=>aG (s k h) q⟩
 more:=λ⟨p,G,v,u,z,t,y,_⟩ h r=>⟨p,G,v,u,h x z,t,λk e=>h k (y k e),r⟩
 low:=λ⟨_,_,_,_,_,_,_,s⟩=>s
def B6{sp:ie}{c':Js}(z:g7 w x 124 (sp.five p))(v:F x)(t:¬G x)(u:∀k,G k->F k)(s:∀k,F k->k<w.heap.size)(q:rq sp c' p (Gr G w w') w')(y:Touch (λk=>G k\/H k) w w')(r:∀k,H k->¬F k):jq sp c' x (Gr F w w') w'/\Touch (λk=>F k\/H k) w w':=
 ⟨⟨p,Gr G w w',(y.block x z.lt (λh=>h.elim t (λh=>r x h v))).T z,q,.inl v,λh=>h.elim t (λh=>by have:=z.lt;omega),λk h=>h.imp (u k) id,jt s y.size⟩,y.M λk h=>h.imp (u k) id⟩
def Et{sp:ie}{c':Js}(z:g7 w x 106 (sp.cs++sp.four p).toArray)(v:F x)(t:¬G x)(u:∀k,G k->F k)(s:∀k,F k->k<w.heap.size)(q:rr sp c' p (Gr G w w') w')(y:Touch (λk=>G k\/H k) w w')(r:∀k,H k->¬F k):iH sp c' x (Gr F w w') w'/\Touch (λk=>F k\/H k) w w':=
 ⟨⟨p,Gr G w w',(y.block x z.lt (λh=>h.elim t (λh=>r x h v))).T z,q,.inl v,λh=>h.elim t (λh=>by have:=z.lt;omega),λk h=>h.imp (u k) id,jt s y.size⟩,y.M λk h=>h.imp (u k) id⟩
def iT(q:Value)(B:List Int)(a:Nat)(H:Ft)(w:World):Prop:=(q=.pointer none/\B=[]/\a=0/\∀k,¬H k)\/∃cg r cv,q=jw cg/\K.KC w cg r cv B a/\H cg/\H r/\(∀k,cv.ownBlock=some k->H k)/\∀k,H k->k<w.heap.size
def iI(o:Nat)(q:Value)(B:List Int)(a:Nat)(H:Ft)(w:World):Prop:=∃dg dv,q=jw dg/\K.RC w dg dv B a/\H dg/\(∀k,dv.ownBlock=some k->k<o\/H k)/\∀k,H k->k<w.heap.size
def jx(P C:Ft->World->Prop)(F H:Ft)(er:Int)(w:World)(e:Ending)(w':World):Prop:=e=.returned (af6 er)/\P (Gr F w w') w'/\C H w'/\Touch (λk=>F k\/H k) w w'
end D
namespace K
variable{l:List Int}
def new_any(k:Nat)(w:World)(v:8<=k)(u:k<=4096):af4 af5 272 #[af6 k] w λe z=>e=.returned (.tuple #[.pointer (some (af7 (w.heap.size) 0)),af6 0])/\z=w.alloc (.cells #[af6 k,.slice none 0 0,.int .u64 0,.int .u64 0] 214):=by
 have y:¬(k:Int)<8:=aa;have x:¬(k:Int) > 4096:=aa;go_in;go_wp2;go_ret2;exact⟨rfl,rfl⟩
def Gl(k:Int)(w:World)(h:k<8\/4096<k):af4 af5 272 #[af6 k] w λe z=>e=.returned (.tuple #[.pointer none,af6 1])/\w=z:=by
 by_cases y:k<8
 .go_in
  go_wp2;go_ret2;exact⟨rfl,rfl⟩
 .have x:k > 4096:=aa
  clear h;go_in;go_wp2;go_ret2;exact⟨rfl,rfl⟩
def JC{t:TypeId}{a:Value}{rest:List Value}{w:World}{g:Nat}(h:g7 w g t (a::.slice none 0 0::rest).toArray):mR t a rest (λx=>x=g) w g (.slice none 0 0) [] []:=
 ⟨h,⟨g8.nil_ _ _,rfl,λi z=>absurd z ad,λi z=>absurd z ad,λi j z=>absurd z ad,λk e=>by simp[Value.ownBlock] at e,λi z=>absurd z ad⟩,rfl,by simp[Value.ownBlock],λi z=>absurd z ad,λk y=>by rw[show k=g from y];exact h.lt⟩
def Rf(k:Nat)(w:World):AL (λx=>x=w.heap.size) (w.alloc (.cells #[af6 k,.slice none 0 0,.int .u64 0,.int .u64 0] 214)) w.heap.size k [] 0:=⟨_,_,JC (g7.new w _ _)⟩
def Eu(h:∀j (z:j+1<ab0 l),l[j]<=l[j+1]):pz l:=by
 refine ck.2 λi j x z y=>?_;obtain⟨d,rfl⟩:∃d,j=i+1+d:=⟨j - i - 1,aa⟩;clear y
 induction d with
 | zero=>exact h i z
 | succ d ih=>exact gW (ih aa) (h (i+1+d) z)
def yV(h:pz l){j:Nat}(z:j+1<ab0 l):l[j]<=l[j+1]:=ck.1 h j (j+1) aa z aa
def LI(x:Int)(w:World):af4 af5 324 #[af6 x] w λe z=>e=.returned (.bool false)/\w=z:=by
 go_in;go_wp2;go_ret;exact⟨ad,rfl⟩
def OR(x y:Int)(w:World):af4 af5 248 #[af6 x,af6 y] w λe v=>e=.returned (.bool (decide (x<y)))/\w=v:=by
 go_in;go_wp21;refine RX (LI x w) ?_;intro u z;subst z;go_wp2;refine ak ?_;exact⟨ad,rfl⟩
def B8(v:Value)(l:List Int)(w:World)(h:iQ iY w v l)(F:ab0 l<=1000000000):af4 af5 442 #[v] w λe s=>e=.returned (.bool (decide (pz l)))/\∃q,s=w.drewN q:=by
 obtain⟨A,c,rfl,H,G,z⟩:=h.form;have a:=ax z;clear h z;go_in;go_wp2;go_loopg [3] (ab0 l) (λq i wr=>∃(z:Int) (d:Nat),q=(z+1).toNat/\-1<=z/\z<ab0 l/\i=af6 z/\wr=w.drewN d/\Hid (∀j (u:j+1<ab0 l),z<=j->l[j]<=l[j+1]))
 exact⟨(ab0 l:Int) - 1,0,aa,aa,aa,af,rfl,ax λj u g=>absurd g aa⟩
 case round=>
  obtain⟨z,d,y,B,o,rfl,rfl,r⟩:=hrel;have R:=ax y;clear y;by_cases g:z > 0
  .obtain⟨n,rfl⟩:∃n:Nat,z=n:=⟨z.toNat,aa⟩
   obtain⟨m,T⟩:∃m:Nat,n=m+1:=⟨n - 1,aa⟩;have L:n<ab0 l:=aa;have M:m<ab0 l:=aa;obtain⟨V,S,t,U,f⟩:=a.o.i64 L;subst t;obtain⟨I,W,t,_,b⟩:=a.o.i64 M;injection t with t;injection t with OF OG;subst OF;subst OG;have Y:Hid (l[m]<=l[n]->∀j (u:j+1<ab0 l),(n:Int) - 1<=j->l[j]<=l[j+1]):=ax λN j u g=>by
    rcases bm j n with y|y
    .have e:j=m:=aa
     subst e;have x:n=j+1:=T;subst x;exact N
    .exact r.o j u aa
   have X:Hid (l[n]<l[m]->¬pz l):=ax λE J=>by
    have y:=yV J (j:=m) (by omega);have e:l[m+1]' aa =l[n]:=by congr 1;omega
    rw[e] at y;omega
   have⟨x,q⟩:=ar (l[n]);have⟨y,p⟩:=ar (l[m]);rw[q] at f;rw[p] at b;simp only[q,p] at Y X;have P:=ax f;have O:=ax b;have C:(n:Int) - 1=(m:Int):=aa;have Q:Hid (ad0 .i64 (m:Int)=(m:Int)):=ax (cy _ aa);have D:(m:Int)<(ab0 l:Int):=aa;clear q p f b T r;go_upto_region 4 with fail;have Z:=ax (λ(s:World) (q:af3 w s)=>(aB ((q.C (p:=af7 V (S+n)) U).T P.o) (aB ((q.C (p:=af7 V (S+m)) U).T O.o) (Q.o))));refine jh (λs=>af3 w s) (hQ 0 9 (ik 9 [])) ((below_drewN (aC _ _) _).drew) ?_;iterate 9 refine ib ?_
   refine iz λK f=>?_;go_simp;refine RX (OR x y _) ?_;intro i b;subst b;refine f _ _ ((below_drewN (aC _ _) _).drew) ?_;refine g4 ?_;by_cases T:x<y
   .have q:=ax (X.o T)
    go_wp2;refine ak ?_;exact⟨by rw[bq q.o],by first|exact⟨_,rfl⟩|exact⟨_,r_ _ _ _⟩⟩
   .have q:=ax (Y.o aa)
    go_wp2;go_roundg n
    exact⟨(n:Int) - 1,d+1,aa,aa,aa,af,by first|rfl|exact r_ _ _ _,q⟩;have:=R.o;omega
  .have y:Hid (pz l):=ax (Eu λj u=>r.o j u aa)
   go_wp2;refine ak ?_;exact⟨by rw[bN y.o],_,rfl⟩
structure jB(k:Int)(L:LL)(led:Nat):Prop where
 k8:8<=k
 k4:k<=4096
 hlen:ab0 L<=49
 BZ:led<=4611686018427387904
 emp:ab0 L=0->led=0
 top:0<ab0 L->lvl L (ab0 L - 1)≠[]
 iN:∀h,h<ab0 L->ab0 (lvl L h)<=room k.toNat (ab0 L) h/\pz (lvl L h)
 hwt:wt L<=281474976710656
def jB.fit{k:Nat}{L:LL}{led:Nat}(h:jB k L led):Fit k L led:=by
 have s:=h.k4;have t:=h.k8;have y:=h.iN;rw[bY] at y;have v:∀j,j<ab0 L->ab0 (lvl L j)<=k:=λj x=>bf (y j x).1 (room_le aa);refine⟨⟨λj=>?_,h.top,h.hwt,?_,h.BZ⟩,mQ λj x=>(y j x).1⟩
 .rcases bm j (ab0 L) with z|z
  .exact(y j z).2
  .show pz (lvl L j)
   rw[pF z];exact List.Pairwise.nil
 .have z:=vn L k v
  have u:ab0 L * k<=49 * 4096:=cL h.hlen aa;show cnt L<=_
  omega
