/- Parts. -/
import Derived.Laws.OwnMore
import Derived.Test.YtdicblkhpcphfaaGreatPU24
import Derived.Laws.BytesArg
set_option maxRecDepth 100000
set_option maxHeartbeats 0
set_option linter.all false
namespace Go.Proofs.YtdicblkhpcphfaaGreat
open Tryz Go.RowKit Go.Lib
open _root_.List renaming length→ab0
open Go.IntKind renaming wrap→ad0
open _root_.Go renaming Calls→af4
open Tryz renaming prog→af5
namespace K
variable{j n:Nat}{L:LL}
def s6(n:Nat):List Sv:=List.replicate n (none,0,0)
def EB(w:World)(n:Nat)(v:n<=1000000):g8 rZ w.heap.size (w.alloc (.cells (madeCells #[.slice none 0 0] n) 196)) (.slice (some (af7 (w.heap.size) 0)) n n) (s6 n):=by
 have y:ab0 (s6 n)=n:=by simp[s6]
 have x:cellsE rZ (s6 n)=List.replicate n (Value.slice none 0 0):=by
  unfold s6
  induction n with
  | zero=>rfl
  | succ n ih=>rw[dC,i9,ih aa (by simp[s6]),dC];rfl
 have z:rZ.k=1:=rfl;refine⟨by rw[x,cr,y,z,cW],.inr ⟨w.heap.size,n,madeCells #[.slice none 0 0] n,by rw[y],aD _,cH _ _,aa,by unfold maxLen;omega,by rw[size_madeCells,z,cW],?_⟩⟩;rw[x,toList_madeCells_one,y,z,cW,List.take_replicate,Nat.min_self]
def O_{F:Nat->Prop}{w:World}{g k led gl H:Nat}(u:g7 w g 214 #[af6 k,.slice (some (af7 gl 0)) H H,.int .u64 n,.int .u64 led])(t:g8 rZ 0 w (.slice (some (af7 gl 0)) H H) (s6 H))(s:g≠gl)(v:∀x,F x<->(x=g\/x=gl)):rl F w g k n led (.slice (some (af7 gl 0)) H H) (s6 H) (List.replicate H []):=by
 have y:∀i (z:i<ab0 (s6 H)),jc ((s6 H)[i])=.slice none 0 0:=λi z=>by
  have:(s6 H)[i]=(none,0,0):=eC z;rw[this];rfl
 have q:∀i,lvl (List.replicate H ([]:List Int)) i=[]:=λi=>by
  unfold lvl;simp only[List.getD];rw[ei];split<;>rfl
 have r:=(t.lt gl rfl).2;refine⟨u,⟨t,by simp[s6],λi z=>by rw[y i z,q];exact g8.nil_ _ _,λi z k e=>by rw[y i z] at e;simp[Value.ownBlock] at e,λi j z f p k e=>by rw[y i z] at e;simp[Value.ownBlock] at e,λk e=>?_,λi z k e=>by rw[y i z] at e;simp[Value.ownBlock] at e⟩,(v g).2 (.inl rfl),λe=>s (bJ (show some gl=some g from e)).Y,λi z e=>by rw[y i z] at e;simp[Value.ownBlock] at e,λx p=>?_⟩
 .exact(v k).2 (.inr (bJ (show some gl=some k from e)).Y)
 .rcases(v x).1 p with rfl|rfl
  .exact u.lt
  .exact r
def oR(L:LL)(j:Nat):LL:=L.take j++List.replicate (ab0 L - j) []
def qp(h:j<=ab0 L):ab0 (oR L j)=ab0 L:=by unfold oR;simp;omega
def H8(L:LL):oR L 0=List.replicate (ab0 L) []:=by unfold oR;simp
def LQ(L:LL):oR L (ab0 L)=L:=by unfold oR;simp
def LR(h:j<ab0 L):(oR L j).set j (lvl L j)=oR L (j+1):=by
 unfold oR;rw[aM h,<-kZ h,show ab0 L - j=(ab0 L - (j+1))+1 by omega,dC,fC _ _ (by rw[aU];omega),aU,dM aa,cZ,bS,aN];rfl
def VM(z:n<=281474976710656):((281474976710656 - (n:Int)) / 2 ^ j)=(((281474976710656 - n) / 2 ^ j:Nat):Int):=by
 rw[Int.natCast_ediv,fG,Int.ofNat_sub z];rfl
def TZ{x:Nat}:¬(281474976710656 - n) / 2 ^ j<x<->x * 2 ^ j<=281474976710656 - n:=by
 rw[Nat.not_lt,dI (cB j)]
structure T_(w:World)(g k led:Nat)(L:LL)(j:Nat)(F:Nat->Prop)(wr:World)(lv:Value)(vs:List Sv):Prop where
 st:rl F wr g k (pX 1 (L.take j)) led lv vs (oR L j)
 new:∀x,F x->w.heap.size<=x
 below:af3 w wr
 good:∀h,h<j->ab0 (lvl L h)<=room k (ab0 L) h/\pz (lvl L h)
 wt:pX 1 (L.take j)<=281474976710656
def zd(k:Int)(v:Value)(L:LL)(led:Nat)(w:World)(h:Mr w v L)(k0:-9223372036854775808<=k)(k1:k<=9223372036854775807)(BZ:led<18446744073709551616)(s:∀j,ab0 (lvl L j)<=1000000000):af4 af5 400 #[af6 k,v,.int .u64 led] w λe f=>((∃g,e=.returned (.tuple #[aq g,af6 0])/\jB k L led/\∃F,AL F f g k.toNat L led/\∀x,F x->w.heap.size<=x)\/(e=.returned (.tuple #[.pointer none,af6 1])/\¬jB k L led))/\af3 w f:=by
 obtain⟨i1,z,t,u,y⟩:=cR Tu;have JI:=ax z;have JZ:=ax t;have Oo:=ax u;have Ot:=ax y;clear z t u y;obtain⟨A,c,rfl,hc1,hc2⟩:=h.form;have HL:=ax h;have Jj:=ax s;clear h s;by_cases z:k<8\/4096<k
 .have t:Hid (¬jB k L led):=ax λh=>by have:=h.k4;have:=h.k8;omega
  go_in;go_wp21;refine RX (Gl k w z) ?_;intro w1 y;subst y;go_wp2;refine ak ?_;exact⟨.inr ⟨rfl,t.o⟩,aC _ _⟩
 obtain⟨K,rfl⟩:∃K:Nat,k=K:=⟨k.toNat,aa⟩;have D:8<=K:=aa;have E:K<=4096:=aa;clear z;have q:af3 w (w.alloc (.cells #[af6 K,.slice none 0 0,.int .u64 0,.int .u64 0] 214)):=(aC _ _).alloc (aD _) _;by_cases h49:ab0 L > 49
 .have t:Hid (¬jB K L led):=ax λh=>by have:=h.hlen;omega
  have YW:(ab0 L:Int) > 49:=aa;go_in;go_wp21;refine RX (new_any K w D E) ?_;intro w1 y;subst y;go_wp2;refine ak ?_;exact⟨.inr ⟨rfl,t.o⟩,q⟩
 have YW:¬(ab0 L:Int) > 49:=aa;by_cases hle:led > 4611686018427387904
 .have t:Hid (¬jB K L led):=ax λh=>by have:=h.BZ;omega
  have YX:(led:Int) > 4611686018427387904:=aa;go_in;go_wp21;refine RX (new_any K w D E) ?_;intro w1 y;subst y;go_wp2;refine ak ?_;exact⟨.inr ⟨rfl,t.o⟩,q⟩
 have YX:¬(led:Int) > 4611686018427387904:=aa;by_cases Y:ab0 L=0/\0<led
 .have t:Hid (¬jB K L led):=ax λh=>by have:=h.emp Y.1;omega
  obtain⟨z,u⟩:=Y;rw[z];go_in;go_wp21;refine RX (new_any K w D E) ?_;intro w1 y;subst y;go_wp2;refine ak ?_;exact⟨.inr ⟨rfl,t.o⟩,q⟩
 by_cases d:0<ab0 L/\lvl L (ab0 L - 1)=[]
 .have t:Hid (¬jB K L led):=ax λh=>h.top d.1 d.2
  obtain⟨s,off,I,C,G,R,r,_⟩:=HL.o.at_ (j:=ab0 L - 1) (by omega);subst G;rw[d.2] at r;have⟨u,a⟩:=ar (ab0 L - 1);have N:(ab0 L:Int) - 1=(u:Int):=aa;have V:(u:Int)<(ab0 L:Int):=aa;have b:¬(ab0 L:Int)=0:=aa;have O:¬L=[]:=λe=>by rw[e] at V;simp at V;omega
  rw[a] at r;have U:=(q.C (p:=af7 s (off+u)) R).T r;have X:=ax U;have z:=ax q;clear d Y a r U q;go_in;go_wp21;refine RX (new_any K w D E) ?_;intro w1 y;rw[<-y] at X z;have M:=X.o;clear y;go_wp2;refine ak ?_;exact⟨.inr ⟨rfl,t.o⟩,z.o⟩
 have VN:Hid (0<ab0 L->lvl L (ab0 L - 1)≠[]):=ax λz U=>d ⟨z,U⟩;have VO:Hid (ab0 L=0->led=0):=ax λz=>by omega
 have T:=ax (λW=>mK 112 196 i1 _ underlying112 JI.o JZ.o .i64 .i64 (ab0 L) (ab0 L) (aD _) (by rw[Ot.o];omega) aa W);have X:=T.o;rw[Oo.o,cW] at X;have YZ:=ax X;have H:=YZ.o;clear T X d Y q;have HLI:Hid (∀j,pX 1 (L.take j)<=wt L):=ax λj=>wi L j;go_in;go_wp21;refine RX (new_any K w D E) ?_;intro w1 y;have S:g7 w1 w.heap.size 214 #[af6 K,.slice none 0 0,.int .u64 0,.int .u64 0]:=by rw[y];exact g7.new w _ _
 have T:af3 w w1:=by rw[y];exact(aC _ _).alloc (aD _) _
 have B:w1.heap.size=w.heap.size+1:=by rw[y];simp
 have q:=ax S;have Y:=ax T;have d:=ax B;have⟨g,X⟩:=ar (w.heap.size);have J:=ax X;rw[X] at q d |-;clear y S T B X
 go_upto_region 3 with fail;go_cut [50] (λx y=>x=.bool false/\w1=y)
 case first=>
  by_cases b:ab0 L=0
  .have X:=VO.o b
   have y:L=[]:=aV b;subst X;subst y;clear b;go_wp21
   go_meet
   exact⟨rfl,rfl⟩
  .obtain⟨s,off,I,C,G,R,r,_⟩:=HL.o.at_ (j:=ab0 L - 1) (by omega)
   subst G;have X:¬(lvl L (ab0 L - 1)).length=0:=λe=>VN.o aa (aV e);have⟨y,T⟩:=ar (ab0 (lvl L (ab0 L - 1)));rw[T] at r X;have⟨u,a⟩:=ar (ab0 L - 1);rw[a] at r;have N:(ab0 L:Int) - 1=(u:Int):=aa;have V:(u:Int)<(ab0 L:Int):=aa;have O:¬L=[]:=λe=>b (by rw[e];rfl);have B:decide ((49:Int)<(ab0 L:Int))=false:=bq aa;have S:decide ((4611686018427387904:Int)<(led:Int))=false:=bq aa;have Q:((y:Int) == 0)=false:=by simpa using X
   have P:=ax (by rw[B,S,Q];rfl:(decide ((49:Int)<(ab0 L:Int)) || decide ((4611686018427387904:Int)<(led:Int)) || ((y:Int) == 0))=false);clear B S Q;have M:=(Y.o.C (p:=af7 s (off+u)) R).T r;clear r T a;go_wp21
   go_meet
   exact⟨by first|rfl|rw[P.o],rfl⟩
 case rest=>
 obtain⟨rfl,rfl⟩:=hcut;have b:=q.o.k1;have a:=q.o.k3;have M:=q.o.F 1;have I:=q.o.F 3;have hgw:=q.o.lt;go_upto_region 6 with fail;have T:g≠w1.heap.size:=aa;have u:=((q.o.hJ 1 (.slice (some (af7 (w1.heap.size) 0)) (ab0 L) (ab0 L))).hJ 3 (.int .u64 led)).alloc (.cells (madeCells #[.slice none 0 0] (ab0 L)) 196);have⟨N,y⟩:=ar ((w1.setCell (af7 g 1) (.slice (some (af7 (w1.heap.size) 0)) (ab0 L) (ab0 L))).setCell (af7 g 3) (.int .u64 led));have O:N.heap.size=w1.heap.size:=by rw[<-y];simp
 have V:af3 w N:=by
  rw[<-y];refine dW (dW Y.o ?_ _) ?_ _
  .show w.heap.size<=g;rw[J.o];exact aD _
  .show w.heap.size<=g;rw[J.o];exact aD _
 have r:=EB N (ab0 L) aa;rw[O] at r;have S:=r.more (bl _);have X:af3 w (N.alloc (.cells (madeCells #[.slice none 0 0] (ab0 L)) 196)):=V.alloc (aa6 J.o d.o) _;rw[y] at u;rw[y];have P:=O_ (F:=λx=>x=g\/x=w1.heap.size) (n:=0) (led:=led) u S T (λx=>Iff.rfl);have VP:Hid (T_ w g K led L 0 (λx=>x=g\/x=w1.heap.size) (N.alloc (.cells (madeCells #[.slice none 0 0] (ab0 L)) 196)) (.slice (some (af7 (w1.heap.size) 0)) (ab0 L) (ab0 L)) (s6 (ab0 L))):=ax ⟨by rw[H8];exact P,λx hx=>by have:=J.o;have:=d.o;omega,X,λh W=>absurd W aa,bl _⟩;have⟨w3,Q⟩:=ar (N.alloc (.cells (madeCells #[.slice none 0 0] (ab0 L)) 196));rw[Q] at VP |-;clear r u V T S X P Q y O H b a M I Y q d
 go_wp2;go_loopg [11,12,62] (ab0 L) (λq _ _ i wr=>∃(j:Nat) (F:Nat->Prop) (lv:Value) (vs:List Sv),q=ab0 L - j/\j<=ab0 L/\i=af6 (j:Int)/\Hid (T_ w g K led L j F wr lv vs))
 exact⟨0,_,_,_,aa,aa,rfl,VP⟩
 case round=>
  obtain⟨j,F,lv,vs,y,hj,rfl,u⟩:=hrel;have HQ:=ax y;clear y;by_cases Q:j<ab0 L
  .have ae2:(j:Int)<(ab0 L:Int):=aa
   obtain⟨gi,off,sA,sc,G,hgi,c2,a⟩:=(HL.o.K u.o.below).at_ Q;subst G;have HRA:=ax a;have C:ab0 (oR L j)=ab0 L:=qp aa;have o:=ax (D_ j wr u.o.st aa  aa  aa  aa);rw[C] at o;have hrb:=room_le (k:=K) (len:=ab0 L) (h:=j) aa;have XIS:=ax (B8 _ (lvl L j) wr a (Jj.o j));have hlb:=Jj.o j;have T:=ax (sx Q);have n2:=u.o.st.cell2;have hwb:=u.o.wt;have Y1:Hid (¬(lvl L j).length<=room K (ab0 L) j->¬jB K L led):=ax λz U=>by
    have:=(U.iN j Q).1;rw[bY] at this;exact z this
   have T':Hid (¬pz (lvl L j)->¬jB K L led):=ax λz U=>z (U.iN j Q).2;have Y2:Hid (281474976710656<pX 1 (L.take j)+ab0 (lvl L j) * 2 ^ j->¬jB K L led):=ax λz U=>by
    have r:=U.hwt;have y:=HLI.o (j+1);rw[T.o] at y;omega
   have Y5:=ax (VM (n:=pX 1 (L.take j)) (j:=j) hwb);have I:=ax (TZ (x:=ab0 (lvl L j)) (n:=pX 1 (L.take j)) (j:=j));have⟨l,d⟩:=ar (room K (ab0 L) j);have⟨y,b⟩:=ar (ab0 (lvl L j));have⟨n,q⟩:=ar (pX 1 (L.take j));rw[d] at o hrb Y1;rw[b] at c2 XIS T Y1 Y2 I hlb HRA;rw[q] at hwb n2 T Y2 Y5 I;have⟨S,r⟩:=ar ((281474976710656 - n) / 2 ^ j);rw[r] at Y5 I;have ae3:S<=281474976710656:=by rw[<-r];exact bf (el _ _) aa
   have WR:=ax d;have UC:=ax b;have HNE:=ax q;have hsh:=Y5.o;clear d b q r C a;by_cases hgt:y > l
   .have t:=ax (Y1.o aa)
    have Y7:(y:Int) > (l:Int):=aa;go_wp21;refine RX o.o ?_;intro r q;subst q;go_wp2;refine ak ?_;exact⟨.inr ⟨rfl,t.o⟩,u.o.below⟩
   .have Y7:¬(y:Int) > (l:Int):=aa
    go_wp21;refine RX o.o ?_
    intro r q;subst q;go_wp21;refine RX XIS.o ?_;rintro r ⟨q5,q⟩;have d:af3 wr r:=by rw[q];exact below_drewN (aC _ _) _
    have KR:=ax d;have M:Hid (af3 w r):=ax (u.o.below.T (d.M u.o.below.size));have m2:=(u.o.st.K d).cell2;rw[HNE.o] at m2;clear q d n2 c2;by_cases Y9:¬pz (lvl L j)
    .have t:=ax (T'.o Y9)
     rw[bq Y9];go_wp2;refine ak ?_;exact⟨.inr ⟨rfl,t.o⟩,M.o⟩
    .have PW:Hid (pz (lvl L j)):=ax (Classical.not_not.1 Y9)
     rw[bN PW.o];by_cases hov:S<y
     .have t:=ax (Y2.o (by
       rcases bm 281474976710656 (n+y * 2 ^ j) with z|z
       .exact z
       .exact absurd hov (I.o.2 aa)))
      have Y_:(y:Int) > (S:Int):=aa;go_wp2;refine ak ?_;exact⟨.inr ⟨rfl,t.o⟩,M.o⟩
     .have hfit:=I.o.1 hov
      have Y_:¬(y:Int) > (S:Int):=aa;have q:=u.o.st.K KR.o;have d:j<ab0 (oR L j):=by rw[qp aa];exact Q
      obtain⟨s,cc,sA0,sc0,Sr,R,Ho,sZ,Y,b,a,_,_⟩:=q.at_ d;have C:ab0 (oR L j)=ab0 L:=qp aa;rw[C] at Sr;subst Sr;have Y':=ax q;have K1:=ax q.cell1;have C3:=ax b;have F3:=ax a;have HJS:=ax d;have hg5:=q.blk.lt;have HR5:=ax (HRA.o.K KR.o);clear q d C b a Y;go_upto_region 11 with fail;clear m2;have Z:=ax (λ(f:World) (i:f.heap[g]?=r.heap[g]?)=>((bn (a:=af7 g 1) i).T K1.o));refine jh (λf=>f.heap[g]?=r.heap[g]?) (hQ 0 6 (ik 6 (hQ 7 1 (ik 8 [])))) (rfl) ?_;iterate 6 refine ib ?_
      refine iz λK d=>?_;go_simp;refine(vh _ (lvl L j) _ (HR5.o.K (aC _ _).drew) (by rw[UC.o];omega)).M ?_;rintro e O ⟨⟨Y,n7,V⟩,rfl,q,b⟩;obtain⟨_,_,es,_,_,_⟩:=q.form;injection es with _ es2 _;rw[UC.o] at es2;have es3:=es2.Y;subst es3;have X:Hid (af3 r O):=ax (((aC r.heap.size r).drew).T b);have O7:=ax q;clear q b;simp only[jc];refine d _ _ (X.o.block g hg5) ?_;clear d K;refine ib ?_;refine iz λK d=>?_;have q:=(bn (a:=af7 s j) (X.o.block s R)).T C3.o;have f9:=(dr (a:=af7 s j) (X.o.block s R)).T F3.o;go_simp;refine d _ _ ((a_ O (af7 s j) _ g Ho.Y).T (X.o.block g hg5)) ?_;clear d K;refine g4 ?_;clear q f9;have iN:=mR.level (s':=(Y,y,V)) (l':=lvl L j) (j:=j) (w1:=O) Y'.o HJS.o rfl (O7.o.more (bl _)) (λb z _=>X.o.block b z) X.o.size (.inr λb e=>(O7.o.lt b e).1);rw[LR Q] at iN;have VQ:∀b,(jc (Y,y,V)).ownBlock=some b->r.heap.size<=b:=λb e=>(O7.o.lt b e).1;have hb8:af3 w (O.setCell (af7 s j) (jc (Y,y,V))):=dW (M.o.T (X.o.M M.o.size)) (u.o.new s sZ) _;have H:=ax iN;have UD:=ax hb8;have Za:=ax VQ;have⟨q,m⟩:=ar (O.setCell (af7 s j) (jc (Y,y,V)));rw[m] at H UD;show Exit.then _ _ Exit.normal _ (O.setCell (af7 s j) (jc (Y,y,V)))
      rw[m];clear iN VQ hb8 m;have k2:=H.o.cell2;have f2:=H.o.blk.F 2;rw[HNE.o] at k2;have UB:=ax (YS (c:=y) (h:=j) aa);have⟨m,hm⟩:=ar (y * 2 ^ j);rw[hm] at UB T hfit;clear hm;go_upto_region 12 with fail;have Z:=ax (λ(f:World) (i:af3 q f)=>(aB (UB.o) ((i.C (p:=af7 g 2) H.o.blk.lt).T k2)));refine qd (λf=>af3 q f) 12 (pW 0 10 (FH 10 1 (pW 11 1 (o_ 12 [])))) ((aC _ _).drew) ?_;iterate 10 refine kz ?_
      refine sQ ?_;refine kz ?_;refine qc λK d=>?_;have k9:(q.drew).cell? (af7 g 2)=_:=k2;have f9:(q.drew).frozen? (af7 g 2)=false:=f2;go_simp;refine d _ _ ?_;clear d K;refine iq ?_;have HVV:ad0 .u64 ((n:Int)+ad0 .u64 (ad0 .u64 (y:Int) * 2 ^ j))=((n+m:Nat):Int):=by
       have i:ad0 .u64 (y:Int)=(y:Int):=by rw[c_];omega
       rw[i,UB.o,c_];omega
      rw[HVV];have i:rl _ ((q.setCell (af7 g 2) (.int .u64 (n+m:Nat))).drew) g K (n+m) led _ _ (oR L (j+1)):=(H.o.Hf _).K (aC _ _).drew;have Q0:af3 w ((q.setCell (af7 g 2) (.int .u64 (n+m:Nat))).drew):=(dW UD.o (by show w.heap.size<=g;rw[J.o];exact aD _) _).drew;have⟨w9,hw9⟩:=ar ((q.setCell (af7 g 2) (.int .u64 (n+m:Nat))).drew);rw[hw9] at i Q0 |-;rw[<-T.o] at i;have VR:=WR.o;have hxl:ab0 (lvl L j)<=room K (ab0 L) j:=by rw[UC.o,VR];omega
      have VS:∀x,(F x\/(jc (Y,y,V)).ownBlock=some x)->w.heap.size<=x:=λx hx=>hx.elim (λz=>u.o.new x z) (λz=>bf M.o.size (Za.o x z));have Zb:Hid (T_ w g K led L (j+1) (λk=>F k\/(jc (Y,y,V)).ownBlock=some k) w9 _ _):=ax ⟨i,VS,Q0,λh W=>by
       rcases bm h j with z|z
       .exact u.o.good h z
       .obtain rfl:h=j:=aa
        exact⟨hxl,PW.o⟩,by rw[T.o];omega⟩
      clear i Q0 HVV VR hxl VS;clear hw9 k2 f2 k9 f9;go_wp2;go_roundg (ab0 L - (j+1))
      exact⟨j+1,_,_,_,rfl,aa,af,Zb⟩;have:=HQ.o;omega
  .obtain rfl:j=ab0 L:=aa
   have P:=u.o.st;rw[LQ,cK] at P;have y:=u.o.wt;rw[cK] at y;have q:Hid (jB K L led):=ax ⟨aa,aa,aa,aa,VO.o,VN.o,λh W=>by rw[bY];exact u.o.good h W,y⟩;have r:Hid (AL F wr g K L led):=ax ⟨lv,vs,P⟩;clear P y;go_wp2;refine ak ?_;exact⟨.inl ⟨g,rfl,q.o,F,by rw[bY];exact r.o,u.o.new⟩,u.o.below⟩
section
variable{bs l r1 r2 r3:List Int}{k led:Nat}{L acc:LL}{n:Int}{T:Option (LL × List Int)}
structure O'(bs:List Int)(k:Nat)(L:LL)(led:Nat):Prop where
 right:jB k L led
 bd:∀j,mm (lvl L j)
 eq:zE k L led=bs
def O'.rd(h:O' bs k L led):Ew bs=some (⟨k,led,L⟩,[]):=by
 have z:=h.right;have t:∀l∈L,mm l/\pz l/\ab0 l<=4096:=λl u=>by
  obtain⟨j,v,rfl⟩:=dt u;have y:=z.iN j v;have x:=h.bd j;rw[kZ v] at y x;refine⟨x,y.2,bf y.1 (bf (room_le ?_) ?_)⟩
  .rw[bY];have:=z.k8;omega
  .rw[bY];have:=z.k4;omega
 have:=Ri (k:=(k:Int)) (L:=L) (led:=led) [] aa z.k4 (aa2 z.BZ) z.hlen t;rw[bP,h.eq] at this;exact this
def O'.uniq{k':Nat}{L':LL}{led':Nat}(h:O' bs k L led)(y:O' bs k' L' led'):k=k'/\L=L'/\led=led':=by
 have z:=h.rd;rw[y.rd] at z;injection z with z;injection z with z _;injection z with z h2 h3;exact⟨aa,h3.Y,aa⟩
def Ua{r4:List Int}{k led:Int}(z:zN 4096 bs=some (k,r1))(y:hU r1=some (led,r2))(x:zN 49 r2=some (n,r3))(v:rz n.toNat [] r3=some (L,r4)):Ew bs=some (⟨k,led,L⟩,r4):=by
 unfold Ew;rw[z];simp only;rw[y];simp only;rw[x];simp only;rw[v]
def Rm(z:zN 4096 bs=none):Ew bs=none:=by unfold Ew;rw[z]
def Rn{k:Int}(z:zN 4096 bs=some (k,r1))(y:hU r1=none):Ew bs=none:=by
 unfold Ew;rw[z];simp only;rw[y]
def Ro{k led:Int}(z:zN 4096 bs=some (k,r1))(y:hU r1=some (led,r2))(x:zN 49 r2=none):Ew bs=none:=by
 unfold Ew;rw[z];simp only;rw[y];simp only;rw[x]
def Rp{k led:Int}(z:zN 4096 bs=some (k,r1))(y:hU r1=some (led,r2))(x:zN 49 r2=some (n,r3))(v:rz n.toNat [] r3=none):Ew bs=none:=by
 unfold Ew;rw[z];simp only;rw[y];simp only;rw[x];simp only;rw[v]
def Rq(h:Ew bs=none):∀k L z,¬O' bs k L z:=λk L z y=>by
 rw[y.rd] at h;cases h
def LS(h:rz (k+1) acc l=T){x:List Int × List Int}(z:vp l=some x):rz k (acc++[x.1]) x.2=T:=by
 rw[rz,z] at h;exact h
def LU(h:rz (k+1) acc l=T)(z:vp l=none):T=none:=by
 rw[rz,z] at h;exact h.Y
def ED:∀(k:Nat) (acc l:List Int) (x:List Int × List Int),oo k acc l=some x->∃j,x.2=l.drop j
 | 0,acc,l,x,h=>by simp only[oo,bg] at h;subst h;exact⟨0,ad⟩
 | k+1,acc,l,x,h=>by
  rw[oo] at h;cases h1:hU l with
  | none=>rw[h1] at h;cases h
  | some y=>
   rw[h1] at h;simp only at h;cases h2:Rh acc.getLast? y.1 with
   | none=>rw[h2] at h;cases h
   | some v=>rw[h2] at h;exact mw (lI h1).2 (ED k _ _ x h)
def EE:∀(k:Nat) (acc l:List Int) (x:List Int × List Int),oo k acc l=some x->ab0 x.1=ab0 acc+k
 | 0,acc,l,x,h=>by simp only[oo,bg] at h;subst h;rfl
 | k+1,acc,l,x,h=>by
  rw[oo] at h;cases h1:hU l with
  | none=>rw[h1] at h;cases h
  | some y=>
   rw[h1] at h;simp only at h;cases h2:Rh acc.getLast? y.1 with
   | none=>rw[h2] at h;cases h
   | some v=>
    rw[h2] at h;have:=EE k _ _ x h;rw[this,aE,bh];omega
def Pa{a:Nat}{r:List Int}(h:vp (bs.drop a)=some (l,r)):bs.drop (ab0 bs - ab0 r)=r/\ab0 l<=4096:=by
 unfold vp at h;cases h1:zN 4096 (bs.drop a) with
 | none=>rw[h1] at h;cases h
 | some x=>
  rw[h1] at h;simp only at h;obtain⟨z,u⟩:=tZ h1;obtain⟨j,y⟩:=mw (lI z).2 (ED _ _ _ _ h);have v:=EE _ _ _ _ h;simp only[aY] at v;exact⟨Xu (m:=a+j) (by rw[<-cQ];exact y),aa⟩
def Cv(base:Nat)(w:World)(gl n:Nat)(acc:LL):Prop:=
 ∃vs,g8 rZ base w (.slice (some (af7 gl 0)) n n) vs/\ab0 vs=n/\∀i (h:i<ab0 vs),i<ab0 acc->g8 iY base w (jc vs[i]) (lvl acc i)/\(jc vs[i]).ownBlock≠some gl
section
variable {base gl n : Nat} {w w' : World} {acc : LL}
def Cv.lt(h:Cv base w gl n acc):base<=gl/\gl<w.heap.size:=by
 obtain⟨y,z,_⟩:=h;exact z.lt gl rfl
def Cv.stay(h:Cv base w gl n acc)(u:∀k,base<=k->k<w.heap.size->w'.heap[k]?=w.heap[k]?):Cv base w' gl n acc:=by
 obtain⟨s,v,t,z⟩:=h;exact⟨s,v.stay λk e=>u k (v.lt k e).1 (v.lt k e).2,t,λi y x=>⟨(z i y x).1.stay λk e=>u k ((z i y x).1.lt k e).1 ((z i y x).1.lt k e).2,(z i y x).2⟩⟩
def Cv.start(w:World)(n:Nat)(y:n<=1000000):Cv w.heap.size (w.alloc (.cells (madeCells #[.slice none 0 0] n) 196)) w.heap.size n []:=
 ⟨s6 n,EB w n y,by simp[s6],λi _ z=>absurd z ad⟩
def Cv.put(h:Cv base w gl n acc)(d:ab0 acc<n){s:Sv}{l:List Int}(f:g8 iY base w (jc s) l)(u:(jc s).ownBlock≠some gl):Cv base (w.setCell (af7 gl (ab0 acc)) (jc s)) gl n (acc++[l]):=by
 obtain⟨r,q,p,v⟩:=h;have g:ab0 acc<ab0 r:=aa;have t:=q.hJ (ab0 acc) g s;rw[show ab0 acc * rZ.k=ab0 acc by show ab0 acc * 1=_;omega] at t;refine⟨r.set (ab0 acc) s,t,by rw[aZ];exact p,λi z y=>?_⟩;rw[aZ] at z;rw[aE,bh] at y;rw[fy];by_cases e:ab0 acc=i
 .subst e
  have x:lvl (acc++[l]) (ab0 acc)=l:=by unfold lvl;simp[List.getD]
  rw[aH rfl,x];exact⟨f.far u _,u⟩
 .rw[aF e]
  have y:i<ab0 acc:=aa;have x:lvl (acc++[l]) i=lvl acc i:=by unfold lvl;simp only[List.getD];rw[cD y]
  rw[x];exact⟨(v i z y).1.far (v i z y).2 _,(v i z y).2⟩
def Cv.C(h:Cv base w gl n acc){j:Nat}(t:j<n):∃u,w.cell? (af7 gl j)=some (jc u)/\w.frozen? (af7 gl j)=false:=by
 obtain⟨y,z,v,_⟩:=h;have x:j<ab0 y:=aa;have c:=z.cellAt x 0 ab;rw[show j * rZ.k+0=j by show j * 1+0=j;omega] at c;exact⟨y[j],c,z.frozenAt j⟩
def Cv.rdr(h:Cv base w gl n acc){g a:Nat}{bs:List Int}(c:hT w g bs a)(d:gl≠g)(j:Nat)(u:Value):hT (w.setCell (af7 gl j) u) g bs a:=by
 obtain⟨S,f,_,_⟩:=h;obtain⟨v,s,x,r⟩:=c;have y:∀k,k≠gl->(w.setCell (af7 gl j) u).heap[k]?=w.heap[k]?:=λk y=>a_ w (af7 gl j) u k y;refine⟨v,(y g (λe=>d e.Y)).T s,x.stay λk e=>y k ?_,r⟩;rintro rfl;rcases x.2 with q|⟨U,b,X,rfl,_,p,_⟩
 .rw[q.1] at e;cases e
 .cases e
  rcases f.2 with q|⟨T,Y,V,z,_,t,_⟩
  .cases q.1
  .injection z with z
   injection z with z;injection z with z;subst z;rw[p] at t;cases t
def Cv.TU(h:Cv base w gl n acc)(t:ab0 acc=n):Mr w (.slice (some (af7 gl 0)) n n) acc:=by
 obtain⟨v,z,u,y⟩:=h;exact⟨v,aa,z.rd,λi x=>(y i x aa).1.rd⟩
end
def Pb(bs:List Int)(w:World)(e:Ending)(w':World):Prop:=
 ((∃(g k:Nat) (L:LL) (led:Nat) (F:Nat->Prop),e=.returned (aq g)/\O' bs k L led/\AL F w' g k L led/\∀x,F x->w.heap.size<=x)\/(Ql e/\∀k L led,¬O' bs k L led))/\af3 w w'
def LV(v:Value)(z:List Int)(w:World)(h:jC .u8 w v z)(hb:jE z)(hlen:ab0 z<=1000000000):af4 af5 351 #[v] w (Pb z w):=by
 obtain⟨i1,t,u,x,y⟩:=cR Tu;have JI:=ax t;have JZ:=ax u;have Oo:=ax x;have Ot:=ax y;clear t u x y;have M:ab0 z<=1000000000000:=aa;have u:=ax (q_ v z w h M);have WQ:=ax (λW (hb:af3 w W)=>Rd.K h hb);have N:=ax hb;obtain⟨Av,cv,rfl,_,_,_⟩:=h.form;clear h hb;have hmk:∀n:Nat,n<=49->∀W:World,(Instr.makeSlice 112 (.int .u64 n) (.int .u64 n)).run prog W=.ok (.slice (some (af7 (W.heap.size) 0)) n n) (W.alloc (.cells (madeCells #[.slice none 0 0] n) 196)):=λn hn W=>by
  have:=mK 112 196 i1 _ underlying112 JI.o JZ.o .u64 .u64 n n (aD _) (by rw[Ot.o];omega) aa W;rw[Oo.o,cW] at this;exact this
 have HMK:=ax hmk;clear hmk;have Sr:∀y w,(callFunc 398 y).run prog w=.ok (.enter 398 y) w:=λ_ _=>rfl;go_in;go_wp21;refine WE u.o ?_;rintro g G ⟨t,x,y⟩;have hz1:=y.size;have hgl:=x.lt;have p:=ax x;have q:=ax y;clear x y u;go_upto_region 3 with fail;have⟨Y,y⟩:=ar (G.alloc (.cells #[aq g] 492));have r:af3 G Y:=by rw[<-y];exact(aC _ _).alloc (aD _) _
 have hz2:Y.heap.size=G.heap.size+1:=by rw[<-y];simp
 have x:Y.cell? (af7 (G.heap.size) 0)=some (aq g):=by rw[<-y];simp[bW]
 have⟨V,u⟩:=ar (G.heap.size);rw[u] at x hgl hz2;rw[y,u];have R2:=ax (p.o.K r);have C2:=ax x;have HB2:=ax (q.o.T (r.M hz1));have hne:V≠g:=aa;have OY:V<Y.heap.size:=aa;have hwz:w.heap.size<=Y.heap.size:=aa;have NO:Hid (∀(s:_) (w':World),Touch (λk=>k=g) Y w'->Ew z=none->Pb z w (.panicked [{v:=.iface 444 (.string s),recovered:=false}]) w'):=ax λs w' ht hn=>
  ⟨.inr ⟨⟨s,rfl⟩,Rq hn⟩,HB2.o.T (ht.below (λi hi=>by have hi:i=g:=hi;omega) hwz)⟩
 have VL:=ax (vq 4096 V g z 0 Y R2.o x N.o M);rw[bj] at VL;clear y r x u p q;go_wp21;refine(VL.o).M ?_;intro e w3 t;unfold iW at t;cases hA:zN 4096 z with
 | none=>
  simp only[hA] at t;have O:=ax (Rm hA);obtain⟨⟨pv,rfl⟩,y⟩:=t;have T3:=ax y;clear hA y;go_wp21;exact⟨rfl,NO.o _ _ T3.o O.o⟩
 | some pA=>
  obtain⟨k,r1⟩:=pA;simp only[hA] at t;obtain⟨v1,rfl,rfl,b,y⟩:=t;have T3:=ax y;have HA:=ax hA;obtain⟨f,Zc⟩:=tZ hA;have hkb:=jm N.o f;have S1:Hid (z.drop (ab0 z - ab0 r1)=r1):=ax (i7 (a:=0) (by rw[bj];exact f));have C3:=ax ((y.C (o:=0) OY hne).T C2.o);have Uy:=ax (wk V g z _ w3 b C3.o N.o M);rw[S1.o] at Uy;simp only at Zc hkb;clear hA b y f VL;go_wp21;refine(Uy.o).M ?_;intro e w4 t;unfold iW at t;cases hA:hU r1 with
  | none=>
   simp only[hA] at t;have O:=ax (Rn HA.o hA);obtain⟨⟨pv,rfl⟩,y⟩:=t;have T4:=ax (tt T3.o y);clear hA y;go_wp21;exact⟨rfl,NO.o _ _ T4.o O.o⟩
  | some pB=>
   obtain⟨S,r2⟩:=pB;simp only[hA] at t;obtain⟨v2,rfl,rfl,b,y⟩:=t;have T4:=ax (tt T3.o y);have HA2:=ax hA;have hlb:0<=S/\S<18446744073709551616:=by
    have hby:jE r1:=by rw[<-S1.o];exact N.o.drop _
    exact jm hby hA
   have S2:Hid (z.drop (ab0 z - ab0 r2)=r2):=ax (i7 (by rw[S1.o];exact hA));have C4:=ax ((T4.o.C (o:=0) OY hne).T C2.o);have Zd:=ax (vq 49 V g z _ w4 b C4.o N.o M);rw[S2.o] at Zd;clear hA b y Uy;go_wp21;refine(Zd.o).M ?_;intro e J t;unfold iW at t;cases hA:zN 49 r2 with
   | none=>
    simp only[hA] at t;have O:=ax (Ro HA.o HA2.o hA);obtain⟨⟨pv,rfl⟩,y⟩:=t;have T5:=ax (tt T4.o y);clear hA y;go_wp21;exact⟨rfl,NO.o _ _ T5.o O.o⟩
   | some pC=>
    obtain⟨n0,r3⟩:=pC;simp only[hA] at t;obtain⟨v3,rfl,rfl,b,y⟩:=t;have T5:=ax (tt T4.o y);have q:=ax b;have WW:=ax hA;obtain⟨f,hnm⟩:=tZ hA;have hnb:0<=n0/\n0<18446744073709551616:=by
     have hby:jE r2:=by rw[<-S2.o];exact N.o.drop _
     exact jm hby f
    obtain⟨n,rfl⟩:∃n:Nat,n0=n:=⟨n0.toNat,aa⟩;simp only at hnm;have S3:Hid (z.drop (ab0 z - ab0 r3)=r3):=ax (i7 (by rw[S2.o];exact f));have IZ:=T5.o.size;have hmk:=HMK.o n aa;clear hA b y Zd f;go_wp21;have Ze:=ax (Cv.start J n aa);have u:af3 J (J.alloc (.cells (madeCells #[.slice none 0 0] n) 196)):=(aC _ _).alloc (aD _) _;have T6:=ax (T5.o.alloc (.cells (madeCells #[.slice none 0 0] n) 196));have R6:=ax (q.o.K u);have⟨T,x⟩:=ar (rz n [] r3);have HT:=ax x;have R0:=ax (by rw[S3.o];exact x:rz n [] (z.drop (ab0 z - ab0 r3))=T);have VT:=u.size;have⟨w6,r⟩:=ar (J.alloc (.cells (madeCells #[.slice none 0 0] n) 196));rw[r] at Ze T6 R6 VT |-;have⟨gl,uS⟩:=ar (J.heap.size);rw[uS] at Ze VT |-;have Ho:gl≠g:=aa
    have Zf:Y.heap.size<=gl:=aa;clear r u x hmk q HMK;generalize ab0 z - ab0 r3=a3 at *;go_loopg [8,26] n (λq _ i wr=>∃(j c:Nat) (acc:LL),q=n - j/\j<=n/\i=af6 j/\ab0 acc=j/\Hid (∀l∈acc,mm l/\ab0 l<=4096)/\Hid (Cv gl wr gl n acc)/\Hid (hT wr g z c)/\Hid (rz (n - j) acc (z.drop c)=T)/\Hid (Touch (λk=>k=g) Y wr))
    exact⟨0,a3,[],rfl,aa,rfl,rfl,ax (λx f=>by simp at f),Ze,R6,R0,T6⟩
    case round=>
     obtain⟨j,c,acc,u,hj,rfl,hacc,HI,D,HR,WX,E⟩:=hrel;have HQ:=ax u;have M9:=E.o.size;have cb:=(E.o.C (o:=0) OY hne).T C2.o;clear u;by_cases hlt2:j<n
     .have U:=WX.o
      rw[show n - j=(n - (j+1))+1 by omega] at U;have C:=ax U;have hji:(j:Int)<(n:Int):=aa;have Zg:=ax (H6 V g z c wr HR.o cb hne N.o M);have Q_:=D.o.lt.2;clear U WX cb;go_wp2_with (go_at_fn 398;refine(Zg.o).M ?_)
      intro e F t;unfold iW at t;cases hA:vp (z.drop c) with
      | none=>
       simp only[hA] at t;have O:Hid (Ew z=none):=ax (Rp HA.o HA2.o WW.o (by rw[bY,HT.o];exact LU C.o hA));obtain⟨⟨pv,rfl⟩,y⟩:=t;have u:=ax (tt E.o y);clear hA y;go_wp21;exact⟨rfl,NO.o _ _ u.o O.o⟩
      | some p=>
       obtain⟨l,r⟩:=p;simp only[hA] at t;obtain⟨v,rfl,⟨X,h2b⟩,b,y⟩:=t;obtain⟨Q,R,ev,_,_,_⟩:=X.rd.form;subst ev;obtain⟨H,hll⟩:=Pa hA;have Lm:=ax (by rw[H];exact LS C.o hA:rz (n - (j+1)) (acc++[l]) (z.drop (ab0 z - ab0 r))=T);have m:Hid (∀x∈acc++[l],mm x/\ab0 x<=4096):=ax λx f=>by
        rcases cz.1 f with f|f
        .exact HI.o x f
        .simp only[bQ] at f;subst f;exact⟨h2b,hll⟩
       have P:=ax (D.o.stay λk d X=>y.block k X (λe=>by have e:k=g:=e;omega));have K:g8 iY gl F (jc (Q,ab0 l,R)) l:=(Rj.1 X).more aa;have L:(jc (Q,ab0 l,R)).ownBlock≠some gl:=λe=>by have:=(hO.lt X gl e).1;omega
       obtain⟨u,A,fu⟩:=P.o.C hlt2;have I:=ax (P.o.put aa K L);have R8:=ax (P.o.rdr b Ho j (jc (Q,ab0 l,R)));have B:Hid (Touch (λk=>k=g) Y (F.setCell (af7 gl j) (jc (Q,ab0 l,R)))):=ax ((tt E.o y).setCell (.inr Zf) _);rw[hacc] at I;obtain⟨uA,un,uc⟩:=u;simp only[jc] at A;clear hA X b y H K L D HR;generalize ab0 z - ab0 r=L at *;go_wp2;go_roundg (n - (j+1))
       exact⟨j+1,L,acc++[l],rfl,aa,af,by simp[hacc],m,I,R8,Lm,B⟩;have:=HQ.o;omega
     .obtain rfl:j=n:=aa
      have U:=WX.o;rw[cZ,rz] at U;have HK:Hid (Ew z=some (⟨k,S,acc⟩,z.drop c)):=ax (Ua HA.o HA2.o WW.o (by rw[bY,HT.o];exact U.Y));obtain⟨K,rfl⟩:∃K:Nat,k=K:=⟨k.toNat,aa⟩;obtain⟨u,rfl⟩:∃u:Nat,S=u:=⟨S.toNat,aa⟩;have r:∀i,mm (lvl acc i)/\ab0 (lvl acc i)<=4096:=λi=>by
       rcases bm i (ab0 acc) with d|d
       .rw[kZ d];exact HI.o _ (aP d)
       .rw[pF d];exact⟨λx f=>by simp at f,ad⟩
      have VU:=ax r;have I:=D.o.TU hacc;have TS:=ax (zd (K:Int) _ acc u wr I aa  aa  aa (λi=>by have:=(r i).2;omega));have Q:=ax (show wrap64 (K:Int)=(K:Int) by unfold wrap64;omega);have hwr:w.heap.size<=wr.heap.size:=aa;have HBR:Hid (af3 w wr):=ax (HB2.o.T (E.o.below (λi hi=>by have hi:i=g:=hi;omega) hwz));have CB:=ax cb;have Zh:V<wr.heap.size:=aa;have Zi:Hid ((¬jB K acc u\/z.drop c≠[]\/zE K acc u≠z)->∀k L S,¬O' z k L S):=ax λhor k L S hk=>by
       have d:=hk.rd;rw[HK.o] at d;injection d with d;injection d with d X;injection d with e1 e2 e3;have P:K=k:=Int.ofNat_inj.1 e1;have R:u=S:=Int.ofNat_inj.1 e2;subst P;subst R;subst e3;rcases hor with h|h|h
       .exact h hk.right
       .exact h X
       .exact h hk.eq
      have ha':c<=ab0 z:=by obtain⟨_,_,_,b⟩:=HR.o;exact b
      clear U WX I r D cb;have r:=Q.o;go_wp21;clear r Q;refine(TS.o).M ?_;rintro e w8 ⟨hor,P⟩;have UD:=ax (HBR.o.T (P.M hwr));rcases hor with⟨g2,rfl,hrt,F,hka,hF⟩|⟨rfl,hnr⟩
      .have H:=ax hrt
       have HKA:=ax hka;rw[bY] at HKA;have FK:Hid (∀x,F x->w.heap.size<=x):=ax λx f=>bf hwr (hF x f);have c8:=(P.C (p:=af7 V 0) Zh).T CB.o;have R8:=ax (HR.o.K P);have Zj:=ax (mA g z c w8 R8.o M);clear hrt hka hF P TS;by_cases hrest:c<ab0 z
       .have Q:=ax (Zi.o (.inr (.inl (λe=>by have:=bu List.length e;rw[aW,aY] at this;omega))))
        have r:(ab0 z:Int) - (c:Int) > 0:=aa;go_wp2_with (go_at_call 343;refine RX Zj.o ?_;rintro w' ⟨q,rfl⟩);refine⟨rfl,.inr ⟨⟨_,rfl⟩,Q.o⟩,below_drewN UD.o _⟩
       .have U:z.drop c=[]:=db aa
        have r:(ab0 z:Int) - (c:Int)=0:=aa;rw[r] at Zj;clear U r;go_wp2_with (go_at_call 343;refine RX Zj.o ?_;rintro w' ⟨q,rfl⟩);have m:=ax (below_drewN UD.o q);have A:=ax (HKA.o.K (below_drewN (aC _ _) q));have⟨B,U⟩:=ar (w8.drewN q);rw[U] at m A |-;obtain⟨lv,vs,r⟩:=A.o;have Vi:=ax (zc B r H.o.fit.ok (λi=>(VU.o i).1) aa)
        have VV:ab0 (zE K acc u)<=1000000000000:=by
         have d:=JD K acc u;have X:cnt acc<=_:=H.o.fit.ok.TX;have b:ab0 acc<=49:=H.o.hlen;omega
        clear U r c8;refine WE Vi.o ?_;rintro v10 w10 ⟨R,U⟩;have I:=ax (m.o.T (U.M m.o.size));have Zk:=ax (A.o.K U);have C:=ax (lJ v10 _ (zE K acc u) z w10 (hO.rd R) (WQ.o w10 I.o) VV M);obtain⟨A10,c10,ev,_,_,_⟩:=(hO.rd R).form;have⟨n10,r⟩:=ar (ab0 (zE K acc u));rw[r] at ev;subst ev;clear R U r VV;go_wp21;refine RX C.o ?_;intro w11 r;have U:=ax (I.o.T (r.M I.o.size));have Zl:=ax (Zk.o.K r);clear r C;by_cases r:zE K acc u=z
        .have R:=ax r
         rw[bN r];clear r;go_wp2;refine ak ?_;exact⟨.inl ⟨g2,K,acc,u,F,rfl,⟨H.o,λi=>(VU.o i).1,R.o⟩,Zl.o,FK.o⟩,U.o⟩
        .have Q:=ax (Zi.o (.inr (.inr r)))
         rw[bq r];clear r;go_wp21;exact⟨rfl,.inr ⟨⟨_,rfl⟩,Q.o⟩,U.o⟩
      .have Q:=ax (Zi.o (.inl hnr))
       clear hnr P TS;go_wp21;refine⟨rfl,.inr ⟨⟨_,rfl⟩,Q.o⟩,UD.o⟩
end
section
variable{h2:Nat}
def catch_panicking(z y:Nat)(b a:Value)(s:ByteArray)(w:World)(r:w.cell? (af7 z 0)=some b)(q:w.cell? (af7 y 0)=some a)(X:w.frozen? (af7 z 0)=false)(V:w.frozen? (af7 y 0)=false)(f:z≠y):CallsD prog 350 #[aq z,aq y] (.panicking ({v:=.iface 444 (.string s),recovered:=false}::[])) w λe c w'=>
  e=.returned (.tuple #[])/\c=.panicking ({v:=.iface 444 (.string s),recovered:=true}::[])/\w'.cell? (af7 z 0)=some (.pointer none)/\w'.cell? (af7 y 0)=some (af6 9)/\Touch (λk=>k=z\/k=y) w w':=by
 refine callsD_of_wpS func350 rfl λg Y d=>?_;apply wpS_seq
 apply wpS_region
 rw[ntmps350];simp[wpOpsS,go_sem,recoverD,d,Exit.thenS];refine wpS_of_wp ?_;have e:(#[aq z,aq y]++((Array.replicate 14 undef).setIfInBounds 3 (Value.iface 444 (Value.string s))).setIfInBounds 0 (Value.iface 444 (Value.string s)):Array Value)=#[aq z,aq y,Value.iface 444 (Value.string s),undef,undef,Value.iface 444 (Value.string s),undef,undef,undef,undef,undef,undef,undef,undef,undef,undef]:=rfl;rw[e];clear e;have U:∀(s:ByteArray) (w:World),(Instr.typeAssert (.iface 444 (.string s)) 20 444 true).run prog w=.ok (.tuple #[.string s,.bool true]) w:=λ_ _=>by kernel_rfl
 go_wp2;cases g
 have x:((af7 z 0):Addr)≠(af7 y 0):=λh=>f (by injection h);have u:((w.setCell (af7 z 0) (.pointer none)).setCell (af7 y 0) (af6 9)).cell? (af7 z 0)=some (.pointer none):=
  (bK _ _ _ _ x.Y).T (cY _ _ _ r)
 have t:((w.setCell (af7 z 0) (.pointer none)).setCell (af7 y 0) (af6 9)).cell? (af7 y 0)=some (af6 9):=
  cY _ _ _ ((bK _ _ _ _ x).T q)
 refine⟨rfl,_,rfl,.tuple #[],by simp[results,Tryz.results350,go_sem],rfl,rfl,u,t,?_⟩;exact((Touch.refl (λk=>k=z\/k=y) w).setCell (p:=af7 z 0) (.inl (.inl rfl)) _).setCell (p:=af7 y 0) (.inl (.inr rfl)) _
def catch_idle(y x:Nat)(w:World):CallsD prog 350 #[aq y,aq x] .returning w λe u w'=>e=.returned (.tuple #[])/\u=.returning/\w'=w:=by
 refine callsD_of_wpS func350 rfl λz v v=>?_;apply wpS_seq
 apply wpS_region
 simp[wpOpsS,go_sem,recoverD,v,ntmps350,Exit.thenS];refine wpS_of_wp ?_;go_wp2;cases z
 simp_all[bodyPostS,results,Tryz.results350]
def vr(z y:Nat)(s:ByteArray)(x w:World)(R:Ending->World->Prop)(u:Array Value)(Q:u[2]?=some (aq z))(P:u[3]?=some (aq y))
 (q p:Value) (g:w.cell? (af7 z 0)=some q) (d:w.cell? (af7 y 0)=some p) (c:w.frozen? (af7 z 0)=false) (b:w.frozen? (af7 y 0)=false) (V:z≠y) (O:x.heap.size<=z) (N:x.heap.size<=y) (t:af3 x w)
 (a:∀w',af3 x w'->R (.returned (.tuple #[.pointer none,af6 9])) w') :
 Leaves prog Tryz.f273 u R [{target:=.fn (.func 350) #[aq z,aq y],args:=#[]}] (.panicking [{v:=.iface 444 (.string s),recovered:=false}]) w:=by
 refine leaves_cons (f:=350) (args:=#[aq z,aq y]) ad (by simp[go_sem]) ?_;refine(catch_panicking z y q p s w g d c b V).M ?_;rintro e M r ⟨rfl,rfl,U,T,S⟩;have Y:af3 x r:=t.T (S.below (λi X=>by rcases X with rfl|rfl<;>assumption) t.size);refine⟨.tuple #[.pointer none,af6 9],?_,a r Y⟩;simp[results,Tryz.results273,go_sem,Q,P,U,T]
def sf(z y:Nat)(w:World)(R:Ending->World->Prop)(x:Array Value)(q:x[2]?=some (aq z))(p:x[3]?=some (aq y))
 (v u:Value) (t:w.cell? (af7 z 0)=some v) (s:w.cell? (af7 y 0)=some u) (r:R (.returned (.tuple #[v,u])) w) :
 Leaves prog Tryz.f273 x R [{target:=.fn (.func 350) #[aq z,aq y],args:=#[]}] .returning w:=by
 refine leaves_cons (f:=350) (args:=#[aq z,aq y]) ad (by simp[go_sem]) ?_;refine(catch_idle z y w).M ?_;rintro e g d ⟨rfl,rfl,rfl⟩;refine⟨.tuple #[v,u],?_,r⟩;simp[results,Tryz.results273,go_sem,q,p,t,s]
def nG(X:World)(a b:Value){x y:Value}(v:X.cell? (af7 h2 0)=some x)(u:X.cell? (af7 (h2+1) 0)=some y):((X.setCell (af7 h2 0) a).setCell (af7 (h2+1) 0) b).cell? (af7 h2 0)=some a/\((X.setCell (af7 h2 0) a).setCell (af7 (h2+1) 0) b).cell? (af7 (h2+1) 0)=some b:=by
 have z:((af7 h2 0):Addr)≠(af7 (h2+1) 0):=λh=>by injection h with h;omega
 exact⟨(bK _ _ _ _ z.Y).T (cY _ _ _ v),cY _ _ _ ((bK _ _ _ _ z).T u)⟩
def kT{w X:World}(z:af3 w X)(h:w.heap.size<=h2)(a b:Value):af3 w ((X.setCell (af7 h2 0) a).setCell (af7 (h2+1) 0) b):=
 (z.setCell (p:=af7 h2 0) h a).setCell (p:=af7 (h2+1) 0) (by show _<=h2+1;omega) b
def oq(bs:List Int)(w:World)(e:Ending)(w':World):Prop:=
 ((∃(g k:Nat) (L:LL) (led:Nat) (F:Nat->Prop),e=.returned (.tuple #[aq g,af6 0])/\O' bs k L led/\AL F w' g k L led/\∀x,F x->w.heap.size<=x)\/(e=.returned (.tuple #[.pointer none,af6 9])/\∀k L led,¬O' bs k L led))/\af3 w w'
def LW(v:Value)(y:List Int)(w:World)(h:jC .u8 w v y)(z:jE y)(A:ab0 y<=1000000000):af4 af5 273 #[v] w (oq y w):=by
 have E:=ax h;have H:=ax z;clear h z;go_enter_defers func273,ntmps273
 go_wp21;obtain⟨u,x⟩:∃u,u=(w.alloc (.cells #[.pointer none] 122)).alloc (.cells #[af6 0] 43):=⟨_,rfl⟩;have Y:af3 w u:=by rw[x];exact((aC _ _).alloc (aD _) _).alloc ad _
 have X:Hid (g7 u w.heap.size 122 #[.pointer none]):=by show g7 _ _ _ _;rw[x];exact(g7.new _ _ _).alloc _
 have a:Hid (g7 u (w.heap.size+1) 43 #[af6 0]):=by
  show g7 _ _ _ _;rw[x];have h:=g7.new (w.alloc (.cells #[.pointer none] 122)) 43 #[af6 0]
  rwa [aI] at h
 have⟨z,t⟩:=ar (w.heap.size);rw[<-x];rw[t] at X a |-;have o:=a.o.lt;have R:w.heap.size<=z:=aa
 have D:=ax (LV v y u (Rd.K E.o Y) H.o A);have M:=Y.size;clear x t;refine(D.o).M ?_;rintro e t ⟨j,r⟩;have d:=ax (X.o.K r);have c:=ax (a.o.K r);have V:=ax (Y.T (r.M M));rcases j with⟨g,k,L,l,F,rfl,P,O,Q⟩|⟨⟨s,rfl⟩,N⟩
 .have G:=ax P
  have T:=ax O;have U:=ax Q;have q:=d.o.k0;have f:=c.o.k0;have J:=d.o.F 0;have I:=c.o.F 0;clear P O Q r;go_wp21;have K:=nG t (aq g) (af6 0) q f;refine(show Leaves prog Tryz.f273 _ (oq y w) _ .returning _ from ?_);refine sf z (z+1) _ _ _ rfl rfl _ _ K.1 K.2 ?_;have S:Touch (λk=>k=z\/k=z+1) t ((t.setCell (af7 z 0) (aq g)).setCell (af7 (z+1) 0) (af6 0)):=((Touch.refl _ t).setCell (p:=af7 z 0) (.inl (.inl rfl)) _).setCell (p:=af7 (z+1) 0) (.inl (.inr rfl)) _;refine⟨.inl ⟨g,k,L,l,F,rfl,G.o,T.o.stay (λx b=>?_) S.size,λx b=>bf M (U.o x b)⟩,kT V.o R _ _⟩;have m:=U.o x b;have C:x<t.heap.size:=by
   obtain⟨n,W,B⟩:=T.o;exact B.low x b
  exact S.block x C (λe=>by rcases e with e|e<;>omega)
 .have x:=ax N
  have q:=d.o.k0;have f:=c.o.k0;have J:=d.o.F 0;have I:=c.o.F 0;clear N r;go_wp21;refine(show Leaves prog Tryz.f273 _ (oq y w) _ (.panicking _) _ from ?_);exact vr z (z+1) s w t _ _ rfl rfl _ _ q f J I aa R aa V.o (λw' p=>⟨.inr ⟨rfl,x.o⟩,p⟩)
end
section
def LX{F:Nat->Prop}{g k n led:Nat}{lv:Value}{vs:List Sv}{L:LL}(q:Value)(w:World)(v:rl F w g k n led lv vs L)(u:2<=k)(s:k<=1000000)(t:ab0 L<=1000)(r:cnt L<=1000000000)(x:jo k L=none):af4 af5 178 #[aq g,q] w λe w'=>e=.returned (.tuple #[])/\w=w':=by
 have z:=ax (yO w v u s t r);have y:qG k L=-1:=by unfold qG;rw[x]
 rw[y] at z;clear v x y;go_in;go_wp21;refine Ix z.o ?_;go_wp2;go_loopg [4] 0 (λ_ y wr=>y=af6 (-1)/\w=wr)
 exact⟨rfl,rfl⟩
 case round=>
  obtain⟨rfl,rfl⟩:=hrel;go_wp21
  go_end0
  exact⟨rfl,rfl⟩
end
section
variable{k led:Nat}{L:LL}
def jB.Ub(h:jB k L led)(j:Nat):ab0 (lvl L j)<=4096:=by
 rcases bm j (ab0 L) with z|z
 .refine bf (h.iN j z).1 (bf (room_le ?_) ?_)
  .rw[bY];have:=h.k8;omega
  .rw[bY];have:=h.k4;omega
 .rw[pF z];simp
def jB.by_(h:jB k L led)(u:∀j,mm (lvl L j)):jE (zE k L led):=
 TY aa (aa2 h.k4) (aa2 h.BZ) (aa2 h.hlen) λl t=>by
  obtain⟨j,x,rfl⟩:=dt t;have z:=h.iN j x;have y:=u j;have v:=h.Ub j;rw[kZ x] at z y v;exact⟨y,z.2,aa⟩
def jB.len_(h:jB k L led):ab0 (zE k L led)<=1000000000:=by
 have z:=JD k L led;have y:cnt L<=_:=h.fit.ok.TX;have x:=h.hlen;omega
def LY(v:Value)(w:World)(h:jC .u8 w v (zE k L led))(z:jB k L led)(y:∀j,mm (lvl L j)):af4 af5 273 #[v] w λe w'=>∃(g:Nat) (F:Nat->Prop),e=.returned (.tuple #[aq g,af6 0])/\AL F w' g k L led/\(∀x,F x->w.heap.size<=x)/\af3 w w':=by
 refine(LW v _ w h (z.by_ y) z.len_).M ?_;rintro e w' ⟨q,u⟩;rcases q with⟨g,f,p,d,F,rfl,t,s,x⟩|⟨rfl,r⟩
 .obtain⟨rfl,rfl,rfl⟩:=t.uniq ⟨z,y,rfl⟩
  exact⟨g,F,rfl,s,x,u⟩
 .exact absurd ⟨z,y,rfl⟩ (r k L led)
end
def LZ{F G:Nat->Prop}{g h k n m led i6 a b:Nat}{lv FM:Value}{vs vs2:List Sv}{L M:LL}(w:World)(u:rl F w g k n led lv vs L)(z:rl G w h k m i6 FM vs2 M)
 (y:ku (L,led,a)) (v:ku (M,i6,b)) (f:n=wt L) (p:m=wt M) (hnm:n+m<=281474976710656) (hcn:cnt L+cnt M<=900000) (c:2<=k) (hk:k<=1000000) (s:jo k (jT L M)=none) :
 af4 af5 106 #[aq g,aq h,.pointer none] w λe r=>e=.returned (af6 0)/\∃t x q,rl t r g k (n+m) (min (led+i6) 4611686018427387904) x q (jT L M)/\(∀x,t x->F x\/w.heap.size<=x)/\(∀x,F x->t x)/\Touch F w r:=by
 have V:=ax (sd y v aa hcn);have HT:=ax z;have O:=ax u;have FK:=ax s;have PW:=ax y.jk;have Sw:led<=4611686018427387904:=y.led;have Sx:i6<=4611686018427387904:=v.led;have hlenL:ab0 L<=49:=y.len;have Sy:ab0 M<=49:=v.len;have S:=u.cell0;have d:=u.cell2;have t:=z.cell0;have q:=z.cell2;have o:=ax z.cell2;have W:=ax z.AH;have E:=z.blk.lt;have hcM:cnt M<=1000000000:=aa;clear u z y v f p s;go_in;go_wp21
 go_quiet (fail)
 go_wp21
 go_quiet (fail)
 go_upto_region 7 with fail;clear S d t q;have Z:=ax (λ(r:World) (z:af3 w r)=>(aB ((z.C (p:=af7 h 2) E).T o.o) ((z.C (p:=af7 h 3) E).T W.o)));refine jh (λr=>af3 w r) (hQ 0 1 (hQ 2 8 (ik 1 (hQ 10 3 [])))) (bw) ?_;iterate 9 refine ib ?_
 refine iz λK H=>?_;go_simp;refine(s4 _ (HT.o.K (bw)) aa hcM).M ?_;rintro e u ⟨Y,f,rfl,y,z⟩;have P:=ax y;have q:af3 w u:=Below.T (bw) z;clear y z;refine H _ _ (q) ?_;iterate 3 refine ib ?_
 refine g4 ?_;have Q:=ax (by have v:=P.o;simpa only[ir] using v:zD w.heap.size u Y f M);have s:=ax (O.o.K q);have I:=s.o.cell2;have J:=s.o.blk.F 2;go_upto_region 9 with fail;have U:=s.o.Hf (.int .u64 (n+m:Nat));rw[dx] at U;have y:=ax U;have T:Hid (Touch F w (u.setCell (af7 g 2) (.int .u64 ((n:Int)+(m:Int))))):=ax ((Touch.of_below q (aD _)).setCell (.inl s.o.fg) _);have R:Hid (jQ F u Y f M):=ax (jQ.oX Q.o λz e=>O.o.low z e);have X:Hid (jQ F (u.setCell (af7 g 2) (.int .u64 ((n:Int)+(m:Int)))) Y f M):=ax (R.o.next (λz _ v=>a_ u (af7 g 2) _ z (λe=>v (by rw[e];exact s.o.fg))) ad (λz e=>.inl e));have⟨t,N⟩:=ar (u.setCell (af7 g 2) (.int .u64 ((n:Int)+(m:Int))));rw[N] at y T X |-;clear N U I J s Q P R q;have J:t.cell? (af7 g 3)=some (.int .u64 led):=y.o.AH;have P:=y.o.blk.F 3
 go_upto_region 10 with fail;have R:rl F (t.setCell (af7 g 3) (.int .u64 (min (led+i6) 4611686018427387904:Nat))) g k (n+m) (min (led+i6) 4611686018427387904) lv vs L:=by
  have:=y.o.Tt (.int .u64 (min (led+i6) 4611686018427387904:Nat));rw[<-dx] at this;exact this
 have q:Hid (min ((led:Int)+(i6:Int)) 4611686018427387904=((min (led+i6) 4611686018427387904:Nat):Int)):=ax aa;rw[q.o];have N:Hid (Touch F w (t.setCell (af7 g 3) (.int .u64 (min (led+i6) 4611686018427387904:Nat)))):=ax (T.o.setCell (.inl y.o.fg) _);have s:Hid (jQ F (t.setCell (af7 g 3) (.int .u64 (min (led+i6) 4611686018427387904:Nat))) Y f M):=ax (X.o.next (λz _ v=>a_ t (af7 g 3) _ z (λe=>v (by rw[e];exact y.o.fg))) ad (λz e=>.inl e));have U:=ax R;have⟨w3,Q⟩:=ar (t.setCell (af7 g 3) (.int .u64 (min (led+i6) 4611686018427387904:Nat)));rw[Q] at U N s |-;clear Q R J P y T X q;obtain⟨l,S,I,_,_,_⟩:=s.o.now.row.form;rw[s.o.now.len] at I;subst I;have⟨R,y⟩:=ar (min (led+i6) 4611686018427387904);rw[y] at U V |-;have OJ:=ax y;clear y
 go_wp2;go_loopg [10,11,66] (ab0 M) (λq _ _ i wr=>∃(j:Nat) (X:Nat->Prop) (Q:Value) (P:List Sv),q=ab0 M - j/\j<=ab0 M/\i=af6 (j:Int)/\Hid (VH F w g k (n+m) R L M (.slice l (ab0 M) S) f j X wr Q P))
 exact⟨0,F,lv,vs,aa,aa,rfl,ax ⟨U.o,s.o,λ_ h=>.inl h,λ_ h=>h,N.o⟩⟩
 case round=>
  obtain⟨j,X,Q,P,q,hj,rfl,y⟩:=hrel;have HQ:=ax q;clear q;have hsz:=y.o.touch.size;by_cases hjl:j<ab0 M
  .obtain⟨gl,off,sA,sc,eA,hgl,T,d,_⟩:=y.o.al.now.at_ hjl
   subst eA;have VI:ab0 (takeN M j L)<=49:=by rw[kS];omega
   have hlj:ab0 (lvl M j)<=900000:=by have:=iD M j;omega
   have hlN:ab0 (lvl (takeN M j L) j)<=900000:=by have:=iD (takeN M j L) j;have v:=rY M L j aa ;have c:=rn M j;omega
   have q:=ax (put_any j (jc (sA,ab0 (lvl M j),sc)) (lvl M j) wr y.o.st (y.o.al.one T) (r' PW.o j j) aa  aa  aa  aa);have⟨x,J⟩:=ar (ab0 (lvl M j));rw[J] at d q;clear T J;go_wp21;refine RX q.o ?_;rintro w5 ⟨F2,OM,TV,D,C,B,A⟩;have J:=ax D;have Q2:=ax C;have Q3:=ax B;have T:=ax A;clear D C B A q d;go_wp2;go_roundg (ab0 M - (j+1))
   case measure=>have:=HQ.o;omega
   case rel=>
    refine⟨j+1,F2,OM,TV,rfl,aa,af,ax ⟨Q3.o,?_,?_,?_,?_⟩⟩
    .exact y.o.al.next (λz v c=>T.o.block z v c) T.o.size J.o
    .intro z q
     rcases J.o z q with v|v
     .exact y.o.sub z v
     .exact .inr aa
    .exact λz q=>Q2.o z (y.o.sup z q)
    .exact y.o.touch.T T.o λi D=>y.o.sub i D
  .obtain rfl:j=ab0 M:=aa
   have T:=ax (LX (.func (.func 179) #[.pointer none] #[]) wr y.o.st c hk (by have:=V.o.len;exact bf this ab) (by have:=V.o.cnt;exact bf this ab) FK.o);go_wp21;refine RX T.o ?_;intro t J;subst J;clear T;go_wp2;refine ak ?_;rw[OJ.o];exact⟨rfl,X,Q,P,y.o.st,y.o.sub,y.o.sup,y.o.touch⟩
