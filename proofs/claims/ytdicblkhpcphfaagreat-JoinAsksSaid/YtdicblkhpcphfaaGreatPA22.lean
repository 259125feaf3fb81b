/- Parts. No condition. -/
import Derived.Test.YtdicblkhpcphfaaGreatPA21
set_option maxRecDepth 100000
set_option maxHeartbeats 0
set_option linter.all false
namespace Go.Proofs.YtdicblkhpcphfaaGreat
open Tryz Go.RowKit
open _root_.List renaming length→ao
open _root_.Go renaming Calls→ar
open Tryz renaming prog→Oe
namespace K
variable{s s0:KS}{B l:List Int}{L M:LL}{a base c cg g ga h j k led n r sc y:Nat}{w w' wr:World}{F F1:Nat->Prop}{cv lv:Value}{vs:List Sv}
structure jn(s:KS):Prop where
 iJ:∀j,mQ (lvl s.1 j)
 top:AO s.1
 wt:wt s.1<=281474976710656
 cnt:cnt s.1<=1000000
 led:s.2.1<=4611686018427387904
def jn.len(h:jn s):ao s.1<=49:=Nk h.top h.wt
def KI(h:mQ l):mQ (lQ l):=h.sublist (List.drop_sublist ..)
def KJ(z:h<ao L)(c j:Nat):lvl (k_ L h c) j=if j=h+1 then insL (lvl L (h+1)) (Km (lvl L h) c) else if j=h then lQ (lvl L h) else lvl L j:=by
 unfold k_;rw[kL,mn _ _ _ _ z,mn _ _ _ _ z,aG (show ¬h+1=h by omega)]
def jn.step(z:jn s)(e:iY k s.1=some h):jn (j8 B h s):=by
 obtain⟨y,x,_⟩:=kx e;have u:=tF (k:=k) y;have v:=xz y (iB B s.2.2);refine⟨λj=>?_,z.top.pack y aa _,?_,?_,?_⟩
 ·show mQ (lvl (k_ s.1 h (iB B s.2.2)) j)
  rw[KJ y]
  split
  ·exact uY (z.iJ _) _
  ·split
   ·exact KI (z.iJ _)
   ·exact z.iJ j
 ·show Go.Proofs.YtdicblkhpcphfaaGreat.K.wt (k_ s.1 h (iB B s.2.2))<=_
  rw[AM y];exact z.wt
 ·show Go.Proofs.YtdicblkhpcphfaaGreat.K.cnt (k_ s.1 h (iB B s.2.2))<=_
  have:=z.cnt;omega
 ·show min _ _<=_
  omega
def _root_.Go.Proofs.YtdicblkhpcphfaaGreat.gO.ef{α:Type}{E:uJ α}{A:Option Addr}{l:List α}(h:gO E base w (.slice A n c) l):jQ E w A l:=by
 obtain⟨y,x,e,_,_,z⟩:=h.form;injection e with e;subst e;exact z
def _root_.Go.Proofs.YtdicblkhpcphfaaGreat.gO.TF{m:Nat}(h:gO ig base w (.slice (some ⟨ga,0,none⟩) (ao l) sc) l)(s:m<=ao l) :
 iA ig w (.slice (if sc=m then some ⟨ga,0,none⟩ else some ⟨ga,m,none⟩) (ao l - m) (sc - m)) (l.drop m):=by
 obtain⟨x,v,e,u,t,y⟩:=h.form;injection e with e1 e2 e3;subst e1;subst e3;rw[<-aZ]
 by_cases z:sc=m
 ·rw[aH z]
  have:l.drop m=[]:=de aa
  rw[this];exact iA.jj ad aa jQ.nil
 ·rw[aG z]
  refine iA.jj (by rw[aZ];omega) aa ?_
  have:=y.drop rfl m
  rwa [show 0+m * ig.k=m by show 0+m * 1=m;omega] at this
def Nr(v:h<=48):IntKind.u64.wrap (1 * 2 ^ h)=((2 ^ h:Nat):Int):=by
 have y:2 ^ h<=281474976710656:=bJ ab v
 have x:(2:Int) ^ h=((2 ^ h:Nat):Int):=by rw[eM];rfl
 rw[ek,x,dt];generalize 2 ^ h=z at y;omega
def Fo(l:List Int)(c i:Nat):List Int:=(List.range i).map λi=>l.getD (2 * i+c) 0
def Ba(l:List Int)(c i:Nat):Fo l c (i+1)=Fo l c i++[l.getD (2 * i+c) 0]:=by unfold Fo;rw[List.range_succ,eh];rfl
def vj(l:List Int)(c i:Nat):ao (Fo l c i)=i:=by simp[Fo]
def Fp(l:List Int)(c:Nat):Fo l c (ao l / 2)=Km l c:=rfl
def KC.stay{v:Value}(h:KC w g r v B a)(z:w'.heap[g]?=w.heap[g]?)(x:w'.heap[r]?=w.heap[r]?)(y:∀k,v.ownBlock=some k->w'.heap[k]?=w.heap[k]?)(u:w.heap.size<=w'.heap.size):KC w' g r v B a:=
 ⟨z.trans h.blk,h.rd.stay x y u,h.ne,h.nv⟩
structure yS(F:Nat->Prop)(w:World)(g k n cg r:Nat)(cv:Value)(B:List Int)(s0:KS)(F1:Nat->Prop)(wr:World)(lv:Value)(vs:List Sv)(s:KS):Prop where
 st:oy F1 wr g k n s.2.1 lv vs s.1
 co:KC wr cg r cv B s.2.2
 ok:jn s
 eq:iK k B s0=iK k B s
 sub:∀k,F1 k->F k\/w.heap.size<=k
 sup:∀k,F k->F1 k
 touch:Touch (λk=>F k\/k=r) w wr
structure vk(F:Nat->Prop)(w:World)(cg r:Nat)(cv:Value):Prop where
 fg:¬F cg
 fr:¬F r
 fv:∀k,cv.ownBlock=some k->¬F k/\k<w.heap.size
 lg:cg<w.heap.size
 lr:r<w.heap.size
def Bb(w:World)(u:oy F w g k n s0.2.1 lv vs s0.1)(t:KC w cg r cv B s0.2.2)(hf:vk F w cg r cv)(v:jn s0)(o:2<=k)(W:k<=1000000) :
 ar Oe 178 #[.pointer (some ⟨g,0,none⟩),.func (.func 179) #[.pointer (some ⟨cg,0,none⟩)] #[]] w λe H=>e=.returned (.tuple #[])/\∃z y x,yS F w g k n cg r cv B s0 z H y x (iK k B s0)/\iY k (iK k B s0).1=none:=by
 have TG:Hid (yS F w g k n cg r cv B s0 F w lv vs s0):=ay ⟨u,t,v,rfl,λk W=>.inl W,λk W=>W,Touch.refl _ _⟩
 have Xs:=ay (vi w u o W (by have:=v.len;omega) (by have:=v.cnt;omega))
 have P:=ay hf;clear u t v hf
 go_in
 go_wp2_with fail;refine(Xs.o).mono ?_
 rintro e w1 ⟨rfl,rfl⟩
 go_wp2
 go_loopg [4,5,6,7,8,9,29] (cnt s0.1) (λq z _ _ _ _ _ _ wr=>∃A Cs vs1 s,q=cnt s.1/\z=.int .i64 (oL k s.1)/\Hid (yS F w g k n cg r cv B s0 A wr Cs vs1 s))
 exact⟨F,lv,vs,s0,rfl,rfl,TG⟩
 case round=>
  obtain⟨A,Cs,vs1,s,hq,rfl,U⟩:=hrel;have HQ:=ay hq;clear hq
  cases hfu:iY k s.1 with
  | none=>
   have C:oL k s.1=-1:=by unfold oL;rw[hfu]
   rw[C];have Ch:=ay hfu;clear hfu C
   go_wp2_with fail
   go_end0
   refine⟨rfl,A,Cs,vs1,?_⟩
   have D:=U.o.eq;rw[ox Ch.o] at D;rw[D];exact⟨U.o,Ch.o⟩
  | some h=>
   have C:oL k s.1=h:=by unfold oL;rw[hfu]
   rw[C];obtain⟨hh,f,_⟩:=kx hfu;have Ch:=ay hfu;clear hfu C;have hlen:=U.o.ok.len;have p:=tF (k:=k) hh;obtain⟨d,cc,sA,sc,Mq,u,Ds,qW,v,c,Y,z,x⟩:=U.o.st.at_ hh;subst Mq;have J:=U.o.st.cell1;have hx2:2<=ao (lvl s.1 h):=aa
   have QJ:=hD s.1 h;have hcn:=U.o.ok.cnt;obtain⟨l,y⟩:=au (lvl s.1 h);rw[y] at c z x v hx2 QJ;have HL:=ay y;obtain⟨ga,c5,es,_,TH,hc5,hc6⟩:=z.pos aa
   injection es with es1 es2 es3;subst es1;subst es3;have t:=ay z;have HOWN:=ay x;have Vn:=ay v;have b:=ay (Hq cg r cv B s.2.2 wr U.o.co);clear y z x v f p;have y:∀z,A z->z≠r/\z≠cg/\cv.ownBlock≠some z:=λz hk1=>by
    have a1:=P.o.lr;have a2:=P.o.lg
    rcases U.o.sub z hk1 with f|f
    ·exact⟨λe=>P.o.fr (e▸f),λe=>P.o.fg (e▸f),λe=>(P.o.fv z e).1 f⟩
    ·exact⟨by omega,aa,λe=>by have:=(P.o.fv z e).2;omega⟩
   have I:=ay y;clear y
   go_wp2_with fail;refine(b.o).mono ?_
   rintro e V ⟨rfl,p,v⟩;have TI:=ay p;have KK:Hid (oy A V g k n s.2.1 (.slice (some ⟨d,0,none⟩) (ao s.1) cc) vs1 s.1):=ay (U.o.st.stay (λz hk1=>v.block z (U.o.st.low z hk1) (I.o z hk1).1) v.size)
   have PR:Hid (Touch (λk=>F k\/k=r) w V):=ay (U.o.touch.trans v λi y=>.inl (.inr y))
   have KL:=ay U.o.ok;have TJ:=ay U.o.eq;have Dx:=ay U.o.sub;have TK:=ay U.o.sup;have C2:=ay ((bA (a:=⟨d,h,none⟩) (v.block d u (I.o d qW).1)).trans c);have TM:=ay ((df (a:=⟨d,h,none⟩) (v.block d u (I.o d qW).1)).trans Y);have uS:d<V.heap.size:=aR u v.size;have Xt:g<V.heap.size:=KK.o.blk.lt;have Vo:Hid (gO ig 0 V (.slice (some ⟨ga,0,none⟩) (ao l) sc) l):=ay (t.o.stay λz e=>v.block z (t.o.lt z e).2 (I.o z (HOWN.o z e).1).1)
   have KM:=p_ B s.2.2;obtain⟨y,x⟩:=au (iB B s.2.2);rw[x] at KM |-;have HY:=ay x;have hlc:ao l<=1000000:=aa
   clear p v x b U t J c Y u;obtain⟨i0,t,u,v,x⟩:=cx Dl;have HI:=ay t;have HZ:=ay u;have Rw:=ay v;have PO:=ay x;clear t u v x
   go_wp2
   go_loopg [8,9,29] (ao l / 2) (λq u _ i x=>∃j:Nat,q=ao l / 2 - j/\j<=ao l / 2/\i=.int .i64 (j:Int)/\Hid (gO ig V.heap.size x u (Fo l y j))/\Hid (aq V x))
   exact⟨0,rfl,aa,rfl,ay (gO.nil_ _ _),ay (aC _ _)⟩
   case round=>
    obtain⟨j,hq,hj,rfl,M,Q⟩:=hrel;have Q9:=ay hq;clear hq
    by_cases hjl:j<ao l / 2
    ·have R:2 * j+y<ao l:=aa
     have N:=ay Vo.o.ef;obtain⟨m,G,Y,K,S⟩:=(N.o.keep Q.o).i64 R;injection Y with Y;injection Y with KN KO;subst KN;subst KO;rw[cJ] at S;have T:ao (Fo l y j)=j:=vj l y j;have b:Hid (Fo l y (j+1)=Fo l y j++[l[2 * j+y]]):=ay (by rw[Ba,List.getD,aQ R];rfl)
     obtain⟨x,t⟩:=au (l[2 * j+y]);rw[t] at S b;obtain⟨u,v⟩:=au (Fo l y j);rw[v] at M T b;have hzx:=Q.o.size;obtain⟨O,c5,rfl,_,_,_⟩:=M.o.form;rw[T] at M |-;clear t v
     go_wp2_with (at_builtin;refine g8 ig (ts:=196) i0 _ 8 underlying196 HI.o HZ.o Rw.o PO.o rfl ab  ab rfl (.tmp 32) (.tmp 40) rfl V.heap.size (.slice O j c5) u rfl (M.o.alloc _) _ [x] rfl (iA.hJ (E:=ig) _ x _ rfl _ rfl _ rfl) af  af ?_;intro L c t v q)
     have X:Hid (aq V c):=ay ((Q.o.alloc hzx _).grown v af (λk W=>(M.o.lt k W).1))
     have p:=ay t;clear t v q
     go_wp2
     go_roundg (ao l / 2 - (j+1))
     exact⟨j+1,rfl,aa,ag,ay (by rw[b.o];exact p.o),X⟩
     have:=Q9.o;omega
    ·obtain rfl:j=ao l / 2:=aa
     rw[Fp] at M;have hzx:=Q.o.size;have K1:Hid (wr.cell? ⟨g,1,none⟩=some (.slice (some ⟨d,0,none⟩) (ao s.1) cc)):=ay (KK.o.keep Q.o).cell1;have C3:Hid (wr.cell? ⟨d,h,none⟩=some _):=ay ((bA (a:=⟨d,h,none⟩) (Q.o.block d uS)).trans C2.o);have F3:Hid (wr.frozen? ⟨d,h,none⟩=false):=ay ((df (a:=⟨d,h,none⟩) (Q.o.block d uS)).trans TM.o);have Vp:=ay (Vo.o.keep Q.o);have hgr:g<wr.heap.size:=aa
     have Ns:d<wr.heap.size:=aa
     obtain⟨m,v⟩:=au (2 * (ao l / 2));have HW:Hid (IntKind.i64.wrap (2 * ((ao l:Int) / 2))=(m:Int)):=ay (by rw[cy _ aa];omega)
     have hml:m<=ao l:=aa
     have Xu:(m:Int)<=(ao l:Int):=aa
     have HM:=ay v;have Sw:=ay (Vp.o.TF hml);clear v
     go_upto_region 12 with fail;have Z:=ay (λ(H:World) (hS':aq wr H)=>(aF ((hS'.cell (p:=⟨g,1,none⟩) hgr).trans K1.o) (HW.o)))
     refine yC (λH=>aq wr H) 11 (yA 0 9 (CI 9 (yA 10 1 (CI 11 [])))) ((aC _ _).drew) ?_
     iterate 9 refine oQ ?_
     refine GF λK N=>?_
     go_simp;refine(sx _ (l.drop m) _ (Sw.o.keep (aC _ _).drew) (by rw[aZ];omega)).mono ?_
     rintro e T ⟨⟨R,n7,S⟩,rfl,v,q⟩;obtain⟨_,_,es,_,_,_⟩:=v.form;injection es with _ es2 _;rw[aZ] at es2;subst es2;have t:aq wr T:=((aC wr.heap.size wr).drew).trans q;have X:=ay v;clear v q;simp only[iW];refine N _ _ (t) ?_
     clear N K;refine oQ ?_
     refine yB λK N=>?_
     have v:=(bA (a:=⟨d,h,none⟩) (t.block d Ns)).trans C3.o;have f9:=(df (a:=⟨d,h,none⟩) (t.block d Ns)).trans F3.o
     go_simp;refine N _ _ ?_
     clear N K;refine jk ?_
     clear v f9;generalize (if sc=m then some (⟨ga,0,none⟩:Addr) else some (⟨ga,m,none⟩:Addr))=oA
     have L:=KK.o.keep Q.o;have hv3:h<ao vs1:=by rw[L.iC.len];exact hh
     have hodd:l.drop m=lQ (lvl s.1 h):=by rw[HL.o,<-HM.o];rfl
     have E:=l6.level (s':=(R,ao l - m,S)) (l':=lQ (lvl s.1 h)) (w1:=T) L hh rfl (by rw[<-hodd];exact X.o.more (bB _)) (λz f _=>t.block z f) t.size (.inr λz e=>(X.o.lt z e).1)
     have Y:=ay E;have TN:Hid (Touch (λk=>F k\/k=r) w (T.setCell ⟨d,h,none⟩ (iW (R,ao l - m,S)))):=ay (Touch.setCell ((PR.o.trans (Touch.of_below (F:=λ_=>False) Q.o (aD _)) (λ_ hf=>hf.elim)).trans (Touch.of_below (F:=λ_=>False) t (aD _)) (λ_ hf=>hf.elim)) (by
      rcases Dx.o d qW with f|f
      ·exact .inl (.inl f)
      ·exact .inr f) _)
     have G:∀z,(iW (R,ao l - m,S)).ownBlock=some z->wr.heap.size<=z:=λz e=>(X.o.lt z e).1
     have Fq:=ay G;have TO:Hid (gO ig V.heap.size (T.setCell ⟨d,h,none⟩ (iW (R,ao l - m,S))) u8 (Km l y)):=ay ((M.o.keep t).far (λe=>by have:=(M.o.lt d e).1;omega) _)
     have O:KC (T.setCell ⟨d,h,none⟩ (iW (R,ao l - m,S))) cg r cv B (jh B s.2.2):=by
      have b:∀z,z<V.heap.size->z≠d->(T.setCell ⟨d,h,none⟩ (iW (R,ao l - m,S))).heap[z]?=V.heap[z]?:=λz f o=>
       (bl T ⟨d,h,none⟩ _ z o).trans ((t.block z aa).trans (Q.o.block z f))
      have hzw:w.heap.size<=V.heap.size:=PR.o.size;have a1:=P.o.lr;have a2:=P.o.lg;have q:=I.o d qW;have TA:=t.size;refine TI.o.stay (b cg aa (λe=>q.2.1 e.symm)) (b r aa (λe=>q.1 e.symm)) (λz e=>b z (by have:=(P.o.fv z e).2;omega) (λD=>q.2.2 (by rw[e,D]))) af
     have i:=ay O;have TA:=t.size;have hzw:w.heap.size<=V.heap.size:=PR.o.size;obtain⟨c,v⟩:=au (T.setCell ⟨d,h,none⟩ (iW (R,ao l - m,S)));rw[v] at Y TN TO i;have TP:c.heap.size=T.heap.size:=by rw[<-v];simp
     show Exit.then _ _ Exit.normal _ (T.setCell ⟨d,h,none⟩ (iW (R,ao l - m,S)))
     rw[v];clear E v G O L t X Sw Vp K1 C3 F3 hodd hv3;have O:=Y.o.u';have f3:=Y.o.blk.frozen 3;have yT:=KL.o.led;have PS:h<=48:=aa
     obtain⟨p,v⟩:=au (2 ^ h);have hpb:p<=281474976710656:=by rw[<-v];exact bJ ab PS
     have QL:Hid (IntKind.u64.wrap (1 * 2 ^ h)=(p:Int)):=ay (by rw[<-v];exact Nr PS)
     have SO:=ay v;clear v
     go_upto_region 13 with fail;have Z:=ay (λ(H:World) (hS':aq c H)=>(aF (QL.o) ((hS'.cell (p:=⟨g,3,none⟩) Y.o.blk.lt).trans O)))
     refine yC (λH=>aq c H) 11 (yA 0 9 (QB 9 1 (yA 10 1 (CI 11 [])))) ((aC _ _).drew) ?_
     iterate 9 refine oQ ?_
     refine JG ?_
     refine oQ ?_
     refine yB λK N=>?_
     have k9:(c.drew).cell? ⟨g,3,none⟩=_:=O;have f9:(c.drew).frozen? ⟨g,3,none⟩=false:=f3
     go_simp;refine N _ _ ?_
     clear N K;refine jk ?_
     have G:min (IntKind.u64.wrap ((s.2.1:Int)+IntKind.u64.wrap (2 ^ h))) 4611686018427387904=((min (s.2.1+p) 4611686018427387904:Nat):Int):=by
      have C:=QL.o;rw[ek] at C;rw[C,dt];omega
     rw[G];have L:oy _ ((c.setCell ⟨g,3,none⟩ (.int .u64 (min (s.2.1+p) 4611686018427387904:Nat))).drew) g k n (min (s.2.1+p) 4611686018427387904) _ _ _:=(Y.o.PL _).keep (aC _ _).drew;have Rx:=ay L;have Ry:=KK.o.fg;have Vq:Hid (Touch (λk=>F k\/k=r) w ((c.setCell ⟨g,3,none⟩ (.int .u64 (min (s.2.1+p) 4611686018427387904:Nat))).drew)):=ay (Touch.drew (Touch.setCell TN.o (by
      rcases Dx.o g Ry with f|f
      ·exact .inl (.inl f)
      ·exact .inr f) _))
     have X:∀z,u8.ownBlock=some z->V.heap.size<=z/\z<wr.heap.size:=M.o.lt;have Vr:Hid (gO ig V.heap.size ((c.setCell ⟨g,3,none⟩ (.int .u64 (min (s.2.1+p) 4611686018427387904:Nat))).drew) u8 (Km l y)):=ay ((TO.o.far (λe=>by have:=(X g e).1;omega) _).drew)
     have t:KC ((c.setCell ⟨g,3,none⟩ (.int .u64 (min (s.2.1+p) 4611686018427387904:Nat))).drew) cg r cv B (jh B s.2.2):=by
      have b:∀z,z≠g->((c.setCell ⟨g,3,none⟩ (.int .u64 (min (s.2.1+p) 4611686018427387904:Nat))).drew).heap[z]?=c.heap[z]?:=λz o=>bl c ⟨g,3,none⟩ _ z o
      have q:=I.o g Ry;exact i.o.stay (b cg (λe=>q.2.1 e.symm)) (b r (λe=>q.1 e.symm)) (λz e=>b z (λD=>q.2.2 (by rw[e,D]))) (by simp[World.drew])
     have Rz:=ay t;have Tc:((c.setCell ⟨g,3,none⟩ (.int .u64 (min (s.2.1+p) 4611686018427387904:Nat))).drew).heap.size=T.heap.size:=by rw[<-TP];simp[World.drew]
     obtain⟨E,v⟩:=au ((c.setCell ⟨g,3,none⟩ (.int .u64 (min (s.2.1+p) 4611686018427387904:Nat))).drew);rw[v] at Rx Vq Vr Rz Tc;show Exit.then _ _ Exit.normal _ ((c.setCell ⟨g,3,none⟩ (.int .u64 (min (s.2.1+p) 4611686018427387904:Nat))).drew)
     rw[v];clear v L t G O f3 Y TN TO i;have b:∀z,(A z\/(iW (R,ao l - m,S)).ownBlock=some z)->u8.ownBlock≠some z:=λz f e=>by
      have q:=X z e
      rcases f with f|f
      ·have:=KK.o.low z f;omega
      ·have:=Fq.o z f;omega
     have t:Aside (λz=>A z\/(iW (R,ao l - m,S)).ownBlock=some z) E u8 (Km l y):=Aside.lT Vr.o λz e f=>b z f e
     have v:lvl (s.1.set h (lQ (lvl s.1 h))) (h+1)=lvl s.1 (h+1):=by rw[mn _ _ _ _ hh,aG aa]
     have L:=ay (put_any (h+1) u8 (Km l y) E Rx.o t (by rw[v];exact KL.o.iJ _) aa (by rw[bD];omega) (by rw[v];have:=hD s.1 (h+1);omega) (by rw[ow];omega))
     have MQ:Hid (kk (s.1.set h (lQ (lvl s.1 h))) (h+1) (Km l y)=(j8 B h s).1):=ay (by rw[<-HL.o,<-HY.o];rfl)
     have PU:Hid (min (s.2.1+p) 4611686018427387904=(j8 B h s).2.1):=ay (by rw[<-SO.o];rfl)
     have TQ:Hid (jh B s.2.2=(j8 B h s).2.2):=ay rfl;have i:=ay (KL.o.step (B:=B) Ch.o);have Xv:=ay (mA (B:=B) Ch.o);have TR:=ay (TJ.o.trans (qT (B:=B) Ch.o));clear t b v X
     go_wp2_with fail;refine(L.o).mono ?_
     rintro e G ⟨rfl,F3,Xw,vs3,X,Y,t,b⟩;have Q1:=ay X;have Q2:=ay Y;have O:=ay b;rw[MQ.o,PU.o] at t;have Q3:=ay t;have v:=i.o;have TS:=ay (vi G t o W (by have:=v.len;omega) (by have:=v.cnt;omega))
     clear X Y t b v L
     go_wp2_with fail;refine(TS.o).mono ?_
     rintro e b ⟨rfl,rfl⟩
     go_wp2
     go_roundg (cnt (j8 B h s).1)
     case measure=>have:=HQ.o;have:=Xv.o;omega
     case rel=>
      refine⟨F3,Xw,vs3,j8 B h s,rfl,rfl,ay ⟨Q3.o,?_,i.o,TR.o,?_,?_,?_⟩⟩
      ·rw[<-TQ.o]
       have a1:=P.o.lr;have a2:=P.o.lg;have v:∀z,z<w.heap.size->(∀J,A J->z≠J)->G.heap[z]?=E.heap[z]?:=λz f o=>O.o.block z aa λt=>by
        rcases t with t|t
        ·exact o z t rfl
        ·have:=Fq.o z t;omega
       exact Rz.o.stay (v cg a2 λJ f e=>(I.o J f).2.1 e.symm) (v r a1 λJ f e=>(I.o J f).1 e.symm) (λz e=>v z (P.o.fv z e).2 λJ f D=>(I.o J f).2.2 (by rw[e,D])) O.o.size
      ·intro z t
       rcases Q1.o z t with q|q
       ·rcases q with q|q
        ·exact Dx.o z q
        ·have:=Fq.o z q
         exact .inr aa
       ·exact .inr aa
      ·exact λz t=>Q2.o z (.inl (TK.o z t))
      ·refine Vq.o.trans O.o λz t=>?_
       rcases t with q|q
       ·rcases Dx.o z q with v|v
        ·exact .inl (.inl v)
        ·exact .inr v
       ·have:=Fq.o z q
        exact .inr aa
def vk.next(h:vk F w cg r cv)(z:∀k,F1 k->F k\/w.heap.size<=k)(t:w.heap.size<=wr.heap.size):vk F1 wr cg r cv:=by
 have v:=h.lr;have u:=h.lg;refine⟨λe=>?_,λe=>?_,λk e=>⟨λx=>?_,?_⟩,aa,aa⟩
 ·rcases z cg e with e|e
  ·exact h.fg e
  ·omega
 ·rcases z r e with e|e
  ·exact h.fr e
  ·omega
 ·have:=h.fv k e
  rcases z k x with y|y
  ·exact this.1 y
  ·omega
 ·have:=(h.fv k e).2;omega
def KC.touch(h:KC w cg r cv B a)(z:vk F w cg r cv)(y:Touch F w w'):KC w' cg r cv B a:=
 h.stay (y.block cg z.lg z.fg) (y.block r z.lr z.fr) (λk e=>y.block k (z.fv k e).2 (z.fv k e).1) y.size
def yS.back{F':Nat->Prop}(h:yS F1 wr g k n cg r cv B s0 F' w' lv vs s)
 (x:∀k,F1 k->F k\/w.heap.size<=k) (u:∀k,F k->F1 k) (v:Touch F w wr):yS F w g k n cg r cv B s0 F' w' lv vs s:=by
 have t:=v.size;refine⟨h.st,h.co,h.ok,h.eq,λy e=>?_,λy e=>h.sup y (u y e),?_⟩
 ·rcases h.sub y e with e|e
  ·exact x y e
  ·exact .inr aa
 ·refine(v.mono (G:=λk=>F k\/k=r) λ_ z=>.inl z).trans h.touch λi z=>?_
  rcases z with z|z
  ·rcases x i z with e|e
   ·exact .inl (.inl e)
   ·exact .inr e
  ·exact .inl (.inr z)
def and_one(m:Nat)(h:m<18446744073709551616):bits .and .u64 (m:Int) 1=((m % 2:Nat):Int):=by
 have z:=bits_and_u64_nat m 1 h aa
 rw[Nat.and_one_is_mod] at z;exact z
structure Nt(F:Nat->Prop)(w:World)(g k n led:Nat)(v:Int)(c:Nat)(L:LL)(j:Nat)(F1:Nat->Prop)(wr:World)(lv:Value)(vs:List Sv)(L1:LL):Prop where
 st:oy F1 wr g k n led lv vs L1
 eq:iU L v c=mq (64 - j) j (c / 2 ^ j) L1 v
 iJ:∀i,mQ (lvl L1 i)
 len:ao L1<=49
 cnt:cnt L1<=cnt L+j
 sub:∀k,F1 k->F k\/w.heap.size<=k
 sup:∀k,F k->F1 k
 touch:Touch F w wr
def rM(h:∀i,mQ (lvl L i))(j:Nat)(z:List Int):∀i,mQ (lvl (kk L j z) i):=λi=>by
 rw[kL]
 split
 ·exact uY (h _) _
 ·exact h i
def px(h:jn (L,led,a))(v:Int)(c:Nat)(z:wt L+c<=281474976710656)(x:cnt L<=900000):jn (iU L v c,led,a):=by
 refine⟨?_,h.top.add v c,?_,?_,h.led⟩
 ·exact sw (P:=λL=>∀i,mQ (lvl L i)) (λL h y=>rM y h [v]) 64 0 c L h.iJ
 ·show wt (iU L v c)<=_
  rw[yP _ _ aa];exact z
 ·show cnt (iU L v c)<=_
  have:=Kn L v c;omega
def Nu(v:Int)(w:World)(z:oy F w g k n led lv vs L)(x:KC w cg r cv B a)(u:vk F w cg r cv)(y:jn (L,led,a))
 (s:n=wt L) (hc0:0<c) (hc:n+c<=281474976710656) (hcn:cnt L<=900000) (h2:2<=k) (hk:k<=1000000) :
 ar Oe 133 #[.pointer (some ⟨g,0,none⟩),.int .i64 v,.int .u64 c,.pointer (some ⟨cg,0,none⟩)] w λe w'=>e=.returned (.int .i64 0)/\∃t q p,yS F w g k (n+c) cg r cv B (iU L v c,led,a) t w' q p (iK k B (iU L v c,led,a))/\iY k (iK k B (iU L v c,led,a)).1=none:=by
 have A:Hid (Nt F w g k (n+c) led v c L 0 F (w.setCell ⟨g,2,none⟩ (.int .u64 (n+c:Nat))) lv vs L):=ay ⟨z.Dj _,by simp[iU],y.iJ,y.len,aD _,λ_ h=>.inl h,λ_ h=>h,Touch.setCell (Touch.refl _ _) (.inl z.fg) _⟩
 have k2:=z.cell2;have f2:=z.blk.frozen 2;have l:=ay x;have N:=ay u;have o:=ay (px y v c aa hcn)
 clear z x u y s;have hc2:¬(c:Int) > 281474976710656 - (n:Int):=aa
 go_in
 go_wp2
 go_loopg [9] 64 (λq i wr=>∃(j:Nat) (d:Nat->Prop) (S:Value) (Q:List Sv) (y:LL),q=64 - j/\j<=49/\i=.int .i64 (j:Int)/\Hid (Nt F w g k (n+c) led v c L j d wr S Q y))
 case atStart=>
  have z:=A.o;rw[dI] at z;exact⟨0,F,lv,vs,L,rfl,aa,rfl,ay z⟩
 case round=>
  obtain⟨j,d,S,Q,y,x,hj,rfl,z⟩:=hrel;have J:=ay x;clear x;obtain⟨m,U⟩:=au (c / 2 ^ j);have hmc:m<=c:=by rw[<-U];exact dz ..
  have s:(c:Int) / 2 ^ j=(m:Int):=by
   rw[<-U,fX,eM];rfl
  have q:=ay U;have Y:=ay s;clear s;have hsz:=z.o.touch.size
  by_cases H:m=0
  ·have TU:¬(m:Int) > 0:=aa
   have u:y=iU L v c:=by rw[z.o.eq,q.o,H,sv]
   subst u;have x:=ay (Bb (s0:=(iU L v c,led,a)) wr z.o.st (l.o.touch N.o z.o.touch) (N.o.next z.o.sub hsz) o.o h2 hk)
   go_wp2_with (first|(have s:=Y.o;rw[s]))
   refine(x.o).mono ?_
   rintro e w2 ⟨rfl,b,R,P,t,p⟩;have f:=ay t;have X:=ay p;clear t p x
   go_wp2;refine an ?_
   exact⟨rfl,b,R,P,f.o.back z.o.sub z.o.sup z.o.touch,X.o⟩
  ·have TU:(m:Int) > 0:=aa
   have RA:j<=48:=by
    rcases bg j 49 with u|u
    ·omega
    ·have x:2 ^ 49<=2 ^ j:=bJ ab u
     have V:c / 2 ^ j=0:=eD aa
     have:=q.o;omega
   have x:c / 2 ^ (j+1)=m / 2:=by rw[b_,<-ei,q.o]
   have K:Hid (mq (64 - j) j m y v=mq (64 - (j+1)) (j+1) (m / 2) (if m % 2=1 then kk y j [v] else y) v):=ay (by
    rw[show 64 - j=(64 - (j+1))+1 by omega,mq,aG H])
   have M:=ay x;have O:=ay (and_one m aa)
   clear x;have RB:j+1<=49:=aa
   by_cases G:m % 2=1
   ·have T:((m % 2:Nat):Int)=1:=aa
    have V:=ay (put_any j (.slice (some ⟨wr.heap.size,0,none⟩) 1 1) [v] (wr.alloc (.cells #[.int .i64 v] 2)) (z.o.st.keep ((aC _ _).alloc (aD _) _)) (Aside.lT (gO.one (E:=ig) wr v _ rfl _ rfl) λx e u=>by
     have e:=bC (show some wr.heap.size=some x from e)
     have:=z.o.st.low x u;omega) (z.o.iJ j) aa (by have:=z.o.len;omega) (by have:=hD y j;have:=z.o.cnt;omega) ad)
    have s:=Y.o;have Xx:bits .and .u64 (m:Int) 1=1:=by rw[O.o];exact T
    go_wp2_with fail;refine(V.o).mono ?_
    rintro e w2 ⟨rfl,b,R,P,t,p,D,C⟩;have f:=ay t;have X:=ay p;have W:=ay D;have h:=ay C;have I:(wr.alloc (.cells #[.int .i64 v] 2)).heap.size=wr.heap.size+1:=ad
    rw[I] at t;have f:=ay t;clear t p D C V I
    go_wp2
    go_roundg (64 - (j+1))
    case measure=>have:=J.o;omega
    case rel=>
     refine⟨j+1,b,R,P,kk y j [v],rfl,aa,ag,ay ⟨W.o,?_,rM z.o.iJ j [v],?_,?_,?_,?_,?_⟩⟩
     ·rw[z.o.eq,q.o,M.o,K.o,aH G]
     ·rw[iF];have:=z.o.len;omega
     ·rw[mo];have:=z.o.cnt;simp;omega
     ·intro x V
      rcases f.o x V with u|u
      ·exact z.o.sub x u
      ·exact .inr aa
     ·exact λx V=>X.o x (z.o.sup x V)
     ·exact(z.o.touch.alloc _).trans h.o λi I=>z.o.sub i I
   ·have T:((m % 2:Nat):Int)=0:=aa
    have s:=Y.o;have Xx:bits .and .u64 (m:Int) 1=0:=by rw[O.o];exact T
    go_wp2
    go_roundg (64 - (j+1))
    case measure=>have:=J.o;omega
    case rel=>
     refine⟨j+1,d,S,Q,y,rfl,aa,ag,ay ⟨z.o.st,?_,z.o.iJ,z.o.len,?_,z.o.sub,z.o.sup,z.o.touch⟩⟩
     ·rw[z.o.eq,q.o,M.o,K.o,aG G]
     ·have:=z.o.cnt;omega
def add_zero(g:Nat)(v:Int)(q:Value)(w:World) :
 ar Oe 133 #[.pointer (some ⟨g,0,none⟩),.int .i64 v,.int .u64 0,q] w λe z=>e=.returned (.int .i64 4)/\w=z:=by
 go_in
 go_wp2
 go_ret;exact⟨rfl,rfl⟩
def add_over(v:Int)(c:Nat)(q:Value)(w:World)(z:oy F w g k n led lv vs L)(t:n<=281474976710656)(u:281474976710656<n+c)(TV:c<18446744073709551616) :
 ar Oe 133 #[.pointer (some ⟨g,0,none⟩),.int .i64 v,.int .u64 c,q] w λe y=>e=.returned (.int .i64 6)/\w=y:=by
 have s:=z.cell2;have x:(c:Int) > 281474976710656 - (n:Int):=aa
 clear z
 go_in
 go_wp2
 go_ret;exact⟨rfl,rfl⟩
structure sD(F:Nat->Prop)(w:World)(g k cg:Nat)(cv:Value)(B:List Int)(s0:KS)(F1:Nat->Prop)(wr:World)(lv:Value)(vs:List Sv)(s:KS):Prop where
 st:tn F1 wr g k s.2.1 lv vs s.1
 co:RC wr cg cv B s.2.2
 ok:jn s
 eq:iK k B s0=iK k B s
 sub:∀k,F1 k->F k\/w.heap.size<=k
 touch:Touch (λk=>F k\/k=cg) w wr
def sD.drew(h:sD F w g k cg cv B s0 F1 wr lv vs s):sD F w g k cg cv B s0 F1 wr.drew lv vs s:=
 ⟨h.st.keep (aC _ _).drew,h.co.stay rfl (λ_ _=>rfl) (aD _),h.ok,h.eq,h.sub,h.touch.drew⟩
structure s9(F:Nat->Prop)(w:World)(cg:Nat)(cv:Value):Prop where
 fg:¬F cg
 fv:∀k,cv.ownBlock=some k->¬F k/\k<w.heap.size
 lg:cg<w.heap.size
structure Dy(F:Nat->Prop)(w:World)(g k led cg ga sc:Nat)(cv lv:Value)(B:List Int)(a:Nat)(l:List Int)(F1:Nat->Prop)(wr:World)(vs:List Sv)(M:LL):Prop where
 st:tn F1 wr g k led lv vs M
 fa:¬F1 ga
 ol:gO ig 0 wr (.slice (some ⟨ga,0,none⟩) (ao l) sc) l
 co:RC wr cg cv B a
 sub:∀k,F1 k->F k\/w.heap.size<=k
 touch:Touch (λk=>F k\/k=cg) w wr
def l6.less{t:TypeId}{a:Value}{rest:List Value}(h:l6 t a rest F w g lv vs L)(x:ga≠g)(v:lv.ownBlock≠some ga)(u:∀i (y:i<ao vs),(iW vs[i]).ownBlock≠some ga) :
 l6 t a rest (λk=>F k/\k≠ga) w g lv vs L:=
 ⟨h.blk,⟨h.iC.row,h.iC.len,h.iC.each,h.iC.apart,h.iC.diff,λk e=>⟨h.iC.fl k e,λz=>v (z▸e)⟩,λi y k e=>⟨h.iC.fv i y k e,λz=>u i y (z▸e)⟩⟩,⟨h.fg,λe=>x e.symm⟩,h.g1,h.g2,λk z=>h.low k z.1⟩
def Dy.turn{led':Nat}{Dk:Value}{F2:Nat->Prop}{wx:World}{vs':List Sv}{M':LL}(h:Dy F w g k led cg ga sc cv lv B a l F1 wr vs M)
 (y:s9 F w cg cv) (x:Touch F1 wr wx) (p:tn F2 wx g k led' Dk vs' M') (u:∀k,F2 k->F1 k\/wr.heap.size<=k):Dy F w g k led' cg ga sc cv Dk B a l F2 wx vs' M':=by
 have r:=(h.ol.lt ga rfl).2;have d:=h.touch.size;have s:=y.lg;have v:∀z,z<w.heap.size->¬F z->¬F1 z:=λz f t e=>by
  rcases h.sub z e with e|e
  ·exact t e
  ·omega
 refine⟨p,λe=>?_,h.ol.stay λz e=>?_,h.co.stay (x.block cg aa (v cg s y.fg)) (λz e=>x.block z (by have:=(y.fv z e).2;omega) (v z (y.fv z e).2 (y.fv z e).1)) x.size,λz e=>?_,?_⟩
 ·rcases u ga e with e|e
  ·exact h.fa e
  ·omega
 ·have e:=bC (show some ga=some z from e)
  subst e;exact x.block ga r h.fa
 ·rcases u z e with e|e
  ·exact h.sub z e
  ·exact .inr aa
 ·refine h.touch.trans x λi q=>?_
  rcases h.sub i q with e|e
  ·exact .inl (.inl e)
  ·exact .inr e
def Fs(M:LL)(h:Nat)(l:List Int)(y j:Nat):LL:=if j=0 then M else kk M (h+1) (Fo l y j)
def KP(x:2 * j+y<ao l):kk (Fs M h l y j) (h+1) [l[2 * j+y]]=Fs M h l y (j+1):=by
 have e:Fo l y (j+1)=Fo l y j++[l[2 * j+y]]:=by rw[Ba,List.getD,aQ x];rfl
 unfold Fs;rw[aG (show ¬j+1=0 by omega),e]
 by_cases z:j=0
 ·subst z;rw[aH rfl];rfl
 ·rw[aG z,xy]
def Dz(z:h<ao M):ao (Fs M h l y j)<=ao M+1:=by
 unfold Fs
 split
 ·omega
 ·rw[iF];omega
def Nv(M:LL)(h:Nat)(l:List Int)(y j:Nat):cnt (Fs M h l y j)<=cnt M+j:=by
 unfold Fs
 split
 ·omega
 ·rw[mo,vj];omega
def xD(w:World)(s:tn F w g k s0.2.1 lv vs s0.1)(v:RC w cg cv B s0.2.2)(u:s9 F w cg cv)(t:jn s0)(h2:2<=k)(hk:k<=1000000) :
 ar Oe 117 #[.pointer (some ⟨g,0,none⟩),.pointer (some ⟨cg,0,none⟩)] w λe R=>e=.returned (.tuple #[])/\∃z y x,sD F w g k cg cv B s0 z R y x (iK k B s0):=by
 have TG:Hid (sD F w g k cg cv B s0 F w lv vs s0):=ay ⟨s,v,t,rfl,λk hk=>.inl hk,Touch.refl _ _⟩
 have D:=ay u;clear s v t u
 go_in
 go_wp2
 go_loopg [4,5,6,7,8,9] (100 * cnt s0.1+ao s0.1) (λq z _ _ _ _ _ wr=>∃J Cs T s,∃h:Nat,q=100 * cnt s.1+(ao s.1 - h)/\z=.int .i64 h/\h<=ao s.1/\Hid (∀j,j<h->ao (lvl s.1 j)<=room k (ao s.1) j)/\Hid (sD F w g k cg cv B s0 J wr Cs T s))
 exact⟨F,lv,vs,s0,0,rfl,rfl,bB _,ay λj X=>absurd X aa,TG⟩
 case round=>
  obtain⟨J,Cs,T,s,h,L,rfl,U8,RD,u⟩:=hrel;have HQ:=ay L;clear L;have hlen:=u.o.ok.len;have k1:=u.o.st.cell1;have k0:=u.o.st.cell0;obtain⟨A1,cA,Mq,hcA,Xy,_⟩:=u.o.st.form
  by_cases V:h<ao s.1
  ·obtain⟨v,n,sA,G,TX,hgl,Ds,qW,t,c2,o,x,N⟩:=u.o.st.at_ V
   subst TX;injection Mq with e1 I e3;subst e1;subst e3;have hgr:=u.o.st.blk.lt;have QJ:=hD s.1 h;have hcn:=u.o.ok.cnt;have Sx:=ay (λW=>G' k (ao s.1) h W h2 hk aa  aa)
   have hrl:=tF (k:=k) V;have hrk:=room_le (k:=k) (len:=ao s.1) (h:=h) h2;obtain⟨rm,y⟩:=au (room k (ao s.1) h);rw[y] at Sx hrl hrk;obtain⟨l,z⟩:=au (lvl s.1 h);rw[z] at c2 x N t QJ;have Vs:=ay y;have HL:=ay z;have OL:=ay x;have HOWN:=ay N;have Vn:=ay t;have K1:=ay k1;have K0:=ay k0;have C2:=ay c2;have TM:=ay o;clear z x N t y k0 c2 o
   go_upto_region 2 with fail;clear k1;have Z:=ay (λ(R:World) (Y:aq wr R)=>(aF ((Y.cell (p:=⟨g,0,none⟩) hgr).trans K0.o) (aF ((Y.cell (p:=⟨g,1,none⟩) hgr).trans K1.o) ((Y.cell (p:=⟨v,h,none⟩) hgl).trans C2.o))))
   refine i' (λR=>aq wr R) (gW 0 18 (ib 18 (gW 19 1 []))) ((aC _ _).drew) ?_
   iterate 18 refine hC ?_
   refine iy λK O=>?_
   go_simp;refine(Sx.o _).mono ?_
   rintro e r ⟨rfl,hw2⟩;subst hw2;refine O _ _ ((aC _ _).drew) ?_
   clear O K;refine hC ?_
   refine gM ?_
   by_cases hgt:(ao l:Int)<=(rm:Int)
   ·go_wp2
    go_roundg (100 * cnt s.1+(ao s.1 - (h+1)))
    case measure=>have:=HQ.o;omega
    case rel=>
     refine⟨J,_,T,s,h+1,rfl,ag,aa,ay λj X=>?_,ay u.o.drew⟩
     rcases bg j h with t|t
     ·exact RD.o j t
     ·obtain rfl:j=h:=aa
      rw[HL.o,Vs.o];omega
   ·have Ch:Hid (iY k s.1=some h):=ay (AL V (by rw[HL.o,Vs.o];omega) RD.o)
    have hx2:2<ao l:=aa
    have hlc:ao l<=1000000:=aa
    have P:=ay (Ho cg cv B s.2.2 wr.drew u.o.drew.co);have k1:wr.drew.cell? ⟨g,1,none⟩=_:=K1.o;have c2:wr.drew.cell? ⟨v,h,none⟩=_:=C2.o
    go_wp2_with fail;refine(P.o).mono ?_
    rintro e r ⟨rfl,Q,x⟩;have U:∀z,J z->z≠cg/\cv.ownBlock≠some z:=λz C=>by
     have y:=D.o.lg
     rcases u.o.sub z C with t|t
     ·exact⟨λe=>D.o.fg (e▸t),λe=>(D.o.fv z e).1 t⟩
     ·exact⟨by omega,λe=>by have:=(D.o.fv z e).2;omega⟩
    have RE:=ay U;have m:=ay Q;have c:Hid (tn J r g k s.2.1 (.slice (some ⟨v,0,none⟩) (ao s.1) n) T s.1):=ay (u.o.drew.st.stay (λz C=>x.block z (u.o.st.low z C) (RE.o z C).1) x.size)
    have A:Hid (Touch (λk=>F k\/k=cg) w r):=ay (u.o.drew.touch.trans x λi hi=>.inl (.inr hi))
    have KL:=ay u.o.ok;have TJ:=ay u.o.eq;have Dx:=ay u.o.sub;have S:Hid (gO ig 0 r (.slice sA (ao l) G) l):=ay (OL.o.stay λz e=>x.block z (OL.o.lt z e).2 (RE.o z (HOWN.o z e).1).1)
    have o:r.frozen? ⟨v,h,none⟩=false:=(df (a:=⟨v,h,none⟩) (x.block v hgl (RE.o v qW).1)).trans TM.o;have c2':r.cell? ⟨v,h,none⟩=_:=(bA (a:=⟨v,h,none⟩) (x.block v hgl (RE.o v qW).1)).trans C2.o;have W:=c.o.cell1;have KM:=p_ B s.2.2;obtain⟨y,d⟩:=au (iB B s.2.2);rw[d] at KM |-;have HY:=ay d;obtain⟨f,c5,es,_,TH,hc5,hc6⟩:=S.o.pos aa
    injection es with es1 es2 es3;subst es1;subst es3
    -- the level laid empty
    have b:=l6.level (s':=(none,0,0)) (l':=[]) (w1:=r) c.o V rfl (gO.nil_ _ _) (λ_ _ _=>rfl) (aD _) (.inr λz e=>by simp[iW,Value.ownBlock] at e)
    have E:=ay b;have Zl:=HQ;clear U Q x d k1 c2 b P u;have N:=HOWN.o f rfl;have H:tn (λz=>(J z\/(iW ((none,0,0):Sv)).ownBlock=some z)/\z≠f) (r.setCell ⟨v,h,none⟩ (iW (none,0,0))) g k s.2.1 (.slice (some ⟨v,0,none⟩) (ao s.1) n) (T.set h (none,0,0)) (s.1.set h []):=
     l6.less E.o N.2.2 (λe=>N.2.1 (bC (show some v=some f from e)).symm) λi hi e=>by
      rw[fU] at e
      split at e
      ·simp[iW,Value.ownBlock] at e
      ·rename_i b
       rw[bD] at hi;have x:h<ao T:=by rw[c.o.iC.len];exact V
       have d:T[h]=(some ⟨f,0,none⟩,ao l,G):=by
        have:=Vn.o;rw[aQ x] at this;exact bC this
       exact c.o.iC.diff h i x hi b f (by rw[d];rfl) e
    have M:=ay H;have TY:f≠v:=N.2.1;have P:Hid (gO ig 0 (r.setCell ⟨v,h,none⟩ (iW (none,0,0))) (.slice (some ⟨f,0,none⟩) (ao l) G) l):=ay (S.o.far (p:=⟨v,h,none⟩) (λe=>TY (bC (show some f=some v from e))) _)
    have Q:Hid (RC (r.setCell ⟨v,h,none⟩ (iW (none,0,0))) cg cv B (jh B s.2.2)):=ay (by
     have x:=RE.o v qW;exact m.o.stay (bl r ⟨v,h,none⟩ _ cg λe=>x.1 e.symm) (λz e=>bl r ⟨v,h,none⟩ _ z λI=>x.2 (by rw[e,I])) ad)
    have U:Hid (Touch (λk=>F k\/k=cg) w (r.setCell ⟨v,h,none⟩ (iW (none,0,0)))):=ay (A.o.setCell (by
     rcases Dx.o v qW with t|t
     ·exact .inl (.inl t)
     ·exact .inr t) _)
    have x:∀z,((J z\/(iW ((none,0,0):Sv)).ownBlock=some z)/\z≠f)->F z\/w.heap.size<=z:=λz C=>by
     rcases C.1 with t|t
     ·exact Dx.o z t
     ·simp[iW,Value.ownBlock] at t
    have d:=ay x;clear H x N
    go_upto_if 57 with(fail)
    have b:Hid (Dy F w g k s.2.1 cg f G cv (.slice (some ⟨v,0,none⟩) (ao s.1) n) B (jh B s.2.2) l _ (r.setCell ⟨v,h,none⟩ (iW (none,0,0))) (T.set h (none,0,0)) (s.1.set h [])):=ay ⟨M.o,λe=>e.2 rfl,P.o,Q.o,d.o,U.o⟩
    clear M P Q d U E S m c A o c2' W;obtain⟨d,c⟩:=au (r.setCell ⟨v,h,none⟩ (iW (none,0,0)));rw[c] at b;show Code.wp _ _ _ _ (r.setCell ⟨v,h,none⟩ (iW (none,0,0)))
    rw[c];clear c
    go_cut [70] (λ_ wx=>∃(U:Nat->Prop) (c:List Sv),Hid (Dy F w g k s.2.1 cg f G cv (.slice (some ⟨v,0,none⟩) (ao s.1) n) B (jh B s.2.2) l U wx c (s.1.set h (lQ l))))
    case first=>
     by_cases Xz:ao l % 2=1
     ·have RF:(ao l:Int) % 2=1:=aa
      obtain⟨x,H⟩:=au (l[ao l - 1]' aa )
      have XA:Hid (lQ l=[x]):=ay (by
       unfold lQ;have e:2 * (ao l / 2)=ao l - 1:=aa
       rw[e,cr aa,H,de aa])
      have K3:Hid (d.cell? ⟨g,1,none⟩=some (.slice (some ⟨v,0,none⟩) (ao s.1) n)):=ay b.o.st.cell1;obtain⟨ga',off,P,hga,Q⟩:=(b.o.ol.ef).i64 (j:=ao l - 1) (by omega)
      injection P with P;injection P with KN KO;subst KN;subst KO;rw[cJ,H] at Q;have A:=ay Q;obtain⟨UY,cc',sA',sc',TZ,T7,_,_,_,M,S,_,_⟩:=b.o.st.at_ (j:=h) (by rw[bD];exact V)
      injection TZ with e1 I e3;clear I e3;injection e1 with e1;injection e1 with e1;subst e1;have W:=ay M;have F3:=ay S;have m:=b.o.st.blk.lt;obtain⟨c,U⟩:=au (ao l - 1);have HE:Hid ((ao l:Int) - 1=(c:Int)):=ay aa
      have hlt1:c<ao l:=aa
      have hlt2:(c:Int)<(ao l:Int):=aa
      have I:Hid (IntKind.i64.wrap (c:Int)=(c:Int)):=ay (cy _ aa)
      rw[U] at A;clear H Q M S U
      go_upto_region 8 with fail;have Z:=ay (λ(R:World) (Y:aq d R)=>(aF ((Y.cell (p:=⟨g,1,none⟩) m).trans K3.o) (aF ((Y.cell (p:=⟨f,c,none⟩) hga).trans A.o) (aF (HE.o) (I.o)))))
      refine yC (λR=>aq d R) 13 (yA 0 11 (CI 11 (yA 12 1 (CI 13 [])))) ((aC _ _).drew) ?_
      iterate 11 refine oQ ?_
      refine GF λK O=>?_
      go_simp;refine O _ _ (((aC _ _).drew).alloc ah _) ?_
      clear O K;refine oQ ?_
      refine yB λK O=>?_
      have U:=W.o;have Y:=F3.o
      go_simp;refine O _ _ ?_
      clear O K;refine jk ?_
      clear U Y;have U:=l6.level (s':=(some ⟨d.heap.size,0,none⟩,1,1)) (l':=[x]) (j:=h) (w1:=d.alloc (.cells #[.int .i64 x] 2)) b.o.st (by rw[bD];exact V) rfl ((gO.one (E:=ig) d x _ rfl _ rfl).more (bB _)) (λz t _=>eE d _ z t) ad (.inr λz e=>by have e:=bC (show some d.heap.size=some z from e);omega)
      rw[World.setCell_alloc_past _ _ _ _ T7,gD,gD] at U;have M:=b.o.st.iC.fl v rfl;have Y:=b.o.turn D.o (wx:=((d.setCell ⟨v,h,none⟩ (iW (some ⟨d.heap.size,0,none⟩,1,1))).alloc (.cells #[.int .i64 x] 2)).drew) (Touch.drew (Touch.alloc (Touch.setCell (Touch.refl _ _) (.inl M) _) _)) (U.keep (aC _ _).drew) (λz e=>by
       rcases e with e|e
       ·exact .inl e
       ·have e:=bC (show some d.heap.size=some z from e)
        exact .inr aa)
      rw[<-XA.o] at Y;have S:=ay Y;clear U M Y
      go_wp2_with fail
      go_meet
      exact⟨_,_,S⟩
     ·have RF:¬(ao l:Int) % 2=1:=aa
      have c:lQ l=[]:=by unfold lQ;exact de aa
      have Y:=ay c;clear c
      go_wp2_with fail
      go_meet
      exact⟨_,_,by rw[Y.o];exact b⟩
    case rest=>
     obtain⟨F3,vs3,t⟩:=hcut;have HF3:=ay (show Dy F w g k s.2.1 cg f G cv (.slice (some ⟨v,0,none⟩) (ao s.1) n) B (jh B s.2.2) l F3 wc vs3 (Fs (s.1.set h (lQ l)) h l y 0) from t.o)
     clear b t;have XB:Hid (∀j,ao (Fs (s.1.set h (lQ l)) h l y j)<=50):=ay λj=>by
      have:=Dz (M:=s.1.set h (lQ l)) (h:=h) (l:=l) (y:=y) (j:=j) (by rw[bD];exact V)
      rw[bD] at this;omega
     have XC:Hid (∀j,j<=ao l->cnt (Fs (s.1.set h (lQ l)) h l y j)<=3000000):=ay λj X=>by
      have:=Nv (s.1.set h (lQ l)) h l y j;have t:=tE s.1 h V (lQ l);rw[pt] at t;omega
     go_wp2
     go_loopg [7] (ao l / 2) (λq i wx=>∃(j:Nat) (F4:Nat->Prop) (Sy:Value) (W:List Sv),q=ao l / 2 - j/\j<=ao l / 2/\i=.int .i64 ((2 * j:Nat):Int)/\Hid (Dy F w g k s.2.1 cg f G cv Sy B (jh B s.2.2) l F4 wx W (Fs (s.1.set h (lQ l)) h l y j)))
     exact⟨0,F3,_,vs3,rfl,aa,rfl,HF3⟩
     case round=>
      obtain⟨j,F4,Sy,W,L,X,rfl,I⟩:=hrel;have XD:=ay L;clear L
      by_cases hjl:j<ao l / 2
      ·have E:2 * j+y<ao l:=aa
       obtain⟨ga',off,P,hga,Q⟩:=(I.o.ol.ef).i64 E;injection P with P;injection P with KN KO;subst KN;subst KO;rw[cJ] at Q;have Vt:=ay (KP (M:=s.1.set h (lQ l)) (h:=h) E);obtain⟨x,H⟩:=au (l[2 * j+y]);rw[H] at Q Vt;obtain⟨m,c⟩:=au (2 * j);rw[c] at Q E |-;have A:=ay (nF (h+1) x wr I.o.st aa (by have:=XB.o j;omega) (by have:=hD (Fs (s.1.set h (lQ l)) h l y j) (h+1);have:=XC.o j aa ;omega))
       have hm2:(m:Int)+1<(ao l:Int):=aa
       have HM:=ay c;clear H c
       go_wp2_with fail;refine(A.o).mono ?_
       rintro e w5 ⟨rfl,F5,Sz,Vu,S,q2,U,Y⟩;have t:=I.o.turn D.o Y U S;rw[Vt.o] at t;have T9:=ay t;clear S q2 U Y t A
       go_wp2
       go_roundg (ao l / 2 - (j+1))
       exact⟨j+1,F5,Sz,Vu,rfl,aa,by rw[<-HM.o];go_num,T9⟩
       have:=XD.o;omega
      ·obtain rfl:j=ao l / 2:=aa
       obtain⟨m,c⟩:=au (2 * (ao l / 2));rw[c];have hm2:¬(m:Int)+1<(ao l:Int):=aa
       have hmb:m<=ao l:=aa
       have MQ:Hid (Fs (s.1.set h (lQ l)) h l y (ao l / 2)=(j8 B h s).1):=ay (by
        unfold Fs;rw[aG aa,Fp,<-HL.o,<-HY.o];rfl)
       have yT:=KL.o.led;have PS:h<=48:=aa
       have T_:Hid (∀j,j<=h->2 ^ j<=281474976710656):=ay λj X=>bf (bJ ab (show j<=48 by omega)) ab
       have t:=I.o;rw[MQ.o] at t;have Y:=ay t;clear c t I HF3
       go_wp2
       go_loopg [8,9] h (λq p i wx=>(∃j:Nat,q=h - j/\j<=h/\p=.int .u64 ((2 ^ j:Nat):Int)/\i=.int .i64 (j:Int))/\wr=wx)
       exact⟨⟨0,aa,aa,rfl,rfl⟩,rfl⟩
       case round=>
        obtain⟨⟨j,L,X,rfl,rfl⟩,rfl⟩:=hrel;have XE:=ay L;have hpb:=T_.o j X;have S:Hid (2 ^ (j+1)=2 * 2 ^ j):=ay (by rw[b_];omega)
        obtain⟨p,q⟩:=au (2 ^ j);rw[q] at hpb S |-;have XF:=ay q;clear q L
        by_cases hjh:j<h
        ·go_wp2
         go_roundg (h - (j+1))
         exact⟨⟨j+1,rfl,aa,by rw[S.o];go_num,ag⟩,rfl⟩
         have:=XE.o;omega
        ·obtain rfl:j=h:=aa
         have k2:=Y.o.st.cell2;have o:=Y.o.st.blk.frozen 2;have Rf:=ay Y.o.st.fg;have PU:Hid (min (s.2.1+p) 4611686018427387904=(j8 B j s).2.1):=ay (by rw[<-XF.o];rfl)
         have HVV:Hid (min ((s.2.1:Int)+(p:Int)) 4611686018427387904=(((j8 B j s).2.1:Nat):Int)):=ay (by
          rw[<-PU.o];omega)
         have t:=Y.o.turn D.o (led':=(j8 B j s).2.1) (wx:=wr.setCell ⟨g,2,none⟩ (.int .u64 (j8 B j s).2.1)) (Touch.setCell (Touch.refl _ _) (.inl Rf.o) _) (Y.o.st.Dj _) (λz e=>.inl e)
         have U:=ay (KL.o.step (B:=B) Ch.o);have A:=ay (mA (B:=B) Ch.o);have E:=ay (TJ.o.trans (qT (B:=B) Ch.o));have c:Hid (sD F w g k cg cv B s0 F4 (wr.setCell ⟨g,2,none⟩ (.int .u64 (j8 B j s).2.1)) Sy W (j8 B j s)):=ay ⟨t.st,t.co,U.o,E.o,t.sub,t.touch⟩;clear t Y
         go_upto_region 19 with fail;rw[HVV.o];obtain⟨w6,t⟩:=au (wr.setCell ⟨g,2,none⟩ (.int .u64 ((j8 B j s).2.1:Nat)));rw[t] at c |-;clear t k2 o
         go_wp2
         go_roundg (100 * cnt (j8 B j s).1+(ao (j8 B j s).1 - 0))
         case measure=>have:=HQ.o;have:=A.o;have:=U.o.len;omega
         case rel=>exact⟨F4,Sy,W,j8 B j s,0,rfl,rfl,bB _,ay λj X=>absurd X aa,c⟩
  ·have Ch:Hid (iY k s.1=none):=ay (nr λj X=>RD.o j aa)
   have HE:=ay (u.o.eq.trans (ox Ch.o));subst Mq
   go_wp2_with fail
   go_end0
   have q:=u.o;rw[<-HE.o] at q;exact⟨rfl,J,_,T,q⟩
end K
end Go.Proofs.YtdicblkhpcphfaaGreat
