/- Parts. -/
import Derived.Test.YtdicblkhpcphfaaGreatPU04
set_option maxRecDepth 100000
set_option maxHeartbeats 0
set_option linter.all false
namespace Go.Proofs.YtdicblkhpcphfaaGreat
open Tryz Go.RowKit Go.Lib
open _root_.List renaming length→ab0
open Go.IntKind renaming wrap→ad0
open _root_.Go renaming Calls→af4
open Tryz renaming prog→af5
variable{L W l:List Mn}{w w':World}{g t:Nat}{F:Nat->Prop}{d d' hi hi' lo lo' n:Int}{lv wv:Value}
def Qh(h:ab0 l<2):jk l=l:=by
 match l,h with
 | [],_=>rfl
 | [m],_=>rfl
def sJ(n:Nat):∀(l:List Mn) (v:Value) (w:World),ab0 l<=n->ab0 l<=1000000000->mS w v l ->
 af4 af5 244 #[v,.func (.func 245) #[] #[]] w λe s=>∃z,e=.returned z/\mS s z (jk l)/\af3 w s:=by
 induction n with
 | zero=>
  intro l v w hl _ h;have y:l=[]:=aV aa;subst y;have H:=ax h;obtain⟨A,c,rfl,hn,O,z⟩:=h.form;clear z h;go_in;go_wp2;go_ret;exact⟨_,rfl,H.o,bw⟩
 | succ n ih=>
  intro l v w hl hlen h;have IH:=ax ih;clear ih;have H:=ax h;obtain⟨A,c,rfl,hn,O,z⟩:=h.form;have HP:=ax z;clear z h;by_cases h2:ab0 l<2
  .have L:=ax (Qh h2)
   go_in;go_wp2;go_ret;exact⟨_,rfl,by rw[L.o];exact H.o,bw⟩
  .obtain⟨g,off,hA,hg,_⟩:=HP.o aa
   subst hA;obtain⟨h,y⟩:∃h,h=ab0 l / 2:=⟨_,rfl⟩;have hh1:h<=ab0 l:=aa;have z:mS w (.slice (some (af7 g off)) h c) (l.take h):=by
    have:=mS.kn (c:=c) (l:=l.take h) (by rw[aU];omega) O (HP.o.head h)
    rwa [aU,dM hh1] at this
   have e1:((ab0 l:Int) / 2)=(h:Int):=aa;have i0:(0:Int)<=(h:Int):=aa;have i1:(h:Int)<=(ab0 l:Int):=aa;have i2:(h:Int)<=(c:Int):=aa;have hh2:h<=n:=aa;have hh3:ab0 l - h<=n:=aa;have hh4:h<ab0 l:=aa;have z1:¬c=0:=aa;have z2:¬c=h:=aa;have z4:(h:Int)<(c:Int):=aa;have z5:(0:Int)<(h:Int):=aa;clear y;go_in;go_upto_region 3 with fail;have HR1:=ax z;have y:mS w (.slice (some (af7 g (off+h * 2))) (ab0 l - h) (c - h)) (l.drop h):=by
    have:=mS.kn (c:=c - h) (l:=l.drop h) (by rw[aW];omega) aa (HP.o.tail rfl h)
    rwa [aW] at this
   have HR2:=ax y;have x:ab0 (l.take h)<=n:=by rw[aU];omega
   have u:ab0 (l.take h)<=1000000000:=by rw[aU];omega
   have t:ab0 (l.drop h)<=n:=by rw[aW];omega
   have r:ab0 (l.drop h)<=1000000000:=by rw[aW];omega
   have EW:=ax (cy (h:Int) aa);have G:=ax (aB (aB x u) (aB t r));clear z y x u t r;have Z:=ax (λ(s:World) (t:(λ_=>True) s)=>(EW.o));refine jh (λ_=>True) (hQ 0 6 (hQ 7 6 (ik 6 (ik 13 (hQ 14 2 []))))) (trivial) ?_;iterate 12 refine ib ?_
   refine iz λK u=>?_;go_simp;refine WE (IH.o (l.take h) _ _ G.o.1.1 G.o.1.2 (HR1.o.K (aC _ _).drew)) ?_;rintro v1 w1 ⟨z,y⟩;have Q1:=ax z;have q:=y.size;clear z;refine u _ _ (trivial) ?_;refine iz λK u=>?_;go_simp;refine WE (IH.o (l.drop h) _ _ G.o.2.1 G.o.2.2 ((HR2.o.K (aC _ _).drew).K y)) ?_;rintro v2 z ⟨r,x⟩;have Q2:=ax r;clear r;refine u _ _ (trivial) ?_;iterate 2 refine ib ?_
   refine g4 ?_;have Bq:af3 w z:=(((aC _ _).drew).T y).T (x.M ag);have US:=Bq.size;have A1:=ax (Q1.o.K x);have HM:=ax (show mrg (jk (l.take h)) (jk (l.drop h))=jk l by rw[mL,bL]);have HN:Hid (ab0 (jk (l.take h))+ab0 (jk (l.drop h))=ab0 l):=by show _=_;rw[kL,kL,aU,aW];omega
   obtain⟨Z,hmk,r⟩:=SK (ab0 l) aa z;have HO0:=ax r;clear r y x q;go_wp2;go_loopg [5,6,7] (ab0 l) (λk q p f wr=>∃y x r:List Mn,k=ab0 y+ab0 x/\ab0 r+k=ab0 l/\mS z q y/\mS z p x/\ic z.heap.size wr f r/\Hid (r++mrg y x=jk l)/\af3 z wr)
   exact⟨jk (l.take h),jk (l.drop h),[],HN.o.Y,ad,A1.o,Q2.o,HO0.o,HM.o,bw⟩
   case round=>
    obtain⟨y,x,r,q,Y,p,f,X,L,b⟩:=hrel;have o:=ax p;have W:=ax f;have M:=ax X;obtain⟨Aa,ca,rfl,na,ma,d⟩:=p.form;obtain⟨Ab,cb,rfl,nb,mb,a⟩:=f.form;have FA:=ax d;have FB:=ax a;have R:=ax (aB q Y);have S:=b.size;clear d a q Y p f X;by_cases B:0<ab0 y
    .by_cases j:0<ab0 x
     .obtain⟨g1,o1,rfl,U,p,f⟩:=FA.o.at_ B
      obtain⟨g2,o2,rfl,T,d,a⟩:=FB.o.at_ j;simp only[dj,cF] at p f d a;have F:=ax p;have E:=ax f;have D:=ax d;have C:=ax a;clear p f d a;have hsl:ab0 r+(ab0 y+ab0 x)<=1000000000:=by have:=R.o;omega
      have xa:(1:Int)<=(ab0 y:Int):=aa;have ya:(1:Int)<=(ab0 x:Int):=aa;by_cases O:x[0].1<y[0].1
      .have i:=ax (FR B j O)
       have hd:decide (x[0].1<y[0].1)=true:=by simpa using O
       go_upto_region 6 with fail;have Z:=ax (λ(s:World) (t:af3 z s)=>(aB ((t.C (p:=af7 _ _) U).T F.o) (aB ((t.C (p:=af7 _ _) U).T E.o) (aB ((t.C (p:=af7 _ _) T).T D.o) ((t.C (p:=af7 _ _) T).T C.o)))));refine jh (λs=>af3 z s) (hQ 0 7 (ik 7 [])) (b.drew) ?_;iterate 7 refine ib ?_
       refine iz λK u=>?_;go_simp;refine RX (Ah x[0] y[0] _) ?_;intro w3 X;rw[hd];refine u _ _ (b.drew.T (X.M S)) ?_;refine g4 ?_;have V:af3 z w3:=b.drew.T (X.M S);have J:=ax (M.o.K ((aC _ _).drew.T X));have hzw:=V.size;clear X;go_upto_region 7 with fail;have Z:=ax (λ(s:World) (t:af3 z s)=>(aB ((t.C (p:=af7 _ _) U).T F.o) (aB ((t.C (p:=af7 _ _) U).T E.o) (aB ((t.C (p:=af7 _ _) T).T D.o) ((t.C (p:=af7 _ _) T).T C.o)))));refine jh (λs=>af3 z s) (hQ 0 4 (hQ 6 2 (ik 4 (ik 5 (hQ 8 2 []))))) (V.drew) ?_;iterate 6 refine ib ?_
       refine iz λK u=>?_;go_simp;refine u _ _ ((V.drew).alloc ag _) ?_;refine iz λK u=>?_;refine vP (.tmp 45) (.tmp 49) rfl z.heap.size u7 r rfl (J.o.drew.alloc _) _ [x[0]] rfl (mS.one _ x[0]) (by simp only[bh];omega) ag ?_;intro I N a d Q;have f:af3 z N:=((V.drew).alloc ag _).grown d ag (λk q=>(J.o.lt k q).1);have Y:=ax a;clear a d Q;go_simp;refine u _ _ (f) ?_;iterate 2 refine ib ?_
       refine g4 ?_;have P:=mS.SG j nb mb FB.o;generalize (if cb=1 then some ((af7 g2 o2):Addr) else some (af7 g2 (o2+2)))=bb at P |-
       have m:=ax P;clear P;go_wp2;go_roundg (ab0 y+(ab0 x - 1))
       exact⟨y,x.drop 1,r++[x[0]],by rw[aW],by simp only[aE,bh];have:=R.o;omega,o.o,m.o,Y.o,by show _=_;rw[aN,gL,<-i.o];exact L.o,f⟩;have:=R.o;omega
      .have i:=ax (FU B j O)
       have hd:decide (x[0].1<y[0].1)=false:=by simpa using O
       go_upto_region 6 with fail;have Z:=ax (λ(s:World) (t:af3 z s)=>(aB ((t.C (p:=af7 _ _) U).T F.o) (aB ((t.C (p:=af7 _ _) U).T E.o) (aB ((t.C (p:=af7 _ _) T).T D.o) ((t.C (p:=af7 _ _) T).T C.o)))));refine jh (λs=>af3 z s) (hQ 0 7 (ik 7 [])) (b.drew) ?_;iterate 7 refine ib ?_
       refine iz λK u=>?_;go_simp;refine RX (Ah x[0] y[0] _) ?_;intro w3 X;rw[hd];refine u _ _ (b.drew.T (X.M S)) ?_;refine g4 ?_;have V:af3 z w3:=b.drew.T (X.M S);have J:=ax (M.o.K ((aC _ _).drew.T X));have hzw:=V.size;clear X;go_upto_region 8 with fail;have Z:=ax (λ(s:World) (t:af3 z s)=>(aB ((t.C (p:=af7 _ _) U).T F.o) (aB ((t.C (p:=af7 _ _) U).T E.o) (aB ((t.C (p:=af7 _ _) T).T D.o) ((t.C (p:=af7 _ _) T).T C.o)))));refine jh (λs=>af3 z s) (hQ 0 4 (hQ 6 2 (ik 4 (ik 5 (hQ 8 2 []))))) (V.drew) ?_;iterate 6 refine ib ?_
       refine iz λK u=>?_;go_simp;refine u _ _ ((V.drew).alloc ag _) ?_;refine iz λK u=>?_;refine vP (.tmp 53) (.tmp 57) rfl z.heap.size u7 r rfl (J.o.drew.alloc _) _ [y[0]] rfl (mS.one _ y[0]) (by simp only[bh];omega) ag ?_;intro I N a d Q;have f:af3 z N:=((V.drew).alloc ag _).grown d ag (λk q=>(J.o.lt k q).1);have Y:=ax a;clear a d Q;go_simp;refine u _ _ (f) ?_;iterate 2 refine ib ?_
       refine g4 ?_;have P:=mS.SG B na ma FA.o;generalize (if ca=1 then some ((af7 g1 o1):Addr) else some (af7 g1 (o1+2)))=bb at P |-
       have m:=ax P;clear P;go_wp2;go_roundg ((ab0 y - 1)+ab0 x)
       exact⟨y.drop 1,x,r++[y[0]],by rw[aW],by simp only[aE,bh];have:=R.o;omega,m.o,W.o,Y.o,by show _=_;rw[aN,gL,<-i.o];exact L.o,f⟩;have:=R.o;omega
     .have F:=ax (show x=[] from aV aa)
      have V:Hid ((r++y)++x=jk l):=by show _=_;rw[<-L.o,aN,F.o,mrg_nil_right,bP]
      have hsl:ab0 r+(ab0 y+ab0 x)<=1000000000:=by have:=R.o;omega
      go_wp2_with (first
       | (at_builtin
          refine iP rfl (.tmp 61) (.tmp 62) rfl z.heap.size u7 r rfl M.o _ y rfl (o.o.K b) aa S ?_;intro I N a d Q;have f:af3 z N:=b.grown d S (λk q=>(M.o.lt k q).1);have p:=f.size;have Y:=ax a;clear a d Q)
       | (at_builtin
          refine iP rfl (.tmp 63) (.tmp 64) rfl z.heap.size I (r++y) rfl Y.o _ x rfl (W.o.K f) (by simp only[aE];omega) p ?_;intro E J X t T;have P:af3 z J:=f.grown t p (λk q=>(Y.o.lt k q).1);have U:=ax X;clear X t T))
      go_ret;exact⟨_,rfl,by rw[<-V.o];exact U.o.rd,Bq.T (P.M US)⟩
    .have F:=ax (show y=[] from aV aa)
     have V:Hid ((r++y)++x=jk l):=by show _=_;rw[<-L.o,aN,F.o,mrg_nil_left,bB]
     have hsl:ab0 r+(ab0 y+ab0 x)<=1000000000:=by have:=R.o;omega
     go_wp2_with (first
      | (at_builtin
         refine iP rfl (.tmp 61) (.tmp 62) rfl z.heap.size u7 r rfl M.o _ y rfl (o.o.K b) aa S ?_;intro I N a d Q;have f:af3 z N:=b.grown d S (λk q=>(M.o.lt k q).1);have p:=f.size;have Y:=ax a;clear a d Q)
      | (at_builtin
         refine iP rfl (.tmp 63) (.tmp 64) rfl z.heap.size I (r++y) rfl Y.o _ x rfl (W.o.K f) (by simp only[aE];omega) p ?_;intro E J X t T;have P:af3 z J:=f.grown t p (λk q=>(Y.o.lt k q).1);have U:=ax X;clear X t T))
     go_ret;exact⟨_,rfl,by rw[<-V.o];exact U.o.rd,Bq.T (P.M US)⟩
def C_(d:Int)(v:Value)(l:List Mn)(w:World)(h:mS w v l)(K:0<ab0 l)(ho:lf l)(hr:jF l)(hlen:ab0 l<=1000000000)(ht:tot l<=281474976710656)(d0:0<=d)(d1:d<=1000):af4 af5 243 #[af6 d,.int .u64 (tot l),v] w λe w'=>∃v,e=.returned v/\ic w.heap.size w' v (nR d (tot l) l)/\af3 w w':=by
 obtain⟨A,c,rfl,hn,hc,y⟩:=h.form;obtain⟨g,n,rfl,hg,e0,e1⟩:=y.at_ K;simp only[dj,cF] at e0 e1;have ST:=ax (qU.start d K ho hr);have z:=mS.SG K hn hc y;have i1:(1:Int)<=(ab0 l:Int):=aa;clear y h;go_in;go_upto_block 0 with fail
 generalize (if c=1 then some ((af7 g n):Addr) else some (af7 g (n+2)))=bb at z |-
 have cf:=z.form;obtain⟨A',c',B,t,x,y⟩:=cf;simp only[gv] at B;obtain⟨rfl,u,rfl⟩:=B;have HQ:=ax y;clear z y t x u;go_wp2
 go_loopg [7,8,18] (ab0 l - 1) (λq o x i wr=>∃(j:Nat) (y:List Mn) (z:Mn),q=ab0 l - 1 - j/\j<=ab0 l - 1/\i=af6 j/\x=.int .u64 (tot y)/\qU d (tot l) l (j+1) y z /\
  ic (w.heap.size+1) wr o y/\g7 wr w.heap.size 216 #[af6 z.1,.int .u64 z.2]/\af3 w wr)
 exact⟨0,[],l[0],rfl,aa,rfl,rfl,ST.o,ic.nil_ _ _,g7.new _ _ _,bw⟩
 case round=>
  obtain⟨j,y,z,V,hj,rfl,rfl,f,u,x,S⟩:=hrel;have G:=ax V;have T:=ax u;have HB:=ax x;have hbl:=x.lt;have hz:=S.size;obtain⟨n0,n1⟩:=x.c2;clear V u x;by_cases hlt:j<ab0 l - 1
  .have I:j+1<ab0 l:=aa
   obtain⟨p1,o,H,W,i⟩:=f.facts I;have hlt2:j<ab0 (l.drop 1):=by rw[aW];exact hlt
   obtain⟨g1,o1,rfl,C,u,s⟩:=HQ.o.at_ hlt2;have x:(l.drop 1)[j]=l[j+1]:=by rw[gh];congr 1;omega
   rw[x] at u s;clear x;replace u:=(S.C (p:=af7 _ _) C).T u;replace s:=(S.C (p:=af7 _ _) C).T s;have⟨x,t⟩:=ar (l[j+1]);rw[t] at u s H W i;have q1:=o.2.2;have q2:=H.2.2;have MB:Qf d (tot l) (tot y) (z.2+x.2):=⟨d0,d1,ht,p1,aa,i⟩;have M:=ax f;have P:=ax t;clear f t;have t:(wr.alloc (.cells #[af6 x.1,.int .u64 x.2] 216)).cell? (af7 (wr.heap.size) 0)=some (af6 x.1):=by simp[bW]
   have r:(wr.alloc (.cells #[af6 x.1,.int .u64 x.2] 216)).cell? (af7 (wr.heap.size) 1)=some (.int .u64 x.2):=by simp[bW]
   have M0:=ax t;have M1:=ax r;have h:=ax (HB.o.alloc (.cells #[af6 x.1,.int .u64 x.2] 216));have OA:=ax (T.o.alloc (.cells #[af6 x.1,.int .u64 x.2] 216));clear t r;go_upto_region 7 with fail;go_wp21;refine RX (Qg d (tot l) (tot y) (z.2+x.2) _ MB) ?_;intro t X;have hz3:=X.size;simp only[aI] at hz3;have b:=ax (h.o.K X);have Y:=ax (OA.o.K X);have F:=b.o.k0;have E:=b.o.k1;have f0':=b.o.F 0;have f1':=b.o.F 1;have c2:=(X.C (p:=af7 (wr.heap.size) 0) ad).T M0.o;have D:=(X.C (p:=af7 (wr.heap.size) 1) ad).T M1.o;have hbw:af3 w t:=(S.alloc hz _).T (X.M ae);clear n0 n1 u s;by_cases R:tr d (tot l) (tot y) (z.2+x.2)=true
   .rw[R]
    have N:=ax (M.o.merge I (by rw[P.o];exact R));clear R;go_wp21;refine RX (P8 z.1 z.2 x.1 x.2 _ o.1 W H.2.1 aa q2 aa) ?_;intro U u;have m:=u.size;have q:=(u.C (p:=af7 (w.heap.size) 0) (by show w.heap.size<t.heap.size;omega)).T F;have a:=(u.C (p:=af7 (w.heap.size) 1) (by show w.heap.size<t.heap.size;omega)).T E;have Q:=(u.C (p:=af7 (wr.heap.size) 1) (by show wr.heap.size<t.heap.size;omega)).T D;have O:=(u.F (p:=af7 (w.heap.size) 0) (by show w.heap.size<t.heap.size;omega)).T f0';have L:=(u.F (p:=af7 (w.heap.size) 1) (by show w.heap.size<t.heap.size;omega)).T f1';have s:=ax (((b.o.K u).hJ 0 (af6 (mo z.1 x.1 x.2 (z.2+x.2)))).hJ 1 (.int .u64 (z.2+x.2)));have r:=ax (((Y.o.K u).far (p:=af7 (w.heap.size) 0) (λe=>by have J:w.heap.size+1<=w.heap.size:=(Y.o.lt _ e).1;omega) (af6 (mo z.1 x.1 x.2 (z.2+x.2)))).far (p:=af7 (w.heap.size) 1) (λe=>by have J:w.heap.size+1<=w.heap.size:=(Y.o.lt _ e).1;omega) (.int .u64 (z.2+x.2)));go_wp2;go_roundg (ab0 l - 1 - (j+1))
    exact⟨j+1,y,_,rfl,aa,af,rfl,N.o,r.o,by rw[P.o];exact s.o,bw⟩;have:=G.o;omega
   .have q:tr d (tot l) (tot y) (z.2+x.2)=false:=by simpa using R
    rw[q];have N:=ax (M.o.push I (by rw[P.o];exact q));have HT:Hid (tot (y++[z])=tot y+z.2):=by show _=_;rw[h_];simp[tot]
    have hal:ab0 y<=1000000000:=by have:=M.o.len;omega
    clear R q
    go_wp2_with (first
     | (at_builtin
        refine iP rfl (.tmp 50) (.tmp 52) rfl (w.heap.size+1) u7 y rfl (Y.o.alloc _) _ [z] rfl (mS.one _ z) (by simp only[bh];omega) ag ?_;intro v4 U Q q L;have u:af3 w U:=(hbw.alloc aa _).grown q ag (λk V=>by have:=(Y.o.lt k V).1;omega);have m:=q.size;simp only[aI] at m;have r:=ax Q;have O:∀k,k<t.heap.size->u7.ownBlock≠some k->U.heap[k]?=t.heap[k]?:=λk h1 h2=>(q.block k ae (λe=>h2 e.Y)).T (eJ _ _ _ h1);have s:=ax (show g7 U w.heap.size 216 #[af6 z.1,.int .u64 z.2] from(O _ aa (λe=>by have:=(Y.o.lt _ e).1;omega)).T b.o);have c6:=(bn (a:=af7 (wr.heap.size) 0) (O wr.heap.size aa (λe=>by have:=(T.o.lt _ e).2;omega))).T c2;have c7:=(bn (a:=af7 (wr.heap.size) 1) (O wr.heap.size aa (λe=>by have:=(T.o.lt _ e).2;omega))).T D;have c4:=s.o.k0;have c5:=s.o.k1;have f4:=s.o.F 0;have f5:=s.o.F 1;clear Q q L O))
    go_roundg (ab0 l - 1 - (j+1))
    case measure=>have:=G.o;omega
    case rel=>
     refine⟨j+1,y++[z],x,rfl,aa,af,by rw[HT.o],by rw[<-P.o];exact N.o,?_,?_,bw⟩
     .exact(r.o.far (p:=af7 (w.heap.size) 0) (λe=>by have J:w.heap.size+1<=w.heap.size:=(r.o.lt _ e).1;omega) _).far (p:=af7 (w.heap.size) 1) (λe=>by have J:w.heap.size+1<=w.heap.size:=(r.o.lt _ e).1;omega) _
     .exact(s.o.hJ 0 (af6 x.1)).hJ 1 (.int .u64 x.2)
  .have t:j=ab0 l - 1:=aa
   have x:Hid (nR d (tot l) l=y++[z]):=by
    show _=_
    rw[show j+1=ab0 l by omega] at f;exact f.fin
   have hal:ab0 y<=1000000000:=by have:=f.len;omega
   clear f t
   go_wp2_with (first
    | (at_builtin
       refine iP rfl (.tmp 60) (.tmp 62) rfl (w.heap.size+1) u7 y rfl (T.o.alloc _) _ [z] rfl (mS.one _ z) (by simp only[bh];omega) ag ?_;intro v4 U Q q L;have u:af3 w U:=(S.alloc aa _).grown q ag (λk V=>by have:=(T.o.lt k V).1;omega);have r:=ax Q;clear Q q L))
   go_ret;exact⟨_,rfl,by rw[x.o];exact r.o.more aa,u⟩
def Dg(w:World)(g:Nat)(F:Nat->Prop)(d:Int)(L W:List Mn)(lo hi n:Int):Prop:=
 ∃lv wv,g7 w g 212 #[af6 d,lv,wv,af6 lo,af6 hi,.int .u64 n]/\ic 0 w lv L/\ic 0 w wv W/\F g/\(∀k,lv.ownBlock=some k->F k)/\(∀k,wv.ownBlock=some k->F k) /\
  (∀k,wv.ownBlock=some k->lv.ownBlock≠some k)/\(∀k,F k->k<w.heap.size)
def Dg.stay(h:Dg w g F d L W lo hi n)(z:∀k,F k->w'.heap[k]?=w.heap[k]?)(f:w.heap.size<=w'.heap.size):Dg w' g F d L W lo hi n:=by
 obtain⟨c,b,s,q,p,v,y,x,u,t⟩:=h;exact⟨c,b,(z g v).T s,q.stay λk e=>z k (y k e),p.stay λk e=>z k (x k e),v,y,x,u,λk r=>aG (t k r) f⟩
def Dg.K(h:Dg w g F d L W lo hi n)(y:af3 w w'):Dg w' g F d L W lo hi n:=by
 have z:=h;obtain⟨v,u,_,_,_,_,_,_,_,z⟩:=z;exact h.stay (λk x=>y.block k (z k x)) y.size
def Br{a b:Value}(z:mS (w.alloc (.cells #[a,b] t)) a L)(y:mS (w.alloc (.cells #[a,b] t)) b W):vQ (w.alloc (.cells #[a,b] t)) w.heap.size [L,W]:=by
 intro i x;have:i=0\/i=1:=by simp at x;omega
 rcases this with rfl|rfl
 .exact⟨a,by simp[bW],z⟩
 .exact⟨b,by simp[bW],y⟩
structure Uu(g:Nat)(d:Int)(B:Option Addr)(n c:Nat)(t:Int)(w w':World):Prop where
 touch:Touch (λk=>k=g) w w'
 c0:w'.cell? (af7 g 0)=some (af6 d)
 c2:w'.cell? (af7 g 2)=some (.slice B n c)
 c5:w'.cell? (af7 g 5)=some (.int .u64 t)
def Uu.hJ{B:Option Addr}{n c:Nat}{t:Int}(h:Uu g d B n c t w w')(v:Value):Uu g d B n c t w (w'.setCell (af7 g 1) v):=
 ⟨h.touch.setCell (.inl rfl) v,(bK _ _ _ _ ad).T h.c0,(bK _ _ _ _ ad).T h.c2,(bK _ _ _ _ ad).T h.c5⟩
def Ai(g:Nat)(F:Nat->Prop)(d G H:Int)(L W:List Mn)(w:World)(h:Dg w g F d L W G H (tot (L++W)))(s:lf (L++W))(u:L++W≠[])(hlen:ab0 L+ab0 W<=100000000)(ht:tot (L++W)<=281474976710656)(d0:0<=d)(d1:d<=1000):af4 af5 173 #[aq g] w λe t=>e=.returned (.tuple #[])/\∃z:Nat->Prop,(∀k,z k->F k\/w.heap.size<=k)/\Dg t g z d (qT d (L++W)) [] G H (tot (L++W))/\Touch F w t:=by
 obtain⟨lv,wv,x,y,v,R,Y,X,V,U⟩:=h;have P:=x.k0;have O:=x.k1;have N:=x.k2;have M:=x.k5;have f1:=x.F 1;have f2:=x.F 2;have r:=x.lt;have C:=ax x;have o:=ax y;have HW:=ax v;obtain⟨A,ca,rfl,na,ma,p⟩:=y.form;obtain⟨B,c,rfl,nb,mb,f⟩:=v.form;have q:=ax (aB R (aB Y (aB X (aB V U))));have j:=ax P;have l:=ax O;have Q:=ax N;have m:=ax M;have HO:=ax s;have n:0<ab0 L+ab0 W:=by
  rcases bo (ab0 L+ab0 W) with z|z
  .exact absurd (aV (by rw[aE];exact z)) u
  .exact z
 clear x y v p f s R Y X V U u;by_cases hW:0<ab0 W
 all_goals
  try (have hL:0<ab0 L:=aa)
  go_in;go_upto_region 1 with fail;have Xq:=ax o.o.rd;have Xr:=ax HW.o.rd;have s:∀t,af3 w t->Uu g d B (ab0 W) c (tot (L++W)) w t:=λt x=>⟨Touch.of_below x (aD _),(x.C (p:=af7 g 0) r).T j.o,(x.C (p:=af7 g 2) r).T Q.o,(x.C (p:=af7 g 5) r).T m.o⟩;have Z:=ax (λ(t:World) (z:(Uu g d B (ab0 W) c (tot (L++W)) w) t)=>(aB (z.c0) (aB (z.c2) (z.c5))));refine kr (Uu g d B (ab0 W) c (tot (L++W)) w) 27 (hQ 0 13 (hQ 14 4 (ik 13 (ik 18 (ik 19 (ik 20 (ik 21 (hQ 22 2 (ik 24 (hQ 25 2 [])))))))))) (s _ (aC _ _).drew) ?_;iterate 17 refine jG ?_
  refine pq λK z=>?_;go_simp;refine z _ _ (s _ (aC _ _).drew) ?_;refine pq λK z=>?_;go_simp;refine z _ _ (s _ (((aC _ _).drew).alloc ag _)) ?_;refine pq λK z=>?_;go_simp;have hrow:vQ (w.drew.alloc (.cells #[.slice A (ab0 L) ca,.slice B (ab0 W) c] 109)) w.heap.size [L,W]:=Br (Xq.o.K (((aC _ _).drew).alloc ag _)) (Xr.o.K (((aC _ _).drew).alloc ag _));refine WE (yb w.heap.size [L,W] _ ag hrow ad ae) ?_;rintro v1 w1 ⟨y,hb1⟩;have T:af3 w w1:=(((aC _ _).drew).alloc ag _).T (hb1.M ag);have hz1:=T.size;rw[show([L,W]:List (List Mn)).flatten=L++W by simp] at y;have O1:=ax y;clear y;refine z _ _ (s _ T) ?_;refine pq λK z=>?_;go_simp;refine WE (sJ _ (L++W) v1 _ (aD _) (by rw[aE];omega) O1.o.rd) ?_;rintro v2 E ⟨y,hb2⟩;have S:af3 w E:=T.T (hb2.M hz1);have hz2:=S.size;have O2:=ax y;clear y;refine z _ _ (s _ S) ?_;refine pq λK z=>?_;go_simp;have y:=C_ d v2 (jk (L++W)) E O2.o (by rw[kL,aE];exact n) (HO.o.jk) (uK _) (by rw[kL,aE];omega) (by rw[tp];exact ht) d0 d1;rw[tp] at y;refine y.M ?_;rintro e D ⟨v3,rfl,v,hb3⟩;have u:af3 w D:=S.T (hb3.M hz2);have hz3:=u.size;have f:=ax v;clear v y;refine z _ _ (s _ u) ?_;iterate 2 refine jG ?_
  refine pq λK z=>?_;obtain⟨b,a,rfl,n3,m3,y⟩:=f.o.form;clear y;have k1:=(u.F (p:=af7 g 1) r).T f1;have k3:=(u.C (p:=af7 g 1) r).T l.o;go_simp;refine z _ _ ((s _ u).hJ _) ?_;iterate 2 refine jG ?_
  refine hN ?_;simp only[aX,bj];have k2:=(u.F (p:=af7 g 2) r).T f2;have k4:=(u.C (p:=af7 g 2) r).T Q.o;go_wp21;refine g6 ?_;go_wp21;refine ct (v:=.tuple #[]) (by simp[results,Tryz.results173,go_sem, *];try rfl) rfl ?_;refine⟨rfl,λk=>k=g\/(Value.slice b (ab0 (qT d (L++W))) a).ownBlock=some k,?_,?_,?_⟩
  .rintro k (rfl|y)
   .exact .inl q.o.1
   .exact .inr (aa2 (f.o.lt k y).1)
  .obtain⟨R,Y,X,V,U⟩:=q.o
   have I:∀k,(Value.slice b (ab0 (qT d (L++W))) a).ownBlock=some k->w.heap.size<=k/\k<D.heap.size:=λk y=>by have:=f.o.lt k y;omega
   have J:∀i,(Value.slice b (ab0 (qT d (L++W))) a).ownBlock≠some ((af7 g i):Addr).block:=λi y=>by have:=I g y;omega
   refine⟨_,_,((C.o.K u).hJ 1 _).hJ 2 _,((f.o.more (bl _)).far (J 1) _).far (J 2) _,ic.nil_ _ _,.inl rfl,λk y=>.inr y,λk y=>(by cases y),λk y=>(by cases y),λk y=>?_⟩;simp only[bT];rcases y with rfl|y
   .omega
   .have:=I k y;omega
  .exact((Touch.of_below u (aD _)).setCell (.inl q.o.1) _).setCell (.inl q.o.1) _
def total_any(w:World)(h:Dg w g F d L W lo hi n):af4 af5 57 #[aq g] w λe x=>e=.returned (.int .u64 n)/\w=x:=by
 obtain⟨v,u,y,_⟩:=h;have z:=y.k5;go_in;go_wp2;refine ak ?_;exact⟨rfl,rfl⟩
def g7.kY{b:Nat}{cs:Array Value}{v:Value}(h:g7 w g t cs)(x:ic b w v l)(u:t≠216):v.ownBlock≠some g:=by
 intro e;rcases x.2 with y|⟨f,s,q,rfl,p,z,r⟩
 .rw[y.1] at e;cases e
 .cases e
  unfold g7 at h;rw[h] at z;cases z
  exact u rfl
def Dg.cells{n':Int}(u:g7 w g 212 #[af6 d,lv,wv,af6 lo,af6 hi,.int .u64 n])(t:ic 0 w lv L)(s:ic 0 w wv W)
 (q:F g/\(∀k,lv.ownBlock=some k->F k)/\(∀k,wv.ownBlock=some k->F k)/\(∀k,wv.ownBlock=some k->lv.ownBlock≠some k)/\(∀k,F k->k<w.heap.size))
 (y:Touch (λk=>k=g) w w') (p:g7 w' g 212 #[af6 d',lv,wv,af6 lo',af6 hi',.int .u64 n']):Dg w' g F d' L W lo' hi' n':=by
 obtain⟨c,x,v,r,z⟩:=q;have b:=u.kY t ab;have a:=u.kY s ab;exact⟨lv,wv,p,t.stay λk e=>y.block k (z k (x k e)) (λh=>b (by rw[e,h])),s.stay λk e=>y.block k (z k (v k e)) (λh=>a (by rw[e,h])),c,x,v,r,λk f=>aG (z k f) y.size⟩
structure WJ(g:Nat)(hi:Int)(w w':World):Prop where
 c4:w'.cell? (af7 g 4)=some (af6 hi)
def C'(a b:Int)(w:World)(h:Dg w g F d L W lo hi n)(aa9:-9223372036854775808<=lo/\lo<=9223372036854775807)(ab1:-9223372036854775808<=hi/\hi<=9223372036854775807)(_ha:-9223372036854775808<=a/\a<=9223372036854775807)(ab2:-9223372036854775808<=b/\b<=9223372036854775807)(R:0<=n/\n<=18446744073709551615):af4 af5 174 #[aq g,af6 a,af6 b] w λe t=>e=.returned (.tuple #[])/\Dg t g F d L W (if n=0 then a else min lo a) (if n=0 then b else max hi b) n/\Touch (λk=>k=g) w t:=by
 obtain⟨Q,O,x,T,S,c,v,s,r,p⟩:=h;have u:=x.k3;have z:=x.k4;have U:=x.k5;have q:=x.F 3;have f:=x.F 4;have y:=ax x;have X:=ax T;have V:=ax S;have Y:=ax (aB c (aB v (aB s (aB r p))));clear x T S c v s r p;clear u z q f;by_cases S:n=0
 .subst S
  go_in;have u:=y.o.k3;have z:=y.o.k4;have q:=y.o.F 3;have f:=y.o.F 4;go_wp21;have s:=ax ((y.o.hJ 3 (af6 a)).hJ 4 (af6 b));have T:Touch (λk=>k=g) w ((w.setCell (af7 g 3) (af6 a)).setCell (af7 g 4) (af6 b)):=((Touch.refl (λk=>k=g) w).setCell (p:=af7 g 3) (.inl rfl) _).setCell (p:=af7 g 4) (.inl rfl) _;generalize (w.setCell (af7 g 3) (af6 a)).setCell (af7 g 4) (af6 b)=P at *;clear u z q f U;have u:=s.o.C 3;have z:=s.o.C 4;have q:=s.o.F 3;have f:=s.o.F 4;simp only[az,aA,ay,bA,bR,bS] at u z;have Z:=ax (λ(t:World) (c:(WJ g b w) t)=>(c.c4));refine kr (WJ g b w) 19 (hQ 0 5 (hQ 6 1 (hQ 8 6 (ik 5 (hQ 7 1 (hQ 14 2 (ik 16 (hQ 17 2 [])))))))) (⟨z⟩) ?_;iterate 12 refine jG ?_
  refine pq λK x=>?_;go_simp;refine x _ _ (⟨z⟩) ?_;iterate 3 refine jG ?_
  refine pq λK x=>?_;go_simp;refine x _ _ (⟨(bK _ _ _ _ ad).T z⟩) ?_;iterate 2 refine jG ?_
  refine hN ?_;simp only[aX,bj];go_wp21;refine g6 ?_;go_wp21;refine ct (v:=.tuple #[]) (by simp[results,Tryz.results174,go_sem, *];try rfl) rfl ?_;have r:=((T.setCell (p:=af7 g 3) (.inl rfl) (af6 a)).setCell (p:=af7 g 4) (.inl rfl) (af6 b)).drew;exact⟨rfl,Dg.cells y.o X.o V.o Y.o r ((s.o.hJ 3 _).hJ 4 _),r⟩
 .go_in
  have u:=y.o.k3;have z:=y.o.k4;have q:=y.o.F 3;have f:=y.o.F 4;go_upto_region 2 with fail;have Z:=ax (λ(t:World) (c:(WJ g hi w) t)=>(c.c4));refine kr (WJ g hi w) 19 (hQ 0 5 (hQ 6 1 (hQ 8 6 (ik 5 (hQ 7 1 (hQ 14 2 (ik 16 (hQ 17 2 [])))))))) (⟨z⟩) ?_;iterate 12 refine jG ?_
  refine pq λK x=>?_;go_simp;refine x _ _ (⟨z⟩) ?_;iterate 3 refine jG ?_
  refine pq λK x=>?_;go_simp;refine x _ _ (⟨(bK _ _ _ _ ad).T z⟩) ?_;iterate 2 refine jG ?_
  refine hN ?_;simp only[aX,bj];go_wp21;refine g6 ?_;go_wp21;refine ct (v:=.tuple #[]) (by simp[results,Tryz.results174,go_sem, *];try rfl) rfl ?_;have r:=(((Touch.refl (λk=>k=g) w).setCell (p:=af7 g 3) (.inl rfl) (af6 (min lo a))).setCell (p:=af7 g 4) (.inl rfl) (af6 (max hi b))).drew;exact⟨rfl,Dg.cells y.o X.o V.o Y.o r ((y.o.hJ 3 _).hJ 4 _),r⟩
def add_any(a k:Int)(w:World)(h:Dg w g F d L W lo hi (tot (L++W)))(ho:lf (L++W))(hlo:-9223372036854775808<=lo/\lo<=9223372036854775807)(hhi:-9223372036854775808<=hi/\hi<=9223372036854775807)(O:-9223372036854775808<=a/\a<=9223372036854775807)(hk:0<=k/\k<=18446744073709551615)
 (hlen:ab0 L+ab0 W<100000000) (ht:tot (L++W)<=281474976710656) (d0:0<=d) (d1:d<=1000) :
 af4 af5 132 #[aq g,af6 a,.int .u64 k] w λe N=>
  if k=0 then e=.returned (af6 4)/\af3 w N else if 281474976710656 - tot (L++W)<k then e=.returned (af6 6)/\af3 w N else
  e=.returned (af6 0)/\∃y:Nat->Prop,(∀k,y k->F k\/w.heap.size<=k) /\
   Dg N g y d (jD d L W (a,k)) (nu d W (a,k)) (if tot (L++W)=0 then a else min lo a) (if tot (L++W)=0 then a else max hi a) (tot (L++W)+k)/\Touch F w N:=by
 have t0:=ho.g_;have A:=ax h;obtain⟨lv,wv,z,t,s,u,H,Y,x,v⟩:=h;have c5:=z.k5;clear z t s u H Y x v;by_cases hk0:k=0
 .subst hk0
  go_in;go_wp2;refine ak ?_;exact⟨rfl,bw⟩
 .simp only[aF hk0]
  by_cases f:281474976710656 - tot (L++W)<k
  .simp only[aH f]
   go_in;go_wp2;refine ak ?_;exact⟨rfl,bw⟩
  .simp only[aF f]
   have T:=ax (C' a a w A.o hlo hhi O O aa);generalize (if tot (L++W)=0 then a else min lo a)=lo1 at T |-
   generalize (if tot (L++W)=0 then a else max hi a)=hi1 at T |-
   go_in;go_upto_region 6 with(first|(go_at_call 174;refine T.o.M ?_;rintro e w1 ⟨rfl,⟨Gj,wv1,z,u,x,v⟩,n⟩;obtain⟨B,cb,rfl,nb,mb,t⟩:=x.form;have s:=z.k5;have X:=z.k2;have r:=z.F 5;have D:=z.F 2;have V:=ax z;have K:=ax u;have I:=ax x;have M:=ax v;clear z u x v t;go_simp));go_upto_region 7 with fail;have P:=n.setCell (p:=af7 g 5) (.inl rfl) (.int .u64 (tot (L++W)+k));have hz2:=P.size;have m:=V.o.kY K.o ab;have Q:=V.o.kY I.o ab;have q:=ax (V.o.hJ 5 (.int .u64 (tot (L++W)+k)));have j:=ax (K.o.far (p:=af7 g 5) m (.int .u64 (tot (L++W)+k)));have X2:=ax (I.o.far (p:=af7 g 5) Q (.int .u64 (tot (L++W)+k)));have S:Hid (∀z,F z->z<(w1.setCell (af7 g 5) (.int .u64 (tot (L++W)+k))).heap.size):=λz t=>(by rw[bT];exact M.o.2.2.2.2 z t);generalize w1.setCell (af7 g 5) (.int .u64 (tot (L++W)+k))=w2 at *;clear s X r D;have q0:=q.o.C 0;have X:=q.o.C 2;have D:=q.o.F 2;simp only[az,aA,ay,bA,bR,bS] at q0 X;have hlt2:=q.o.lt;go_upto_block 0 with(first|(at_builtin;refine iP rfl (.tmp 34) (.tmp 38) rfl 0 (.slice B (ab0 W) cb) W rfl (X2.o.alloc _) _ [(a,k)] rfl (mS.one _ (a,k)) (by simp only[bh];omega) (bl _) ?_;intro v1 r R u c;have b:=(u.block g (by rw[aI];omega) (λe=>Q e.Y)).T (q.o.alloc (.cells #[af6 a,.int .u64 k] 216));obtain⟨x,v,rfl,n3,m3,s⟩:=R.form;have s2:=g7.C b 2;have s0:=g7.C b 0;have u2:=g7.F b 2;simp only[az,aA,ay,bA,bR,bS] at s0 s2;have U:Hid (g7 r g _ _):=ax b;have o:=ax R;clear b R s;go_simp))
   have R:Hid (∃y:Nat->Prop,(∀k,y k->F k\/w.heap.size<=k)/\Dg (r.setCell (af7 g 2) (.slice x (ab0 W+1) v)) g y d L (W++[(a,k)]) lo1 hi1 (tot (L++(W++[(a,k)])))/\Touch F w (r.setCell (af7 g 2) (.slice x (ab0 W+1) v))):=by
    obtain⟨G,E,p3,p4,p5⟩:=M.o;have hlen3:ab0 (W++[(a,k)])=ab0 W+1:=ad;have J:=o.o;rw[hlen3] at J c;have T3:Touch F w r:=((P.M (λi (hi:i=g)=>hi▸G)).alloc (.cells #[af6 a,.int .u64 k] 216)).grown u (λz f=>.inl (p3 z f));have T4:=T3.setCell (p:=af7 g 2) (.inl G) (.slice x (ab0 W+1) v);have Gk:∀z,(Value.slice x (ab0 W+1) v).ownBlock=some z->F z\/z=w2.heap.size+1:=λz e=>by
     rcases c with y|y
     .exact .inl (p3 z (by rw[<-y];exact e))
     .rw[y] at e;simp only[aI,bg] at e;exact .inr e.Y
    have Xs:w2.heap.size+1<=r.heap.size:=by have:=u.size;rw[aI] at this;exact this
    have SL:(Value.slice x (ab0 W+1) v).ownBlock≠some g:=λe=>by
     rcases c with y|y
     .exact Q (by rw[<-y];exact e)
     .rw[y] at e;simp only[aI,bg] at e;omega
    have l:ic 0 r Gj L:=(j.o.alloc (.cells #[af6 a,.int .u64 k] 216)).stay λz e=>u.block z (by rw[aI];have:=S.o z (E z e);omega) (λb=>p4 z b.Y e);have ht3:tot (L++W)+k=tot (L++(W++[(a,k)])):=by simp only[h_,tot];omega
    have C:=U.o;rw[ht3] at C;refine⟨λz=>F z\/(Value.slice x (ab0 W+1) v).ownBlock=some z,?_,⟨Gj,_,C.hJ 2 _,l.far (p:=af7 g 2) (λe=>U.o.kY l ab e) _,?_,.inl G,λz e=>.inl (E z e),λz e=>.inr e,?_,?_⟩,T4⟩
    .rintro z (t|e)
     .exact .inl t
     .rcases Gk z e with t|t
      .exact .inl t
      .exact .inr (aa2 P.size)
    .have:=J.far (p:=af7 g 2) SL (.slice x (ab0 W+1) v)
     exact this
    .intro z e b
     rcases c with y|y
     .exact p4 z (by rw[<-y];exact e) b
     .rw[y] at e;simp only[aI,bg] at e
      have:=S.o z (E z b);omega
    .intro z f
     rw[bT];rcases f with t|e
     .have:=S.o z t;omega
     .exact(J.lt z e).2
   have y:=U.o.hJ 2 (.slice x (ab0 W+1) v);have E:=y.C 0;have C:=y.C 2;simp only[az,aA,ay,bA,bR,bS] at E C;clear y s0 s2 u2 m Q q0 X D u c;generalize r.setCell (af7 g 2) (.slice x (ab0 W+1) v)=D at *;clear U o q j X2 S P V K I M n A T c5;have q:lf (L++(W++[(a,k)])):=by
    rw[<-aN];exact ho.append (λm y=>by simp only[bQ] at y;subst y;exact⟨O.1,O.2,by show 0<k;omega⟩)
   have I:=ax q;have T:Hid (tot (L++(W++[(a,k)]))=tot (L++W)+k):=by show _=_;simp only[h_,tot];omega
   clear q;by_cases V:d<=(ab0 W:Int)+1
   .have y:Hid (jD d L W (a,k)=qT d (L++(W++[(a,k)]))/\nu d W (a,k)=[]):=by unfold jD nu;rw[aH V,aH V];exact⟨rfl,rfl⟩
    obtain⟨U,q,c,s⟩:=R.o;have S:ab0 L+ab0 (W++[(a,k)])<=100000000:=by simp only[aE,bh];omega
    have Q:tot (L++(W++[(a,k)]))<=281474976710656:=by rw[T.o];omega
    have G:=ax (λnq=>Ai g U d lo1 hi1 L (W++[(a,k)]) (D.drewN nq) (c.K (below_drewN (aC _ _) nq)) I.o ad S Q d0 d1);have X:=ax s;have b:=ax q;clear q c s S Q R;go_quiet (fail)
    go_wp21;refine RX (G.o _) ?_
    rintro l ⟨P,S,Q,u⟩;have M:=ax S;have K:=ax Q;have J:=ax u;have j:=X.o.size;clear S Q u;go_wp2;refine ak ?_;refine⟨rfl,P,?_,?_,?_⟩
    .intro z H
     rcases M.o z H with Y|Y
     .exact b.o z Y
     .exact .inr (by rw[ir] at Y;omega)
    .rw[y.o.1,y.o.2,<-T.o]
     exact K.o
    .exact(X.o.drewN _).T J.o (λi hi=>b.o i hi)
   .have y:Hid (jD d L W (a,k)=L/\nu d W (a,k)=W++[(a,k)]):=by unfold jD nu;rw[aF V,aF V];exact⟨rfl,rfl⟩
    obtain⟨U,q,c,s⟩:=R.o;have S:=ax c;have X:=ax s;have b:=ax q;clear q c s R;go_quiet (fail)
    go_wp2;refine ak ?_;refine⟨rfl,U,b.o,?_,X.o.drewN _⟩;rw[y.o.1,y.o.2,<-T.o];exact S.o.K (below_drewN (aC _ _) _)
def Dg.lt{w:World}{g:Nat}{F:Nat->Prop}{d lo hi n:Int}{L W:List Mn}(h:Dg w g F d L W lo hi n):g<w.heap.size:=by
 obtain⟨y,x,z,_⟩:=h;exact z.lt
def Dg.mem(h:Dg w g F d L W lo hi n):F g:=by
 obtain⟨y,x,_,_,_,z,_⟩:=h;exact z
def Dg.low(h:Dg w g F d L W lo hi n):∀k,F k->k<w.heap.size:=by
 obtain⟨y,x,_,_,_,_,_,_,_,z⟩:=h;exact z
def nA(w:World)(h:Dg w g F d L W lo hi n):af4 af5 122 #[aq g] w λe x=>e=.returned (af6 d)/\w=x:=by
 obtain⟨v,u,y,_⟩:=h;have z:=y.k0;go_in;go_wp2;refine ak ?_;exact⟨rfl,rfl⟩
def Ki(w:World)(h:Dg w g F d L W lo hi 0):af4 af5 200 #[aq g] w (au w (.tuple #[af6 0,af6 0,af6 8])):=by
 obtain⟨v,u,z,_⟩:=h;have y:=z.k5;clear z;go_in;go_wp2;refine ak ?_;exact⟨rfl,bw⟩
def Kj(w:World)(h:Dg w g F d L W lo hi n)(s:0<n):af4 af5 200 #[aq g] w (au w (.tuple #[af6 lo,af6 hi,af6 0])):=by
 obtain⟨r,q,z,_⟩:=h;have v:=z.k5;have y:=z.k3;have x:=z.k4;have t:(n == 0)=false:=ae;clear z;go_in;go_wp21
 go_quiet (fail)
 go_wp2;refine ak ?_;exact⟨rfl,bw⟩
def MW(w:World)(h:Dg w g F d L W lo hi n)(s:ab0 L<=1099511627776):af4 af5 202 #[aq g] w λe x=>∃v,e=.returned v/\ic w.heap.size x v L/\af3 w x:=by
 obtain⟨r,q,z,y,_⟩:=h;have t:=z.k1;have u:=ax y;clear z y;go_in;go_wp21;refine WE (rN r L _ u.o.rd s) ?_;rintro v y ⟨o,z⟩;have O:=ax o;clear o;go_wp2;refine ak ?_;exact⟨_,rfl,O.o,z⟩
def Kk(w:World)(h:Dg w g F d L W lo hi n)(s:ab0 W<=1099511627776):af4 af5 204 #[aq g] w λe x=>∃v,e=.returned v/\ic w.heap.size x v W/\af3 w x:=by
 obtain⟨q,r,z,_,y,_⟩:=h;have t:=z.k2;have u:=ax y;clear z y;go_in;go_wp21;refine WE (rN r W _ u.o.rd s) ?_;rintro v y ⟨o,z⟩;have O:=ax o;clear o;go_wp2;refine ak ?_;exact⟨_,rfl,O.o,z⟩
def Gl(d:Int)(w:World)(h:d<10\/1000<d):af4 af5 270 #[af6 d] w (au w (.tuple #[.pointer none,af6 1])):=by
 by_cases y:d<10
 .go_in
  go_wp21
  all_goals
   refine ak ?_;exact⟨rfl,bw⟩
 .have x:1000<d:=aa
  go_in;go_wp21
  all_goals
   refine ak ?_;exact⟨rfl,bw⟩
def Bs(d:Int)(w:World)(y:10<=d)(x:d<=1000):af4 af5 270 #[af6 d] w λe z=>∃g,e=.returned (.tuple #[aq g,af6 0])/\w.heap.size<=g/\Dg z g (λk=>k=g) d [] [] 0 0 0/\af3 w z:=by
 go_in;go_wp2;refine ak ?_;refine⟨_,rfl,?_,⟨.slice none 0 0,.slice none 0 0,?_,ic.nil_ _ _,ic.nil_ _ _,rfl,(λk e=>by cases e),(λk e=>by cases e),(λk e=>by cases e),(λk e=>by subst e;simp)⟩,?_⟩
 .simp
 .exact g7.new _ _ _
 ·(repeat' (first|(with_reducible exact aC _ _)|(with_reducible refine dD ?_ ?_ _)|(with_reducible refine Below.drew ?_)|(with_reducible refine below_drewN ?_ _)|(with_reducible refine dW ?_ ?_ _)|(with_reducible refine ti (by assumption) ?_ ?_)|go_size))
def Found(n:Nat)(p:Nat->Bool)(w:World)(e:Ending)(w':World):Prop:=∃i q:Nat,e=.returned (af6 i)/\i<=n/\(∀t,t<i->p t=false)/\(∀t,i<=t->t<n->p t=true)/\w'=w.drewN q
def Gm(K:Nat)(f:Array Value)(n:Nat)(p:Nat->Bool)(w:World)(Y:∀z w,(callFunc K z).run prog w=.ok (.enter K z) w)(S:n<4611686018427387904)
 (y:∀(m i:Nat),i<n->Calls prog K (#[af6 i]++f) (w.drewN m) λe g=>e=.returned (.bool (p i))/\∃q,g=(w.drewN m).drewN q)
 (x:∀a b,a<=b->b<n->p a=true->p b=true) :
 af4 af5 154 #[af6 n,.func (.func K) #[] f] w (Found n p w):=by
 have c:=ax y;have M:=ax x;clear y x;go_in;go_wp2
 go_loopg [5,6] n (λx v u wr=>∃y z q:Nat,v=af6 y/\u=af6 z/\y<=z/\z<=n/\z - y<=x/\wr=w.drewN q /\
  Hid ((∀t,t<y->p t=false)/\(∀t,z<=t->t<n->p t=true)))
 exact⟨0,n,0,rfl,rfl,bl _,aD _,aa,rfl,(⟨λt v=>absurd v (Nat.not_lt_zero _),λt a X=>by omega⟩:(∀t,t<0->p t=false)/\(∀t,n<=t->t<n->p t=true))⟩
 case round=>
  obtain⟨y,z,q,rfl,rfl,U,d,V,rfl,I⟩:=hrel;by_cases T:y<z
  .have x:=c.o q ((y+z) / 2) aa
   rw[show(((y+z) / 2:Nat):Int)=((y:Int)+(z:Int)) / 2 by omega] at x;cases hp:p ((y+z) / 2)<;>rw[hp] at x
   .have s:=ax hp
    have u:=ax x;clear hp x;go_wp2_with (go_at_fn K;refine u.o.M ?_;rintro e g ⟨rfl,nq,rfl⟩)
    go_roundg (z - ((y+z) / 2+1))
    case measure=>omega
    case rel=>
     have r:Hid ((∀t,t<(y+z) / 2+1->p t=false)/\(∀t,z<=t->t<n->p t=true)):=⟨λt v=>(by
      cases h:p t with
      | false=>rfl
      | true=>have:=M.o t ((y+z) / 2) aa  aa h;rw[s.o] at this;cases this),I.o.2⟩
     exact⟨(y+z) / 2+1,z,q+nq,by rw[show((y:Int)+(z:Int)) / 2+1=(((y+z) / 2+1:Nat):Int) by omega],rfl,aa,d,aD _,rfl,r⟩
   .have s:=ax hp
    have u:=ax x;clear hp x;go_wp2_with (go_at_fn K;refine u.o.M ?_;rintro e g ⟨rfl,nq,rfl⟩)
    go_roundg ((y+z) / 2 - y)
    case measure=>omega
    case rel=>
     have r:Hid ((∀t,t<y->p t=false)/\(∀t,(y+z) / 2<=t->t<n->p t=true)):=⟨I.o.1,λt v b=>M.o ((y+z) / 2) t v b s.o⟩;exact⟨y,(y+z) / 2,q+nq,rfl,by rw[show((y:Int)+(z:Int)) / 2=(((y+z) / 2:Nat):Int) by omega],aa,aa,aD _,rfl,r⟩
  .obtain rfl:z=y:=aa
   go_wp2;go_ret;exact⟨z,q,rfl,d,I.o.1,I.o.2,rfl⟩
def vR(w:World)(g:Nat)(F:Nat->Prop)(d:Int)(s:St):Prop:=Dg w g F d s.L s.W s.lo s.hi (tot (s.L++s.W))
structure Fit(d:Int)(s:St)(k:Nat):Prop where
 ok:s.Ok d k
 k1:k<=100000000
 t:tot (s.L++s.W)<=281474976710656
 d0:10<=d
 d1:d<=1000
structure Uv(g:Nat)(d:Int)(w w':World):Prop where
 touch:Touch (λk=>k=g) w w'
 c0:w'.cell? (af7 g 0)=some (af6 d)
def Uv.hJ(h:Uv g d w w')(v:Value):Uv g d w (w'.setCell (af7 g 1) v):=
 ⟨h.touch.setCell (.inl rfl) v,(bK _ _ _ _ ad).T h.c0⟩
def q8.low(h:q8 w g F d L W lo hi):∀k,F k->k<w.heap.size:=by
 obtain⟨y,x,_,_,_,_,_,_,_,z⟩:=h;exact z
def yc(g:Nat)(F:Nat->Prop)(d X Y:Int)(L W:List Mn)(w:World)(h:q8 w g F d L W X Y)(q:lf (L++W))(hlen:ab0 L+ab0 W<=100000000)(j:tot (L++W)<=281474976710656)(I:0<=d)(H:d<=1000):af4 af5 115 #[aq g] w λe t=>e=.returned (.tuple #[])/\∃z:Nat->Prop,(∀k,z k->F k\/w.heap.size<=k)/\q8 t g z d (qT d (L++W)) [] X Y/\Touch F w t:=by
 have N:=ax h;obtain⟨lv,wv,y,r,p,u,a,V,U,T⟩:=h;have z:=y.k0;have x:=y.k1;have v:=y.k2;have G:=y.F 1;have E:=y.F 2;have s:=y.lt;have R:=ax y;obtain⟨A,n,rfl,na,ma,f⟩:=r.form;obtain⟨B,cb,rfl,nb,mb,b⟩:=p.form;have c:=ax u;have Q:=ax z;have P:=ax x;have O:=ax v;have M:=ax q;have S:ab0 (L++W)<=1000000000:=by rw[aE];omega
 clear y r p f b q u a V U T z x v;go_in;go_wp21;have r:∀t,af3 w t->Uv g d w t:=λt y=>⟨Touch.of_below y (aD _),(y.C (p:=af7 g 0) s).T Q.o⟩;have Z:=ax (λ(t:World) (z:(Uv g d w) t)=>(z.c0));refine jh (Uv g d w) (hQ 0 6 (ik 6 (ik 7 (hQ 8 2 (ik 10 []))))) (r _ (aC _ _).drew) ?_;iterate 6 refine ib ?_
 refine iz λK u=>?_;go_simp;refine WE (kN g F d X Y L W _ (N.o.K (aC _ _).drew) aa) ?_;rintro m o ⟨z,D⟩;have a:af3 w o:=((aC _ _).drew).T (D.M ag);have l:=a.size;have J:=ax z;clear z;refine u _ _ (r _ a) ?_;refine iz λK u=>?_;go_simp;refine WE (Bp d m (L++W) _ J.o.rd M.o S j I H) ?_;rintro v3 T ⟨z,C⟩;have x:af3 w T:=a.T (C.M l);have hz3:=x.size;have q:=ax z;clear z;refine u _ _ (r _ x) ?_;iterate 2 refine ib ?_
 refine iz λK u=>?_;obtain⟨f,b,rfl,n3,m3,z⟩:=q.o.form;clear z;have k1:=(x.F (p:=af7 g 1) s).T G;have k3:=(x.C (p:=af7 g 1) s).T P.o;go_simp;refine u _ _ ((r _ x).hJ _) ?_;refine g4 ?_;have k2:=(x.F (p:=af7 g 2) s).T E;have k4:=(x.C (p:=af7 g 2) s).T O.o;go_wp21;refine ct (v:=.tuple #[]) (by simp[results,Tryz.results115,go_sem, *];try rfl) rfl ?_;refine⟨rfl,λk=>k=g\/(Value.slice f (ab0 (qT d (L++W))) b).ownBlock=some k,?_,?_,?_⟩
 .rintro k (rfl|z)
  .exact .inl c.o
  .exact .inr (aa2 (q.o.lt k z).1)
 .have U:∀k,(Value.slice f (ab0 (qT d (L++W))) b).ownBlock=some k->w.heap.size<=k/\k<T.heap.size:=λk z=>by have:=q.o.lt k z;omega
  have V:∀i,(Value.slice f (ab0 (qT d (L++W))) b).ownBlock≠some ((af7 g i):Addr).block:=λi z=>by have:=U g z;omega
  refine⟨_,_,((R.o.K x).hJ 1 _).hJ 2 _,((q.o.more (bl _)).far (V 1) _).far (V 2) _,ic.nil_ _ _,.inl rfl,λk z=>.inr z,λk z=>(by cases z),λk z=>(by cases z),λk z=>?_⟩;simp only[bT];rcases z with rfl|z
  .omega
  .have:=U k z;omega
 .exact((Touch.of_below x (aD _)).setCell (.inl c.o) _).setCell (.inl c.o) _
def q8.cells(u:g7 w g 111 #[af6 d,lv,wv,af6 lo,af6 hi])(t:ic 0 w lv L)(s:ic 0 w wv W)
 (q:F g/\(∀k,lv.ownBlock=some k->F k)/\(∀k,wv.ownBlock=some k->F k)/\(∀k,wv.ownBlock=some k->lv.ownBlock≠some k)/\(∀k,F k->k<w.heap.size))
 (y:Touch (λk=>k=g) w w') (p:g7 w' g 111 #[af6 d',lv,wv,af6 lo',af6 hi']):q8 w' g F d' L W lo' hi':=by
 obtain⟨c,x,v,r,z⟩:=q;have b:=u.kY t ab;have a:=u.kY s ab;exact⟨lv,wv,p,t.stay λk e=>y.block k (z k (x k e)) (λh=>b (by rw[e,h])),s.stay λk e=>y.block k (z k (v k e)) (λh=>a (by rw[e,h])),c,x,v,r,λk f=>aG (z k f) y.size⟩
def Aj(a b:Int)(w:World)(h:q8 w g F d L W lo hi)(M:ab0 L+ab0 W<=100000000):af4 af5 114 #[aq g,af6 a,af6 b] w λe Y=>e=.returned (.tuple #[])/\q8 Y g F d L W (if ab0 L+ab0 W=0 then a else min lo a) (if ab0 L+ab0 W=0 then b else max hi b)/\Touch (λk=>k=g) w Y:=by
 obtain⟨K,E,z,x,v,c,u,q,p,f⟩:=h;obtain⟨A,Q,rfl,H,J,S⟩:=x.form;obtain⟨B,P,rfl,G,I,R⟩:=v.form;have y:=ax z;have s:=ax x;have r:=ax v;have t:=ax (aB c (aB u (aB q (aB p f))));have X:=z.k1;have V:=z.k2;have U:=z.k3;have T:=z.k4;have O:=z.F 3;have N:=z.F 4;clear z x v c u q p f S R;by_cases x:ab0 L+ab0 W=0
 .simp only[aH x]
  have q:(((ab0 L:Int)+(ab0 W:Int)) == 0)=true:=ae;clear x;have u:ad0 .i64 ((ab0 L:Int)+(ab0 W:Int))=(ab0 L:Int)+(ab0 W:Int):=cy _ aa;go_in;go_wp21
  go_quiet (fail)
  clear u;go_wp21;refine ct (v:=.tuple #[]) (by simp[results,Tryz.results114,go_sem, *];try rfl) rfl ?_;have z:=((((((Touch.refl (λk=>k=g) w).drewN nq).setCell (p:=af7 g 3) (.inl rfl) (af6 a)).setCell (p:=af7 g 4) (.inl rfl) (af6 b)).setCell (p:=af7 g 3) (.inl rfl) (af6 a)).setCell (p:=af7 g 4) (.inl rfl) (af6 b));exact⟨rfl,q8.cells y.o s.o r.o t.o z (((((y.o.drewN nq).hJ 3 _).hJ 4 _).hJ 3 _).hJ 4 _),z⟩
 .simp only[aF x]
  have q:(((ab0 L:Int)+(ab0 W:Int)) == 0)=false:=ae;clear x;have u:ad0 .i64 ((ab0 L:Int)+(ab0 W:Int))=(ab0 L:Int)+(ab0 W:Int):=cy _ aa;go_in;go_wp21
  go_quiet (fail)
  clear u;go_wp21;refine ct (v:=.tuple #[]) (by simp[results,Tryz.results114,go_sem, *];try rfl) rfl ?_;have z:=(((Touch.refl (λk=>k=g) w).drewN nq).setCell (p:=af7 g 3) (.inl rfl) (af6 (min lo a))).setCell (p:=af7 g 4) (.inl rfl) (af6 (max hi b));exact⟨rfl,q8.cells y.o s.o r.o t.o z (((y.o.drewN nq).hJ 3 _).hJ 4 _),z⟩
