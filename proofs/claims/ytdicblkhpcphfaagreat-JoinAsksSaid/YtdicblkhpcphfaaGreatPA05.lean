/- Parts. No condition. -/
import Derived.Test.YtdicblkhpcphfaaGreatPA04
import Derived.Shelf.Spec.SlicesGrow
set_option maxRecDepth 100000
set_option maxHeartbeats 0
set_option linter.all false
namespace Go.Proofs.YtdicblkhpcphfaaGreat
open Tryz Go.RowKit Go.Lib
open _root_.List renaming length→ao
open _root_.Go renaming Calls→ar
open Tryz renaming prog→Oe
variable{w w':World}{g t:Nat}{L W l:List Mn}{F:Nat->Prop}{d hi lo n:Int}
def OW(n:Nat)(w:World)(X:n<=1099511627776) :
 ar Oe 259 #[.slice none 0 0,.int .i64 n] w λe f=>∃v,e=.returned v/\g7 w.heap.size f v []/\aq w f:=by
 obtain⟨u,q,g,Y,v⟩:=cx EH
 by_cases b:n=0
 ·subst b
  go_in
  go_wp2
  go_ret;exact⟨_,rfl,g7.nil_ _ _,bw⟩
 ·have p:(Builtin.firstCells u.size 0 (.slice none 0 0)).run prog w.drew=.ok #[] w.drew:=run_firstCells_none w.drew u.size 0 0 0
  have x:∀t,(Builtin.append_ #[109,3] t #[.slice none 0 0,.int .i64 (n:Int)]).run prog w =
   .ok (.slice (some ⟨w.heap.size,0,none⟩) n (grownCap w n 0 216)) (w.drew.alloc (.cells (([]:List Value).toArray++Builtin.zeroCells (Value.agg #[.int .i64 0,.int .u64 0]).cells n++Builtin.zeroCells (Value.agg #[.int .i64 0,.int .u64 0]).cells (grownCap w n 0 216 - n)) 216)):=λt=>by
   have h:=Lib.run_append_grow_zeros w 109 3 t 216 u _ .i64 .i64 underlying109 underlying3 q g none 0 0 [] p n aa  aa  aa  aa (by rw[v];omega) (growslice_fits aa (by rw[v];omega))
   simpa using h
  have a:n<=grownCap w n 0 216:=grownCap_ge w _ _ _;have z:grownCap w n 0 216<=maxLen:=grownCap_le_maxLen w n 0 216 (by unfold maxLen;omega)
  obtain⟨G,s⟩:=au (grownCap w n 0 216);rw[s] at x a z;obtain⟨Z,y⟩:∃Z:Array Value,(([]:List Value).toArray++Builtin.zeroCells (Value.agg #[.int .i64 0,.int .u64 0]).cells n++Builtin.zeroCells (Value.agg #[.int .i64 0,.int .u64 0]).cells (G - n))=Z:=⟨_,rfl⟩;rw[y] at x;have r:Z.size=G * 2:=by
   rw[<-y,dy,dy,size_zeroCells,size_zeroCells];simp only[Value.cells,dx,aJ,aV];omega
  have c:=ay r;have d:=ay z;clear y r s p q g Y v z
  go_in
  go_wp2_with (at_builtin;refine Lib.wpList_append_run _ rfl _ _ _ _ rfl _ _ rfl rfl _ _ (x _) ?_)
  go_ret;refine⟨_,rfl,?_,bw⟩
  exact⟨by simp[hI],.inr ⟨w.heap.size,G,Z,rfl,aD _,cm _ _,bB _,d.o,c.o,by simp[hI]⟩⟩
def Gv(w:World):g7 w.heap.size (w.alloc (.cells #[] 216)) (.slice (some ⟨w.heap.size,0,none⟩) 0 0) []:=
 ⟨by simp[hI],.inr ⟨w.heap.size,0,#[],rfl,aD _,cm _ _,bB _,by unfold maxLen;omega,rfl,by simp[hI]⟩⟩
def EJ(v:Value)(l:List Mn)(w:World)(h:kR w v l)(b:ao l<=1099511627776) :
 ar Oe 281 #[v] w λe u=>∃z,e=.returned z/\g7 w.heap.size u z l/\aq w u:=by
 have H:=ay h;obtain⟨A,c,rfl,Y,d,y⟩:=h.form
 rcases A with _|a
 ·have t:l=[]:=by
   rcases bh (ao l) with z|z
   ·exact aN z
   ·obtain⟨g,s,x,_⟩:=y z;cases x
  subst t;clear y h;have q:(binOp .eql 109 (.slice none 0 c) (.slice none 0 0)).run prog w=.ok (.bool true) w:=Lib.run_eql_slice_nil w _ _ _ _ _ _ _ underlying109
  go_in
  go_wp2
  go_ret;exact⟨_,rfl,g7.nil_ _ _,bw⟩
 ·clear y h
  have q:(binOp .eql 109 (.slice (some a) (ao l) c) (.slice none 0 0)).run prog w=.ok (.bool false) w:=Lib.run_eql_slice_nil w _ _ _ _ _ _ _ underlying109
  go_in
  go_wp2_with (first
   | (at_builtin
      go_must (refine iI rfl (.tmp 5) (.tmp 6) rfl w.heap.size (.slice (some ⟨w.heap.size,0,none⟩) 0 0) [] rfl (Gv w) (.slice (some a) (ao l) c) l rfl (H.o.keep ((aC _ _).alloc (aD _) _)) (by simp only[aV];omega) ah ?_)
      intro g f x z s;have r:aq w f:=((aC _ _).alloc (aD _) _).grown z ah (λk p=>by simp[Value.ownBlock] at p;omega)
      have t:=ay x;clear x z s))
  go_ret;exact⟨g,rfl,t.o,r⟩
def sW(w:World)(g:Nat)(L:List (List Mn)):Prop:=∀i (h:i<ao L),∃v,w.cell? ⟨g,i,none⟩=some v/\kR w v L[i]
def sW.keep{L:List (List Mn)}(h:sW w g L)(u:g<w.heap.size)(z:aq w w'):sW w' g L:=λi t=>by
 obtain⟨v,y,x⟩:=h i t;exact⟨v,(z.cell (p:=⟨g,i,none⟩) u).trans y,x.keep z⟩
def pe(L:List (List Mn))(i:Nat)(h:i<ao L):(L.take (i+1)).flatten=(L.take i).flatten++L[i]:=by
 rw[aM h,dA];simp
def oe(L:List (List Mn))(i:Nat):ao (L.take i).flatten<=ao L.flatten:=by
 have h:L.flatten=(L.take i).flatten++(L.drop i).flatten:=by rw[<-dA,bK]
 rw[h,aE];omega
def uq(g:Nat)(L:List (List Mn))(w:World)(V:g<w.heap.size)(h:sW w g L)(C:ao L<=1000)(B:ao L.flatten<=1099511627776) :
 ar Oe 175 #[.slice (some ⟨g,0,none⟩) (ao L) (ao L)] w λe R=>∃v,e=.returned v/\g7 w.heap.size R v L.flatten/\aq w R:=by
 have H:=ay h;clear h
 go_in
 go_wp2
 go_loopg [3,11] (ao L) (λq y i wr=>∃j z:Nat,q=ao L - j/\j<=ao L/\i=.int .i64 j/\y=.int .i64 (z:Int)/\Hid (ao (L.take j).flatten=z)/\aq w wr)
 exact⟨0,0,rfl,aa,rfl,rfl,rfl,aC _ _⟩
 case round=>
  obtain⟨j,z,s,I,rfl,rfl,Y,t⟩:=hrel;have p:=ay s;have a:=t.size;clear s;have E:z<=1099511627776:=by have:=oe L j;have:=Y.o;omega
  by_cases U:j<ao L
  ·obtain⟨v,K,r⟩:=(H.o.keep V t) j U
   obtain⟨A,c,rfl,f,x,y⟩:=r.form;have u:Hid (ao (L.take (j+1)).flatten=z+ao L[j]):=by show _=_;rw[pe L j U,aE,Y.o]
   have b:z+ao L[j]<=1099511627776:=by have:=oe L (j+1);have:=u.o;omega
   clear y r
   go_wp2
   go_roundg (ao L - (j+1))
   exact⟨j+1,z+ao L[j],rfl,aa,ag,ag,u,t⟩
   have:=p.o;omega
  ·have G:j=ao L:=aa
   clear p
   go_wp2_with (first|(go_at_call 259;refine(OW z _ E).mono ?_;rintro e n ⟨m,rfl,y,X⟩;have P:=ay y;have A:=X.size;clear y))
   obtain⟨y,rfl⟩:∃y:World,y=wr:=⟨_,rfl⟩
   go_loopg [6,27] (ao L) (λq f i x=>∃k:Nat,q=ao L - k/\k<=ao L/\i=.int .i64 k/\g7 y.heap.size x f (L.take k).flatten/\aq y x)
   exact⟨0,rfl,aa,rfl,P.o,X⟩
   case round=>
    obtain⟨k,s,I,rfl,x,f⟩:=hrel;have p:=ay s;have l:=f.size;have d:=ay x;clear s x
    by_cases T:k<ao L
    ·obtain⟨v,K,r⟩:=(H.o.keep V (t.trans (f.mono a))) k T
     have N:=ay r;have u:=ay (pe L k T);have b:ao (L.take k).flatten+ao L[k]<=1099511627776:=by
      have q:=oe L (k+1);rw[u.o,aE] at q;omega
     have Q:=ay b;clear b r
     go_wp2_with (first
      | (at_builtin
         refine iI rfl (.tmp 31) (.tmp 32) rfl y.heap.size u6 _ rfl d.o v L[k] rfl N.o Q.o aa ?_
         intro o D S c M;have J:aq y D:=f.grown c aa (λx F=>(d.o.lt x F).1)
         have O:=ay S;clear S c M))
     go_roundg (ao L - (k+1))
     exact⟨k+1,rfl,aa,ag,by rw[u.o];exact O.o,J⟩
     have:=p.o;omega
    ·have c:k=ao L:=aa
     have x:Hid (L.take k=L):=by show _=_;rw[bj aa]
     clear c G
     go_wp2
     go_ret;refine⟨_,rfl,?_,t.trans (f.mono a)⟩
     have q:=d.o;rw[x.o] at q;exact q.more a
def OX(c:Nat)(t:c<=1099511627776)(w:World):∃Z:Array Value,(Instr.makeSlice 109 (.int .i64 0) (.int .i64 (c:Int))).run prog w=.ok (.slice (some ⟨w.heap.size,0,none⟩) 0 c) (w.alloc (.cells Z 216)) /\
 g7 w.heap.size (w.alloc (.cells Z 216)) (.slice (some ⟨w.heap.size,0,none⟩) 0 c) []:=by
 obtain⟨u,z,y,x,v⟩:=cx EH;refine⟨_,nj 109 216 u _ underlying109 z y .i64 .i64 0 c (bB _) (by rw[v];omega) aa w,?_⟩
 exact⟨by simp[hI],.inr ⟨w.heap.size,c,_,rfl,aD _,cm _ _,bB _,by unfold maxLen;omega,by rw[size_madeCells,x],by simp[hI]⟩⟩
def ME(h:ao l<2):iJ l=l:=by
 match l,h with
 | [],_=>rfl
 | [m],_=>rfl
def ur(n:Nat):∀(l:List Mn) (v:Value) (w:World),ao l<=n->ao l<=1000000000->kR w v l ->
 ar Oe 244 #[v,.func (.func 245) #[] #[]] w λe s=>∃z,e=.returned z/\kR s z (iJ l)/\aq w s:=by
 induction n with
 | zero=>
  intro l v w hl _ h;have y:l=[]:=aN aa
  subst y;have H:=ay h;obtain⟨A,c,rfl,hn,O,z⟩:=h.form;clear z h
  go_in
  go_wp2
  go_ret;exact⟨_,rfl,H.o,bw⟩
 | succ n ih=>
  intro l v w hl hlen h;have IH:=ay ih;clear ih;have H:=ay h;obtain⟨A,c,rfl,hn,O,z⟩:=h.form;have HP:=ay z;clear z h
  by_cases h2:ao l<2
  ·have L:=ay (ME h2)
   go_in
   go_wp2
   go_ret;exact⟨_,rfl,by rw[L.o];exact H.o,bw⟩
  ·obtain⟨g,off,hA,hg,_⟩:=HP.o aa
   subst hA;obtain⟨h,y⟩:∃h,h=ao l / 2:=⟨_,rfl⟩;have hh1:h<=ao l:=aa
   have z:kR w (.slice (some ⟨g,off,none⟩) h c) (l.take h):=by
    have:=kR.jj (c:=c) (l:=l.take h) (by rw[aU];omega) O (HP.o.head h)
    rwa [aU,dk hh1] at this
   have e1:((ao l:Int) / 2)=(h:Int):=aa
   have i0:(0:Int)<=(h:Int):=aa
   have i1:(h:Int)<=(ao l:Int):=aa
   have i2:(h:Int)<=(c:Int):=aa
   have hh2:h<=n:=aa
   have hh3:ao l - h<=n:=aa
   have hh4:h<ao l:=aa
   have z1:¬c=0:=aa
   have z2:¬c=h:=aa
   have z4:(h:Int)<(c:Int):=aa
   have z5:(0:Int)<(h:Int):=aa
   clear y
   go_in
   go_upto_region 3 with fail;have HR1:=ay z;have y:kR w (.slice (some ⟨g,off+h * 2,none⟩) (ao l - h) (c - h)) (l.drop h):=by
    have:=kR.jj (c:=c - h) (l:=l.drop h) (by rw[aZ];omega) aa (HP.o.tail rfl h)
    rwa [aZ] at this
   have HR2:=ay y;have x:ao (l.take h)<=n:=by rw[aU];omega
   have u:ao (l.take h)<=1000000000:=by rw[aU];omega
   have t:ao (l.drop h)<=n:=by rw[aZ];omega
   have r:ao (l.drop h)<=1000000000:=by rw[aZ];omega
   have EW:=ay (cy (h:Int) aa)
   have G:=ay (aF (aF x u) (aF t r));clear z y x u t r;have Z:=ay (λ(s:World) (t:(λ_=>True) s)=>(EW.o))
   refine i' (λ_=>True) (gW 0 6 (gW 7 6 (ib 6 (ib 13 (gW 14 2 []))))) (trivial) ?_
   iterate 12 refine hC ?_
   refine iy λK u=>?_
   go_simp;refine(IH.o (l.take h) _ _ G.o.1.1 G.o.1.2 (HR1.o.keep (aC _ _).drew)).mono ?_
   rintro e w1 ⟨v1,rfl,z,y⟩;have Q1:=ay z;have q:=y.size;clear z;refine u _ _ (trivial) ?_
   clear u K;refine iy λK u=>?_
   go_simp;refine(IH.o (l.drop h) _ _ G.o.2.1 G.o.2.2 ((HR2.o.keep (aC _ _).drew).keep y)).mono ?_
   rintro e z ⟨v2,rfl,r,x⟩;have Q2:=ay r;clear r;refine u _ _ (trivial) ?_
   clear u K
   iterate 2 refine hC ?_
   refine gM ?_
   have wo:aq w z:=(((aC _ _).drew).trans y).trans (x.mono ah)
   have QX:=wo.size;have A1:=ay (Q1.o.keep x);have HM:=ay (show mrg (iJ (l.take h)) (iJ (l.drop h))=iJ l by rw[lD,bK])
   have HN:Hid (ao (iJ (l.take h))+ao (iJ (l.drop h))=ao l):=by show _=_;rw[jr,jr,aU,aZ];omega
   obtain⟨Z,hmk,r⟩:=OX (ao l) aa z
   have V9:=ay r;clear r y x q
   go_wp2
   go_loopg [5,6,7] (ao l) (λk q p f wr=>∃y x r:List Mn,k=ao y+ao x/\ao r+k=ao l/\kR z q y/\kR z p x/\g7 z.heap.size wr f r/\Hid (r++mrg y x=iJ l)/\aq z wr)
   exact⟨iJ (l.take h),iJ (l.drop h),[],HN.o.symm,ad,A1.o,Q2.o,V9.o,HM.o,bw⟩
   case round=>
    obtain⟨y,x,r,q,Y,p,f,X,L,b⟩:=hrel;have o:=ay p;have W:=ay f;have M:=ay X;obtain⟨Aa,ca,rfl,na,ma,d⟩:=p.form;obtain⟨Ab,cb,rfl,nb,mb,a⟩:=f.form;have FA:=ay d;have FB:=ay a;have R:=ay (aF q Y);have S:=b.size;clear d a q Y p f X
    by_cases B:0<ao y
    ·by_cases j:0<ao x
     ·obtain⟨g1,o1,rfl,U,p,f⟩:=FA.o.at_ B
      obtain⟨g2,o2,rfl,T,d,a⟩:=FB.o.at_ j;simp only[db,bP] at p f d a;have F:=ay p;have E:=ay f;have D:=ay d;have C:=ay a;clear p f d a;have hsl:ao r+(ao y+ao x)<=1000000000:=by have:=R.o;omega
      have xa:(1:Int)<=(ao y:Int):=aa
      have ya:(1:Int)<=(ao x:Int):=aa
      by_cases O:x[0].1<y[0].1
      ·have i:=ay (Cl B j O)
       have hd:decide (x[0].1<y[0].1)=true:=by simpa using O
       go_upto_region 6 with fail;have Z:=ay (λ(s:World) (t:aq z s)=>(aF ((t.cell (p:=⟨_,_,none⟩) U).trans F.o) (aF ((t.cell (p:=⟨_,_,none⟩) U).trans E.o) (aF ((t.cell (p:=⟨_,_,none⟩) T).trans D.o) ((t.cell (p:=⟨_,_,none⟩) T).trans C.o)))))
       refine i' (λs=>aq z s) (gW 0 7 (ib 7 [])) (b.drew) ?_
       iterate 7 refine hC ?_
       refine iy λK u=>?_
       go_simp;refine(wU x[0] y[0] _).mono ?_
       rintro e w3 ⟨rfl,X⟩;rw[hd];refine u _ _ (b.drew.trans (X.mono S)) ?_
       clear u K;refine gM ?_
       have V:aq z w3:=b.drew.trans (X.mono S);have J:=ay (M.o.keep ((aC _ _).drew.trans X));have hzw:=V.size;clear X
       go_upto_region 7 with fail;have Z:=ay (λ(s:World) (t:aq z s)=>(aF ((t.cell (p:=⟨_,_,none⟩) U).trans F.o) (aF ((t.cell (p:=⟨_,_,none⟩) U).trans E.o) (aF ((t.cell (p:=⟨_,_,none⟩) T).trans D.o) ((t.cell (p:=⟨_,_,none⟩) T).trans C.o)))))
       refine i' (λs=>aq z s) (gW 0 4 (gW 6 2 (ib 4 (ib 5 (gW 8 2 []))))) (V.drew) ?_
       iterate 6 refine hC ?_
       refine iy λK u=>?_
       go_simp;refine u _ _ ((V.drew).alloc ah _) ?_
       clear u K;refine iy λK u=>?_
       refine sV (.tmp 45) (.tmp 49) rfl z.heap.size u7 r rfl (J.o.drew.alloc _) _ [x[0]] rfl (kR.one _ x[0]) (by simp only[bu];omega) ah ?_
       intro I N a d Q;have f:aq z N:=((V.drew).alloc ah _).grown d ah (λk q=>(J.o.lt k q).1)
       have Y:=ay a;clear a d Q
       go_simp;refine u _ _ (f) ?_
       clear u K
       iterate 2 refine hC ?_
       refine gM ?_
       have P:=kR.OQ j nb mb FB.o;generalize (if cb=1 then some (⟨g2,o2,none⟩:Addr) else some ⟨g2,o2+2,none⟩)=bb at P |-
       have m:=ay P;clear P
       go_wp2
       go_roundg (ao y+(ao x - 1))
       exact⟨y,x.drop 1,r++[x[0]],by rw[aZ],by simp only[aE,bu];have:=R.o;omega,o.o,m.o,Y.o,by show _=_;rw[aO,gm,<-i.o];exact L.o,f⟩
       have:=R.o;omega
      ·have i:=ay (Cm B j O)
       have hd:decide (x[0].1<y[0].1)=false:=by simpa using O
       go_upto_region 6 with fail;have Z:=ay (λ(s:World) (t:aq z s)=>(aF ((t.cell (p:=⟨_,_,none⟩) U).trans F.o) (aF ((t.cell (p:=⟨_,_,none⟩) U).trans E.o) (aF ((t.cell (p:=⟨_,_,none⟩) T).trans D.o) ((t.cell (p:=⟨_,_,none⟩) T).trans C.o)))))
       refine i' (λs=>aq z s) (gW 0 7 (ib 7 [])) (b.drew) ?_
       iterate 7 refine hC ?_
       refine iy λK u=>?_
       go_simp;refine(wU x[0] y[0] _).mono ?_
       rintro e w3 ⟨rfl,X⟩;rw[hd];refine u _ _ (b.drew.trans (X.mono S)) ?_
       clear u K;refine gM ?_
       have V:aq z w3:=b.drew.trans (X.mono S);have J:=ay (M.o.keep ((aC _ _).drew.trans X));have hzw:=V.size;clear X
       go_upto_region 8 with fail;have Z:=ay (λ(s:World) (t:aq z s)=>(aF ((t.cell (p:=⟨_,_,none⟩) U).trans F.o) (aF ((t.cell (p:=⟨_,_,none⟩) U).trans E.o) (aF ((t.cell (p:=⟨_,_,none⟩) T).trans D.o) ((t.cell (p:=⟨_,_,none⟩) T).trans C.o)))))
       refine i' (λs=>aq z s) (gW 0 4 (gW 6 2 (ib 4 (ib 5 (gW 8 2 []))))) (V.drew) ?_
       iterate 6 refine hC ?_
       refine iy λK u=>?_
       go_simp;refine u _ _ ((V.drew).alloc ah _) ?_
       clear u K;refine iy λK u=>?_
       refine sV (.tmp 53) (.tmp 57) rfl z.heap.size u7 r rfl (J.o.drew.alloc _) _ [y[0]] rfl (kR.one _ y[0]) (by simp only[bu];omega) ah ?_
       intro I N a d Q;have f:aq z N:=((V.drew).alloc ah _).grown d ah (λk q=>(J.o.lt k q).1)
       have Y:=ay a;clear a d Q
       go_simp;refine u _ _ (f) ?_
       clear u K
       iterate 2 refine hC ?_
       refine gM ?_
       have P:=kR.OQ B na ma FA.o;generalize (if ca=1 then some (⟨g1,o1,none⟩:Addr) else some ⟨g1,o1+2,none⟩)=bb at P |-
       have m:=ay P;clear P
       go_wp2
       go_roundg ((ao y - 1)+ao x)
       exact⟨y.drop 1,x,r++[y[0]],by rw[aZ],by simp only[aE,bu];have:=R.o;omega,m.o,W.o,Y.o,by show _=_;rw[aO,gm,<-i.o];exact L.o,f⟩
       have:=R.o;omega
     ·have F:=ay (show x=[] from aN aa)
      have V:Hid ((r++y)++x=iJ l):=by show _=_;rw[<-L.o,aO,F.o,mrg_nil_right,bT]
      have hsl:ao r+(ao y+ao x)<=1000000000:=by have:=R.o;omega
      go_wp2_with (first
       | (at_builtin
          refine iI rfl (.tmp 61) (.tmp 62) rfl z.heap.size u7 r rfl M.o _ y rfl (o.o.keep b) aa S ?_
          intro I N a d Q;have f:aq z N:=b.grown d S (λk q=>(M.o.lt k q).1)
          have p:=f.size;have Y:=ay a;clear a d Q)
       | (at_builtin
          refine iI rfl (.tmp 63) (.tmp 64) rfl z.heap.size I (r++y) rfl Y.o _ x rfl (W.o.keep f) (by simp only[aE];omega) p ?_
          intro E J X t T;have P:aq z J:=f.grown t p (λk q=>(Y.o.lt k q).1)
          have U:=ay X;clear X t T))
      go_ret;exact⟨_,rfl,by rw[<-V.o];exact U.o.rd,wo.trans (P.mono QX)⟩
    ·have F:=ay (show y=[] from aN aa)
     have V:Hid ((r++y)++x=iJ l):=by show _=_;rw[<-L.o,aO,F.o,mrg_nil_left,cZ]
     have hsl:ao r+(ao y+ao x)<=1000000000:=by have:=R.o;omega
     go_wp2_with (first
      | (at_builtin
         refine iI rfl (.tmp 61) (.tmp 62) rfl z.heap.size u7 r rfl M.o _ y rfl (o.o.keep b) aa S ?_
         intro I N a d Q;have f:aq z N:=b.grown d S (λk q=>(M.o.lt k q).1)
         have p:=f.size;have Y:=ay a;clear a d Q)
      | (at_builtin
         refine iI rfl (.tmp 63) (.tmp 64) rfl z.heap.size I (r++y) rfl Y.o _ x rfl (W.o.keep f) (by simp only[aE];omega) p ?_
         intro E J X t T;have P:aq z J:=f.grown t p (λk q=>(Y.o.lt k q).1)
         have U:=ay X;clear X t T))
     go_ret;exact⟨_,rfl,by rw[<-V.o];exact U.o.rd,wo.trans (P.mono QX)⟩
def sX(d:Int)(v:Value)(l:List Mn)(w:World)(h:kR w v l)(K:0<ao l)(ho:kg l)(hr:kG l)(hlen:ao l<=1000000000)(ht:tot l<=281474976710656)(d0:0<=d)(d1:d<=1000) :
 ar Oe 243 #[.int .i64 d,.int .u64 (tot l),v] w λe w'=>∃v,e=.returned v/\g7 w.heap.size w' v (mD d (tot l) l)/\aq w w':=by
 obtain⟨A,c,rfl,hn,hc,y⟩:=h.form;obtain⟨g,n,rfl,hg,e0,e1⟩:=y.at_ K;simp only[db,bP] at e0 e1;have ST:=ay (o6.start d K ho hr);have z:=kR.OQ K hn hc y;have i1:(1:Int)<=(ao l:Int):=aa
 clear y h
 go_in
 go_upto_block 0 with fail
 generalize (if c=1 then some (⟨g,n,none⟩:Addr) else some ⟨g,n+2,none⟩)=bb at z |-
 have cf:=z.form;obtain⟨A',c',B,t,x,y⟩:=cf;simp only[fS] at B;obtain⟨rfl,u,rfl⟩:=B;have HQ:=ay y;clear z y t x u
 go_wp2
 go_loopg [7,8,18] (ao l - 1) (λq o x i wr=>∃(j:Nat) (y:List Mn) (z:Mn),q=ao l - 1 - j/\j<=ao l - 1/\i=.int .i64 j/\x=.int .u64 (tot y)/\o6 d (tot l) l (j+1) y z /\
  g7 (w.heap.size+1) wr o y/\gN wr w.heap.size 216 #[.int .i64 z.1,.int .u64 z.2]/\aq w wr)
 exact⟨0,[],l[0],rfl,aa,rfl,rfl,ST.o,g7.nil_ _ _,gN.new _ _ _,bw⟩
 case round=>
  obtain⟨j,y,z,V,hj,rfl,rfl,f,u,x,S⟩:=hrel;have G:=ay V;have T:=ay u;have HB:=ay x;have hbl:=x.lt;have hz:=S.size;obtain⟨n0,n1⟩:=x.c2;clear V u x
  by_cases hlt:j<ao l - 1
  ·have I:j+1<ao l:=aa
   obtain⟨p1,o,H,W,i⟩:=f.facts I;have hlt2:j<ao (l.drop 1):=by rw[aZ];exact hlt
   obtain⟨g1,o1,rfl,C,u,s⟩:=HQ.o.at_ hlt2;have x:(l.drop 1)[j]=l[j+1]:=by rw[eS];congr 1;omega
   rw[x] at u s;clear x;replace u:=(S.cell (p:=⟨_,_,none⟩) C).trans u;replace s:=(S.cell (p:=⟨_,_,none⟩) C).trans s;obtain⟨x,t⟩:=au (l[j+1]);rw[t] at u s H W i;have q1:=o.2.2;have q2:=H.2.2;have MB:MD d (tot l) (tot y) (z.2+x.2):=⟨d0,d1,ht,p1,aa,i⟩
   have M:=ay f;have P:=ay t;clear f t;have t:(wr.alloc (.cells #[.int .i64 x.1,.int .u64 x.2] 216)).cell? ⟨wr.heap.size,0,none⟩=some (.int .i64 x.1):=by simp[bU]
   have r:(wr.alloc (.cells #[.int .i64 x.1,.int .u64 x.2] 216)).cell? ⟨wr.heap.size,1,none⟩=some (.int .u64 x.2):=by simp[bU]
   have M0:=ay t;have M1:=ay r;have h:=ay (HB.o.alloc (.cells #[.int .i64 x.1,.int .u64 x.2] 216));have OA:=ay (T.o.alloc (.cells #[.int .i64 x.1,.int .u64 x.2] 216));clear t r
   go_upto_region 7 with fail
   go_wp2_with fail;refine(yn d (tot l) (tot y) (z.2+x.2) _ MB).mono ?_
   rintro e t ⟨rfl,X⟩;have hz3:=X.size;simp only[aI] at hz3;have b:=ay (h.o.keep X);have Y:=ay (OA.o.keep X);have F:=b.o.k0;have E:=b.o.k1;have UT:=b.o.frozen 0;have f1':=b.o.frozen 1;have c2:=(X.cell (p:=⟨wr.heap.size,0,none⟩) ad).trans M0.o
   have D:=(X.cell (p:=⟨wr.heap.size,1,none⟩) ad).trans M1.o
   have hbw:aq w t:=(S.alloc hz _).trans (X.mono af)
   clear n0 n1 u s
   by_cases R:rf d (tot l) (tot y) (z.2+x.2)=true
   ·rw[R]
    have N:=ay (M.o.merge I (by rw[P.o];exact R))
    clear R
    go_wp2_with fail;refine(Mv z.1 z.2 x.1 x.2 _ o.1 W H.2.1 aa q2 aa).mono ?_
    rintro e U ⟨rfl,u⟩;have m:=u.size;have q:=(u.cell (p:=⟨w.heap.size,0,none⟩) (by show w.heap.size<t.heap.size;omega)).trans F
    have a:=(u.cell (p:=⟨w.heap.size,1,none⟩) (by show w.heap.size<t.heap.size;omega)).trans E
    have Q:=(u.cell (p:=⟨wr.heap.size,1,none⟩) (by show wr.heap.size<t.heap.size;omega)).trans D
    have O:=(u.frozen (p:=⟨w.heap.size,0,none⟩) (by show w.heap.size<t.heap.size;omega)).trans UT
    have L:=(u.frozen (p:=⟨w.heap.size,1,none⟩) (by show w.heap.size<t.heap.size;omega)).trans f1'
    have s:=ay (((b.o.keep u).gR 0 (.int .i64 (jN z.1 x.1 x.2 (z.2+x.2)))).gR 1 (.int .u64 (z.2+x.2)));have r:=ay (((Y.o.keep u).far (p:=⟨w.heap.size,0,none⟩) (λe=>by have J:w.heap.size+1<=w.heap.size:=(Y.o.lt _ e).1;omega) (.int .i64 (jN z.1 x.1 x.2 (z.2+x.2)))).far (p:=⟨w.heap.size,1,none⟩) (λe=>by have J:w.heap.size+1<=w.heap.size:=(Y.o.lt _ e).1;omega) (.int .u64 (z.2+x.2)))
    go_wp2
    go_roundg (ao l - 1 - (j+1))
    exact⟨j+1,y,_,rfl,aa,ag,rfl,N.o,r.o,by rw[P.o];exact s.o,bw⟩
    have:=G.o;omega
   ·have q:rf d (tot l) (tot y) (z.2+x.2)=false:=by simpa using R
    rw[q];have N:=ay (M.o.push I (by rw[P.o];exact q))
    have HT:Hid (tot (y++[z])=tot y+z.2):=by show _=_;rw[gY];simp[tot]
    have hal:ao y<=1000000000:=by have:=M.o.len;omega
    clear R q
    go_wp2_with (first
     | (at_builtin
        refine iI rfl (.tmp 50) (.tmp 52) rfl (w.heap.size+1) u7 y rfl (Y.o.alloc _) _ [z] rfl (kR.one _ z) (by simp only[bu];omega) ah ?_
        intro v4 U Q q L;have u:aq w U:=(hbw.alloc aa _).grown q ah (λk V=>by have:=(Y.o.lt k V).1;omega)
        have m:=q.size;simp only[aI] at m;have r:=ay Q;have O:∀k,k<t.heap.size->u7.ownBlock≠some k->U.heap[k]?=t.heap[k]?:=λk h1 h2=>(q.block k af (λe=>h2 e.symm)).trans (eE _ _ _ h1)
        have s:=ay (show gN U w.heap.size 216 #[.int .i64 z.1,.int .u64 z.2] from(O _ aa (λe=>by have:=(Y.o.lt _ e).1;omega)).trans b.o)
        have c6:=(bA (a:=⟨wr.heap.size,0,none⟩) (O wr.heap.size aa (λe=>by have:=(T.o.lt _ e).2;omega))).trans c2
        have c7:=(bA (a:=⟨wr.heap.size,1,none⟩) (O wr.heap.size aa (λe=>by have:=(T.o.lt _ e).2;omega))).trans D
        have c4:=s.o.k0;have c5:=s.o.k1;have f4:=s.o.frozen 0;have f5:=s.o.frozen 1;clear Q q L O))
    go_roundg (ao l - 1 - (j+1))
    case measure=>have:=G.o;omega
    case rel=>
     refine⟨j+1,y++[z],x,rfl,aa,ag,by rw[HT.o],by rw[<-P.o];exact N.o,?_,?_,bw⟩
     ·exact(r.o.far (p:=⟨w.heap.size,0,none⟩) (λe=>by have J:w.heap.size+1<=w.heap.size:=(r.o.lt _ e).1;omega) _).far (p:=⟨w.heap.size,1,none⟩) (λe=>by have J:w.heap.size+1<=w.heap.size:=(r.o.lt _ e).1;omega) _
     ·exact(s.o.gR 0 (.int .i64 x.1)).gR 1 (.int .u64 x.2)
  ·have t:j=ao l - 1:=aa
   have x:Hid (mD d (tot l) l=y++[z]):=by
    show _=_
    rw[show j+1=ao l by omega] at f
    exact f.fin
   have hal:ao y<=1000000000:=by have:=f.len;omega
   clear f t
   go_wp2_with (first
    | (at_builtin
       refine iI rfl (.tmp 60) (.tmp 62) rfl (w.heap.size+1) u7 y rfl (T.o.alloc _) _ [z] rfl (kR.one _ z) (by simp only[bu];omega) ah ?_
       intro v4 U Q q L;have u:aq w U:=(S.alloc aa _).grown q ah (λk V=>by have:=(T.o.lt k V).1;omega)
       have r:=ay Q;clear Q q L))
   go_ret;exact⟨_,rfl,by rw[x.o];exact r.o.more aa,u⟩
def Dg(w:World)(g:Nat)(F:Nat->Prop)(d:Int)(L W:List Mn)(lo hi n:Int):Prop:=
 ∃lv wv,gN w g 212 #[.int .i64 d,lv,wv,.int .i64 lo,.int .i64 hi,.int .u64 n]/\g7 0 w lv L/\g7 0 w wv W/\F g/\(∀k,lv.ownBlock=some k->F k)/\(∀k,wv.ownBlock=some k->F k) /\
  (∀k,wv.ownBlock=some k->lv.ownBlock≠some k)/\(∀k,F k->k<w.heap.size)
def Dg.stay(h:Dg w g F d L W lo hi n)(z:∀k,F k->w'.heap[k]?=w.heap[k]?)(f:w.heap.size<=w'.heap.size):Dg w' g F d L W lo hi n:=by
 obtain⟨c,b,s,q,p,v,y,x,u,t⟩:=h;exact⟨c,b,(z g v).trans s,q.stay λk e=>z k (y k e),p.stay λk e=>z k (x k e),v,y,x,u,λk r=>aR (t k r) f⟩
def Dg.keep(h:Dg w g F d L W lo hi n)(y:aq w w'):Dg w' g F d L W lo hi n:=by
 have z:=h;obtain⟨v,u,_,_,_,_,_,_,_,z⟩:=z;exact h.stay (λk x=>y.block k (z k x)) y.size
def yo{a b:Value}(z:kR (w.alloc (.cells #[a,b] t)) a L)(y:kR (w.alloc (.cells #[a,b] t)) b W):sW (w.alloc (.cells #[a,b] t)) w.heap.size [L,W]:=by
 intro i x;have:i=0\/i=1:=by simp at x;omega
 rcases this with rfl|rfl
 ·exact⟨a,by simp[bU],z⟩
 ·exact⟨b,by simp[bU],y⟩
structure Qw(g:Nat)(d:Int)(B:Option Addr)(n c:Nat)(t:Int)(w w':World):Prop where
 touch:Touch (λk=>k=g) w w'
 c0:w'.cell? ⟨g,0,none⟩=some (.int .i64 d)
 c2:w'.cell? ⟨g,2,none⟩=some (.slice B n c)
 c5:w'.cell? ⟨g,5,none⟩=some (.int .u64 t)
def Qw.gR{B:Option Addr}{n c:Nat}{t:Int}(h:Qw g d B n c t w w')(v:Value):Qw g d B n c t w (w'.setCell ⟨g,1,none⟩ v):=
 ⟨h.touch.setCell (.inl rfl) v,(bX _ _ _ _ ad).trans h.c0,(bX _ _ _ _ ad).trans h.c2,(bX _ _ _ _ ad).trans h.c5⟩
def wV(g:Nat)(F:Nat->Prop)(d G H:Int)(L W:List Mn)(w:World)(h:Dg w g F d L W G H (tot (L++W)))(s:kg (L++W))(u:L++W≠[])(hlen:ao L+ao W<=100000000)(ht:tot (L++W)<=281474976710656)(d0:0<=d)(d1:d<=1000) :
 ar Oe 173 #[.pointer (some ⟨g,0,none⟩)] w λe t=>e=.returned (.tuple #[])/\∃z:Nat->Prop,(∀k,z k->F k\/w.heap.size<=k)/\Dg t g z d (jM d (L++W)) [] G H (tot (L++W))/\Touch F w t:=by
 obtain⟨lv,wv,x,y,v,R,Y,X,V,U⟩:=h;have P:=x.k0;have O:=x.k1;have N:=x.k2;have M:=x.k5;have f1:=x.frozen 1;have f2:=x.frozen 2;have r:=x.lt;have C:=ay x;have o:=ay y;have HW:=ay v;obtain⟨A,ca,rfl,na,ma,p⟩:=y.form;obtain⟨B,c,rfl,nb,mb,f⟩:=v.form;have q:=ay (aF R (aF Y (aF X (aF V U))));have j:=ay P;have l:=ay O;have Q:=ay N;have m:=ay M;have HO:=ay s;have n:0<ao L+ao W:=by
  rcases bh (ao L+ao W) with z|z
  ·exact absurd (aN (by rw[aE];exact z)) u
  ·exact z
 clear x y v p f s R Y X V U u
 by_cases hW:0<ao W
 all_goals
  try (have hL:0<ao L:=aa)
  go_in
  go_upto_region 1 with fail;have SL:=ay o.o.rd;have SM:=ay HW.o.rd;have s:∀t,aq w t->Qw g d B (ao W) c (tot (L++W)) w t:=λt x=>⟨Touch.of_below x (aD _),(x.cell (p:=⟨g,0,none⟩) r).trans j.o,(x.cell (p:=⟨g,2,none⟩) r).trans Q.o,(x.cell (p:=⟨g,5,none⟩) r).trans m.o⟩
  have Z:=ay (λ(t:World) (z:(Qw g d B (ao W) c (tot (L++W)) w) t)=>(aF (z.c0) (aF (z.c2) (z.c5))))
  refine ki (Qw g d B (ao W) c (tot (L++W)) w) 27 (gW 0 13 (gW 14 4 (ib 13 (ib 18 (ib 19 (ib 20 (ib 21 (gW 22 2 (ib 24 (gW 25 2 [])))))))))) (s _ (aC _ _).drew) ?_
  iterate 17 refine jw ?_
  refine mg λK z=>?_
  go_simp;refine z _ _ (s _ (aC _ _).drew) ?_
  clear z K;refine mg λK z=>?_
  go_simp;refine z _ _ (s _ (((aC _ _).drew).alloc ah _)) ?_
  clear z K;refine mg λK z=>?_
  go_simp;have hrow:sW (w.drew.alloc (.cells #[.slice A (ao L) ca,.slice B (ao W) c] 109)) w.heap.size [L,W]:=yo (SL.o.keep (((aC _ _).drew).alloc ah _)) (SM.o.keep (((aC _ _).drew).alloc ah _))
  refine(uq w.heap.size [L,W] _ ah hrow ad af).mono ?_
  rintro e w1 ⟨v1,rfl,y,hb1⟩;have T:aq w w1:=(((aC _ _).drew).alloc ah _).trans (hb1.mono ah)
  have hz1:=T.size;rw[show([L,W]:List (List Mn)).flatten=L++W by simp] at y
  have O1:=ay y;clear y;refine z _ _ (s _ T) ?_
  clear z K;refine mg λK z=>?_
  go_simp;refine(ur _ (L++W) v1 _ (aD _) (by rw[aE];omega) O1.o.rd).mono ?_
  rintro e E ⟨v2,rfl,y,hb2⟩;have S:aq w E:=T.trans (hb2.mono hz1);have hz2:=S.size;have O2:=ay y;clear y;refine z _ _ (s _ S) ?_
  clear z K;refine mg λK z=>?_
  go_simp;have y:=sX d v2 (iJ (L++W)) E O2.o (by rw[jr,aE];exact n) (HO.o.iJ) (pK _) (by rw[jr,aE];omega) (by rw[nZ];exact ht) d0 d1
  rw[nZ] at y;refine y.mono ?_
  rintro e D ⟨v3,rfl,v,hb3⟩;have u:aq w D:=S.trans (hb3.mono hz2);have hz3:=u.size;have f:=ay v;clear v y;refine z _ _ (s _ u) ?_
  clear z K
  iterate 2 refine jw ?_
  refine mg λK z=>?_
  obtain⟨b,a,rfl,n3,m3,y⟩:=f.o.form;clear y;have k1:=(u.frozen (p:=⟨g,1,none⟩) r).trans f1;have k3:=(u.cell (p:=⟨g,1,none⟩) r).trans l.o
  go_simp;refine z _ _ ((s _ u).gR _) ?_
  clear z K
  iterate 2 refine jw ?_
  refine gU ?_
  simp only[bc,bp];have k2:=(u.frozen (p:=⟨g,2,none⟩) r).trans f2;have k4:=(u.cell (p:=⟨g,2,none⟩) r).trans Q.o
  go_wp2_with fail;refine gQ ?_
  go_wp2_with fail;refine cp (v:=.tuple #[]) (by simp[results,Tryz.results173,go_sem, *];try rfl) rfl ?_
  refine⟨rfl,λk=>k=g\/(Value.slice b (ao (jM d (L++W))) a).ownBlock=some k,?_,?_,?_⟩
  ·rintro k (rfl|y)
   ·exact .inl q.o.1
   ·exact .inr (by have:=(f.o.lt k y).1;omega)
  ·obtain⟨R,Y,X,V,U⟩:=q.o
   have I:∀k,(Value.slice b (ao (jM d (L++W))) a).ownBlock=some k->w.heap.size<=k/\k<D.heap.size:=λk y=>by have:=f.o.lt k y;omega
   have J:∀i,(Value.slice b (ao (jM d (L++W))) a).ownBlock≠some (⟨g,i,none⟩:Addr).block:=λi y=>by have:=I g y;omega
   refine⟨_,_,((C.o.keep u).gR 1 _).gR 2 _,((f.o.more (bB _)).far (J 1) _).far (J 2) _,g7.nil_ _ _,.inl rfl,λk y=>.inr y,λk y=>(by cases y),λk y=>(by cases y),λk y=>?_⟩
   simp only[bW]
   rcases y with rfl|y
   ·omega
   ·have:=I k y;omega
  ·exact((Touch.of_below u (aD _)).setCell (.inl q.o.1) _).setCell (.inl q.o.1) _
def total_any(w:World)(h:Dg w g F d L W lo hi n) :
 ar Oe 57 #[.pointer (some ⟨g,0,none⟩)] w λe x=>e=.returned (.int .u64 n)/\w=x:=by
 obtain⟨v,u,y,_⟩:=h;have z:=y.k5
 go_in
 go_wp2;refine an ?_
 exact⟨rfl,rfl⟩
def gN.kr{b:Nat}{cs:Array Value}{v:Value}(h:gN w g t cs)(x:g7 b w v l)(u:t≠216):v.ownBlock≠some g:=by
 intro e
 rcases x.2 with y|⟨f,s,q,rfl,p,z,r⟩
 ·rw[y.1] at e;cases e
 ·cases e
  unfold gN at h;rw[h] at z
  cases z
  exact u rfl
def Dg.cells{d' lo' hi' n':Int}{lv wv:Value}(u:gN w g 212 #[.int .i64 d,lv,wv,.int .i64 lo,.int .i64 hi,.int .u64 n])(t:g7 0 w lv L)(s:g7 0 w wv W)
 (q:F g/\(∀k,lv.ownBlock=some k->F k)/\(∀k,wv.ownBlock=some k->F k)/\(∀k,wv.ownBlock=some k->lv.ownBlock≠some k)/\(∀k,F k->k<w.heap.size))
 (y:Touch (λk=>k=g) w w') (p:gN w' g 212 #[.int .i64 d',lv,wv,.int .i64 lo',.int .i64 hi',.int .u64 n']):Dg w' g F d' L W lo' hi' n':=by
 obtain⟨c,x,v,r,z⟩:=q;have b:=u.kr t ab
 have a:=u.kr s ab
 exact⟨lv,wv,p,t.stay λk e=>y.block k (z k (x k e)) (λh=>b (by rw[e,h])),s.stay λk e=>y.block k (z k (v k e)) (λh=>a (by rw[e,h])),c,x,v,r,λk f=>aR (z k f) y.size⟩
structure So(g:Nat)(hi:Int)(w w':World):Prop where
 c4:w'.cell? ⟨g,4,none⟩=some (.int .i64 hi)
def zK(a b:Int)(w:World)(h:Dg w g F d L W lo hi n)(V_:-9223372036854775808<=lo/\lo<=9223372036854775807)(V':-9223372036854775808<=hi/\hi<=9223372036854775807)(YZ:-9223372036854775808<=a/\a<=9223372036854775807)(Wa:-9223372036854775808<=b/\b<=9223372036854775807)(R:0<=n/\n<=18446744073709551615) :
 ar Oe 174 #[.pointer (some ⟨g,0,none⟩),.int .i64 a,.int .i64 b] w λe t=>e=.returned (.tuple #[])/\Dg t g F d L W (if n=0 then a else min lo a) (if n=0 then b else max hi b) n/\Touch (λk=>k=g) w t:=by
 obtain⟨Q,O,x,T,S,c,v,s,r,p⟩:=h;have u:=x.k3;have z:=x.k4;have U:=x.k5;have q:=x.frozen 3;have f:=x.frozen 4;have y:=ay x;have X:=ay T;have V:=ay S;have Y:=ay (aF c (aF v (aF s (aF r p))));clear x T S c v s r p;clear u z q f
 by_cases S:n=0
 ·subst S
  go_in
  have u:=y.o.k3;have z:=y.o.k4;have q:=y.o.frozen 3;have f:=y.o.frozen 4
  go_wp2_with fail;have s:=ay ((y.o.gR 3 (.int .i64 a)).gR 4 (.int .i64 b));have T:Touch (λk=>k=g) w ((w.setCell ⟨g,3,none⟩ (.int .i64 a)).setCell ⟨g,4,none⟩ (.int .i64 b)):=((Touch.refl (λk=>k=g) w).setCell (p:=⟨g,3,none⟩) (.inl rfl) _).setCell (p:=⟨g,4,none⟩) (.inl rfl) _
  generalize (w.setCell ⟨g,3,none⟩ (.int .i64 a)).setCell ⟨g,4,none⟩ (.int .i64 b)=P at *;clear u z q f U;have u:=s.o.cell 3;have z:=s.o.cell 4;have q:=s.o.frozen 3;have f:=s.o.frozen 4;simp only[aA,aB,az,aY,bm,bo] at u z;have Z:=ay (λ(t:World) (c:(So g b w) t)=>(c.c4))
  refine ki (So g b w) 19 (gW 0 5 (gW 6 1 (gW 8 6 (ib 5 (gW 7 1 (gW 14 2 (ib 16 (gW 17 2 [])))))))) (⟨z⟩) ?_
  iterate 12 refine jw ?_
  refine mg λK x=>?_
  go_simp;refine x _ _ (⟨z⟩) ?_
  clear x K
  iterate 3 refine jw ?_
  refine mg λK x=>?_
  go_simp;refine x _ _ (⟨(bX _ _ _ _ ad).trans z⟩) ?_
  clear x K
  iterate 2 refine jw ?_
  refine gU ?_
  simp only[bc,bp]
  go_wp2_with fail;refine gQ ?_
  go_wp2_with fail;refine cp (v:=.tuple #[]) (by simp[results,Tryz.results174,go_sem, *];try rfl) rfl ?_
  have r:=((T.setCell (p:=⟨g,3,none⟩) (.inl rfl) (.int .i64 a)).setCell (p:=⟨g,4,none⟩) (.inl rfl) (.int .i64 b)).drew;exact⟨rfl,Dg.cells y.o X.o V.o Y.o r ((s.o.gR 3 _).gR 4 _),r⟩
 ·go_in
  have u:=y.o.k3;have z:=y.o.k4;have q:=y.o.frozen 3;have f:=y.o.frozen 4
  go_upto_region 2 with fail;have Z:=ay (λ(t:World) (c:(So g hi w) t)=>(c.c4))
  refine ki (So g hi w) 19 (gW 0 5 (gW 6 1 (gW 8 6 (ib 5 (gW 7 1 (gW 14 2 (ib 16 (gW 17 2 [])))))))) (⟨z⟩) ?_
  iterate 12 refine jw ?_
  refine mg λK x=>?_
  go_simp;refine x _ _ (⟨z⟩) ?_
  clear x K
  iterate 3 refine jw ?_
  refine mg λK x=>?_
  go_simp;refine x _ _ (⟨(bX _ _ _ _ ad).trans z⟩) ?_
  clear x K
  iterate 2 refine jw ?_
  refine gU ?_
  simp only[bc,bp]
  go_wp2_with fail;refine gQ ?_
  go_wp2_with fail;refine cp (v:=.tuple #[]) (by simp[results,Tryz.results174,go_sem, *];try rfl) rfl ?_
  have r:=(((Touch.refl (λk=>k=g) w).setCell (p:=⟨g,3,none⟩) (.inl rfl) (.int .i64 (min lo a))).setCell (p:=⟨g,4,none⟩) (.inl rfl) (.int .i64 (max hi b))).drew
  exact⟨rfl,Dg.cells y.o X.o V.o Y.o r ((y.o.gR 3 _).gR 4 _),r⟩
def add_any(a k:Int)(w:World)(h:Dg w g F d L W lo hi (tot (L++W)))(ho:kg (L++W))(hlo:-9223372036854775808<=lo/\lo<=9223372036854775807)(hhi:-9223372036854775808<=hi/\hi<=9223372036854775807)(O:-9223372036854775808<=a/\a<=9223372036854775807)(hk:0<=k/\k<=18446744073709551615)
 (hlen:ao L+ao W<100000000) (ht:tot (L++W)<=281474976710656) (d0:0<=d) (d1:d<=1000) :
 ar Oe 132 #[.pointer (some ⟨g,0,none⟩),.int .i64 a,.int .u64 k] w λe N=>
  if k=0 then e=.returned (.int .i64 4)/\aq w N else if 281474976710656 - tot (L++W)<k then e=.returned (.int .i64 6)/\aq w N else
  e=.returned (.int .i64 0)/\∃y:Nat->Prop,(∀k,y k->F k\/w.heap.size<=k) /\
   Dg N g y d (iU d L W (a,k)) (l_ d W (a,k)) (if tot (L++W)=0 then a else min lo a) (if tot (L++W)=0 then a else max hi a) (tot (L++W)+k)/\Touch F w N:=by
 have t0:=ho.gP;have A:=ay h;obtain⟨lv,wv,z,t,s,u,H,Y,x,v⟩:=h;have c5:=z.k5;clear z t s u H Y x v
 by_cases hk0:k=0
 ·subst hk0
  go_in
  go_wp2;refine an ?_
  exact⟨rfl,bw⟩
 ·simp only[aG hk0]
  by_cases f:281474976710656 - tot (L++W)<k
  ·simp only[aH f]
   go_in
   go_wp2;refine an ?_
   exact⟨rfl,bw⟩
  ·simp only[aG f]
   have T:=ay (zK a a w A.o hlo hhi O O aa)
   generalize (if tot (L++W)=0 then a else min lo a)=lo1 at T |-
   generalize (if tot (L++W)=0 then a else max hi a)=hi1 at T |-
   go_in
   go_upto_region 6 with(first|(go_at_call 174;refine T.o.mono ?_;rintro e w1 ⟨rfl,⟨Cs,wv1,z,u,x,v⟩,n⟩;obtain⟨B,cb,rfl,nb,mb,t⟩:=x.form;have s:=z.k5;have X:=z.k2;have r:=z.frozen 5;have D:=z.frozen 2;have V:=ay z;have K:=ay u;have I:=ay x;have M:=ay v;clear z u x v t;go_simp))
   go_upto_region 7 with fail;have P:=n.setCell (p:=⟨g,5,none⟩) (.inl rfl) (.int .u64 (tot (L++W)+k));have hz2:=P.size;have m:=V.o.kr K.o ab
   have Q:=V.o.kr I.o ab
   have q:=ay (V.o.gR 5 (.int .u64 (tot (L++W)+k)));have j:=ay (K.o.far (p:=⟨g,5,none⟩) m (.int .u64 (tot (L++W)+k)));have X2:=ay (I.o.far (p:=⟨g,5,none⟩) Q (.int .u64 (tot (L++W)+k)));have S:Hid (∀z,F z->z<(w1.setCell ⟨g,5,none⟩ (.int .u64 (tot (L++W)+k))).heap.size):=λz t=>(by rw[bW];exact M.o.2.2.2.2 z t)
   generalize w1.setCell ⟨g,5,none⟩ (.int .u64 (tot (L++W)+k))=w2 at *;clear s X r D;have q0:=q.o.cell 0;have X:=q.o.cell 2;have D:=q.o.frozen 2;simp only[aA,aB,az,aY,bm,bo] at q0 X;have hlt2:=q.o.lt
   go_upto_block 0 with(first|(at_builtin;refine iI rfl (.tmp 34) (.tmp 38) rfl 0 (.slice B (ao W) cb) W rfl (X2.o.alloc _) _ [(a,k)] rfl (kR.one _ (a,k)) (by simp only[bu];omega) (bB _) ?_;intro v1 r R u c;have b:=(u.block g (by rw[aI];omega) (λe=>Q e.symm)).trans (q.o.alloc (.cells #[.int .i64 a,.int .u64 k] 216));obtain⟨x,v,rfl,n3,m3,s⟩:=R.form;have s2:=gN.cell b 2;have s0:=gN.cell b 0;have u2:=gN.frozen b 2;simp only[aA,aB,az,aY,bm,bo] at s0 s2;have U:Hid (gN r g _ _):=ay b;have o:=ay R;clear b R s;go_simp))
   have R:Hid (∃y:Nat->Prop,(∀k,y k->F k\/w.heap.size<=k)/\Dg (r.setCell ⟨g,2,none⟩ (.slice x (ao W+1) v)) g y d L (W++[(a,k)]) lo1 hi1 (tot (L++(W++[(a,k)])))/\Touch F w (r.setCell ⟨g,2,none⟩ (.slice x (ao W+1) v))):=by
    obtain⟨G,E,p3,p4,p5⟩:=M.o;have hlen3:ao (W++[(a,k)])=ao W+1:=ad
    have J:=o.o;rw[hlen3] at J c;have T3:Touch F w r:=((P.mono (λi (hi:i=g)=>hi▸G)).alloc (.cells #[.int .i64 a,.int .u64 k] 216)).grown u (λz f=>.inl (p3 z f))
    have T4:=T3.setCell (p:=⟨g,2,none⟩) (.inl G) (.slice x (ao W+1) v);have Ct:∀z,(Value.slice x (ao W+1) v).ownBlock=some z->F z\/z=w2.heap.size+1:=λz e=>by
     rcases c with y|y
     ·exact .inl (p3 z (by rw[<-y];exact e))
     ·rw[y] at e;simp only[aI,aW] at e;exact .inr e.symm
    have SN:w2.heap.size+1<=r.heap.size:=by have:=u.size;rw[aI] at this;exact this
    have OY:(Value.slice x (ao W+1) v).ownBlock≠some g:=λe=>by
     rcases c with y|y
     ·exact Q (by rw[<-y];exact e)
     ·rw[y] at e;simp only[aI,aW] at e;omega
    have l:g7 0 r Cs L:=(j.o.alloc (.cells #[.int .i64 a,.int .u64 k] 216)).stay λz e=>u.block z (by rw[aI];have:=S.o z (E z e);omega) (λb=>p4 z b.symm e)
    have ht3:tot (L++W)+k=tot (L++(W++[(a,k)])):=by simp only[gY,tot];omega
    have C:=U.o;rw[ht3] at C;refine⟨λz=>F z\/(Value.slice x (ao W+1) v).ownBlock=some z,?_,⟨Cs,_,C.gR 2 _,l.far (p:=⟨g,2,none⟩) (λe=>U.o.kr l ab e) _,?_,.inl G,λz e=>.inl (E z e),λz e=>.inr e,?_,?_⟩,T4⟩
    ·rintro z (t|e)
     ·exact .inl t
     ·rcases Ct z e with t|t
      ·exact .inl t
      ·exact .inr (by have:=P.size;omega)
    ·have:=J.far (p:=⟨g,2,none⟩) OY (.slice x (ao W+1) v)
     exact this
    ·intro z e b
     rcases c with y|y
     ·exact p4 z (by rw[<-y];exact e) b
     ·rw[y] at e;simp only[aI,aW] at e
      have:=S.o z (E z b);omega
    ·intro z f
     rw[bW]
     rcases f with t|e
     ·have:=S.o z t;omega
     ·exact(J.lt z e).2
   have y:=U.o.gR 2 (.slice x (ao W+1) v);have E:=y.cell 0;have C:=y.cell 2;simp only[aA,aB,az,aY,bm,bo] at E C;clear y s0 s2 u2 m Q q0 X D u c;generalize r.setCell ⟨g,2,none⟩ (.slice x (ao W+1) v)=D at *;clear U o q j X2 S P V K I M n A T c5;have q:kg (L++(W++[(a,k)])):=by
    rw[<-aO];exact ho.append (λm y=>by simp only[ct] at y;subst y;exact⟨O.1,O.2,by show 0<k;omega⟩)
   have I:=ay q;have T:Hid (tot (L++(W++[(a,k)]))=tot (L++W)+k):=by show _=_;simp only[gY,tot];omega
   clear q
   by_cases V:d<=(ao W:Int)+1
   ·have y:Hid (iU d L W (a,k)=jM d (L++(W++[(a,k)]))/\l_ d W (a,k)=[]):=by unfold iU l_;rw[aH V,aH V];exact⟨rfl,rfl⟩
    obtain⟨U,q,c,s⟩:=R.o;have S:ao L+ao (W++[(a,k)])<=100000000:=by simp only[aE,bu];omega
    have Q:tot (L++(W++[(a,k)]))<=281474976710656:=by rw[T.o];omega
    have G:=ay (λnq=>wV g U d lo1 hi1 L (W++[(a,k)]) (D.drewN nq) (c.keep (below_drewN (aC _ _) nq)) I.o ad S Q d0 d1)
    have X:=ay s;have b:=ay q;clear q c s S Q R
    go_quiet (fail)
    go_wp2_with fail;refine(G.o _).mono ?_
    rintro e l ⟨rfl,P,S,Q,u⟩;have M:=ay S;have K:=ay Q;have J:=ay u;have j:=X.o.size;clear S Q u
    go_wp2;refine an ?_
    refine⟨rfl,P,?_,?_,?_⟩
    ·intro z H
     rcases M.o z H with Y|Y
     ·exact b.o z Y
     ·exact .inr (by rw[hN] at Y;omega)
    ·rw[y.o.1,y.o.2,<-T.o]
     exact K.o
    ·exact(X.o.drewN _).trans J.o (λi hi=>b.o i hi)
   ·have y:Hid (iU d L W (a,k)=L/\l_ d W (a,k)=W++[(a,k)]):=by unfold iU l_;rw[aG V,aG V];exact⟨rfl,rfl⟩
    obtain⟨U,q,c,s⟩:=R.o;have S:=ay c;have X:=ay s;have b:=ay q;clear q c s R
    go_quiet (fail)
    go_wp2;refine an ?_
    refine⟨rfl,U,b.o,?_,X.o.drewN _⟩
    rw[y.o.1,y.o.2,<-T.o];exact S.o.keep (below_drewN (aC _ _) _)
def Dg.lt{w:World}{g:Nat}{F:Nat->Prop}{d lo hi n:Int}{L W:List Mn}(h:Dg w g F d L W lo hi n):g<w.heap.size:=by
 obtain⟨y,x,z,_⟩:=h;exact z.lt
def Dg.mem(h:Dg w g F d L W lo hi n):F g:=by
 obtain⟨y,x,_,_,_,z,_⟩:=h;exact z
def Dg.low(h:Dg w g F d L W lo hi n):∀k,F k->k<w.heap.size:=by
 obtain⟨y,x,_,_,_,_,_,_,_,z⟩:=h;exact z
def mh(w:World)(h:Dg w g F d L W lo hi n) :
 ar Oe 122 #[.pointer (some ⟨g,0,none⟩)] w λe x=>e=.returned (.int .i64 d)/\w=x:=by
 obtain⟨v,u,y,_⟩:=h;have z:=y.k0
 go_in
 go_wp2;refine an ?_
 exact⟨rfl,rfl⟩
def Gw(w:World)(h:Dg w g F d L W lo hi 0) :
 ar Oe 200 #[.pointer (some ⟨g,0,none⟩)] w (aw w (.tuple #[.int .i64 0,.int .i64 0,.int .i64 8])):=by
 obtain⟨v,u,z,_⟩:=h;have y:=z.k5;clear z
 go_in
 go_wp2;refine an ?_
 exact⟨rfl,bw⟩
def Gx(w:World)(h:Dg w g F d L W lo hi n)(s:0<n) :
 ar Oe 200 #[.pointer (some ⟨g,0,none⟩)] w (aw w (.tuple #[.int .i64 lo,.int .i64 hi,.int .i64 0])):=by
 obtain⟨r,q,z,_⟩:=h;have v:=z.k5;have y:=z.k3;have x:=z.k4;have t:(n == 0)=false:=af
 clear z
 go_in
 go_wp2_with fail
 go_quiet (fail)
 go_wp2;refine an ?_
 exact⟨rfl,bw⟩
def Jt(w:World)(h:Dg w g F d L W lo hi n)(s:ao L<=1099511627776) :
 ar Oe 202 #[.pointer (some ⟨g,0,none⟩)] w λe x=>∃v,e=.returned v/\g7 w.heap.size x v L/\aq w x:=by
 obtain⟨r,q,z,y,_⟩:=h;have t:=z.k1;have u:=ay y;clear z y
 go_in
 go_wp2_with fail;refine(EJ r L _ u.o.rd s).mono ?_
 rintro e y ⟨v,rfl,o,z⟩;have O:=ay o;clear o
 go_wp2;refine an ?_
 exact⟨_,rfl,O.o,z⟩
def Gy(w:World)(h:Dg w g F d L W lo hi n)(s:ao W<=1099511627776) :
 ar Oe 204 #[.pointer (some ⟨g,0,none⟩)] w λe x=>∃v,e=.returned v/\g7 w.heap.size x v W/\aq w x:=by
 obtain⟨q,r,z,_,y,_⟩:=h;have t:=z.k2;have u:=ay y;clear z y
 go_in
 go_wp2_with fail;refine(EJ r W _ u.o.rd s).mono ?_
 rintro e y ⟨v,rfl,o,z⟩;have O:=ay o;clear o
 go_wp2;refine an ?_
 exact⟨_,rfl,O.o,z⟩
def MF(d:Int)(w:World)(y:10<=d)(x:d<=1000) :
 ar Oe 270 #[.int .i64 d] w λe z=>∃g,e=.returned (.tuple #[.pointer (some ⟨g,0,none⟩),.int .i64 0])/\w.heap.size<=g/\Dg z g (λk=>k=g) d [] [] 0 0 0/\aq w z:=by
 go_in
 go_wp2;refine an ?_
 refine⟨_,rfl,?_,⟨.slice none 0 0,.slice none 0 0,?_,g7.nil_ _ _,g7.nil_ _ _,rfl,(λk e=>by cases e),(λk e=>by cases e),(λk e=>by cases e),(λk e=>by subst e;simp)⟩,?_⟩
 ·simp
 ·exact gN.new _ _ _
 ·(repeat' (first|(with_reducible exact aC _ _)|(with_reducible refine dG ?_ ?_ _)|(with_reducible refine Below.drew ?_)|(with_reducible refine below_drewN ?_ _)|(with_reducible refine eH ?_ ?_ _)|(with_reducible refine nx (by assumption) ?_ ?_)|go_size))
end Go.Proofs.YtdicblkhpcphfaaGreat
