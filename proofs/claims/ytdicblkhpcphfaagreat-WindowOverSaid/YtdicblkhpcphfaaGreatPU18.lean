/- Parts. -/
import Derived.Test.YtdicblkhpcphfaaGreatPU17
import Derived.Shelf.SlSortCmp.NoneTotal
set_option maxRecDepth 100000
set_option maxHeartbeats 0
set_option linter.all false
namespace Go.Proofs.YtdicblkhpcphfaaGreat
open Tryz Go.RowKit Go.Lib
open _root_.List renaming length→ab0
open Go.IntKind renaming wrap→ad0
open _root_.Go renaming Calls→af4
open Tryz renaming prog→af5
namespace K
open Go.RowKit Go.Sort
variable{l o:List Int}{v:Int}{j:Nat}
def wN(w:World)(z y k:Nat)(d:Array Int)(h:k≠z):(putRow (Value.int .i64) w z y d).heap[k]?=w.heap[k]?:=by
 unfold putRow mapBlock;rw[dV,aF (λe=>h e.Y)]
def yK(w:World)(z x:Nat)(d:Array Int)(y:Array Value)(t:TypeId)(f:Nat × Nat)(h:w.heap[z]?=some (.cells y t f)):(putRow (Value.int .i64) w z x d).heap[z]?=some (.cells (putCells (Value.int .i64) x d y) t f):=by
 unfold putRow mapBlock;rw[dV,aH rfl,h];rfl
def zK(d:List Int)(y:Array Value)(h:ab0 d<=y.size):(putCells (Value.int .i64) 0 d.toArray y).toList.take (ab0 d)=d.map (Value.int .i64):=by
 refine gj λi=>?_;rw[di];rcases bm i (ab0 d) with z|z
 .rw[aH z,gm,aL z,gM]
  have x:i<(putCells (Value.int .i64) 0 d.toArray y).size:=by unfold putCells;rw[ff];omega
  rw[gx x];simp[putCells,z]
 .rw[aF aa,dH (by simpa using z)]
def Oa(v:Value)(q:Nat)(l:List Int)(w:World)(h:g8 iY q w v l)(R:ab0 l<=1099511627776):af4 af5 226 #[v] w λe s=>e=.returned (.tuple #[])/\g8 iY q s v (l.mergeSort λx y=>decide (x<=y))/\Touch (λk=>v.ownBlock=some k) w s:=by
 obtain⟨S,h⟩:=h;rw[pH] at S h;rcases h with⟨rfl,b⟩|⟨g,p,z,rfl,Y,u,U,X,f,c⟩
 .have e:l=[]:=aV b
  subst e;refine(AnyM.slices_Sort_int_none Tryz.sortM none 0 w).M ?_;rintro e k ⟨rfl,rfl⟩;exact⟨rfl,by rw[List.mergeSort_nil];exact g8.nil_ _ _,Touch.refl _ _⟩
 .have t:iY.k=1:=rfl
  rw[t,cW] at f c;have d:g<w.heap.size:=by
   rcases bm g w.heap.size with a|r
   .exact a
   .rw[dc r] at u;cases u
  have a:Holds (Value.int .i64) w g 0 l.toArray:=λj V=>by
   have r:j<ab0 l:=by simpa using V
   refine⟨?_,?_⟩
   .rw[cG,cell_of_row w g j z _ (0,0) u]
    have e:=bu (λx=>x[j]?) c;simp only[di,aH r,gm,aL r,df] at e;rw[show z[j]?=z.toList[j]? by simp,e];simp[r]
   .simp[World.frozen?,u]
  refine RX (AnyM.slices_Sort_int Tryz.sortM g 0 p l w a d aa) ?_;rintro s ⟨n,Q,rfl⟩;have r:ab0 (l.mergeSort λx y=>decide (x<=y))=ab0 l:=(List.mergeSort_perm _ _).length_eq;refine⟨rfl,⟨by rw[pH,dy,t,cW],.inr ⟨g,p,putCells (Value.int .i64) 0 (l.mergeSort λx y=>decide (x<=y)).toArray z,by rw[r],Y,?_,by rw[r];exact U,X,?_,?_⟩⟩,rfl,rfl,rfl,?_,λk y T=>?_⟩
  .rw[heap_grow_old _ _ (by unfold putRow mapBlock;simpa using d)]
   exact yK _ g 0 _ z _ _ u
  .unfold putCells;rw[ff,t,cW];exact f
  .rw[t,cW,pH]
   refine zK _ z (by rw[r];omega)
  .rw[size_grow];unfold putRow mapBlock;simp
  .have x:k≠g:=λe=>T (by rw[e];rfl)
   rw[heap_grow_old _ _ (by unfold putRow mapBlock;simpa using y)];exact wN _ g 0 k _ x
def La:(prog.info? 2).map (λi=>(i.zero,i.size,i.bytes))=some (some (af6 0),1,8):=by kernel_rfl
def Tu:(prog.info? 196).map (λi=>(i.zero,i.size,i.bytes))=some (some (.slice none 0 0),1,24):=by kernel_rfl
def vh(v:Value)(l:List Int)(w:World)(h:iQ iY w v l)(S:ab0 l<=1000000000000):af4 af5 260 #[v] w λe t=>∃s:Sv,e=.returned (jc s)/\g8 iY w.heap.size t (jc s) l/\af3 w t:=by
 obtain⟨X,z,u,x,y⟩:=cR La;have q:=ax z;have d:=ax u;have f:=ax x;have r:=ax y;clear z u x y;obtain⟨A,c,rfl,R,T,x⟩:=h.form;have p:=ax h;clear h;by_cases y:A=none
 .subst y
  have z:l=[]:=by
   rcases bo (ab0 l) with z|z
   .exact aV z
   .obtain⟨g,u,e,_⟩:=x z;cases e
  subst z;clear x;have Y:(binOp .eql 196 (.slice none 0 c) (.slice none 0 0)).run prog w=.ok (.bool true) w:=Lib.run_eql_slice_nil w _ _ _ _ _ _ _ underlying196;go_in;go_wp2;go_ret;exact⟨(none,0,0),rfl,g8.nil_ _ _,bw⟩
 .obtain⟨a,rfl⟩:∃a,A=some a:=by
   cases A with
   | none=>exact absurd rfl y
   | some a=>exact⟨a,rfl⟩
  clear y x;have Y:(binOp .eql 196 (.slice (some a) (ab0 l) c) (.slice none 0 0)).run prog w=.ok (.bool false) w:=Lib.run_eql_slice_nil w _ _ _ _ _ _ _ underlying196;go_in;go_wp2_with (at_builtin;refine ij iY (ts:=196) X _ 8 underlying196 q.o d.o f.o r.o rfl ab  ab rfl (.tmp 5) (.tmp 6) rfl w.heap.size _ [] rfl (g8.lit (E:=iY) w [] _ rfl _ rfl ab) _ l rfl (p.o.K (bw)) ae ad ?_;intro Q V z b U)
  have s:af3 w V:=(dD (aC _ _) (aD _) _).grown b ad (λk u=>by have:=bJ (show some w.heap.size=some k from u);omega);simp only[bB] at z;obtain⟨u,g,rfl,_,_,_⟩:=z.form;go_wp2;go_ret;exact⟨(u,_,g),rfl,z,s⟩
def rk:∀(j c:Nat),nm (j+1) c=thin (nm j c)
 | 0,_=>rfl
 | j+1,c=>by rw[nm,rk j (thin c)];rfl
def Lb(k z h:Nat)(w:World)(g:2<=k)(X:k<=1000000)(V:z<=1000000000)(b:h<=1000000000):af4 af5 190 #[af6 k,af6 z,af6 h] w λe d=>e=.returned (af6 (room k z h:Nat))/\w=d:=by
 by_cases s:h<z
 .have x:=ax (by unfold room;rw[aH s]:room k z h=max (nm (z - 1 - h) k) 2)
  have y:∀j,nm j k<=k/\2<=nm j k:=λj=>tU j k g;have p:=ax y;clear y;have U:¬z<=h:=aa;have T:¬(h:Int)<0:=aa;go_in;go_wp2;go_loopg [7,8] (z - 1 - h) (λq c i wr=>(∃j:Nat,q=z - 1 - h - j/\j<=z - 1 - h/\i=af6 ((h+j:Nat):Int)/\c=af6 ((nm j k:Nat):Int))/\w=wr)
  exact⟨⟨0,aa,aa,rfl,rfl⟩,rfl⟩
  case round=>
   obtain⟨⟨j,t,a,rfl,rfl⟩,rfl⟩:=hrel;have u:=ax t;have f:=p.o j;have v:=ax (rk j k);have⟨c,y⟩:=ar (nm j k);rw[y] at f v;rw[y];have r:=ax y;clear t y;by_cases Y:j<z - 1 - h
   .have y:=ax (by unfold thin;split<;>omega:thin c=if 3 * (2 * c / 3)<2 * c then 2 * c / 3+1 else 2 * c / 3)
    by_cases t:3 * (2 * c / 3)<2 * c
    .have q:3 * (2 * (c:Int) / 3)<2 * (c:Int):=aa
     go_wp2;go_roundg (z - 1 - h - (j+1))
     exact⟨⟨j+1,rfl,aa,af,by rw[v.o,y.o,aH t];go_num⟩,rfl⟩;have:=u.o;omega
    .have q:¬3 * (2 * (c:Int) / 3)<2 * (c:Int):=aa
     go_wp2;go_roundg (z - 1 - h - (j+1))
     exact⟨⟨j+1,rfl,aa,af,by rw[v.o,y.o,aF t];go_num⟩,rfl⟩;have:=u.o;omega
   .have y:Hid (room k z h=c):=ax (by
     have e:j=z - 1 - h:=aa;rw[x.o,<-e,r.o];omega)
    have t:¬(c:Int)<2:=aa;go_wp2;refine ak ?_;exact⟨by rw[y.o],rfl⟩
 .have x:=ax (by unfold room;rw[aF s]:room k z h=0)
  go_in;go_wp2;go_ret;exact⟨by rw[x.o];rfl,rfl⟩
abbrev rl(F:Nat->Prop)(w:World)(g k n led:Nat)(lv:Value)(vs:List Sv)(L:LL):Prop:=mR 214 (af6 k) [.int .u64 n,.int .u64 led] F w g lv vs L
abbrev xv(F:Nat->Prop)(w:World)(g k led:Nat)(lv:Value)(vs:List Sv)(L:LL):Prop:=mR 114 (af6 k) [.int .u64 led] F w g lv vs L
def D_{F:Nat->Prop}{g k n led:Nat}{lv:Value}{vs:List Sv}{L:LL}(h:Nat)(w:World)(z:rl F w g k n led lv vs L)(p:2<=k)(V:k<=1000000)(U:ab0 L<=1000000000)(Y:h<=1000000000):af4 af5 327 #[aq g,af6 h] w λe d=>e=.returned (af6 (room k (ab0 L) h:Nat))/\w=d:=by
 obtain⟨A,c,rfl,_,_,_⟩:=z.form;have b:=z.cell0;have a:=z.cell1;clear z;generalize ab0 L=z at *;by_cases u:h<z
 .have x:=ax (by unfold room;rw[aH u]:room k z h=max (nm (z - 1 - h) k) 2)
  have r:=ax (λj=>tU j k p);have T:¬z<=h:=aa;have S:¬(h:Int)<0:=aa;go_in;go_wp2;go_loopg [5,29] (z - 1 - h) (λq c i wr=>(∃j:Nat,q=z - 1 - h - j/\j<=z - 1 - h/\i=af6 (j:Int)/\c=af6 ((nm j k:Nat):Int))/\w=wr)
  exact⟨⟨0,aa,aa,rfl,rfl⟩,rfl⟩
  case round=>
   obtain⟨⟨j,t,X,rfl,rfl⟩,rfl⟩:=hrel;have q:=ax t;have f:=r.o j;have v:=ax (rk j k);have⟨c,y⟩:=ar (nm j k);rw[y] at f v;rw[y];have s:=ax y;clear t y;by_cases t:j<z - 1 - h
   .have y:Hid (thin c=(2 * c+2) / 3):=ax rfl
    go_wp2;go_roundg (z - 1 - h - (j+1))
    exact⟨⟨j+1,rfl,aa,af,by rw[v.o,y.o];go_num⟩,rfl⟩;have:=q.o;omega
   .have y:Hid (room k z h=c):=ax (by
     have e:j=z - 1 - h:=aa;rw[x.o,<-e,s.o];omega)
    go_wp2;refine ak ?_;exact⟨by rw[y.o];simp;omega,rfl⟩
 .have x:=ax (by unfold room;rw[aF u]:room k z h=0)
  go_in;go_wp2;go_ret;exact⟨by rw[x.o];rfl,rfl⟩
def uJ:∀{l:List Int} {v:Int} {j:Nat} (_:j<ab0 l) (_:∀i (h:i<ab0 l),i<j->¬v<l[i]),v<l[j]->ins v l=l.take j++v::l.drop j
 | y::l,v,0,_,_,h=>by
  have z:v<y:=h;simp[ins,z]
 | y::l,v,j+1,hj,hn,h=>by
  have z:¬v<y:=hn 0 ad aa;have u:=uJ (l:=l) (v:=v) (j:=j) (by simpa using hj) (λi x t=>by have:=hn (i+1) (by simpa using x) aa ;simpa using this) (by simpa using h);rw[ins,aF z,u];simp
def Jo:∀{l:List Int} {v:Int} (_:∀i (h:i<ab0 l),¬v<l[i]),ins v l=l++[v]
 | [],v,_=>rfl
 | y::l,v,hn=>by
  have z:¬v<y:=hn 0 ad;rw[ins,aF z,Jo (l:=l) (λi x=>by have:=hn (i+1) (by simpa using x);simpa using this)];rfl
def jI(l:List Int)(v:Int)(j:Nat)(d:Bool)(o:List Int):Prop:=
 if d then o++l.drop j=ins v l else o=l.take j/\∀i (h:i<ab0 l),i<j->¬v<l[i]
def jI.len{d:Bool}(h:jI l v j d o):ab0 o<=ab0 l+1:=by
 unfold jI at h;split at h
 .have:=bu List.length h
  rw[sD,aE] at this;omega
 .rw[h.1,aU];omega
def jI.pass(h:jI l v j false o)(x:j<ab0 l)(u:¬v<l[j]):jI l v (j+1) false (o++[l[j]]):=by
 unfold jI at h |-;simp only[fc,if_false] at h |-;refine⟨by rw[h.1,aM x],λi y z=>?_⟩
 rcases bm i j with z|z
 .exact h.2 i y z
 .obtain rfl:i=j:=aa
  exact u
def jI.hit(h:jI l v j false o)(z:j<ab0 l)(y:v<l[j]):jI l v (j+1) true (o++[v]++[l[j]]):=by
 unfold jI at h |-;simp only[fc,if_false,if_true] at h |-;rw[uJ z h.2 y,h.1,b_ z];simp
def jI.rest(h:jI l v j true o)(z:j<ab0 l):jI l v (j+1) true (o++[l[j]]):=by
 unfold jI at h |-;simp only[if_true] at h |-;rw[<-h,b_ z];simp
def jI.fin1(h:jI l v (ab0 l) true o):o=ins v l:=by
 unfold jI at h;simp only[if_true,List.drop_length,bP] at h;exact h
def jI.fin0(h:jI l v (ab0 l) false o):o++[v]=ins v l:=by
 unfold jI at h;simp only[fc,if_false,cK] at h;rw[Jo (λi z=>h.2 i z z),h.1]
def Ob(v:Value)(l:List Int)(x:Int)(w:World)(h:iQ iY w v l)(hl:ab0 l<=1000000000):af4 af5 189 #[v,af6 x] w λe G=>∃s:Sv,e=.returned (jc s)/\g8 iY w.heap.size G (jc s) (ins x l)/\af3 w G:=by
 obtain⟨P,z,t,u,y⟩:=cR La;have X:=ax z;have U:=ax t;have V:=ax u;have Y:=ax y;clear z t u y;obtain⟨A,c,rfl,hn,hc,z⟩:=h.form;have J:=ax z;clear h z;go_in;go_wp2;go_loopg [5,6,7] (ab0 l) (λq u d i wr=>∃(j:Nat) (b:Bool) (o:List Int),q=ab0 l - j/\j<=ab0 l/\i=af6 j/\d=.bool b/\Hid (jI l x j b o)/\Hid (g8 iY w.heap.size wr u o)/\Hid (af3 w wr))
 exact⟨0,false,[],rfl,aa,rfl,rfl,ax (by unfold jI;exact⟨rfl,λi _ h=>absurd h aa⟩),ax (g8.nil_ _ _),ax (aC _ _)⟩
 case round=>
  obtain⟨j,b,o,u,hj,rfl,rfl,a,t,s⟩:=hrel;have M:=ax u;have O:=s.o.size;have hol:=a.o.len;clear u;obtain⟨T,S,rfl,_,_,_⟩:=t.o.form;by_cases Q:j<ab0 l
  .obtain⟨g,off,rfl,hg,D⟩:=(J.o.K s.o).i64 Q
   cases b
   .by_cases H:x<l[j]
    .have d:=ax (a.o.hit Q H)
     go_upto_region 9 with(at_builtin;refine ij iY (ts:=196) P _ 8 underlying196 X.o U.o V.o Y.o rfl ab  ab rfl (.tmp 24) (.tmp 26) rfl w.heap.size (.slice T (ab0 o) S) o rfl (t.o.alloc _) _ [x] rfl (iQ.ig (E:=iY) _ x _ rfl _ rfl _ rfl) ae  ae ?_;intro v6 n z q p);have N:Hid (af3 w n):=ax ((s.o.alloc O _).grown q ae (λk u=>(t.o.lt k u).1));have⟨L,r⟩:=ar (o++[x]);have B:ab0 L=ab0 o+1:=by rw[<-r];simp
     rw[r] at z d;have I:=ax z;obtain⟨F,C,rfl,_,_,_⟩:=z.form;obtain⟨W,off',R,hg',k0⟩:=(J.o.K N.o).i64 Q;injection R with R;injection R with R e7;subst R;subst e7;have m:=N.o.size;clear z q p D r;go_wp2_with (at_builtin;refine ij iY (ts:=196) P _ 8 underlying196 X.o U.o V.o Y.o rfl ab  ab rfl (.tmp 28) (.tmp 33) rfl w.heap.size (.slice F (ab0 L) C) L rfl (I.o.alloc _) _ [l[j]] rfl (iQ.ig (E:=iY) _ l[j] _ rfl _ rfl _ rfl) ae  ae ?_;intro K f z y p)
     have r:Hid (af3 w f):=ax ((N.o.alloc m _).grown y ae (λk u=>(I.o.lt k u).1));have q:=ax z;clear z y p B;go_wp2;go_roundg (ab0 l - (j+1))
     exact⟨j+1,true,_,rfl,aa,af,rfl,d,q,r⟩;have:=M.o;omega
    .have d:=ax (a.o.pass Q H)
     go_wp2_with (at_builtin;refine ij iY (ts:=196) P _ 8 underlying196 X.o U.o V.o Y.o rfl ab  ab rfl (.tmp 28) (.tmp 33) rfl w.heap.size (.slice T (ab0 o) S) o rfl (t.o.alloc _) _ [l[j]] rfl (iQ.ig (E:=iY) _ l[j] _ rfl _ rfl _ rfl) ae  ae ?_;intro K f z y p)
     have r:Hid (af3 w f):=ax ((s.o.alloc O _).grown y ae (λk u=>(t.o.lt k u).1));have q:=ax z;clear z y p;go_wp2;go_roundg (ab0 l - (j+1))
     exact⟨j+1,false,_,rfl,aa,af,rfl,d,q,r⟩;have:=M.o;omega
   .have d:=ax (a.o.rest Q)
    go_wp2_with (at_builtin;refine ij iY (ts:=196) P _ 8 underlying196 X.o U.o V.o Y.o rfl ab  ab rfl (.tmp 28) (.tmp 33) rfl w.heap.size (.slice T (ab0 o) S) o rfl (t.o.alloc _) _ [l[j]] rfl (iQ.ig (E:=iY) _ l[j] _ rfl _ rfl _ rfl) ae  ae ?_;intro K f z y p)
    have r:Hid (af3 w f):=ax ((s.o.alloc O _).grown y ae (λk u=>(t.o.lt k u).1));have q:=ax z;clear z y p;go_wp2;go_roundg (ab0 l - (j+1))
    exact⟨j+1,true,_,rfl,aa,af,rfl,d,q,r⟩;have:=M.o;omega
  .obtain rfl:j=ab0 l:=aa
   cases b
   .have g:=ax a.o.fin0
    go_wp2_with (at_builtin;refine ij iY (ts:=196) P _ 8 underlying196 X.o U.o V.o Y.o rfl ab  ab rfl (.tmp 37) (.tmp 39) rfl w.heap.size (.slice T (ab0 o) S) o rfl (t.o.alloc _) _ [x] rfl (iQ.ig (E:=iY) _ x _ rfl _ rfl _ rfl) ae  ae ?_;intro K f z y p)
    have r:Hid (af3 w f):=ax ((s.o.alloc O _).grown y ae (λk u=>(t.o.lt k u).1));rw[g.o] at z;have q:=ax z;obtain⟨d,R,rfl,_,_,_⟩:=z.form;clear z y p;go_wp2;go_ret;exact⟨(d,_,R),rfl,q.o,r.o⟩
   .have g:=ax a.o.fin1
    go_wp2;go_ret;exact⟨(T,_,S),rfl,by rw[<-g.o];exact t.o,s.o⟩
end K
namespace D
open Go.RowKit Go.Sort Go.Shelf
abbrev Hg:={p:Pr // 0<=p.1/\p.1<=16777216}
instance:Inhabited Hg:=⟨⟨(0,0),ab⟩⟩
def Oc(x:Hg):List Value:=[af6 x.1.1,.int .u64 x.1.2]
def Vo(x y:Hg):Int:=x.1.1 - y.1.1
def Jp(x y:Hg):ltOf Vo x y=decide (x.1.1<y.1.1):=by unfold ltOf Vo;congr 1;exact propext ⟨λh=>by omega,λh=>by omega⟩
def kpO:SWO (ltOf Vo):=⟨λx=>by rw[Jp];simp,λx y z=>by simp only[Jp,bD];omega,λx y z=>by simp only[Jp,decide_eq_false_iff_not];omega⟩
def Jq(d:List Hg):flatK Oc 2 d.toArray=(cellsE iF (d.map Subtype.val)).toArray:=by
 have z:ab0 (cellsE iF (d.map Subtype.val))=ab0 d * 2:=by rw[iA,dy];rfl
 refine ext_get! (by simp[z]) λt r=>?_;have y:t<ab0 d * 2:=by simpa using r
 rw[get_flatK _ _ _ t (by simpa using y)];have x:t / 2<ab0 d:=aa;have e:=mD iF (d.map Subtype.val) (t / 2) (by simpa using x) (t % 2) (ek _ ab);rw[show t / 2 * iF.k+t % 2=t by show t / 2 * 2+t % 2=t;omega] at e;have u:(d.toArray)[t / 2]! = d[t / 2]:=by rw[getElem!_pos _ _ (by simpa using x)];simp
 have q:t<(cellsE iF (d.map Subtype.val)).toArray.size:=by simpa[z] using y
 rw[u,getElem!_pos (cellsE iF (d.map Subtype.val)).toArray t q];rw[aL (by rw[z];exact y)] at e;have v:t % 2<ab0 (Oc d[t / 2]):=ek _ ab;rw[getElem!_pos (Oc d[t / 2]) (t % 2) v];simp only[fB] at e;have s:(iF.enc d[t / 2].1)[t % 2]?=some ((Oc d[t / 2])[t % 2]):=aL v;rw[s] at e;simpa using (bJ e).Y
def Hh(x y:Hg)(w:World):af4 af5 255 #[.agg (Oc x).toArray,.agg (Oc y).toArray] w λe v=>e=.returned (af6 (Vo x y))/\∃q z,v=grow (w.drewN q) z:=by
 obtain⟨⟨a,n⟩,u,t⟩:=x;obtain⟨⟨b,k⟩,s,r⟩:=y;simp only at u t s r;show af4 af5 255 #[.agg #[af6 a,.int .u64 n],.agg #[af6 b,.int .u64 k]] w λe v=>e=.returned (af6 (a - b))/\∃q z,v=grow (w.drewN q) z
 go_in;go_wp2;go_ret;exact⟨rfl,0,_,by rw[alloc_eq_grow,alloc_eq_grow,grow_grow];rfl⟩
def yL(w:World)(z y k:Nat)(d:Array Value)(h:k≠z):(putRow id w z y d).heap[k]?=w.heap[k]?:=by
 unfold putRow mapBlock;rw[dV,aF (λe=>h e.Y)]
def zL(w:World)(z x:Nat)(d:Array Value)(y:Array Value)(t:TypeId)(f:Nat × Nat)(h:w.heap[z]?=some (.cells y t f)):(putRow id w z x d).heap[z]?=some (.cells (putCells id x d y) t f):=by
 unfold putRow mapBlock;rw[dV,aH rfl,h];rfl
def Hi(d:List Value)(y:Array Value)(h:ab0 d<=y.size):(putCells id 0 d.toArray y).toList.take (ab0 d)=d:=by
 refine gj λi=>?_;rw[di];rcases bm i (ab0 d) with z|z
 .rw[aH z,aL z,gM]
  have x:i<(putCells id 0 d.toArray y).size:=by unfold putCells;rw[ff];omega
  rw[gx x];simp[putCells,z]
 .rw[aF aa,dH (by simpa using z)]
def Lc(v:Value)(X:Nat)(z l:List Pr)(w:World)(h:g8 iF X w v z)(o:ji l)(a:i' l)(Y:z.Perm l)(J:∀p∈l,0<=p.1/\p.1<=16777216)(W:ab0 l<=1099511627776):af4 af5 254 #[v,.func (.func 255) #[] #[]] w λe q=>e=.returned (.tuple #[])/\g8 iF X q v l/\Touch (λk=>v.ownBlock=some k) w q:=by
 have B:=Y.length_eq;obtain⟨hxs,h⟩:=h;rcases h with⟨rfl,L⟩|⟨g,V,u,rfl,I,t,hnc,G,U,O⟩
 .have e:l=[]:=aV aa
  subst e;have e:z=[]:=aV L;subst e;refine(AnyF.slices_SortFunc_none Tryz.sortF none 0 _ w).M ?_;rintro e k ⟨rfl,rfl⟩;exact⟨rfl,g8.nil_ _ _,Touch.refl _ _⟩
 .have r:iF.k=2:=rfl
  rw[r] at U O;have T:g<w.heap.size:=by
   rcases bm g w.heap.size with x|y
   .exact x
   .rw[dc y] at t;cases t
  have H:∀p∈z,0<=p.1/\p.1<=16777216:=λp a=>J p (Y.mem_iff.1 a);obtain⟨d,f⟩:∃d:List Hg,d.map Subtype.val=z:=⟨z.attach.map (λx=>⟨x.1,H x.1 x.2⟩),by rw[List.map_map];exact List.attach_map_subtype_val z⟩;have c:ab0 d=ab0 z:=by rw[<-f,dy]
  have K:HoldsK Oc 2 w g 0 d.toArray:=λj s=>by
   rw[Jq,f] at s |-;have y:j<ab0 (cellsE iF z):=by simpa using s
   have b:j<ab0 z * 2:=by rw[iA] at y;exact y
   refine⟨?_,?_⟩
   .rw[cG,cell_of_row w g j u _ (0,0) t]
    have e:=bu (λx=>x[j]?) O;simp only[di,aH b] at e;rw[show u[j]?=u.toList[j]? by simp,e,aL y];simp[y]
   .simp[World.frozen?,t]
  have P:d.toArray.size=ab0 z:=by simpa using c
  have C:=AnyQ.slices_SortFunc Tryz.sortF 2 (by intro w;kernel_rfl) (by intro w;kernel_rfl) Oc (λx=>rfl) (λx v N=>by simp[Oc] at N;rcases N with rfl|rfl<;>rfl) Vo kpO 255 #[] g 0 V d.toArray w (λy w=>rfl) (λm M S _ x y=>by simpa using Hh x y _) K T (by rw[P];omega);rw[P] at C;refine C.M ?_;rintro e q ⟨rfl,y,n,M,R,m,rfl⟩;have S:y.toList.Perm d:=by
   have x:=R.2.2;rw[fZ (by rw[R.1];simp[c]),fZ (by simp[c])] at x;simpa using x
  have D:y.toList.map Subtype.val=l:=by
   refine Kp o a ((S.map _).T (by rw[f];exact Y)) ?_;rw[List.pairwise_map,ck];intro i j x s Q;have b:j<ab0 z:=by have:=S.length_eq;omega
   have:=m i j (bl _) Q b;rw[Jp] at this;rw[getElem!_pos y i (by simpa using x),getElem!_pos y j (by simpa using s)] at this;simp at this;simpa using this
  have F:flatK Oc 2 y=(cellsE iF l).toArray:=by rw[<-D,<-Jq]
  have x:ab0 (cellsE iF l)=ab0 l * 2:=by rw[iA];rfl
  have Q:∀k,k<w.heap.size->(sortWorldK Oc 2 w g 0 n y M).heap[k]?=(putRow id w g 0 (cellsE iF l).toArray).heap[k]?:=λk b=>by
   unfold sortWorldK putRowK;rw[F,heap_grow_old _ _ (by unfold putRow mapBlock;simpa using b)];rfl
  refine⟨rfl,⟨by rw[x,r],.inr ⟨g,V,putCells id 0 (cellsE iF l).toArray u,by rw[B],I,?_,aa,G,?_,?_⟩⟩,rfl,rfl,rfl,?_,λk b A=>?_⟩
  .rw[Q g T]
   exact zL w g 0 _ u _ _ t
  .unfold putCells;rw[ff,r];exact U
  .rw[r,<-x]
   refine Hi _ u (by rw[x];omega)
  .unfold sortWorldK
   rw[size_grow];unfold putRowK putRow mapBlock;simp
  .have E:k≠g:=λe=>A (by rw[e];rfl)
   rw[Q k b];exact yL _ g 0 k _ E
open Go.RowKit Go.Lib Go.Shelf Go.Maps
section
variable {x lo hi dg u m bk : Nat} {gr : Bool} {l : List Pr} {F : Ft}
def yM{b:Nat}(w:World)(k3:w.cell? (af7 x 3)=some (.map (some b)))(F:lD w b l)(ok:jn lo hi dg u m gr bk l):af4 af5 171 #[aq x] w λe P=>∃v,e=.returned v/\g8 iF w.heap.size P v l/\af3 w P:=by
 obtain⟨D,R,s⟩:=F;have hbl:=R.lt;have V:=ax ok;have Y:=ax s;have hlen:=ok.len;have M:Hid (∀(v:Value) (y:List Pr) (t:World) (z:Nat),g8 iF z t v y->y.Perm l->_):=ax (λv y t z h r=>Lc v z y l t h ok.jk ok.pos r ok.kb aa);clear ok s;have⟨r,W⟩:=ar (w.heap.size);go_in;go_wp2_with (at_range;refine wpList_range_own _ rfl _ 204 rfl 3 36 QR Tl _ b _ D rfl R ?_;intro O Q A hs0)
 go_frame
 rw[W] at Q hs0 |-;have B:af3 w O:=(aC _ _).grown A (aD _) (λj d=>by cases d)
 have C:g8 iF (r+1) O (.slice none 0 0) []:=g8.nil_ _ _;go_loopg [3] (Maps.size D) (λq s wr=>∃(a:Lit->Bool) (y:List Pr),wr.ranges prog 3 (plainElem (H:=Unit) prog 36) b r (ab0 l) D a q/\Hid (Sf l y a)/\Hid (g8 iF (r+1) wr s y)/\af3 w wr/\r+1<=wr.heap.size)
 exact⟨_,[],Q,ax (Nh Y.o),ax C,B,aa⟩
 case round=>
  obtain⟨a,y,i,g,v,q,hz⟩:=hrel;obtain⟨N,I,rfl,_,_,_⟩:=v.o.form;go_wp2_with (at_next;refine wpList_next_ranges_ii _ rfl _ rfl 3 36 .i64 .u64 QR Tm Tn b r _ _ _ _ rfl i ?_ ?_)
  .intro X s
   have z:=ax (SV g.o s);go_wp21;refine RX (M.o _ _ _ _ v.o z.o) ?_;rintro U ⟨f,c⟩;go_wp2;go_ret;refine⟨_,rfl,f.more aa,?_⟩;exact q.T (c.below (λk p=>by have:=(v.o.lt k p).1;omega) q.size)
  .intro z c t G hwx hwc T U h n s K hen
   have o:=ax (UX Y.o V.o.jk U);have L:=ax (Qp V.o.jk g.o T o.o);have hol:=SW g.o;have X:=ax (v.o.grown s (.inr (λe=>by have:=(v.o.lt r e).1;omega)));have f:af3 w t:=q.grown s q.size (λj d=>by cases d;omega);have hz1:r+1<=t.heap.size:=aa;have S:∀k,k<=r->(Value.slice N (ab0 y) I).ownBlock≠some k:=λk p e=>by have:=(v.o.lt k e).1;omega
   clear U T s K;go_wp2_with (at_builtin;refine oM oB rfl (.tmp 16) (.tmp 20) rfl (X.o.alloc _) rfl _ [(z,c)] rfl (iQ.ig (E:=iF) _ (z,c) _ rfl _ rfl _ ad) ae ag ?_;intro v6 w6 U s _;have T:Hid (af3 w w6):=ax ((f.alloc f.size _).grown s (by simp;have:=f.size;omega) (λk p=>by have:=(X.o.lt k p).1;omega));have K:=ax U;have J:=ax ((h.alloc _).kept s (λe=>S b aa e.Y) (λe=>S r (aD _) e.Y));have j:=s.size;clear U s)
   go_roundg G
   case measure=>exact n
   case rel=>exact⟨_,y++[(z,c)],J.o,L,K,T.o,by simp at j;omega⟩
def D'(w:World)(h:mE x lo hi dg u m gr bk l F w)(ok:jn lo hi dg u m gr bk l):af4 af5 171 #[aq x] w λe y=>∃v,e=.returned v/\g8 iF w.heap.size y v l/\af3 w y:=by
 obtain⟨g,b,v,s,t,_⟩:=h;have z:=v.k3;exact yM w z t ok
end
end D
inductive PT where
 | done:PT
 | rd (i:Nat) (k:Bool) (r:PT):PT
 | ef (i:Nat) (r:PT):PT
 | fk (i j:Nat) (r s:PT):PT
def PT.len:PT->Nat
 | .done=>0
 | .rd _ _ r=>r.len+1
 | .ef _ r=>r.len+1
 | .fk _ _ r _=>r.len+1
section
variable {P : Program} {ops : Array Oper} {md : Region.Mode} {S : World -> Prop} {Q : Exit -> Act -> World -> Prop} {t : Nat}
variable{d:Bool}{i j:Nat}{a:Act}{w:World}{r:PT}{o:Oper}
def qF(md:Region.Mode)(ops:Array Oper)(t:Nat):PT->Array Bool->Bool
 | .done,listed=>(Region.ready md ops listed).isEmpty
 | .rd i true r,listed=>(Region.ready md ops listed).contains i && Region.free md ops listed i && decide (i≠t) && (listed.getD t true == false) && Region.waitsFor md ops t i && qF md ops t r (listed.setIfInBounds i true)
 | .rd i false r,listed=>(Region.ready md ops listed).contains i && Region.free md ops listed i && decide (i≠t) && qF md ops t r (listed.setIfInBounds i true)
 | .ef i r,listed=>decide (Region.ready md ops listed=[i]) && qF md ops t r (listed.setIfInBounds i true)
 | .fk i j r s,listed=>decide (Region.ready md ops listed=[i,j]) && decide (r.len=s.len) && qF md ops t r (listed.setIfInBounds i true) && qF md ops t s (listed.setIfInBounds j true)
def iS(P:Program)(ops:Array Oper)(Q:Exit->Act->World->Prop)(S:World->Prop)(t:Nat):Bool->PT->Act->World->Prop
 | _,.done,a,w=>Q .normal a w
 | d,.ef i r,a,w=>wpOp P ops Q i (λa' w'=>((d || i == t)=false->S w')/\iS P ops Q S t (d || i == t) r a' w') a w
 | d,.rd i true r,a,w=>∃o v,ops[i]?=some o/\YieldsIf P ops S o v a/\iS P ops Q S t d r (a.put o.dst v) w
 | d,.rd i false r,a,w=>∃o v,ops[i]?=some o/\YieldsIf P ops (λ_=>True) o v a/\iS P ops Q S t d r (a.put o.dst v) w
 | d,.fk i j r s,a,w=>wpOp P ops Q i (λa' w'=>((d || i == t)=false->S w')/\iS P ops Q S t (d || i == t) r a' w') a w/\wpOp P ops Q j (λa' w'=>((d || j == t)=false->S w')/\iS P ops Q S t (d || j == t) s a' w') a w
def Ea{listed:Array Bool}(y:j∈Region.ready md ops listed)(v:listed.getD t true=d):(listed.setIfInBounds j true).getD t true=(d || j == t):=by
 have y:=mem_ready.1 y;by_cases x:j=t
 .subst x
  have u:j<listed.size:=by
   rcases bm j listed.size with z|z
   .exact z
   .have:=y.1;simp[dc z] at this
  simp[u]
 .rw[getD_set_ne true x,v];simp[x]
def lM(u:Region.noSelect ops=true)(x:∀c a w,¬Q (.panic c) a w):∀(l:PT) (d:Bool) (listed:Array Bool) (a:Act) (w:World),qF md ops t l listed=true->listed.getD t true=d->(d=false->S w) ->
 iS P ops Q S t d l a w->wpAnyS P md ops Q S t l.len listed a w
 | .done,d,listed,a,w,hB,_,_,h=>⟨by simpa[qF] using hB,by cases d<;>simpa[iS] using h⟩
 | .rd i true r,d,listed,a,w,hB,hd,hS,h=>by
  simp only[qF,bC,bD,beq_iff_eq] at hB;obtain⟨⟨⟨⟨⟨s,q⟩,z⟩,Y⟩,X⟩,p⟩:=hB;obtain⟨o,v,y,b,g⟩:=h;exact wpAnyS_first z y (dK u) (λc a w f=>absurd f (x c _ w)) _ listed a w (d_ y q) (by simpa using s) b (λh=>hS (by rw[<-hd];exact h))
   (.inr ⟨λ_ h=>h,Y,Region.waitsFor_spec X⟩) (lM u x r d _ _ w p (by rw[getD_set_ne true z];exact hd) hS g)
 | .rd i false r,d,listed,a,w,hB,hd,hS,h=>by
  simp only[qF,bC,bD] at hB;obtain⟨⟨⟨s,q⟩,z⟩,p⟩:=hB;obtain⟨o,v,y,b,g⟩:=h;exact wpAnyS_first z y (dK u) (λc a w f=>absurd f (x c _ w)) _ listed a w (d_ y q) (by simpa using s) b (λh=>hS (by rw[<-hd];exact h))
   (.inl λ_=>trivial) (lM u x r d _ _ w p (by rw[getD_set_ne true z];exact hd) hS g)
 | .ef i r,d,listed,a,w,hB,hd,hS,h=>by
  simp only[qF,bC,bD] at hB;refine⟨λy=>(by rw[hB.1] at y;cases y),λj z=>?_⟩;have g:=z;rw[hB.1] at z;have s:j=i:=by simpa using z
  subst s;have v:=Ea g hd;exact wpOp_mono (λq p z=>⟨λy=>z.1 (by rw[<-v];exact y),lM u x r _ _ q p hB.2 v z.1 z.2⟩) h
 | .fk i j r s,d,listed,a,w,hB,hd,hS,h=>by
  simp only[qF,bC,bD] at hB;obtain⟨⟨⟨c,V⟩,b⟩,Y⟩:=hB;refine⟨λy=>(by rw[c] at y;cases y),λk f=>?_⟩;have g:=f;rw[c] at f;have v:=Ea g hd;have X:k=i\/k=j:=by simpa using f
  rcases X with rfl|rfl
  .exact wpOp_mono (λq p z=>⟨λy=>z.1 (by rw[<-v];exact y),lM u x r _ _ q p b v z.1 z.2⟩) h.1
  .refine wpOp_mono (λq p z=>⟨λy=>z.1 (by rw[<-v];exact y),?_⟩) h.2
   have:=lM u x s _ _ q p Y v z.1 z.2;rw[<-V] at this;exact this
def wO{id:Nat}(S:World->Prop)(t:Nat)(l:PT)(r:P.follows .mixedOrders=true)
 (z:(Region.noSelect ops && decide (l.len=ops.size) && decide (t<ops.size) && qF .any ops t l (Array.replicate ops.size false))=true)
 (s:S w.drew) (h:iS P ops (Calm Q) S t false l a w.drew):(Code.region id ops true).wp P Q a w:=by
 simp only[bC,bD] at z;obtain⟨⟨⟨y,x⟩,v⟩,u⟩:=z;have H:=lM (Q:=Calm Q) y (λ_ _ _ h=>h) l false _ a _ u (by simp[v]) (λ_=>s) h;rw[x] at H;exact eZ Calm.imp (wp_region_any r (sP _ _ _ _ H))
def qk(q:ops[i]?=some o)(p:Region.wanted o (yielded ops a.tmps)=true)
 (h:∀R:Act->Prop,(∀z,iS P ops Q S t d r z w->R z)->∃v,(∀z,S z->po v z ((execOp a.eval o).run P z))/\R (a.put o.dst v)):iS P ops Q S t d (.rd i true r) a w:=by
 obtain⟨v,u,s⟩:=h _ (λ_ h=>h);unfold iS;refine⟨o,v,q,.inl ⟨p,λz x=>?_⟩,s⟩;have y:=u z x;generalize (execOp a.eval o).run P z=x at *;cases x with
 | ok n w''=>obtain⟨rfl,rfl⟩:=y;rfl
 | halt x w''=>exact y.elim
def ia(q:ops[i]?=some o)(p:Region.wanted o (yielded ops a.tmps)=true)
 (h:∀R:Act->Prop,(∀z,iS P ops Q S t d r z w->R z)->∃v,(∀z,po v z ((execOp a.eval o).run P z))/\R (a.put o.dst v)):iS P ops Q S t d (.rd i false r) a w:=by
 obtain⟨v,u,s⟩:=h _ (λ_ h=>h);unfold iS;refine⟨o,v,q,.inl ⟨p,λz _=>?_⟩,s⟩;have y:=u z;generalize (execOp a.eval o).run P z=x at *;cases x with
 | ok n w''=>obtain⟨rfl,rfl⟩:=y;rfl
 | halt x w''=>exact y.elim
def jJ(v:ops[i]?=some o)(u:Region.wanted o (yielded ops a.tmps)=true)(x:(i == t)=false)
 (h:∀K:Act->World->Prop,(∀y z,S z->iS P ops Q S t false r y z->K y z)->o.wp P a w K Q):iS P ops Q S t false (.ef i r) a w:=by
 unfold iS wpOp;simp only[v,u,if_true,Bool.false_or,x];exact .inl (h _ λ_ _ z y=>⟨λ_=>z,y⟩)
def mG(v:ops[i]?=some o)(u:Region.wanted o (yielded ops a.tmps)=true)(x:(d || i == t)=true)
 (h:∀K:Act->World->Prop,(∀z y,iS P ops Q S t true r z y->K z y)->o.wp P a w K Q):iS P ops Q S t d (.ef i r) a w:=by
 unfold iS wpOp;simp only[v,u,if_true,x];exact .inl (h _ λ_ _ y=>⟨λz=>(by cases z),y⟩)
def tY{s:PT}(z:iS P ops Q S t d (.ef i r) a w)(y:iS P ops Q S t d (.ef j s) a w):iS P ops Q S t d (.fk i j r s) a w:=by
 unfold iS at z y |-;exact⟨z,y⟩
def qm(h:Q .normal a w):iS P ops (Calm Q) S t d .done a w:=by
 unfold iS;exact h
end
namespace D
variable{w:World}{v1 v2:Value}{B g:Nat}{l:List Pr}
def Vp:vT Int where
 k:=1
 t:=3
 enc x:=[af6 x]
 len _:=rfl
 one x u hu:=by
  simp only[aS,cx,or_false] at hu;subst hu;rfl
def FJ:vT Int where
 k:=1
 t:=36
 enc x:=[.int .u64 x]
 len _:=rfl
 one x u hu:=by
  simp only[aS,cx,or_false] at hu;subst hu;rfl
def inI:(prog.info? 3).map (λi=>(i.zero,i.size,i.bytes))=some (some (af6 0),1,8):=by kernel_rfl
def usI:(prog.info? 36).map (λi=>(i.zero,i.size,i.bytes))=some (some (.int .u64 0),1,8):=by kernel_rfl
def Tv:Ty prog Vp 316:=rg inI underlying316 rfl ab  ab
def QX:Ty prog FJ 270:=rg usI underlying270 rfl ab  ab
def kC{α β:Type}{E1:vT α}{E2:vT β}{b1 b2:Nat}{l1:List α}{l2:List β}(v:g8 E1 b1 w v1 l1)(u:g8 E2 b2 w v2 l2)(t:E1.t≠E2.t):v1.ownBlock=none\/v1.ownBlock≠v2.ownBlock:=by
 rcases v.2 with h|⟨g,s,q,rfl,_,z,_⟩
 .exact .inl (by rw[h.1];rfl)
 .refine .inr λe=>?_
  rcases u.2 with h|⟨f,r,p,rfl,_,y,_⟩
  .rw[h.1] at e;cases e
  .cases e
   have x:=bJ (z.Y.T y);injection x with _ h3 _;exact t h3
def ups:Int->List Pr->List Int
 | _,[]=>[]
 | t,p::l=>(t+p.2)::ups (t+p.2) l
def BT:∀(l:List Pr) (t:Int),ab0 (ups t l)=ab0 l
 | [],_=>rfl
 | p::l,t=>by rw[ups,aK,aK,BT l]
def Eb:∀(l:List Pr) (t:Int) (p:Pr),ups t (l++[p])=ups t l++[t+tot l+p.2]
 | [],t,p=>by simp[ups,D.tot]
 | q::l,t,p=>by
  have e:tot (q::l)=q.2+tot l:=by simp[D.tot]
  rw[bG,ups,Eb l,ups,bG,e,show t+q.2+tot l+p.2=t+(q.2+tot l)+p.2 by omega]
def Ec:∀(l:List Pr) (t:Int),0<ab0 l->(ups t l)[ab0 l - 1]?=some (t+tot l)
 | [p],t,_=>by simp[ups,D.tot]
 | p::q::l,t,_=>by
  have z:=Ec (q::l) (t+p.2) ad;have e:tot (p::q::l)=p.2+tot (q::l):=by simp[D.tot]
  rw[ups,e,show t+(p.2+tot (q::l))=t+p.2+tot (q::l) by omega,<-z];simp
def wP(B:Nat)(w:World)(g:Nat)(l:List Pr):Prop:=B<=g/\∃v1 v2,g7 w g 318 #[v1,v2]/\g8 Vp B w v1 (l.map Prod.fst)/\g8 FJ B w v2 (ups 0 l)
def wP.K{w':World}(h:wP B w g l)(z:af3 w w'):wP B w' g l:=by
 obtain⟨y,t,s,x,v,u⟩:=h;exact⟨y,t,s,x.K z,v.K z,u.K z⟩
def BU{w2:World}{u1 u2:Value}{p:Pr}(t:B<=g)(z:g7 w2 g 318 #[v1,v2])(v:g8 Vp B w2 u1 (l.map Prod.fst++[p.1]))(u:g8 FJ B w2 u2 (ups 0 l++[tot l+p.2])):wP B ((w2.setCell (af7 g 0) u1).setCell (af7 g 1) u2) g (l++[p]):=by
 have y:=own_ne z v ab;have x:=own_ne z u ab;refine⟨t,u1,u2,(z.hJ 0 u1).hJ 1 u2,?_,?_⟩
 .rw[dU];exact(v.far y _).far y _
 .rw[Eb,gF];exact(u.far x _).far x _
def Od(v:Value)(l:List Pr)(w:World)(h:iQ iF w v l)(x:ji l)(y:i' l)(ht:tot l<=4611686018427387904)(hl:ab0 l<=1000000000):af4 af5 235 #[v] w λe r=>∃g,e=.returned (.tuple #[aq g,af6 0])/\wP w.heap.size r g l/\af3 w r:=by
 obtain⟨A,c,rfl,_,_,z⟩:=h.form;have HF:=ax z;have HS:Hid (∀j (h:j+1<ab0 l),l[j].1<l[j+1].1):=ax (λj h=>ck.1 x j (j+1) _ h aa);have HP:=ax y;clear h z x y;go_in;go_wp21;have⟨g,z⟩:=ar (w.heap.size);have T0:Hid (wP w.heap.size (w.alloc (.cells #[.slice none 0 0,.slice none 0 0] 318)) g []):=ax ⟨aa,_,_,by rw[<-z];exact g7.new _ _ _,g8.nil_ _ _,g8.nil_ _ _⟩;have hb0:af3 w (w.alloc (.cells #[.slice none 0 0,.slice none 0 0] 318)):=bw;rw[z] at |-;generalize w.alloc (.cells #[.slice none 0 0,.slice none 0 0] 318)=w0 at *;clear z
 go_loopg [5,12] (ab0 l) (λq s i wr=>∃j:Nat,q=ab0 l - j/\j<=ab0 l/\i=af6 j/\s=.int .u64 (tot (l.take j))/\Hid (wP w.heap.size wr g (l.take j))/\af3 w wr)
 exact⟨0,rfl,aa,rfl,rfl,T0,hb0⟩
 case round=>
  obtain⟨j,z,hj,rfl,rfl,HT,hb⟩:=hrel;have HQ:=ax z;have hz:=hb.size;clear z;by_cases hlt:j<ab0 l
  .obtain⟨gp,off,rfl,Cu,c0,c1⟩:=j' HF.o hlt
   have hji:(j:Int)<(ab0 l:Int):=aa;have c0:=(hb.C (p:=af7 gp (off+j * 2)) Cu).T c0;have c1:=(hb.C (p:=af7 gp (off+j * 2+1)) Cu).T c1;have hpos:=HP.o _ (aP hlt);have hts:=ja hlt;have htl:=km HP.o j;have ac5:=km HP.o (j+1);have HPV:Hid (0<j->∃x0:Int,x0<l[j].1/\w.cell? ⟨gp,off+(j - 1) * 2,none⟩=some (af6 x0)):=ax (λh0=>by
    obtain⟨i,rfl⟩:∃i,j=i+1:=⟨j - 1,aa⟩;obtain⟨x,u,y,_,z,_⟩:=j' HF.o (j:=i) (by omega);cases y
    exact⟨_,HS.o i hlt,by simpa using z⟩)
   have Mq:Hid (l.take (j+1)=l.take j++[l[j]]):=ax (aM hlt);have u:Hid (l[j]=(l[j].1,l[j].2)):=ax rfl;generalize l[j].1=x at *;generalize l[j].2=n at *;rw[u.o] at Mq;have⟨t,y⟩:=ar (tot (l.take j));rw[y] at hts htl |-;have zI:=ax y;clear y u
   go_upto_region 6 with fail;have⟨q0,u⟩:=ar (wr.heap.size);have⟨a,y⟩:=ar (wr.alloc (.cells #[af6 x,.int .u64 n] 192));have Q:=an y u;have hba:=ao y;rw[y,u];clear y u;have EM:=ax (by rw[iy];omega:ad0 .u64 (4611686018427387904 - t)=4611686018427387904 - t);have ES:=ax (by rw[iy];omega:ad0 .u64 (t+n)=t+n);have hn1:(n == 0)=false:=ae;have hn2:¬4611686018427387904 - t<n:=aa;have Wd:af3 a a.drew:=(aC _ _).drew;have hbp:=hb.T (hba.M hz);go_cut [41,12] from 12 to 67 (λb i y=>b=.bool false/\i=af6 j/\y=a.drew)
   case first=>
    rcases bo j with h0|h0
    .have d:decide (0<j)=false:=bq aa
     clear h0;refine jh (af3 a) (hQ 0 25 []) (Wd) ?_;iterate 14 refine ib (h:=λr u=>by have q:=EM.o;have s:=(Q.o.K u).k0;have y:=(Q.o.K u).k1;exact af8) ?_
     iterate 9 (refine YtdicblkhpcphfaaGreat.kJ ?_;try go_simp)
     iterate 2 refine ib (h:=λr u=>by have q:=EM.o;have s:=(Q.o.K u).k0;have y:=(Q.o.K u).k1;exact af8) ?_
     refine g4 ?_;go_wp21
     go_meet
     exact⟨rfl,rfl,rfl⟩
    .obtain⟨x0,U,z⟩:=HPV.o h0
     obtain⟨i,rfl⟩:∃i,j=i+1:=⟨j - 1,aa⟩;have z:w.cell? (af7 gp (off+i * 2))=some (af6 x0):=by simpa using z
     have T:¬x<=x0:=aa;have Y:((i:Int)+1) - 1=(i:Int):=aa;have V:(i:Int)<(ab0 l:Int):=aa;have f:Hid (ad0 .i64 (i:Int)=(i:Int)):=ax ah;have d:(0:Int)<(i:Int)+1:=aa;refine jh (af3 a) (hQ 0 25 []) (Wd) ?_;iterate 25 refine ib (h:=λr u=>by have q:=EM.o;have X:=f.o;have s:=(Q.o.K u).k0;have y:=(Q.o.K u).k1;have b:=((hbp.T (u.M hbp.size)).C (p:=af7 gp (off+i * 2)) Cu).T z;exact af8) ?_
     refine g4 ?_;go_wp21
     go_meet
     exact⟨rfl,ad,rfl⟩
   case rest=>
    obtain⟨rfl,rfl,rfl⟩:=hcut;have y:=(Q.o.K Wd).k1;have O:=ES.o;go_upto_region 9 with fail;have W2:af3 a a.drew:=Wd;have T:=hbp.T (W2.M hbp.size);obtain⟨U,v1,v2,f,d,b⟩:=HT.o.K (hba.T (W2.M hba.size));have Y:=Q.o.K W2;have S:(g:Nat)≠q0:=by
     rintro rfl;have:=f.Y.T Y;simp at this
    have hlk:ab0 (l.take j)<=1000000000:=by rw[aU];omega
    have hl1:ab0 ((l.take j).map Prod.fst)+1<=1099511627776:=by rw[dy];omega
    have hl2:ab0 (ups 0 (l.take j))+1<=1099511627776:=by rw[BT];omega
    have q:=ax (aB f (aB d (aB b (aB Y (aB T (aB U S))))));obtain⟨A1,c1',ev1,_,_,_⟩:=d.form;obtain⟨A2,c2',Ya,_,_,_⟩:=b.form;have⟨K1,X⟩:=ar ((l.take j).map Prod.fst);have⟨K2,V⟩:=ar (ups 0 (l.take j));rw[X] at hl1 ev1 q;rw[V] at hl2 Ya q;have Yb:=ax X;have Yc:=ax V;have⟨n1,R⟩:=ar (ab0 K1);have⟨n2,P⟩:=ar (ab0 K2);rw[R] at ev1;rw[P] at Ya;subst ev1 Ya;clear R P X V;clear f d b Y y T U S O;have hzd:w.heap.size<=a.drew.heap.size:=q.o.2.2.2.2.1.size;generalize a.drew=wd at *;refine wO (λr=>g7 r g 318 #[.slice A1 n1 c1',.slice A2 n2 c2']/\g7 r q0 192 #[af6 x,.int .u64 n]) 19 (.rd 0 false (.rd 1 false (.rd 2 false (.rd 3 false (.rd 4 false (.rd 5 true (.rd 6 false (.rd 7 true (.rd 10 false (.rd 11 false (.rd 12 false (.rd 13 true (.rd 14 false (.fk 8 15 (.fk 9 15 (.ef 15 (.ef 16 (.rd 17 false (.rd 18 false (.ef 19 (.rd 20 false (.rd 21 false (.ef 22 .done)))))))) (.ef 9 (.ef 16 (.rd 17 false (.rd 18 false (.ef 19 (.rd 20 false (.rd 21 false (.ef 22 .done))))))))) (.ef 8 (.ef 9 (.ef 16 (.rd 17 false (.rd 18 false (.ef 19 (.rd 20 false (.rd 21 false (.ef 22 .done))))))))))))))))))))))) (by kernel_rfl) (by kernel_rfl) ⟨q.o.1.drew,q.o.2.2.2.1.drew⟩ ?_;refine ia aj  aj (λR y=>?_);apply bp
    refine⟨λr=>?_,?_⟩
    .go_simp
     exact⟨rfl,rfl⟩
    go_simp;refine y _ ?_;clear y R;refine ia aj  aj (λR y=>?_);apply bp
    refine⟨λr=>?_,?_⟩
    .go_simp
     exact⟨rfl,rfl⟩
    go_simp;refine y _ ?_;clear y R;refine ia aj  aj (λR y=>?_);apply bp
    refine⟨λr=>?_,?_⟩
    .go_simp
     exact⟨rfl,rfl⟩
    go_simp;refine y _ ?_;clear y R;refine ia aj  aj (λR y=>?_);apply bp
    refine⟨λr=>?_,?_⟩
    .go_simp
     exact⟨rfl,rfl⟩
    go_simp;refine y _ ?_;clear y R;refine ia aj  aj (λR y=>?_);apply bp
    refine⟨λr=>?_,?_⟩
    .go_simp
     exact⟨rfl,rfl⟩
    go_simp;refine y _ ?_;clear y R;refine qk aj  aj (λR y=>?_);apply bp
    refine⟨λr u=>?_,?_⟩
    .have V:=u.1.k0
     have U:=u.1.k1;have s:=u.2.k0;exact af8
    go_simp;refine y _ ?_;clear y R;refine ia aj  aj (λR y=>?_);apply bp
    refine⟨λr=>?_,?_⟩
    .go_simp
     exact⟨rfl,rfl⟩
    go_simp;refine y _ ?_;clear y R;refine qk aj  aj (λR y=>?_);apply bp
    refine⟨λr u=>?_,?_⟩
    .have V:=u.1.k0
     have U:=u.1.k1;have s:=u.2.k0;exact af8
    go_simp;refine y _ ?_;clear y R;refine ia aj  aj (λR y=>?_);apply bp
    refine⟨λr=>?_,?_⟩
    .go_simp
     exact⟨rfl,rfl⟩
    go_simp;refine y _ ?_;clear y R;refine ia aj  aj (λR y=>?_);apply bp
    refine⟨λr=>?_,?_⟩
    .go_simp
     exact⟨rfl,rfl⟩
    go_simp;refine y _ ?_;clear y R;refine ia aj  aj (λR y=>?_);apply bp
    refine⟨λr=>?_,?_⟩
    .go_simp
     exact⟨rfl,rfl⟩
    go_simp;refine y _ ?_;clear y R;refine qk aj  aj (λR y=>?_);apply bp
    refine⟨λr u=>?_,?_⟩
    .have V:=u.1.k0
     have U:=u.1.k1;have s:=u.2.k0;exact af8
    go_simp;refine y _ ?_;clear y R;refine ia aj  aj (λR y=>?_);apply bp
    refine⟨λr=>?_,?_⟩
    .go_simp
     exact⟨rfl,rfl⟩
    go_simp;refine y _ ?_;clear y R;have D1:=q.o.1.drew;have D2:=q.o.2.2.2.1.drew;have E1:=q.o.2.1.drew;have E2:=q.o.2.2.1.drew;have hbd:af3 w wd.drew:=q.o.2.2.2.2.1.drew;have Vq:w.heap.size<=wd.drew.heap.size:=hzd;generalize wd.drew=we at *;refine tY ?_ ?_
    .refine jJ aj  aj  aj (λK u=>?_)
     go_simp;refine u _ _ ⟨D1.alloc _,D2.alloc _⟩ ?_;have Ld:=g7.alloc D1 (.cells #[af6 x] 3);have Le:=g7.alloc D2 (.cells #[af6 x] 3);have S:=g8.alloc E1 (.cells #[af6 x] 3);have Oe:=g8.alloc E2 (.cells #[af6 x] 3);have Lf:=dD hbd Vq (.cells #[af6 x] 3);have Vr:=g8.one (E:=Vp) we x _ rfl _ rfl;have Of:=Lf.size;refine tY ?_ ?_
     .refine jJ aj  aj  aj (λK u=>?_)
      refine yq Tv (.tmp 51) (.tmp 54) rfl S rfl _ [x] rfl Vr.rd hl1 Of ?_;intro v7 w7 T f _;have D:=iG Ld S ab f;have B:=iG Le S ab f;have F:=g8.grown Oe f (kC Oe S ab);have M:=ep Lf f Of (λk X=>(S.lt k X).1);obtain⟨A7,c7,O,_,_,_⟩:=T.form;have⟨n7,J⟩:=ar (ab0 (K1++[x]));rw[J] at O;subst O;clear J;refine u _ _ ⟨D,B⟩ ?_;clear u K f;have o:=M.size;refine jJ aj  aj  aj (λK u=>?_);go_simp;refine u _ _ ⟨D.alloc _,B.alloc _⟩ ?_;have C:=g7.alloc D (.cells #[.int .u64 (t+n)] 36);have m:=g7.alloc B (.cells #[.int .u64 (t+n)] 36);have Y:=g8.alloc T (.cells #[.int .u64 (t+n)] 36);have d:=g8.alloc F (.cells #[.int .u64 (t+n)] 36);have L:=dD M o (.cells #[.int .u64 (t+n)] 36);have Ed:=g8.one (E:=FJ) w7 (t+n) _ rfl _ rfl;have H:=L.size;refine jJ aj  aj  aj (λK u=>?_);refine yq QX (.tmp 59) (.tmp 61) rfl d rfl _ [t+n] rfl Ed.rd hl2 H ?_;intro v8 w8 G b _;have P:=iG C d ab b;have Og:=iG m d ab b;have Oh:=g8.grown Y b (kC Y d ab);have Oi:=ep L b H (λk X=>(d.lt k X).1);obtain⟨A8,c8,N,_,_,_⟩:=G.form;have⟨n8,I⟩:=ar (ab0 (K2++[t+n]));rw[I] at N;subst N;clear I;refine u _ _ ⟨P,Og⟩ ?_;have s:=ax (aB P (aB Oh (aB G Oi)));have V:=s.o.1.k0;have U:=s.o.1.k1;have f0:=s.o.1.F 0;have f1:=s.o.1.F 1;refine ia aj  aj (λR y=>?_);apply bp
      refine⟨λr=>?_,?_⟩
      .go_simp
       exact⟨rfl,rfl⟩
      go_simp;refine y _ ?_;clear y R;refine ia aj  aj (λR y=>?_);apply bp
      refine⟨λr=>?_,?_⟩
      .go_simp
       exact⟨rfl,rfl⟩
      go_simp;refine y _ ?_;clear y R;refine mG aj  aj  aj (λK u=>?_);go_simp;refine u _ _ ?_;refine ia aj  aj (λR y=>?_);apply bp
      refine⟨λr=>?_,?_⟩
      .go_simp
       exact⟨rfl,rfl⟩
      go_simp;refine y _ ?_;clear y R;refine ia aj  aj (λR y=>?_);apply bp
      refine⟨λr=>?_,?_⟩
      .go_simp
       exact⟨rfl,rfl⟩
      go_simp;refine y _ ?_;clear y R;refine mG aj  aj  aj (λK u=>?_);go_simp;refine u _ _ ?_;refine qm ?_;go_wp2;go_roundg (ab0 l - (j+1))
      exact⟨j+1,rfl,aa,af,by rw[hts],ax (by rw[Mq.o];exact BU (p:=(x,n)) q.o.2.2.2.2.2.1 s.o.1 (by rw[Yb.o];exact s.o.2.1) (by rw[zI.o,Yc.o];exact s.o.2.2.1)),(s.o.2.2.2.setCell (p:=af7 g 0) (by exact q.o.2.2.2.2.2.1) _).setCell (p:=af7 g 1) (by exact q.o.2.2.2.2.2.1) _⟩;have:=HQ.o;omega
     .refine jJ aj  aj  aj (λK u=>?_)
      go_simp;refine u _ _ ⟨Ld.alloc _,Le.alloc _⟩ ?_;have D:=g7.alloc Ld (.cells #[.int .u64 (t+n)] 36);have B:=g7.alloc Le (.cells #[.int .u64 (t+n)] 36);have Y:=g8.alloc S (.cells #[.int .u64 (t+n)] 36);have F:=g8.alloc Oe (.cells #[.int .u64 (t+n)] 36);have M:=dD Lf Of (.cells #[.int .u64 (t+n)] 36);have QY:=g8.alloc Vr (.cells #[.int .u64 (t+n)] 36);have W:=g8.one (E:=FJ) (we.alloc (.cells #[af6 x] 3)) (t+n) _ rfl _ rfl;simp only[aI] at W;have o:=M.size;refine jJ aj  aj  aj (λK u=>?_);refine yq Tv (.tmp 51) (.tmp 54) rfl Y rfl _ [x] rfl QY.rd hl1 o ?_;intro v7 w7 T f _;have C:=iG D Y ab f;have m:=iG B Y ab f;have d:=g8.grown F f (kC F Y ab);have Ed:=g8.grown W f (kC W Y ab);have L:=ep M f o (λk X=>(Y.lt k X).1);obtain⟨A7,c7,O,_,_,_⟩:=T.form;have⟨n7,J⟩:=ar (ab0 (K1++[x]));rw[J] at O;subst O;clear J;refine u _ _ ⟨C,m⟩ ?_;clear u K f;have H:=L.size;refine jJ aj  aj  aj (λK u=>?_);refine yq QX (.tmp 59) (.tmp 61) rfl d rfl _ [t+n] rfl Ed.rd hl2 H ?_;intro v8 w8 G b _;have P:=iG C d ab b;have Og:=iG m d ab b;have Oh:=g8.grown T b (kC T d ab);have Oi:=ep L b H (λk X=>(d.lt k X).1);obtain⟨A8,c8,N,_,_,_⟩:=G.form;have⟨n8,I⟩:=ar (ab0 (K2++[t+n]));rw[I] at N;subst N;clear I;refine u _ _ ⟨P,Og⟩ ?_;have s:=ax (aB P (aB Oh (aB G Oi)));have V:=s.o.1.k0;have U:=s.o.1.k1;have f0:=s.o.1.F 0;have f1:=s.o.1.F 1;refine ia aj  aj (λR y=>?_);apply bp
      refine⟨λr=>?_,?_⟩
      .go_simp
       exact⟨rfl,rfl⟩
      go_simp;refine y _ ?_;clear y R;refine ia aj  aj (λR y=>?_);apply bp
      refine⟨λr=>?_,?_⟩
      .go_simp
       exact⟨rfl,rfl⟩
      go_simp;refine y _ ?_;clear y R;refine mG aj  aj  aj (λK u=>?_);go_simp;refine u _ _ ?_;refine ia aj  aj (λR y=>?_);apply bp
      refine⟨λr=>?_,?_⟩
      .go_simp
       exact⟨rfl,rfl⟩
      go_simp;refine y _ ?_;clear y R;refine ia aj  aj (λR y=>?_);apply bp
      refine⟨λr=>?_,?_⟩
      .go_simp
       exact⟨rfl,rfl⟩
      go_simp;refine y _ ?_;clear y R;refine mG aj  aj  aj (λK u=>?_);go_simp;refine u _ _ ?_;refine qm ?_;go_wp2;go_roundg (ab0 l - (j+1))
      exact⟨j+1,rfl,aa,af,by rw[hts],ax (by rw[Mq.o];exact BU (p:=(x,n)) q.o.2.2.2.2.2.1 s.o.1 (by rw[Yb.o];exact s.o.2.1) (by rw[zI.o,Yc.o];exact s.o.2.2.1)),(s.o.2.2.2.setCell (p:=af7 g 0) (by exact q.o.2.2.2.2.2.1) _).setCell (p:=af7 g 1) (by exact q.o.2.2.2.2.2.1) _⟩;have:=HQ.o;omega
    .refine jJ aj  aj  aj (λK u=>?_)
     go_simp;refine u _ _ ⟨D1.alloc _,D2.alloc _⟩ ?_;have Ld:=g7.alloc D1 (.cells #[.int .u64 (t+n)] 36);have Le:=g7.alloc D2 (.cells #[.int .u64 (t+n)] 36);have S:=g8.alloc E1 (.cells #[.int .u64 (t+n)] 36);have Oe:=g8.alloc E2 (.cells #[.int .u64 (t+n)] 36);have Lf:=dD hbd Vq (.cells #[.int .u64 (t+n)] 36);have Vs:=g8.one (E:=FJ) we (t+n) _ rfl _ rfl;have Of:=Lf.size;refine jJ aj  aj  aj (λK u=>?_);go_simp;refine u _ _ ⟨Ld.alloc _,Le.alloc _⟩ ?_;have D:=g7.alloc Ld (.cells #[af6 x] 3);have B:=g7.alloc Le (.cells #[af6 x] 3);have Y:=g8.alloc S (.cells #[af6 x] 3);have F:=g8.alloc Oe (.cells #[af6 x] 3);have M:=dD Lf Of (.cells #[af6 x] 3);have W:=g8.alloc Vs (.cells #[af6 x] 3);have QY:=g8.one (E:=Vp) (we.alloc (.cells #[.int .u64 (t+n)] 36)) x _ rfl _ rfl;simp only[aI] at QY;have o:=M.size;refine jJ aj  aj  aj (λK u=>?_);refine yq Tv (.tmp 51) (.tmp 54) rfl Y rfl _ [x] rfl QY.rd hl1 o ?_;intro v7 w7 T f _;have C:=iG D Y ab f;have m:=iG B Y ab f;have d:=g8.grown F f (kC F Y ab);have Ed:=g8.grown W f (kC W Y ab);have L:=ep M f o (λk X=>(Y.lt k X).1);obtain⟨A7,c7,O,_,_,_⟩:=T.form;have⟨n7,J⟩:=ar (ab0 (K1++[x]));rw[J] at O;subst O;clear J;refine u _ _ ⟨C,m⟩ ?_;clear u K f;have H:=L.size;refine jJ aj  aj  aj (λK u=>?_);refine yq QX (.tmp 59) (.tmp 61) rfl d rfl _ [t+n] rfl Ed.rd hl2 H ?_;intro v8 w8 G b _;have P:=iG C d ab b;have Og:=iG m d ab b;have Oh:=g8.grown T b (kC T d ab);have Oi:=ep L b H (λk X=>(d.lt k X).1);obtain⟨A8,c8,N,_,_,_⟩:=G.form;have⟨n8,I⟩:=ar (ab0 (K2++[t+n]));rw[I] at N;subst N;clear I;refine u _ _ ⟨P,Og⟩ ?_;have s:=ax (aB P (aB Oh (aB G Oi)));have V:=s.o.1.k0;have U:=s.o.1.k1;have f0:=s.o.1.F 0;have f1:=s.o.1.F 1;refine ia aj  aj (λR y=>?_);apply bp
     refine⟨λr=>?_,?_⟩
     .go_simp
      exact⟨rfl,rfl⟩
     go_simp;refine y _ ?_;clear y R;refine ia aj  aj (λR y=>?_);apply bp
     refine⟨λr=>?_,?_⟩
     .go_simp
      exact⟨rfl,rfl⟩
     go_simp;refine y _ ?_;clear y R;refine mG aj  aj  aj (λK u=>?_);go_simp;refine u _ _ ?_;refine ia aj  aj (λR y=>?_);apply bp
     refine⟨λr=>?_,?_⟩
     .go_simp
      exact⟨rfl,rfl⟩
     go_simp;refine y _ ?_;clear y R;refine ia aj  aj (λR y=>?_);apply bp
     refine⟨λr=>?_,?_⟩
     .go_simp
      exact⟨rfl,rfl⟩
     go_simp;refine y _ ?_;clear y R;refine mG aj  aj  aj (λK u=>?_);go_simp;refine u _ _ ?_;refine qm ?_;go_wp2;go_roundg (ab0 l - (j+1))
     exact⟨j+1,rfl,aa,af,by rw[hts],ax (by rw[Mq.o];exact BU (p:=(x,n)) q.o.2.2.2.2.2.1 s.o.1 (by rw[Yb.o];exact s.o.2.1) (by rw[zI.o,Yc.o];exact s.o.2.2.1)),(s.o.2.2.2.setCell (p:=af7 g 0) (by exact q.o.2.2.2.2.2.1) _).setCell (p:=af7 g 1) (by exact q.o.2.2.2.2.2.1) _⟩;have:=HQ.o;omega
  .obtain rfl:j=ab0 l:=aa
   have z:=HT;rw[bc (aD _)] at z;go_wp2;go_ret2;exact⟨_,rfl,z.o,hb⟩
def wg(w:World)(h:wP B w g l):af4 af5 300 #[aq g] w λe u=>e=.returned (.int .u64 (tot l))/\w=u:=by
 obtain⟨_,S,R,q,_,a⟩:=h;have r:=q.k1;have z:=BT l 0;obtain⟨A,c,rfl,t,V,s⟩:=a.form;rw[z] at t r;have C:Hid (af4 af5 236 #[aq g,af6 (ab0 l)] w λe u=>e=.returned (.int .u64 (tot l))/\w=u):=by
  refine ax ?_;by_cases X:ab0 l=0
  .have e:l=[]:=aV X
   subst e;clear s;go_in;go_wp2;go_ret;exact⟨rfl,rfl⟩
  .have x:=Ec l 0 aa
   rw[gF] at x;obtain⟨Y,v,rfl,_,p⟩:=s (by rw[z];omega);have y:=p (ab0 l - 1) (by rw[z];omega) 0 ab;have d:(FJ.enc (ups 0 l)[ab0 l - 1])[0]?=some (.int .u64 (tot l)):=by
    have:(ups 0 l)[ab0 l - 1]=tot l:=by
     rw[aL (by rw[z];omega)] at x;exact bJ x
    rw[this];rfl
   rw[d] at y;have f:w.cell? ⟨Y,v+(ab0 l - 1),none⟩=some (.int .u64 (tot l)):=by
    have e:v+(ab0 l - 1) * FJ.k+0=v+(ab0 l - 1):=by show v+(ab0 l - 1) * 1+0=_;omega
    rw[e] at y;exact y
   obtain⟨n,b⟩:∃n,ab0 l=n+1:=⟨ab0 l - 1,aa⟩;rw[b] at f r t |-;simp only[dS] at f;have T:((n:Int)+1) - 1=(n:Int):=aa
   have U:ad0 .i64 (n:Int)=(n:Int):=ah;clear p y d x b z;go_in;go_wp2;go_ret;exact⟨rfl,rfl⟩
 clear s a q t V;go_in;go_wp21;refine Ix C.o ?_;go_wp2;go_ret;exact⟨rfl,rfl⟩
