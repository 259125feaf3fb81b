/- Parts. No condition. -/
import Derived.Test.YtdicblkhpcphfaaGreatPA24
set_option maxRecDepth 100000
set_option maxHeartbeats 0
set_option linter.all false
namespace Go.Proofs.YtdicblkhpcphfaaGreat
open Tryz Go.RowKit Go.Lib Go.Shelf
open _root_.List renaming length→ao
open _root_.Go renaming Calls→ar
open Tryz renaming prog→Oe
namespace D
section
variable {y : Nat} {p1 p2 p3 p4 : Value} {v : Int} {w : World}
variable{a c:Int}
def IN(x:gN w y 124 #[.int .u8 1,p1,p2,p3,p4])(r:IntKind.u64.wrap (a - c)=a - c)
 (t:∀W,aq w W->ar Oe 78 #[p1,.int .i64 0,.int .i64 v] W λe z=>e=.returned (.int .u64 a)/\aq W z)
 (s:∀W,aq w W->ar Oe 79 #[p1,.int .i64 v] W λe z=>e=.returned (.int .u64 c)/\aq W z) :
 ar Oe 28 #[.pointer (some ⟨y,0,none⟩),.int .i64 v] w (aw w (.tuple #[.int .u64 (a - c),.int .u64 a,.int .i64 0])):=by
 obtain⟨X,f⟩:=x.c2;have d:=x.lt;have q:=ay (t w (aC _ _));have u:=ay s;have g:=ay r;clear t s r x
 go_in
 go_wp2_with fail;refine(q.o).mono ?_
 rintro e r ⟨rfl,x⟩;have t:=ay x;have b:=(x.cell (p:=⟨y,1,none⟩) d).trans f;have s:=ay (u.o r x);clear x u
 go_wp2_with fail;refine(s.o).mono ?_
 rintro e V ⟨rfl,x⟩;have u:=ay (t.o.trans (x.mono t.o.size));have Y:=g.o;clear x
 go_wp2;refine an ?_
 exact⟨rfl,u.o⟩
def x9{er:Int}(u:gN w y 124 #[.int .u8 2,p1,p2,p3,p4])
 (x:ar Oe 80 #[p2,.int .i64 v] w λe z=>e=.returned (.tuple #[.int .u64 a,.int .u64 c,.int .i64 er])/\aq w z) :
 ar Oe 28 #[.pointer (some ⟨y,0,none⟩),.int .i64 v] w (aw w (.tuple #[.int .u64 a,.int .u64 c,.int .i64 er])):=by
 obtain⟨s,r,q⟩:=u.c3;have t:=ay x;clear x u
 go_in
 go_wp2_with fail;refine(t.o).mono ?_
 rintro e p ⟨rfl,x⟩;have u:=ay x;clear x
 go_wp2;refine an ?_
 exact⟨rfl,u.o⟩
def IP(u:gN w y 124 #[.int .u8 4,p1,p2,p3,p4])
 (x:ar Oe 82 #[p4,.int .i64 v] w λe z=>e=.returned (.tuple #[.int .u64 a,.int .u64 c])/\aq w z) :
 ar Oe 28 #[.pointer (some ⟨y,0,none⟩),.int .i64 v] w (aw w (.tuple #[.int .u64 a,.int .u64 c,.int .i64 0])):=by
 obtain⟨s,r,q,p,g⟩:=u.c5;have t:=ay x;clear x u
 go_in
 go_wp2_with fail;refine(t.o).mono ?_
 rintro e f ⟨rfl,x⟩;have u:=ay x;clear x
 go_wp2;refine an ?_
 exact⟨rfl,u.o⟩
def IQ(z:gN w y 124 #[.int .u8 3,p1,p2,p3,p4])(r:-9223372036854775808<v)(X:v<=9223372036854775807)
 (t:ar Oe 81 #[p3,.int .i64 (v - 1)] w λe x=>e=.returned (.int .u64 a)/\aq w x)
 (s:∀W,aq w W->ar Oe 81 #[p3,.int .i64 v] W λe x=>e=.returned (.int .u64 c)/\aq W x) :
 ar Oe 28 #[.pointer (some ⟨y,0,none⟩),.int .i64 v] w (aw w (.tuple #[.int .u64 a,.int .u64 c,.int .i64 0])):=by
 obtain⟨f,U,T,d⟩:=z.c4;have q:=z.lt;have g:=ay t;have u:=ay s;have V:v > -9223372036854775808:=r;clear t s z r
 go_in
 go_wp2_with fail;refine(g.o).mono ?_
 rintro e r ⟨rfl,z⟩;have t:=ay z;have b:=(z.cell (p:=⟨y,0,none⟩) q).trans f;have Y:=(z.cell (p:=⟨y,3,none⟩) q).trans d;have s:=ay (u.o r z);clear z u
 go_wp2_with fail;refine(s.o).mono ?_
 rintro e S ⟨rfl,z⟩;have u:=ay (t.o.trans (z.mono t.o.size));clear z
 go_wp2;refine an ?_
 exact⟨rfl,u.o⟩
def IS(v:gN w y 124 #[.int .u8 3,p1,p2,p3,p4])
 (x:ar Oe 81 #[p3,.int .i64 (-9223372036854775808)] w λe z=>e=.returned (.int .u64 c)/\aq w z) :
 ar Oe 28 #[.pointer (some ⟨y,0,none⟩),.int .i64 (-9223372036854775808)] w (aw w (.tuple #[.int .u64 0,.int .u64 c,.int .i64 0])):=by
 obtain⟨t,s,r,q⟩:=v.c4;have u:=ay x;clear x v
 go_in
 go_wp2_with fail;refine(u.o).mono ?_
 rintro e p ⟨rfl,x⟩;have v:=ay x;clear x
 go_wp2;refine an ?_
 exact⟨rfl,v.o⟩
end
variable{B c1 c2 g g1 g2 i o1 o2:Nat}{l:List Pr}{W:World}
def LY:∀(l:List Pr) (t:Int) (i:Nat),i<ao l->(ups t l)[i]?=some (t+tot (l.take (i+1)))
 | p::l,t,0,_=>by simp[ups,D.tot]
 | p::l,t,i+1,h=>by
  rw[ups,aB,LY l (t+p.2) i (by simpa using h)]
  simp[D.tot,fL]
structure Si(w:World)(g:Nat)(l:List Pr)(g1 o1 c1 g2 o2 c2:Nat):Prop where
 k0:w.cell? ⟨g,0,none⟩=some (.slice (some ⟨g1,o1,none⟩) (ao l) c1)
 k1:w.cell? ⟨g,1,none⟩=some (.slice (some ⟨g2,o2,none⟩) (ao l) c2)
 len:ao l<4611686018427387904
 keys:∀i (hi:i<ao l),w.cell? ⟨g1,o1+i,none⟩=some (.int .i64 l[i].1)
 sums:∀i,i<ao l->w.cell? ⟨g2,o2+i,none⟩=some (.int .u64 (tot (l.take (i+1))))
def mr.rows{w:World}(h:mr B w g l)(q:0<ao l)(P:ao l<=1000000000000):∃u s z t r y,Si w g l u s z t r y:=by
 obtain⟨_,O,N,b,s,r⟩:=h;obtain⟨p,f⟩:=b.c2;have y:=tH l 0;obtain⟨A,c,rfl,T,R,X⟩:=s.form;obtain⟨U,d,rfl,S,Q,V⟩:=r.form;rw[dj] at p;rw[y] at f;obtain⟨u,x,rfl,_,a⟩:=X (by rw[dj];exact q)
 obtain⟨t,v,rfl,_,Y⟩:=V (by rw[y];exact q)
 refine⟨u,x,c,t,v,d,p,f,aa,λi z=>?_,λi z=>?_⟩
 ·have:=a i (by rw[dj];exact z) 0 ab
  rw[fV] at this;rw[show x+i * QI.k+0=x+i by show x+i * 1+0=_;omega] at this
  exact this
 ·have:=Y i (by rw[y];exact z) 0 ab
  rw[show v+i * Nl.k+0=v+i by show v+i * 1+0=_;omega] at this
  have e:=LY l 0 i z;rw[aQ (by rw[y];exact z),fC] at e
  rw[bC e] at this;exact this
def B6(w:World)(h:mr B w g l)(y:ao l<=1000000000000)(i:Nat)(z:i<=ao l) :
 ar Oe 236 #[.pointer (some ⟨g,0,none⟩),.int .i64 i] w λe x=>e=.returned (.int .u64 (tot (l.take i)))/\w=x:=by
 cases i with
 | zero=>
  clear h
  go_in
  go_wp2
  go_ret;exact⟨rfl,rfl⟩
 | succ n=>
  obtain⟨p,Y,u,f,X,t,r⟩:=h.rows aa y
  have a:=r.k1;have s:=r.sums n aa
  have c:=r.len;have d:(n:Int)<(ao l:Int):=aa
  have q:((n:Int)+1) - 1=(n:Int):=aa
  have v:IntKind.i64.wrap (n:Int)=(n:Int):=ai
  have b:¬(n:Int)+1=0:=aa
  clear h r z
  go_in
  go_wp2
  go_ret;exact⟨rfl,rfl⟩
def B8(w:World)(h:mr B w g l):ar Oe 237 #[.pointer (some ⟨g,0,none⟩)] w λe s=>e=.returned (.int .i64 (ao l))/\w=s:=by
 obtain⟨_,p,f,z,y,t⟩:=h;obtain⟨v,u⟩:=z.c2;obtain⟨A,c,rfl,r,q,x⟩:=y.form;rw[dj] at v;clear z y t u x
 go_in
 go_wp2
 go_ret;exact⟨rfl,rfl⟩
def IT(h:Si W g l g1 o1 c1 g2 o2 c2)(z x i:Nat)(r:Int)(v:i<ao l)(t:W.cell? ⟨z,0,none⟩=some (.pointer (some ⟨g,0,none⟩)))(d:W.cell? ⟨x,0,none⟩=some (.int .u64 r)) :
 ar Oe 368 (#[.int .i64 i]++#[.pointer (some ⟨z,0,none⟩),.pointer (some ⟨x,0,none⟩)]) W λe u=>e=.returned (.bool (decide (r<=tot (l.take (i+1)))))/\∃q,u=W.drewN q:=by
 have p:(i:Int)<(ao l:Int):=aa
 have q:(0:Int)<=(i:Int):=aa
 have f:=h.len;have c:=h.k1;have s:=h.sums i v;clear h;generalize tot (l.take (i+1))=y at s |-
 go_in
 go_wp2_with fail
 go_quiet (fail)
 go_wp2
 go_ret;exact⟨rfl,_,rfl⟩
def Ea(h:Si W g l g1 o1 c1 g2 o2 c2)(z x i:Nat)(k:Int)(v:i<ao l)(t:W.cell? ⟨z,0,none⟩=some (.pointer (some ⟨g,0,none⟩)))(f:W.cell? ⟨x,0,none⟩=some (.int .i64 k)) :
 ar Oe 238 (#[.int .i64 i]++#[.pointer (some ⟨z,0,none⟩),.pointer (some ⟨x,0,none⟩)]) W λe u=>e=.returned (.bool (decide (k<l[i].1)))/\∃q,u=W.drewN q:=by
 have q:(i:Int)<(ao l:Int):=aa
 have r:(0:Int)<=(i:Int):=aa
 have p:=h.len;have d:=h.k0;have s:=h.keys i v;clear h;generalize l[i].1=y at s |-
 go_in
 go_wp2_with fail
 go_quiet (fail)
 go_wp2
 go_ret;exact⟨rfl,_,rfl⟩
def Eb(h:Si W g l g1 o1 c1 g2 o2 c2)(z x i:Nat)(k:Int)(v:i<ao l)(t:W.cell? ⟨z,0,none⟩=some (.slice (some ⟨g1,o1,none⟩) (ao l) c1))(f:W.cell? ⟨x,0,none⟩=some (.int .i64 k)) :
 ar Oe 317 (#[.int .i64 i]++#[.pointer (some ⟨z,0,none⟩),.pointer (some ⟨x,0,none⟩)]) W λe u=>e=.returned (.bool (decide (k<=l[i].1)))/\∃q,u=W.drewN q:=by
 have q:(i:Int)<(ao l:Int):=aa
 have r:(0:Int)<=(i:Int):=aa
 have p:=h.len;have s:=h.keys i v;clear h;generalize l[i].1=y at s |-
 go_in
 go_wp2_with fail
 go_quiet (fail)
 go_wp2
 go_ret;exact⟨rfl,_,rfl⟩
def sO{k:Int}(u:i<=ao l)(x:∀t (z:t<ao l),t<i->l[t].1<k)(v:∀t (z:t<ao l),i<=t->k<=l[t].1):tot (l.take i)=jt l k:=by
 conv=>rhs;rw[<-bK i l]
 rw[pR,uI,pV]
 ·omega
 ·intro p z
  obtain⟨j,y,rfl⟩:=cE z;rw[eS];exact v _ _ aa
 ·intro p z
  obtain⟨j,y,rfl⟩:=cE z;rw[aU] at y;rw[List.getElem_take];exact x j aa  aa
def ky:List Pr->Int->Int
 | [],_=>0
 | p::l,r=>if r<=p.2 then p.1 else ky l (r - p.2)
def FQ:∀(l:List Pr) (r:Int) (i:Nat) (hi:i<ao l),(∀t,t<i->¬r<=tot (l.take (t+1)))->r<=tot (l.take (i+1))->ky l r=l[i].1
 | p::l,r,0,_,_,h2=>by
  rw[ky,aH (by simpa[D.tot] using h2)];rfl
 | p::l,r,i+1,hi,h1,h2=>by
  have z:¬r<=p.2:=by have:=h1 0 aa ;simpa[D.tot] using this
  have e:∀t,tot ((p::l).take (t+1+1))=p.2+tot (l.take (t+1)):=λt=>by simp[D.tot]
  rw[ky,aG z];exact FQ l (r - p.2) i (by simpa using hi) (λt y=>by have:=h1 (t+1) aa ;rw[e] at this;omega) (by rw[e] at h2;omega)
def nW(l:List Pr)(r:Int):Int × Int:=if ao l=0 then(0,8) else if r<1\/tot l<r then(0,1) else(ky l r,0)
def l8(l:List Pr)(num den:Int):Int × Int:=if (K.g9 num den (tot l)).2=0 then nW l (K.g9 num den (tot l)).1 else(0,(K.g9 num den (tot l)).2)
def LZ(y:iu l):∀{a b:Nat},a<=b->tot (l.take a)<=tot (l.take b):=λ{a b} h=>by
 have:=(iV (l:=l.take b) (λp z=>y p (cB z)) a).2
 rwa [gv,dk h] at this
def kV(f:Int->Bool)(l:List Pr)(i:Nat):Bool:=f (l[i]?.getD (0,0)).1
def qx{f:Int->Bool}(h:i<ao l):kV f l i=f l[i].1:=by simp[kV,aQ h]
def Ec(x:iE l){a b:Nat}(z:a<=b)(y:b<ao l):l[a].1<=l[b].1:=by
 rcases dM z with rfl|h
 ·exact cR _
 ·exact fi (bO.1 x a b aa y h)
section
variable {B g : Nat} {l : List Pr}
def IU(k:Int)(w:World)(h:mr B w g l)(V:iE l)(f:ao l<=1000000000000) :
 ar Oe 148 #[.pointer (some ⟨g,0,none⟩),.int .i64 k] w (aw w (.int .u64 (jt l (k+1)))):=by
 obtain⟨b,t⟩:=au (w.heap.size);obtain⟨x,v⟩:=au ((w.alloc (.cells #[.pointer (some ⟨g,0,none⟩)] 240)).alloc (.cells #[.int .i64 k] 3));have p:aq w x:=by rw[<-v];exact bw
 have s:gN x b 240 #[.pointer (some ⟨g,0,none⟩)]:=by rw[<-v,<-t];exact(gN.new _ _ _).alloc _
 have q:gN x (b+1) 3 #[.int .i64 k]:=by
  have h:=gN.new (w.alloc (.cells #[.pointer (some ⟨g,0,none⟩)] 240)) 3 #[.int .i64 k];rw[v,aI,t] at h;exact h
 have H:=ay (h.keep p);have d:x.cell? ⟨b,0,none⟩=some (.pointer (some ⟨g,0,none⟩)):=s.cell 0;have Y:x.cell? ⟨b+1,0,none⟩=some (.int .i64 k):=q.cell 0;have R:b<x.heap.size:=s.lt;have Q:b+1<x.heap.size:=q.lt;have S:Hid (∀W,aq x W->∀i:Nat,i<=ao l->ar Oe 236 #[.pointer (some ⟨g,0,none⟩),.int .i64 i] W λe u=>e=.returned (.int .u64 (tot (l.take i)))/\W=u):=ay (λW y i z=>B6 _ (H.o.keep y) f i z)
 have T:=ay (B8 x.drew (H.o.keep (aC _ _).drew));have U:Hid (ar Oe 154 #[.int .i64 (ao l),.func (.func 238) #[] #[.pointer (some ⟨b,0,none⟩),.pointer (some ⟨b+1,0,none⟩)]] x.drew (Found (ao l) (kV (λy=>decide (k<y)) l) x.drew)):=by
  refine ay (ks 238 #[.pointer (some ⟨b,0,none⟩),.pointer (some ⟨b+1,0,none⟩)] (ao l) _ x.drew (enters_of func238 (by kernel_rfl) rfl) aa (λm i z=>?_) (λa c c y h=>?_))
  ·obtain⟨P,N,a,O,M,X,r⟩:=H.o.rows aa f
   rw[qx z];exact Ea (W:=x.drew.drewN m) ⟨r.k0,r.k1,r.len,r.keys,r.sums⟩ b (b+1) i k z d Y
  ·rw[qx y]
   rw[qx aa] at h
   have:=Ec V c y;simp only[a_] at h |-;omega
 have c:=ay p;have X:=ay (aF d Y);clear h V f p s q d Y H
 go_in
 go_upto_region 1 with fail;try rw[v]
 try rw[t]
 clear v t;have Y:∀(t:Fn) (v y:Array Value) (w:World),(Instr.makeFunc t v y).run prog w=.ok (.func t v y) w:=λ_ _ _ _=>rfl
 have f:aq x x.drew:=(aC _ _).drew;have Z:=ay (λ(u:World) (y:(aq x) u)=>(aF ((y.cell (p:=⟨b,0,none⟩) R).trans X.o.1) ((y.cell (p:=⟨b+1,0,none⟩) Q).trans X.o.2)))
 refine i' (aq x) (gW 0 2 (gW 3 1 (ib 2 (ib 4 (ib 5 (gW 6 1 [])))))) (f) ?_
 iterate 3 refine hC ?_
 refine iy λK y=>?_
 go_simp;refine(T.o).mono ?_
 rintro e V ⟨rfl,rfl⟩;refine y _ _ (f) ?_
 clear y K;refine iy λK y=>?_
 go_simp;refine(U.o).mono ?_
 rintro e P ⟨i,n,rfl,z,v,s,rfl⟩;have a:=ay (aF z (aF v s));have q:aq x (x.drewN (1+n)):=below_drewN (aC _ _) _;clear v s z;refine y _ _ (below_drewN f n) ?_
 clear y K;refine iy λK y=>?_
 go_simp;refine(S.o _ q i a.o.1).mono ?_
 rintro e O ⟨rfl,rfl⟩;refine y _ _ (q) ?_
 clear y K;refine hC ?_
 refine gM ?_
 try refine gQ ?_
 go_wp2
 go_ret;obtain⟨z,v,s⟩:=a.o;have e:=sO (l:=l) (i:=i) (k:=k+1) z (λt r d=>by
  have:=v t d;rw[qx r] at this;simp only[cD] at this;omega) (λt r d=>by
  have:=s t d r;rw[qx r] at this;simp only[a_] at this;omega)
 exact⟨by rw[e];rfl,c.o.trans (q.mono c.o.size)⟩
def IV{g1 o1 c1 g2 o2 c2:Nat}(k:Int)(w:World)(h:Si w g l g1 o1 c1 g2 o2 c2)(Y:iE l)(s:g<w.heap.size/\g1<w.heap.size) :
 ar Oe 239 #[.slice (some ⟨g1,o1,none⟩) (ao l) c1,.int .i64 k] w λe V=>(∃i:Nat,e=.returned (.int .i64 i)/\i<=ao l/\tot (l.take i)=jt l k)/\aq w V:=by
 obtain⟨b,t⟩:=au (w.heap.size);obtain⟨x,u⟩:=au ((w.alloc (.cells #[.slice (some ⟨g1,o1,none⟩) (ao l) c1] 316)).alloc (.cells #[.int .i64 k] 3));have v:aq w x:=by rw[<-u];exact bw
 have r:gN x b 316 #[.slice (some ⟨g1,o1,none⟩) (ao l) c1]:=by rw[<-u,<-t];exact(gN.new _ _ _).alloc _
 have q:gN x (b+1) 3 #[.int .i64 k]:=by
  have h:=gN.new (w.alloc (.cells #[.slice (some ⟨g1,o1,none⟩) (ao l) c1] 316)) 3 #[.int .i64 k];rw[u,aI,t] at h;exact h
 have X:x.cell? ⟨b,0,none⟩=some (.slice (some ⟨g1,o1,none⟩) (ao l) c1):=r.cell 0;have f:x.cell? ⟨b+1,0,none⟩=some (.int .i64 k):=q.cell 0;have U:=h.len;have d:Hid (ar Oe 154 #[.int .i64 (ao l),.func (.func 317) #[] #[.pointer (some ⟨b,0,none⟩),.pointer (some ⟨b+1,0,none⟩)]] x (Found (ao l) (kV (λy=>decide (k<=y)) l) x)):=by
  refine ay (ks 317 #[.pointer (some ⟨b,0,none⟩),.pointer (some ⟨b+1,0,none⟩)] (ao l) _ x (enters_of func317 (by kernel_rfl) rfl) aa (λm i z=>?_) (λa c c y h=>?_))
  ·rw[qx z]
   exact Eb (W:=x.drewN m) (g:=g) (g2:=g2) (o2:=o2) (c2:=c2) ⟨(v.cell (p:=⟨g,0,none⟩) s.1).trans h.k0,(v.cell (p:=⟨g,1,none⟩) s.1).trans h.k1,h.len,λi z=>(v.cell (p:=⟨g1,o1+i,none⟩) s.2).trans (h.keys i z),λi z=>by have:=h.sums i z;exact(v.cell (p:=⟨g2,o2+i,none⟩) (bV _ _ this)).trans this⟩ b (b+1) i k z X f
  ·rw[qx y]
   rw[qx aa] at h
   have:=Ec Y c y;simp only[a_] at h |-;omega
 have p:=ay v;clear h s v r q f
 go_in
 go_upto_region 1 with fail;try rw[u]
 try rw[t]
 clear u t;have q:∀(u:Fn) (v y:Array Value) (w:World),(Instr.makeFunc u v y).run prog w=.ok (.func u v y) w:=λ_ _ _ _=>rfl
 go_wp2_with fail;refine(d.o).mono ?_
 rintro e f ⟨i,n,rfl,z,y,v,rfl⟩;have r:=ay (aF z (aF y v));clear z y v
 go_wp2
 go_ret;obtain⟨z,y,v⟩:=r.o;refine⟨⟨i,rfl,z,sO z (λt u s=>by
  have:=y t s;rw[qx u] at this;simp only[cD] at this;omega) (λt u s=>by
  have:=v t s u;rw[qx u] at this
  simpa using this)⟩,below_drewN p.o n⟩
end
def L7{l:List Pr}(x:iE l){a b:Nat}(z:a<b)(y:b<ao l):l[a].1<l[b].1:=bO.1 x a b aa y z
section
variable {g : Nat} {l : List Pr} {F : Ft}
def IW(w:World)(h:ln g l F w) :
 ar Oe 319 #[.pointer (some ⟨g,0,none⟩),.int .i64 0] w (aw w (.int .u64 0)):=by
 obtain⟨v,z,y,_⟩:=h;obtain⟨A,c,rfl,t,s,_⟩:=y.form;have x:=z.k0;clear z y
 go_in
 go_wp2
 go_loopg [5,7,15] 0 (λq y _ z wr=>y=.int .u64 0/\z=.int .i64 0/\aq w wr)
 exact⟨rfl,rfl,bw⟩
 case round=>
  obtain⟨rfl,rfl,z⟩:=hrel;have y:=ay z;clear z
  go_wp2
  go_ret;exact⟨rfl,y.o⟩
def B9(i:Nat)(w:World)(h:ln g l F w)(ok:pn l)(z:i<=ao l) :
 ar Oe 319 #[.pointer (some ⟨g,0,none⟩),.int .i64 i] w (aw w (.int .u64 (tot (l.take i)))):=by
 cases i with
 | zero=>exact IW w h
 | succ i=>exact sum_any (i+1) w h ok z aa
def Qp{k:Int}(y:iE l):tot (l.take (kS k l))=jt l k:=
 sO (sY k l) (λt z h=>z6 k l t z h) (λt z h=>xj k l y t z h)
def Ed(k:Int)(w:World)(h:ln g l F w)(ok:pn l)(z:iE l)(p:-1048576<=k)(s:k<=1048577) :
 ar Oe 241 #[.pointer (some ⟨g,0,none⟩),.int .i64 k] w (aw w (.int .u64 (jt l k))):=by
 have v:=ay (so k w h ok aa s)
 have y:Hid (∀W,aq w W->_):=ay (λW x=>B9 (kS k l) W ((jl g l).keep h x) ok (sY k l))
 have t:=ay (Qp (k:=k) z);have f:min k 1048577=k:=aa
 have d:max k (-1048576)=k:=aa
 clear h ok z;generalize kS k l=I at *
 go_in
 go_wp2_with fail;refine(v.o).mono ?_
 rintro e q ⟨rfl,z⟩;have u:=ay (y.o q z);have x:=ay z;clear z y
 go_wp2_with fail;refine(u.o).mono ?_
 rintro e c ⟨rfl,z⟩;have y:=ay (x.o.trans (z.mono x.o.size));clear z
 go_wp2
 go_ret;exact⟨by rw[t.o];rfl,y.o⟩
def IX(k:Int)(w:World)(h:ln g l F w)(ok:pn l)(x:iE l)(Y:-1048577<=k)(Q:k<=1048576) :
 ar Oe 242 #[.pointer (some ⟨g,0,none⟩),.int .i64 k] w (aw w (.int .u64 (jt l (k+1)))):=by
 have p:=ay (so k w h ok Y aa)
 have f:Hid (∀(i:Nat) W,i<=ao l->aq w W->_):=ay (λi W z s=>B9 i W ((jl g l).keep h s) ok z)
 have U:=sY k l;have O:min k 1048576=k:=aa
 have N:max k (-1048577)=k:=aa
 have P:=ok.len
 cases hf:EY k l with
 | false=>
  have b:Hid (tot (l.take (kS k l))=jt l (k+1)):=ay (sO (sY k l) (λt z h=>by have:=z6 k l t z h;omega) (λt z h=>by
   have v:=xj k l x t z h
   rcases dM h with e|e
   ·have y:l[kS k l]?=some l[t]:=by rw[e,aQ z]
    unfold EY at hf;rw[y] at hf;simp only[b9,ne_eq] at hf;omega
   ·have X:=L7 x e z
    have V:=xj k l x (kS k l) aa (aD _)
    omega))
  rw[hf] at p;have v:Hid (∀W,aq w W->_):=ay (λW s=>f.o (kS k l) W U s)
  clear h ok x hf f;generalize kS k l=I at *
  go_in
  go_wp2_with fail;refine(p.o).mono ?_
  rintro e a ⟨rfl,y⟩;have d:=ay (v.o a y);have u:=ay y;clear y v
  go_wp2_with fail;refine(d.o).mono ?_
  rintro e R ⟨rfl,r⟩;have c:=ay (u.o.trans (r.mono u.o.size));clear r
  go_wp2
  go_ret;exact⟨by rw[b.o];rfl,c.o⟩
 | true=>
  obtain⟨m,q,_⟩:=EZ hf;have T:kS k l<ao l:=by
   rcases bg (kS k l) (ao l) with h|h
   ·exact h
   ·rw[dm h] at q;cases q
  have b:Hid (tot (l.take (kS k l+1))=jt l (k+1)):=ay (sO aa (λt z h=>by
   rcases bg t (kS k l) with e|e
   ·have:=z6 k l t z e;omega
   ·obtain rfl:t=kS k l:=aa
    rw[aQ z] at q;rw[bC q];show k<k+1
    omega) (λt z h=>by
   have X:=L7 x (show kS k l<t by omega) z
   have V:=xj k l x (kS k l) T (aD _);omega))
  rw[hf] at p;have v:Hid (∀W,aq w W->_):=ay (λW s=>f.o (kS k l+1) W aa s)
  have s:IntKind.i64.wrap ((kS k l:Int)+1)=(kS k l:Int)+1:=ai
  have z:(((kS k l+1:Nat):Int))=(kS k l:Int)+1:=aa
  rw[z] at v;clear h ok x hf f z q;generalize kS k l=I at *
  go_in
  go_wp2_with fail;refine(p.o).mono ?_
  rintro e a ⟨rfl,y⟩;have d:=ay (v.o a y);have u:=ay y;clear y v
  go_wp2_with fail;refine(d.o).mono ?_
  rintro e R ⟨rfl,r⟩;have c:=ay (u.o.trans (r.mono u.o.size));clear r
  go_wp2
  go_ret;exact⟨by rw[b.o];rfl,c.o⟩
end
section
variable {g : Nat} {l : List Pr} {F : Ft}
def L8(r:Int)(w:World)(h:ln g l F w)(ok:pn l) :
 ar Oe 307 #[.pointer (some ⟨g,0,none⟩),.int .u64 r] w (aw w (.tuple #[.int .i64 (nW l r).1,.int .i64 (nW l r).2])):=by
 by_cases p:ao l=0
 ·have z:Hid (nW l r=(0,8)):=ay (by unfold nW;rw[aH p])
  obtain⟨v,y,_⟩:=h;have V:=y.cell 1;rw[aN p] at V;simp only[aA,az,aB,EK] at V;clear y ok
  go_in
  go_wp2;refine an ?_
  exact⟨by rw[z.o],aC _ _⟩
 have m:=EO ok.pos aa
 obtain⟨v,y,x,_⟩:=h;obtain⟨k,V⟩:=y.c2;have t:=ok.tot;have W:¬tot l=0:=aa
 by_cases R:r<1
 ·have z:Hid (nW l r=(0,1)):=ay (by unfold nW;rw[aG p,aH (.inl R)])
  clear y ok x
  go_in
  go_wp2;refine an ?_
  exact⟨by rw[z.o],aC _ _⟩
 by_cases u:tot l<r
 ·have z:Hid (nW l r=(0,1)):=ay (by unfold nW;rw[aG p,aH (.inr u)])
  have I:r > tot l:=u;clear y ok x
  go_in
  go_wp2;refine an ?_
  exact⟨by rw[z.o],aC _ _⟩
 have z:Hid (nW l r=(ky l r,0)):=ay (by unfold nW;rw[aG p,aG aa])
 have I:¬r > tot l:=aa
 obtain⟨sg,c,rfl,_,_,D,C⟩:=x.pos aa
 have M:=ay x;have A:=ok.len;have K:Hid (∀j (Y:j<ao l),tot (l.take (j+1))=tot (l.take j)+l[j].2):=ay (λj Y=>by rw[aM Y,gY];simp)
 have U:Hid (∀j,0<=tot (l.take j)/\tot (l.take j)<=tot l):=ay (λj=>iV ok.pos j)
 have O:Hid (tot (l.take (ao l))=tot l):=ay (by rw[bN])
 have T:=ay (aF R (aF u t));clear y x ok u t
 go_in
 go_wp2
 go_loopg [1,7,28] (ao l) (λq y _ x wr=>∃j:Nat,q=ao l - j/\j<=ao l/\x=.int .i64 j/\y=.int .u64 (r - tot (l.take j))/\Hid (∀t,t<j->¬r<=tot (l.take (t+1)))/\aq w wr)
 exact⟨0,rfl,aa,rfl,ad,ay (λt Q=>absurd Q (fp _)),aC _ _⟩
 case round=>
  obtain⟨j,y,Y,rfl,rfl,b,f⟩:=hrel;have L:=ay y;have i:=f.size;clear y;have X:j<ao l:=by
   rcases bg j (ao l) with h|h
   ·exact h
   ·have y:=b.o (ao l - 1) aa
    rw[show ao l - 1+1=ao l by omega,O.o] at y
    have:=T.o;omega
  obtain⟨G,E⟩:=yF (M.o.keep f) X;have y:=ay (K.o j X);have S:=U.o j;have a:=U.o (j+1);rw[y.o] at a;have B:(j:Int)<(ao l:Int):=aa
  have o:=T.o;have d:Hid (r<=tot (l.take (j+1))->ky l r=l[j].1):=ay (λe=>FQ l r j X b.o e)
  by_cases u:r<=tot (l.take (j+1))
  ·have N:=ay (d.o u)
   rw[y.o] at u;obtain⟨s,q⟩:=au (tot (l.take j));rw[q] at y S a u |-;clear q d;have J:r - s<=l[j].2:=aa
   generalize l[j].1=x at *;generalize l[j].2=n at *;have P:Hid (aq w wr):=ay f
   go_wp2;refine an ?_
   exact⟨by rw[z.o,N.o],by have f:=P.o;exact bw⟩
  ·have P:Hid (∀t,t<j+1->¬r<=tot (l.take (t+1))):=ay (λt Q=>by
    rcases bg t j with e|e
    ·exact b.o t e
    ·obtain rfl:t=j:=aa
     exact u)
   rw[y.o] at u;obtain⟨s,q⟩:=au (tot (l.take j));rw[q] at y S a u |-;clear q d;have J:¬r - s<=l[j].2:=aa
   have q:r - s - l[j].2=r - (s+l[j].2):=aa
   generalize l[j].1=x at *;generalize l[j].2=n at *
   go_wp2
   go_roundg (ao l - (j+1))
   exact⟨j+1,rfl,aa,ag,by rw[y.o],P,bw⟩
   have:=L.o;omega
end
section
variable {c m : Nat} {l : List Pr} {f : Int} {F : Ft}
def Ee(k:Int)(w:World)(h:tj c m l f F w)(ok:pn l)(x:iE l)(v:-1048576<=k)(u:k<=1048577) :
 ar Oe 151 #[.pointer (some ⟨c,0,none⟩),.int .i64 k] w (aw w (.int .u64 (jt l k))):=by
 obtain⟨g,G,z,y,_⟩:=h;have C:=ay (Ed k w y ok x v u);obtain⟨s,r⟩:=z.c2;clear z y ok x
 go_in
 go_wp2_with fail;refine(C.o).mono ?_
 rintro e x ⟨rfl,z⟩;have y:=ay z;clear z
 go_wp2
 go_ret;exact⟨rfl,y.o⟩
def IY(k:Int)(w:World)(h:tj c m l f F w)(ok:pn l)(x:iE l)(v:-1048577<=k)(u:k<=1048576) :
 ar Oe 152 #[.pointer (some ⟨c,0,none⟩),.int .i64 k] w (aw w (.int .u64 (jt l (k+1)))):=by
 obtain⟨g,G,z,y,_⟩:=h;have C:=ay (IX k w y ok x v u);obtain⟨s,r⟩:=z.c2;clear z y ok x
 go_in
 go_wp2_with fail;refine(C.o).mono ?_
 rintro e x ⟨rfl,z⟩;have y:=ay z;clear z
 go_wp2
 go_ret;exact⟨rfl,y.o⟩
def sP(l:List Pr)(f r:Int):Bool:=decide ((nW l r).2=0) && (decide (0<f) && decide ((nW l r).1=jY l))
def N8{l:List Pr}{r:Int}(h:(nW l r).2≠0):(nW l r).1=0:=by
 unfold nW at h |-
 split
 ·rfl
 ·rename_i z
  split
  ·rfl
  ·rename_i y
   rw[aG z,aG y] at h;exact absurd rfl h
def L_(r:Int)(w:World)(h:tj c m l f F w)(ok:pn l)(P:0<=f) :
 ar Oe 220 #[.pointer (some ⟨c,0,none⟩),.int .u64 r] w (aw w (.tuple #[.int .i64 (nW l r).1,.bool (sP l f r),.int .i64 (nW l r).2])):=by
 have p:Hid (∀W,aq w W->_):=ay (λW u=>first_any W (by obtain⟨g,G,v,q,_⟩:=(kp c m l f).keep h u;exact⟨g,G,v,q⟩) ok.len)
 obtain⟨g,G,v,q,_⟩:=h;have C:=ay (L8 r w q ok);obtain⟨N,M,T⟩:=v.c3;have S:=v.lt;obtain⟨x,y,z⟩:∃x y,nW l r=(x,y):=⟨_,_,rfl⟩;have s:Hid (sP l f r=(decide (y=0) && (decide (0<f) && decide (x=jY l)))):=ay (by unfold sP;rw[z])
 have V:Hid (y≠0->x=0):=ay (λe=>by have:=N8 (l:=l) (r:=r) (by rw[z];exact e);rwa [z] at this)
 have t:=ay z;rw[z] at C;clear v q ok z
 go_in
 go_wp2_with fail;refine(C.o).mono ?_
 rintro e Q ⟨rfl,u⟩;have a:=ay u;have X:=ay (p.o Q u);clear u p
 by_cases q:y=0
 ·subst q
  go_wp2_with fail;refine(X.o).mono ?_
  rintro e K ⟨rfl,z⟩;have v:=ay (a.o.trans (z.mono a.o.size));have L:=(v.o.cell (p:=⟨c,2,none⟩) S).trans T;clear z
  by_cases d:0<f
  ·have U:f > 0:=d
   by_cases b:x=jY l
   ·have z:Hid (sP l f r=true):=ay (by rw[s.o];simp[d,b])
    generalize jY l=Y at *;subst b
    go_wp2;refine an ?_
    exact⟨by rw[z.o,t.o],v.o⟩
   ·have z:Hid (sP l f r=false):=ay (by rw[s.o];simp[b])
    generalize jY l=Y at *;have O:(x == Y)=false:=b9.2 b
    go_wp2;refine an ?_
    exact⟨by rw[z.o,t.o],v.o⟩
  ·have z:Hid (sP l f r=false):=ay (by rw[s.o];simp[d])
   have U:¬f > 0:=d
   go_wp2;refine an ?_
   exact⟨by rw[z.o,t.o],v.o⟩
 ·have z:Hid (sP l f r=false):=ay (by rw[s.o];simp[q])
  have p:¬y=0:=q;have v:=V.o q;subst v
  go_wp2;refine an ?_
  exact⟨by rw[z.o,t.o],a.o⟩
end
def B_(l:List Sp)(k:Int):Int:=if k=0 then 0 else if 0<k then(l[(k - 1).toNat]?.map Sp.mid).getD 0 else -((l[(-k - 1).toNat]?.map Sp.mid).getD 0)
def Qq{base b a:Nat}(k:Int)(w:World)(h:uM base w b a)(R:-(ao (spans a):Int)<=k)(Q:k<=(ao (spans a):Int))(P:ao (spans a)<=2100)(t:∀s∈spans a,0<=s.mid/\s.mid<=9223372036854775807) :
 ar Oe 221 #[.pointer (some ⟨b,0,none⟩),.int .i64 k] w (aw w (.tuple #[.int .i64 (B_ (spans a) k),.int .i64 0])):=by
 obtain⟨J,I,y,z⟩:=h;have M:=y.k1;obtain⟨l,x⟩:=au (spans a);rw[x] at R Q P t z |-;clear x;obtain⟨A,c,rfl,_,_,x⟩:=z.form;have Y:∀(s:Sp) (W:World),Hid (ar Oe 310 #[Mk s] W λe r=>e=.returned (.int .i64 s.mid)/\aq W r):=λs W=>by
  unfold Mk;refine ay ?_
  go_in
  go_wp2
  go_ret;exact⟨rfl,bw⟩
 have V:Hid (∀s∈l,0<=s.mid/\s.mid<=9223372036854775807):=ay t;have X:=ay x;clear z x y t;have K:∀z w,(callFunc 310 z).run prog w=.ok (.enter 310 z) w:=λ_ _=>rfl
 have S:Hid (ar Oe 309 #[.pointer (some ⟨b,0,none⟩),.int .i64 k,.func (.func 310) #[] #[],.func (.func 310) #[] #[]] w λe r=>e=.returned (.tuple #[.int .i64 (B_ l k),.int .i64 0])/\aq w r):=by
  refine ay ?_
  by_cases d:k=0
  ·subst d
   have z:¬((0:Int) > ao l):=aa
   have v:Hid (B_ l 0=0):=ay rfl
   go_in
   go_wp2
   go_ret2
   exact⟨by rw[v.o];rfl,bw⟩
  ·by_cases U:0<k
   ·obtain⟨n,rfl⟩:∃n:Nat,k=(n:Int)+1:=⟨(k - 1).toNat,aa⟩
    have z:n<ao l:=aa
    obtain⟨g,L,rfl,O,y⟩:=X.o aa
    have q:=y n z 0 ab
    have p:=y n z 1 ab
    have f:=y n z 2 ab
    have N:(n:Int)<(ao l:Int):=aa
    have x:=Y (l[n]) w;unfold Mk at x;have t:=V.o _ (aX z);have v:Hid (B_ l ((n:Int)+1)=l[n].mid):=ay (by
     unfold B_;rw[aG d,aH U,show((n:Int)+1 - 1).toNat=n by omega,aQ z];rfl)
    clear y;generalize l[n]=s at *;simp only[z_,az,aB,bP] at q p f
    go_in
    go_wp2_with (go_at_fn 310;refine(x.o).mono ?_;rintro e T ⟨rfl,u⟩)
    go_ret2
    exact⟨by rw[v.o];rfl,u⟩
   ·obtain⟨n,rfl⟩:∃n:Nat,k=-((n:Int)+1):=⟨(-k - 1).toNat,aa⟩
    have z:n<ao l:=aa
    obtain⟨g,L,rfl,O,y⟩:=X.o aa
    have q:=y n z 0 ab
    have p:=y n z 1 ab
    have f:=y n z 2 ab
    have N:(n:Int)<(ao l:Int):=aa
    have x:=Y (l[n]) w;unfold Mk at x;have t:=V.o _ (aX z);have v:Hid (B_ l (-((n:Int)+1))=-l[n].mid):=ay (by
     unfold B_;rw[aG d,aG U,show(- -((n:Int)+1) - 1).toNat=n by omega,aQ z];rfl)
    clear y;generalize l[n]=s at *;simp only[z_,az,aB,bP] at q p f;have y:- -((n:Int)+1) - 1=n:=aa
    go_in
    go_wp2_with (go_at_fn 310;refine(x.o).mono ?_;rintro e T ⟨rfl,u⟩)
    go_ret2
    exact⟨by rw[v.o];rfl,u⟩
 go_in
 go_wp2_with (go_at_call 309;refine(S.o).mono ?_;rintro e T ⟨rfl,u⟩)
 go_ret2
 exact⟨rfl,u⟩
def kQ(a m:Nat)(l:List Pr)(num den:Int):Int × Bool × Int:=
 if (K.g9 num den (tot l)).2=0 then
  if (nW (gV m l).1 (K.g9 num den (tot l)).1).2=0 then(B_ (spans a) (nW (gV m l).1 (K.g9 num den (tot l)).1).1,sP (gV m l).1 (gV m l).2 (K.g9 num den (tot l)).1,0)
  else(0,false,(nW (gV m l).1 (K.g9 num den (tot l)).1).2)
 else(0,false,(K.g9 num den (tot l)).2)
def FR:∀(l:List Pr) (r:Int),r<=tot l->l≠[]->∃p∈l,ky l r=p.1
 | [p],r,h,_=>⟨p,aK ..,by rw[ky,aH (by simpa[D.tot] using h)]⟩
 | p::q::l,r,h,_=>by
  by_cases z:r<=p.2
  ·exact⟨p,aK ..,by rw[ky,aH z]⟩
  ·obtain⟨s,y,e⟩:=FR (q::l) (r - p.2) (by rw[show tot (p::q::l)=p.2+tot (q::l) by simp[D.tot]] at h;omega) ad
   exact⟨s,aP _ y,by rw[ky,aG z,e]⟩
def N9{l:List Pr}{r:Int}(h:(nW l r).2=0):∃p∈l,(nW l r).1=p.1:=by
 unfold nW at h |-
 split at h
 ·cases h
 ·rename_i z
  split at h
  ·cases h
  ·rename_i y
   rw[aG z,aG y];exact FR l r aa (λe=>z (by rw[e];rfl))
section
variable {d a m : Nat} {l : List Pr} {F : Ft}
def Ma(y z:Int)(w:World)(h:oR d a m l F w)(ok:iO a m l)(B:∀s∈spans a,0<=s.mid/\s.mid<=9223372036854775807)(M:0<=y)(L:y<18446744073709551616)(J:0<=z)(I:z<18446744073709551616) :
 ar Oe 138 #[.pointer (some ⟨d,0,none⟩),.int .u64 y,.int .u64 z] w (aw w (.tuple #[.int .i64 (kQ a m l y z).1,.bool (kQ a m l y z).2.1,.int .i64 (kQ a m l y z).2.2])):=by
 have P:=ay (Am w h ok);have q:=ay (K.vo y z (tot l) w M L J I (gP ok.pos) (by have:=ok.sum;omega))
 obtain⟨b,c,H,G,Y,C,D,_⟩:=h;obtain⟨i,k1⟩:=Y.c2;have A:=Y.lt;obtain⟨j,_,_,E,_⟩:=ok.cut;have R:Hid (∀r W,aq w W->_):=ay (λr W x=>L_ r W ((kp c m _ _).keep D x) j E)
 have o:=(po ok.a0 ok.a1 (v:=0) aa).2
 have Q:Hid (∀k W,-(ao (spans a):Int)<=k->k<=(ao (spans a):Int)->aq w W->_):=ay (λk W u f x=>Qq k W ((mm b a).keep C x).at_ u f aa B)
 have N:=ay ok.JW;obtain⟨s,g,S⟩:∃s g,K.g9 y z (tot l)=(s,g):=⟨_,_,rfl⟩;have U:=ay S;rw[S] at q;have V:Hid (∀W,aq w W->_):=ay (λW x=>R.o s W x)
 obtain⟨x,u,t⟩:∃x u,nW (gV m l).1 s=(x,u):=⟨_,_,rfl⟩;have O:=ay t;have T:Hid (u=0->-(ao (spans a):Int)<=x/\x<=(ao (spans a):Int)):=ay (λe=>by
  obtain⟨p,n,X⟩:=N9 (l:=(gV m l).1) (r:=s) (by rw[t];exact e)
  rw[t] at X;rw[show x=p.1 from X]
  exact N.o p n)
 rw[t] at V;clear Y C D ok j E B S t M L J I R N o;generalize t:sP (gV m l).1 (gV m l).2 s=L at *;have M:=ay t;clear t
 go_in
 go_wp2_with fail;refine(P.o).mono ?_
 rintro e C ⟨rfl,rfl⟩
 go_wp2_with fail;refine(q.o).mono ?_
 rintro e J ⟨rfl,t⟩;have Y:=ay t;have D:=(t.cell (p:=⟨d,1,none⟩) A).trans k1;clear t P q
 by_cases f:g=0
 ·subst f
  have R:=ay (V.o J Y.o);clear V
  go_wp2_with fail;refine(R.o).mono ?_
  rintro e I ⟨rfl,t⟩;have q:=ay (Y.o.trans (t.mono Y.o.size));have E:=(q.o.cell (p:=⟨d,0,none⟩) A).trans i;clear t
  by_cases t:u=0
  ·have r:Hid (kQ a m l y z=(B_ (spans a) x,L,0)):=ay (by unfold kQ;rw[U.o];simp only[if_true];rw[O.o,aH t,M.o])
   have P:=ay (Q.o x I (T.o t).1 (T.o t).2 q.o);subst t;clear Q T
   go_wp2_with fail;refine(P.o).mono ?_
   rintro e B ⟨rfl,S⟩;have N:=ay (q.o.trans (S.mono q.o.size));clear S
   go_wp2;refine an ?_
   exact⟨by rw[r.o],N.o⟩
  ·have r:Hid (kQ a m l y z=(0,false,u)):=ay (by unfold kQ;rw[U.o];simp only[if_true];rw[O.o,aG t])
   have X:¬u=0:=t
   go_wp2;refine an ?_
   exact⟨by rw[r.o],q.o⟩
 ·have r:Hid (kQ a m l y z=(0,false,g)):=ay (by unfold kQ;rw[U.o,aG f])
  have X:¬g=0:=f
  go_wp2;refine an ?_
  exact⟨by rw[r.o],Y.o⟩
def zh(w:World)(h:oR d a m l F w) :
 ar Oe 80 #[.pointer (some ⟨d,0,none⟩),.int .i64 (-9223372036854775808)] w (aw w (.tuple #[.int .u64 0,.int .u64 0,.int .i64 5])):=by
 obtain⟨b,c,H,G,z,y,v,_⟩:=h;obtain⟨t,s⟩:=z.c2;have x:=ay (E7 w y.at_);clear z y v
 go_in
 go_wp2_with fail;refine(x.o).mono ?_
 rintro e v ⟨rfl,z⟩;have y:=ay z;clear z
 go_wp2;refine an ?_
 exact⟨rfl,y.o⟩
def wH(v:Int)(w:World)(h:oR d a m l F w)(ok:iO a m l)(t:-9223372036854775808<v)(s:v<=9223372036854775807) :
 ar Oe 80 #[.pointer (some ⟨d,0,none⟩),.int .i64 v] w (aw w (.tuple #[.int .u64 (jt (gV m l).1 (nI a v)),.int .u64 (jt (gV m l).1 (nI a v+1)),.int .i64 0])):=by
 obtain⟨b,c,H,G,x,r,u,_⟩:=h;obtain⟨M,R⟩:=x.c2;have Y:=x.lt;obtain⟨z,_⟩:=ok.cut;have p:=Rh ok.a0 ok.a1 t s;have U:=ay (E6 v w r.at_ ok.a0 ok.a1 t s);have q:Hid (∀W,aq w W->_):=ay (λW y=>Ee (nI a v) W ((kp c m _ _).keep u y) z z.iJ aa  aa)
 have f:Hid (∀W,aq w W->_):=ay (λW y=>IY (nI a v) W ((kp c m _ _).keep u y) z z.iJ aa  aa)
 clear x r u ok z p t s;generalize nI a v=N at *
 go_in
 go_wp2_with fail;refine(U.o).mono ?_
 rintro e z ⟨rfl,y⟩;have s:=ay y;have x:=(y.cell (p:=⟨d,1,none⟩) Y).trans R;have S:=ay x;have Q:d<z.heap.size:=aR Y y.size;have t:aq z z.drew:=(aC _ _).drew;have X:=ay (q.o z.drew (y.trans (t.mono y.size)));have V:Hid (∀W,aq z W->_):=ay (λW r=>f.o W (s.o.trans (r.mono s.o.size)))
 clear y q f x
 go_upto_region 4 with fail;have Z:=ay (λ(g:World) (x:(aq z) g)=>((x.cell (p:=⟨d,1,none⟩) Q).trans S.o))
 refine i' (aq z) (gW 0 5 (gW 6 5 (ib 5 (ib 11 (gW 12 3 []))))) (t) ?_
 iterate 10 refine hC ?_
 refine iy λK u=>?_
 go_simp;refine(X.o).mono ?_
 rintro e P ⟨rfl,r⟩;have x:aq z P:=t.trans r;refine u _ _ (x) ?_
 clear u K;refine iy λK u=>?_
 go_simp;refine(V.o _ x).mono ?_
 rintro e O ⟨rfl,f⟩;have q:aq z O:=x.trans (f.mono x.size);refine u _ _ (q) ?_
 clear u K
 iterate 3 refine hC ?_
 refine gM ?_
 try refine gQ ?_
 have T:=ay (s.o.trans (q.mono s.o.size));clear r f x q t
 go_wp2;refine an ?_
 exact⟨rfl,T.o⟩
end
section
variable {B g : Nat} {l : List Pr}
def IZ(A:Option Addr)(c:Nat)(k:Int)(w:World) :
 ar Oe 239 #[.slice A 0 c,.int .i64 k] w (aw w (.int .i64 0)):=by
 obtain⟨b,v⟩:=au (w.heap.size);obtain⟨y,x⟩:=au ((w.alloc (.cells #[.slice A 0 c] 316)).alloc (.cells #[.int .i64 k] 3));have t:aq w y:=by rw[<-x];exact bw
 have z:gN y b 316 #[.slice A 0 c]:=by rw[<-x,<-v];exact(gN.new _ _ _).alloc _
 have p:y.cell? ⟨b,0,none⟩=some (.slice A 0 c):=z.cell 0;have u:Hid (ar Oe 154 #[.int .i64 ((0:Nat):Int),.func (.func 317) #[] #[.pointer (some ⟨b,0,none⟩),.pointer (some ⟨b+1,0,none⟩)]] y (Found 0 (λ_=>true) y)):=
  ay (ks 317 #[.pointer (some ⟨b,0,none⟩),.pointer (some ⟨b+1,0,none⟩)] 0 _ y (enters_of func317 (by kernel_rfl) rfl) ab (λm i s=>absurd s (fp _)) (λa c _ r _=>absurd r (fp _)))
 rw[Int.natCast_zero] at u;have r:=ay t;clear t z
 go_in
 go_upto_region 1 with fail;try rw[x]
 try rw[v]
 clear x v;have t:∀(v:Fn) (x z:Array Value) (w:World),(Instr.makeFunc v x z).run prog w=.ok (.func v x z) w:=λ_ _ _ _=>rfl
 go_wp2_with fail;refine(u.o).mono ?_
 rintro e z ⟨i,n,rfl,s,_,_,rfl⟩;obtain rfl:i=0:=aa
 go_wp2
 go_ret;exact⟨rfl,below_drewN r.o n⟩
def Ef(k:Int)(w:World)(h:mr B w g l)(q:iE l)(u:ao l<=1000000000000) :
 ar Oe 149 #[.pointer (some ⟨g,0,none⟩),.int .i64 k] w (aw w (.int .u64 (jt l k))):=by
 have d:Hid (∀W,aq w W->∀i:Nat,i<=ao l->ar Oe 236 #[.pointer (some ⟨g,0,none⟩),.int .i64 i] W λe z=>e=.returned (.int .u64 (tot (l.take i)))/\W=z):=ay (λW y i v=>B6 _ (h.keep y) u i v)
 have p:∀(A:Option Addr) (c:Nat),w.cell? ⟨g,0,none⟩=some (.slice A (ao l) c)->(ar Oe 239 #[.slice A (ao l) c,.int .i64 k] w λe z=>(∃i:Nat,e=.returned (.int .i64 i)/\i<=ao l/\tot (l.take i)=jt l k)/\aq w z) ->
  ar Oe 149 #[.pointer (some ⟨g,0,none⟩),.int .i64 k] w (aw w (.int .u64 (jt l k))):=λA c t s=>by
  have f:=ay s;clear s h q u
  go_in
  go_wp2_with fail;refine(f.o).mono ?_
  rintro e b ⟨⟨i,rfl,v,r⟩,y⟩;have x:=ay (aF v (aF r y));clear v r y
  go_wp2_with fail;refine(d.o _ x.o.2.2 i x.o.1).mono ?_
  rintro e r ⟨rfl,rfl⟩
  go_wp2
  go_ret;exact⟨by rw[x.o.2.1];rfl,x.o.2.2⟩
 by_cases x:ao l=0
 ·obtain⟨_,U,T,r,f,b⟩:=h
  obtain⟨t,V⟩:=r.c2;obtain⟨A,c,rfl,a,Y,X⟩:=f.form;rw[dj] at t;refine p A c t ?_
  rw[x];refine(IZ A c k w).mono ?_
  rintro e z ⟨rfl,y⟩;refine⟨⟨0,rfl,aD _,?_⟩,y⟩
  rw[aN x];rfl
 ·obtain⟨X,f,a,V,b,Y,r⟩:=h.rows aa u
  exact p _ _ r.k0 (IV k w r q ⟨h.lt,bV _ _ (r.keys 0 aa)⟩)
def Mb(r:Int)(w:World)(h:mr B w g l)(f:iu l)(p:ao l<=1000000000000) :
 ar Oe 301 #[.pointer (some ⟨g,0,none⟩),.int .u64 r] w (aw w (.tuple #[.int .i64 (nW l r).1,.int .i64 (nW l r).2])):=by
 obtain⟨b,u⟩:=au (w.heap.size);obtain⟨x,y⟩:=au ((w.alloc (.cells #[.pointer (some ⟨g,0,none⟩)] 240)).alloc (.cells #[.int .u64 r] 36));have s:aq w x:=by rw[<-y];exact bw
 have z:gN x b 240 #[.pointer (some ⟨g,0,none⟩)]:=by rw[<-y,<-u];exact(gN.new _ _ _).alloc _
 have t:gN x (b+1) 36 #[.int .u64 r]:=by
  have h:=gN.new (w.alloc (.cells #[.pointer (some ⟨g,0,none⟩)] 240)) 36 #[.int .u64 r];rw[y,aI,u] at h;exact h
 have H:=ay (h.keep s);have Q:x.cell? ⟨b,0,none⟩=some (.pointer (some ⟨g,0,none⟩)):=z.cell 0;have P:x.cell? ⟨b+1,0,none⟩=some (.int .u64 r):=t.cell 0;have V:b<x.heap.size:=z.lt;have S:b+1<x.heap.size:=t.lt;have O:Hid (∀W,aq x W->ar Oe 237 #[.pointer (some ⟨g,0,none⟩)] W λe v=>e=.returned (.int .i64 (ao l))/\W=v):=ay (λW q=>B8 _ (H.o.keep q))
 have N:Hid (∀W,aq x W->ar Oe 300 #[.pointer (some ⟨g,0,none⟩)] W λe v=>e=.returned (.int .u64 (tot l))/\W=v):=ay (λW q=>s8 _ (H.o.keep q))
 have d:=ay s;have F:=ay f;have G:=ay p;clear h s z t f p;have hmf:∀(s:Fn) (t z:Array Value) (w:World),(Instr.makeFunc s t z).run prog w=.ok (.func s t z) w:=λ_ _ _ _=>rfl
 go_in
 go_upto_region 1 with fail;try rw[y]
 try rw[u]
 clear y u
 go_wp2_with fail;refine(O.o _ (aC _ _)).mono ?_
 rintro e w1 ⟨rfl,rfl⟩
 by_cases X:ao l=0
 ·have C:(ao l:Int)=0:=aa
  have f:Hid (nW l r=(0,8)):=ay (by unfold nW;rw[aH X])
  go_wp2;refine an ?_
  exact⟨by rw[f.o],d.o⟩
 ·have C:¬(ao l:Int)=0:=aa
  obtain⟨g1,o1,o,g2,o2,k,R⟩:=H.o.rows aa G.o
  have J:Hid (∀n,ar Oe 154 #[.int .i64 (ao l),.func (.func 368) #[] #[.pointer (some ⟨b,0,none⟩),.pointer (some ⟨b+1,0,none⟩)]] (x.drewN n) (Found (ao l) (λt=>decide (r<=tot (l.take (t+1)))) (x.drewN n))):=by
   refine ay (λn=>ks 368 #[.pointer (some ⟨b,0,none⟩),.pointer (some ⟨b+1,0,none⟩)] (ao l) _ (x.drewN n) (enters_of func368 (by kernel_rfl) rfl) R.len (λm i Y=>?_) (λa c z z h=>?_))
   ·exact IT (W:=(x.drewN n).drewN m) ⟨R.k0,R.k1,R.len,R.keys,R.sums⟩ b (b+1) i r Y Q P
   ·have:=LZ F.o (show a+1<=c+1 by omega)
    simp only[a_] at h |-;omega
  have A:=H.o.lt;have s:=ay (aF Q (aF P R.k0));have M:=ay R;have u:aq x x.drew:=(aC _ _).drew;have c:aq x x.drew.drew:=u.drew;clear R Q P
  go_upto_region 3 with fail
  by_cases E:r<1
  ·have q:nW l r=(0,1):=by unfold nW;rw[aG X,aH (.inl E)]
   have f:=ay q;clear q;have Z:=ay (λ(v:World) (y:(aq x) v)=>(aF ((y.cell (p:=⟨b,0,none⟩) V).trans s.o.1) ((y.cell (p:=⟨b+1,0,none⟩) S).trans s.o.2.1)))
   refine i' (aq x) (gW 0 9 []) (u) ?_
   iterate 3 refine hC ?_
   iterate 4 (refine jI ?_;try go_simp)
   iterate 2 refine hC ?_
   refine gM ?_
   try refine gQ ?_
   go_wp2;refine an ?_
   exact⟨by rw[f.o],d.o.trans (u.mono d.o.size)⟩
  by_cases L:tot l<r
  ·have q:nW l r=(0,1):=by unfold nW;rw[aG X,aH (.inr L)]
   have f:=ay q;clear q;have D:r > tot l:=L;have Z:=ay (λ(v:World) (y:(aq x) v)=>(aF ((y.cell (p:=⟨b,0,none⟩) V).trans s.o.1) ((y.cell (p:=⟨b+1,0,none⟩) S).trans s.o.2.1)))
   refine i' (aq x) (gW 0 5 (ib 5 (gW 6 3 []))) (u) ?_
   iterate 5 refine hC ?_
   refine iy λK z=>?_
   go_simp;refine(N.o _ u).mono ?_
   rintro e j ⟨rfl,rfl⟩;refine z _ _ (u) ?_
   clear z K
   iterate 3 refine hC ?_
   refine gM ?_
   try refine gQ ?_
   go_wp2;refine an ?_
   exact⟨by rw[f.o],d.o.trans (u.mono d.o.size)⟩
  ·have q:nW l r=(ky l r,0):=by unfold nW;rw[aG X,aG aa]
   have f:=ay q;clear q;have D:¬r > tot l:=aa
   have Z:=ay (λ(v:World) (y:(aq x) v)=>(aF ((y.cell (p:=⟨b,0,none⟩) V).trans s.o.1) ((y.cell (p:=⟨b+1,0,none⟩) S).trans s.o.2.1)))
   refine i' (aq x) (gW 0 5 (ib 5 (gW 6 3 []))) (u) ?_
   iterate 5 refine hC ?_
   refine iy λK z=>?_
   go_simp;refine(N.o _ u).mono ?_
   rintro e j ⟨rfl,rfl⟩;refine z _ _ (u) ?_
   clear z K
   iterate 3 refine hC ?_
   refine gM ?_
   try refine gQ ?_
   go_upto_region 5 with fail;have Z:=ay (λ(v:World) (y:(aq x) v)=>(aF ((y.cell (p:=⟨b,0,none⟩) V).trans s.o.1) ((y.cell (p:=⟨g,0,none⟩) A).trans s.o.2.2)))
   refine ki (aq x) 8 (gW 0 5 (gW 6 1 (ib 5 (ib 7 [])))) (c) ?_
   iterate 6 refine jw ?_
   refine mg λK z=>?_
   go_simp;refine(O.o _ c).mono ?_
   rintro e w3 ⟨rfl,rfl⟩;refine z _ _ (c) ?_
   clear z K;refine mg λK z=>?_
   go_simp;refine(J.o 2).mono ?_
   rintro e w4 ⟨i,n,rfl,Y,q,U,rfl⟩;have a:=ay (aF Y (aF q U));clear Y q U;refine z _ _ (below_drewN c n) ?_
   clear z K;refine gU ?_
   simp only[bc,bp];have T:i<ao l:=by
    obtain⟨Y,q,U⟩:=a.o
    rcases bg i (ao l) with h|h
    ·exact h
    ·have:decide (r<=tot (l.take (ao l - 1+1)))=false:=q (ao l - 1) aa
     rw[show ao l - 1+1=ao l by omega,bN] at this
     simp only[cD] at this;omega
   have R:ky l r=l[i].1:=FQ l r i T (λt y=>by simpa using a.o.2.1 t y) (by simpa using a.o.2.2 i (aD _) T)
   have W:(i:Int)<(ao l:Int):=aa
   have m:(0:Int)<=(i:Int):=aa
   have y:=M.o.keys i T;have hlen:=M.o.len;have I:=ay (below_drewN d.o (2+n));have t:=ay R;clear R;generalize l[i].1=R at y t
   go_wp2_with fail;try refine gQ ?_
   go_wp2;refine an ?_
   exact⟨by rw[f.o,t.o],I.o⟩
def I0(y z:Int)(w:World)(h:mr B w g l)(x:iu l)(d:ao l<=1000000000000)(b:tot l<=4611686018427387904)(u:0<=y)(t:y<18446744073709551616)(s:0<=z)(f:z<18446744073709551616) :
 ar Oe 216 #[.pointer (some ⟨g,0,none⟩),.int .u64 y,.int .u64 z] w (aw w (.tuple #[.int .i64 (l8 l y z).1,.int .i64 (l8 l y z).2])):=by
 have c:=ay (s8 w h);have p:=ay (K.vo y z (tot l) w u t s f (gP x) aa)
 have q:Hid (∀r W,aq w W->_):=ay (λr W v=>Mb r W (h.keep v) x d)
 clear h x d b u t s f;obtain⟨t,x,u⟩:∃t x,K.g9 y z (tot l)=(t,x):=⟨_,_,rfl⟩;have f:=ay u;rw[u] at p;clear u
 go_in
 go_wp2_with fail;refine(c.o).mono ?_
 rintro e X ⟨rfl,rfl⟩
 go_wp2_with fail;refine(p.o).mono ?_
 rintro e Y ⟨rfl,v⟩;have s:=ay v;have d:=ay (q.o t Y v);clear v q
 by_cases u:x=0
 ·have r:Hid (l8 l y z=nW l t):=ay (by unfold l8;rw[f.o,aH u])
  subst u
  go_wp2_with fail;refine(d.o).mono ?_
  rintro e V ⟨rfl,q⟩;have b:=ay (s.o.trans (q.mono s.o.size));clear q
  go_wp2;refine an ?_
  exact⟨by rw[r.o],b.o⟩
 ·have r:Hid (l8 l y z=(0,x)):=ay (by unfold l8;rw[f.o,aG u])
  have q:¬x=0:=u
  go_wp2;refine an ?_
  exact⟨by rw[r.o],s.o⟩
end
end D
end Go.Proofs.YtdicblkhpcphfaaGreat
