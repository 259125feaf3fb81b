/- Parts. -/
import Derived.Test.YtdicblkhpcphfaaGreatPU00
import Derived.WalkKit
import Derived.WalkSpells
import Derived.WalkLawsBesides
import Derived.Lib.Hide
import Derived.Deep.QuietTactic
import Derived.BigQuiet
import Derived.Deep.RegionHeld3
import Derived.Deep.AppendLies
import Derived.Deep.DeepFit
import Derived.Deep.DeepCutAuto
import Derived.Deep.DeepMust
import Derived.Deep.Light
import Derived.Deep.LoopGhost
import Derived.Deep.CutBlock
import Derived.Deep.RegionLaw
import Derived.StillTailTactics
import Derived.Maps.AppendAt
import Derived.Laws.CopyOwn
import Derived.Laws.ResultCell
import Derived.Deep.Draws
import Derived.Handy
import Derived.ProofKit
import Derived.OpenShut
import Derived.Carry
import Derived.ChangeSame
import Derived.Lib.BitFns
import Derived.Laws.BitsAllLaws
import Derived.Test.YtdicblkhpcphfaaGreatProg
import Derived.Lib.Mul64
import Derived.Shelf.Strconv.Itoa0
import Derived.Laws.Externs
set_option maxRecDepth 100000
set_option maxHeartbeats 0
set_option linter.all false
namespace Go.Proofs.YtdicblkhpcphfaaGreat
open Tryz Go.RowKit Go.Lib
open _root_.List renaming length→ab0
open Go.IntKind renaming wrap→ad0
open _root_.Go renaming Calls→af4
open Tryz renaming prog→af5
variable{a:World}{B:Nat}
def vK{W w1:World}(z:af3 W w1):(∀b o,b<W.heap.size->w1.cell? (af7 b o)=W.cell? (af7 b o))/\(∀b o,b<W.heap.size->w1.frozen? (af7 b o)=W.frozen? (af7 b o)):=
 ⟨λb o h=>z.C (p:=af7 b o) h,λb o h=>z.F (p:=af7 b o) h⟩
def jz{k:IntKind}{a b:Int}(h:a=b):Ending.returned (.int k a)=.returned (.int k b):=by rw[h]
def ph{a b:Bool}(h:a=b):Ending.returned (.bool a)=.returned (.bool b):=by rw[h]
def ti{B':Nat}{b c:World}(h:Below B' b c)(z:B<=B')(k:Below B a b):Below B a c:=k.T (h.M z)
def below_drewN{w:World}(h:Below B a w)(n:Nat):Below B a (w.drewN n):=⟨h.os,h.tape,h.output,h.size,h.block⟩
def g7(w:World)(g:Nat)(t:TypeId)(cs:Array Value):Prop:=w.heap[g]?=some (.cells cs t (0,0))
section
variable {w w' : World} {g : Nat} {t : TypeId} {cs : Array Value}
variable{a0 a1 a2 a3 a4 a5 a6 a7 a8 a9:Value}{r:List Value}
def g7.lt(h:g7 w g t cs):g<w.heap.size:=by
 rcases bm g w.heap.size with y|z
 .exact y
 .unfold g7 at h;rw[dc z] at h;cases h
def g7.C(h:g7 w g t cs)(i:Nat):w.cell? (af7 g i)=cs[i]?:=cell_of_row w g i cs t (0,0) h
def g7.c2(h:g7 w g t (a0::a1::r).toArray):w.cell? (af7 g 0)=some a0/\w.cell? (af7 g 1)=some a1:=⟨h.C 0,h.C 1⟩
def g7.c3(h:g7 w g t (a0::a1::a2::r).toArray):w.cell? (af7 g 0)=some a0/\w.cell? (af7 g 1)=some a1/\w.cell? (af7 g 2)=some a2:=⟨h.C 0,h.C 1,h.C 2⟩
def g7.c4(h:g7 w g t (a0::a1::a2::a3::r).toArray):w.cell? (af7 g 0)=some a0/\w.cell? (af7 g 1)=some a1/\w.cell? (af7 g 2)=some a2/\w.cell? (af7 g 3)=some a3:=⟨h.C 0,h.C 1,h.C 2,h.C 3⟩
def g7.c5(h:g7 w g t (a0::a1::a2::a3::a4::r).toArray):w.cell? (af7 g 0)=some a0/\w.cell? (af7 g 1)=some a1/\w.cell? (af7 g 2)=some a2/\w.cell? (af7 g 3)=some a3/\w.cell? (af7 g 4)=some a4:=⟨h.C 0,h.C 1,h.C 2,h.C 3,h.C 4⟩
def g7.c6(h:g7 w g t (a0::a1::a2::a3::a4::a5::r).toArray):w.cell? (af7 g 0)=some a0/\w.cell? (af7 g 1)=some a1/\w.cell? (af7 g 2)=some a2/\w.cell? (af7 g 3)=some a3/\w.cell? (af7 g 4)=some a4/\w.cell? (af7 g 5)=some a5:=⟨h.C 0,h.C 1,h.C 2,h.C 3,h.C 4,h.C 5⟩
def g7.c7(h:g7 w g t (a0::a1::a2::a3::a4::a5::a6::r).toArray):w.cell? (af7 g 0)=some a0/\w.cell? (af7 g 1)=some a1/\w.cell? (af7 g 2)=some a2/\w.cell? (af7 g 3)=some a3/\w.cell? (af7 g 4)=some a4/\w.cell? (af7 g 5)=some a5/\w.cell? (af7 g 6)=some a6:=⟨h.C 0,h.C 1,h.C 2,h.C 3,h.C 4,h.C 5,h.C 6⟩
def g7.c8(h:g7 w g t (a0::a1::a2::a3::a4::a5::a6::a7::r).toArray):w.cell? (af7 g 0)=some a0/\w.cell? (af7 g 1)=some a1/\w.cell? (af7 g 2)=some a2/\w.cell? (af7 g 3)=some a3/\w.cell? (af7 g 4)=some a4/\w.cell? (af7 g 5)=some a5/\w.cell? (af7 g 6)=some a6/\w.cell? (af7 g 7)=some a7:=⟨h.C 0,h.C 1,h.C 2,h.C 3,h.C 4,h.C 5,h.C 6,h.C 7⟩
def g7.c9(h:g7 w g t (a0::a1::a2::a3::a4::a5::a6::a7::a8::r).toArray):w.cell? (af7 g 0)=some a0/\w.cell? (af7 g 1)=some a1/\w.cell? (af7 g 2)=some a2/\w.cell? (af7 g 3)=some a3/\w.cell? (af7 g 4)=some a4/\w.cell? (af7 g 5)=some a5/\w.cell? (af7 g 6)=some a6/\w.cell? (af7 g 7)=some a7/\w.cell? (af7 g 8)=some a8:=⟨h.C 0,h.C 1,h.C 2,h.C 3,h.C 4,h.C 5,h.C 6,h.C 7,h.C 8⟩
def g7.c10(h:g7 w g t (a0::a1::a2::a3::a4::a5::a6::a7::a8::a9::r).toArray):w.cell? (af7 g 0)=some a0/\w.cell? (af7 g 1)=some a1/\w.cell? (af7 g 2)=some a2/\w.cell? (af7 g 3)=some a3/\w.cell? (af7 g 4)=some a4/\w.cell? (af7 g 5)=some a5/\w.cell? (af7 g 6)=some a6/\w.cell? (af7 g 7)=some a7/\w.cell? (af7 g 8)=some a8/\w.cell? (af7 g 9)=some a9:=⟨h.C 0,h.C 1,h.C 2,h.C 3,h.C 4,h.C 5,h.C 6,h.C 7,h.C 8,h.C 9⟩
def g7.k0(h:g7 w g t (a0::r).toArray):w.cell? (af7 g 0)=some a0:=h.C 0
def g7.k1(h:g7 w g t (a0::a1::r).toArray):w.cell? (af7 g 1)=some a1:=h.C 1
def g7.k2(h:g7 w g t (a0::a1::a2::r).toArray):w.cell? (af7 g 2)=some a2:=h.C 2
def g7.k3(h:g7 w g t (a0::a1::a2::a3::r).toArray):w.cell? (af7 g 3)=some a3:=h.C 3
def g7.k4(h:g7 w g t (a0::a1::a2::a3::a4::r).toArray):w.cell? (af7 g 4)=some a4:=h.C 4
def g7.k5(h:g7 w g t (a0::a1::a2::a3::a4::a5::r).toArray):w.cell? (af7 g 5)=some a5:=h.C 5
def g7.k6(h:g7 w g t (a0::a1::a2::a3::a4::a5::a6::r).toArray):w.cell? (af7 g 6)=some a6:=h.C 6
def g7.k7(h:g7 w g t (a0::a1::a2::a3::a4::a5::a6::a7::r).toArray):w.cell? (af7 g 7)=some a7:=h.C 7
def g7.k8(h:g7 w g t (a0::a1::a2::a3::a4::a5::a6::a7::a8::r).toArray):w.cell? (af7 g 8)=some a8:=h.C 8
def g7.k9(h:g7 w g t (a0::a1::a2::a3::a4::a5::a6::a7::a8::a9::r).toArray):w.cell? (af7 g 9)=some a9:=h.C 9
def g7.k10{a10:Value}(h:g7 w g t (a0::a1::a2::a3::a4::a5::a6::a7::a8::a9::a10::r).toArray):w.cell? (af7 g 10)=some a10:=h.C 10
def g7.F(h:g7 w g t cs)(i:Nat):w.frozen? (af7 g i)=false:=by
 unfold g7 at h;simp[World.frozen?,h]
def g7.new(w:World)(t:TypeId)(cs:Array Value):g7 (w.alloc (.cells cs t)) w.heap.size t cs:=cH w _
def an{w q:World}{b:Nat}{t:TypeId}{cs:Array Value}(h:w.alloc (.cells cs t)=q)(e:w.heap.size=b):Hid (g7 q b t cs):=by subst h;subst e;exact ax (g7.new _ _ _)
def ao{w q:World}{b:_}(h:w.alloc b=q):af3 w q:=by subst h;exact (Below.refl _ _).alloc (Nat.le_refl _) _
def g7.drew(h:g7 w g t cs):g7 w.drew g t cs:=h
def g7.drewN(h:g7 w g t cs)(n:Nat):g7 (w.drewN n) g t cs:=h
def g7.alloc(h:g7 w g t cs)(o:Obj):g7 (w.alloc o) g t cs:=(eJ w o g h.lt).T h
def g7.hJ(h:g7 w g t cs)(i:Nat)(u:Value):g7 (w.setCell (af7 g i) u) g t (cs.setIfInBounds i u):=by
 unfold g7 at h |-;simp[World.setCell,dV,h]
def g7.far(h:g7 w g t cs){p:Addr}(z:g≠p.block)(u:Value):g7 (w.setCell p u) g t cs:=(a_ w p u g z).T h
def g7.below{B:Nat}(h:g7 w g t cs)(z:Below B w w')(y:g<B):g7 w' g t cs:=(z.block g y).T h
def g7.K(h:g7 w g t cs)(z:af3 w w'):g7 w' g t cs:=h.below z h.lt
end
def ns(w:World)(g:Nat)(t:TypeId)(k:IntKind)(l:List Int):Prop:=g7 w g t (l.map (Value.int k)).toArray
section
variable {w w' : World} {g : Nat} {t : TypeId} {k : IntKind} {l : List Int}
def ns.lt(h:ns w g t k l):g<w.heap.size:=g7.lt h
def ns.C(h:ns w g t k l){j:Nat}(z:j<ab0 l):w.cell? (af7 g j)=some (.int k (l[j]?.getD 0)):=by
 rw[g7.C h j];simp[aL z]
def ns.F(h:ns w g t k l)(j:Nat):w.frozen? (af7 g j)=false:=g7.F h j
def ns.drewN(h:ns w g t k l)(n:Nat):ns (w.drewN n) g t k l:=h
def ns.hJ(h:ns w g t k l)(j:Nat)(v:Int):ns (w.setCell (af7 g j) (.int k v)) g t k (l.set j v):=by
 unfold ns;have:=g7.hJ h j (.int k v);rw[bA,<-List.map_set] at this;exact this
def ns.below{B:Nat}(h:ns w g t k l)(z:Below B w w')(y:g<B):ns w' g t k l:=g7.below h z y
def ns.K(h:ns w g t k l)(z:af3 w w'):ns w' g t k l:=g7.K h z
end
def bw{b:Nat}{w w':World}(h:Below b w w':=by(repeat' (first|(with_reducible exact aC _ _)|(with_reducible refine dD ?_ ?_ _)|(with_reducible refine Below.drew ?_)|(with_reducible refine below_drewN ?_ _)|(with_reducible refine dW ?_ ?_ _)|(with_reducible refine ti (by assumption) ?_ ?_)|go_size))):Below b w w':=h
def Rd(sz:Nat)(w:World)(v:Value)(n:Nat)(xs:List Value):Prop:=
 ab0 xs=n * sz/\∃A c,v=.slice A n c/\n<=c/\c<=maxLen/\(0<n->∃g off,A=some (af7 g off)/\g<w.heap.size/\∀j,j<n * sz->w.cell? (af7 g (off+j))=xs[j]?)
section
variable {w w' : World} {sz n : Nat} {v : Value} {xs : List Value}
def Rd.K(h:Rd sz w v n xs)(z:af3 w w'):Rd sz w' v n xs:=by
 obtain⟨f,A,c,b,d,s,r⟩:=h;refine⟨f,A,c,b,d,s,λu=>?_⟩;obtain⟨g,x,t,y,q⟩:=r u;exact⟨g,x,t,aG y z.size,λj h=>(z.C (p:=af7 g (x+j)) y).T (q j h)⟩
def Rd.drewN(h:Rd sz w v n xs)(k:Nat):Rd sz (w.drewN k) v n xs:=h
def Rd.alloc(h:Rd sz w v n xs)(o:Obj):Rd sz (w.alloc o) v n xs:=h.K ((aC _ _).alloc (aD _) o)
def Rd.pos(h:Rd sz w v n xs)(y:0<n):∃g z c,v=.slice (some (af7 g z)) n c/\n<=c/\c<=maxLen/\g<w.heap.size/\∀j,j<n * sz->w.cell? (af7 g (z+j))=xs[j]?:=by
 obtain⟨p,A,c,q,r,x,u⟩:=h;obtain⟨g,z,rfl,t,s⟩:=u y;exact⟨g,z,c,q,r,x,t,s⟩
def Rd.nil_(w:World)(sz:Nat):Rd sz w (.slice none 0 0) 0 []:=⟨ad,none,0,rfl,aD _,by unfold maxLen;omega,λh=>absurd h aa⟩
def Rd.oX{base:Nat}{e:TypeId}(h:w.ownsRow base e sz v n xs):Rd sz w v n xs:=by
 refine⟨h.1,?_⟩;rcases h.2 with⟨rfl,rfl⟩|⟨g,z,t,rfl,s,r,u,y,_,_⟩
 .exact⟨none,0,rfl,aD _,by unfold maxLen;omega,λh=>absurd h aa⟩
 .refine⟨_,z,rfl,u,y,λ_=>⟨g,0,rfl,?_,λj x=>?_⟩⟩
  .exact(h.lt g rfl).2
  .rw[cG];exact h.cellAt j x
end
def ir(w:World)(n:Nat):(w.drewN n).heap.size=w.heap.size:=rfl
structure Touch(F:Nat->Prop)(w w':World):Prop where
 os:w'.os=w.os
 tape:w'.tape=w.tape
 output:w'.output=w.output
 size:w.heap.size<=w'.heap.size
 block:∀k,k<w.heap.size->¬F k->w'.heap[k]?=w.heap[k]?
section
variable {F G : Nat -> Prop} {a b c w w' : World}
variable{B:Nat}
def Touch.refl(F:Nat->Prop)(w:World):Touch F w w:=⟨rfl,rfl,rfl,aD _,λ_ _ _=>rfl⟩
def Touch.T(h:Touch F a b)(k:Touch G b c)(v:∀i,G i->F i\/a.heap.size<=i):Touch F a c:=
 ⟨k.os.T h.os,k.tape.T h.tape,k.output.T h.output,bf h.size k.size,λi x y=>
  (k.block i (aG x h.size) (λu=>by rcases v i u with z|z;exact y z;omega)).T (h.block i x y)⟩
def Touch.M(h:Touch F w w')(z:∀i,F i->G i):Touch G w w':=⟨h.os,h.tape,h.output,h.size,λi y x=>h.block i y (λy=>x (z i y))⟩
def Touch.of_below(h:Below B w w')(z:w.heap.size<=B):Touch F w w':=⟨h.os,h.tape,h.output,h.size,λi y _=>h.block i aa⟩
def Touch.below(h:Touch F w w')(z:∀i,F i->B<=i)(x:B<=w.heap.size):Below B w w':=⟨h.os,h.tape,h.output,h.size,λi v=>h.block i aa (λy=>by have:=z i y;omega)⟩
def Touch.alloc(h:Touch F a w)(o:Obj):Touch F a (w.alloc o):=h.T (Touch.of_below (F:=λ_=>False) ((aC _ _).alloc (aD _) o) (aD _)) (λ_ z=>z.elim)
def Touch.drew(h:Touch F a w):Touch F a w.drew:=⟨h.os,h.tape,h.output,h.size,h.block⟩
def Touch.drewN(h:Touch F a w)(n:Nat):Touch F a (w.drewN n):=⟨h.os,h.tape,h.output,h.size,h.block⟩
def Touch.setCell(h:Touch F a w){p:Addr}(z:F p.block\/a.heap.size<=p.block)(u:Value):Touch F a (w.setCell p u):=
 ⟨h.os,h.tape,h.output,by simpa using h.size,λi x y=>(a_ w p u i (by rintro rfl;rcases z with z|z;exact y z;omega)).T (h.block i x y)⟩
def Touch.grown(h:Touch F a w){row:Option Nat}(z:w.grownBy w' row)(u:∀k,row=some k->F k\/a.heap.size<=k):Touch F a w':=
 ⟨z.os.T h.os,z.tape.T h.tape,z.output.T h.output,bf h.size z.size,λi v x=>(z.block i (aG v h.size) (λe=>by rcases u i e.Y with y|y;exact x y;omega)).T (h.block i v x)⟩
def touch_of(h:af3 w w')(k:Touch F a w):Touch F a w':=k.T (Touch.of_below (F:=λ_=>False) h (aD _)) (λ_ z=>z.elim)
end
section
variable {P : Program} (w : World)
variable{o:Oper}{a:Act}{Q:Exit->Act->World->Prop}
def tj(x:Nat)(t q e:TypeId)(i:TypeInfo)(r:Nat)(y:P.underlying t=some (.slice e))(z:P.info? e=some i)
 (v:Value) (n:Nat) (xs:List Value) (s:w.ownsRow x e r v n xs) (c:Nat):(Builtin.append_ #[t,t] q #[v,.slice none 0 c]).run P w=.ok v w:=by
 rcases s.2 with⟨rfl,rfl⟩|⟨g,p,f,rfl,_,_,u,_⟩
 .simp[Builtin.append_,run_underlying y,sizeOf,typeInfo,z,Builtin.lenOf,Builtin.firstCells]
 .simp[Builtin.append_,run_underlying y,sizeOf,typeInfo,z,Builtin.lenOf,Builtin.firstCells,u,storeCells]
def zF(p:Nat)(t Y e:TypeId)(i:TypeInfo)(z:Value)(s d:Nat)(U:P.underlying t=some (.slice e))(V:P.info? e=some i)(G:i.zero=some z)
 (I:i.size=s) (N:i.bytes=d) (F:z.cells.size=s) (H:0<s)
 (v:Value) (n:Nat) (xs:List Value) (a:w.ownsRow p e s v n xs)
 (A:Option Addr) (m c:Nat) (x:List Value) (r:Rd s w (.slice A m c) m x) (R:∀u∈x,u.oneCell'=true)
 (Q:n+m<=maxLen) (M:(n+m) * d<=140737488355328) (O:p<=w.heap.size) :
 ∃q w',(Builtin.append_ #[t,t] Y #[v,.slice A m c]).run P w=.ok q w'/\w'.ownsRow p e s q (n+m) (xs++x)/\w.grownBy w' v.ownBlock /\
  (q.ownBlock=v.ownBlock\/q.ownBlock=some w.heap.size):=by
 rcases A with _|X
 .have f:m=0:=by
   rcases bo m with y|y
   .exact y
   .obtain⟨g,E,T,h,_⟩:=r.pos y
    cases h
  subst f;have b:x=[]:=aV (by simpa using r.1);subst b;exact⟨v,w,tj w p t Y e i s U V v n xs a c,by simpa using a,World.grownBy.refl w _,.inl rfl⟩
 .have K:∀j u,x[j]?=some u->w.cell? (X.add j)=some u:=by
   intro j u f;rcases bo m with y|y
   .subst y
    have b:x=[]:=aV (by simpa using r.1);subst b;simp at f
   .obtain⟨g,E,T,h,_,_,_,L⟩:=r.pos y
    injection h with h;injection h with h;subst h;have J:j<ab0 x:=by
     rcases bm j (ab0 x) with h|h
     .exact h
     .rw[dH h] at f;cases f
    have:=L j (by rw[<-r.1];exact J);rw[f] at this;unfold Addr.add;split
    .rename_i y;have S:j=0:=by simpa using y
     subst S;simpa using this
    .exact this
  obtain⟨q,w',T,y,g,_,f⟩:=run_append_own_at (P:=P) w p t Y e i z s d U V G I N F H v n xs a X m c x r.1 K R Q M O;exact⟨q,w',T,y,g,f⟩
def nt{K:Act->World->Prop}(s x:Operand)(t:TypeId)
 (S:o.op=.call {callee:=.builtin .append,args:=#[s,x],argTypes:=#[t,t]})
 (r:Nat) (e:TypeId) (i:TypeInfo) (z:Value) (y p:Nat) (I:P.underlying t=some (.slice e)) (T:P.info? e=some i) (G:i.zero=some z)
 (L:i.size=y) (V:i.bytes=p) (F:z.cells.size=y) (J:0<y)
 (v:Value) (n:Nat) (xs:List Value) (M:a.eval s=v) (R:w.ownsRow r e y v n xs)
 (A:Option Addr) (m c:Nat) (q:List Value) (H:a.eval x=.slice A m c) (O:Rd y w (.slice A m c) m q) (g:∀u∈q,u.oneCell'=true)
 (Y:n+m<=maxLen) (U:(n+m) * p<=140737488355328) (X:r<=w.heap.size)
 (h:∀u w',w'.ownsRow r e y u (n+m) (xs++q)->w.grownBy w' v.ownBlock->(u.ownBlock=v.ownBlock\/u.ownBlock=some w.heap.size)->K (a.put o.dst u) w'):o.wp P a w K Q:=by
 obtain⟨u,w',N,f,d,b⟩:=zF (P:=P) w r t o.type e i z y p I T G L V F J v n xs R A m c q O g Y U X;unfold Oper.wp execOp;simp only[S,resolve,invoke,builtin,gX,gV,gu,gD,dO,fP,M,H,N];exact h u w' f d b
def kQ{ops:Array Oper}{rest:List Oper}(S:o.guard=none)(s x:Operand)(t:TypeId)
 (O:o.op=.call {callee:=.builtin .append,args:=#[s,x],argTypes:=#[t,t]})
 (r:Nat) (e:TypeId) (i:TypeInfo) (z:Value) (y p:Nat) (I:P.underlying t=some (.slice e)) (R:P.info? e=some i) (G:i.zero=some z)
 (K:i.size=y) (U:i.bytes=p) (F:z.cells.size=y) (J:0<y)
 (v:Value) (n:Nat) (xs:List Value) (L:a.eval s=v) (N:w.ownsRow r e y v n xs)
 (A:Option Addr) (m c:Nat) (q:List Value) (H:a.eval x=.slice A m c) (M:Rd y w (.slice A m c) m q) (g:∀u∈q,u.oneCell'=true)
 (Y:n+m<=maxLen) (T:(n+m) * p<=140737488355328) (V:r<=w.heap.size)
 (h:∀u w',w'.ownsRow r e y u (n+m) (xs++q)->w.grownBy w' v.ownBlock->(u.ownBlock=v.ownBlock\/u.ownBlock=some w.heap.size)->wpList P ops Q rest (a.put o.dst u) w'):wpList P ops Q (o::rest) a w:=
 wpList_plain S λ_ X=>nt w s x t O r e i z y p I R G K U F J v n xs L N A m c q H M g Y T V λu w' f d b=>X _ _ (h u w' f d b)
end
def mK{P:Program}(t e:TypeId)(i:TypeInfo)(z:Value)(r:P.underlying t=some (.slice e))(s:P.info? e=some i)(q:i.zero=some z)
 (v x:IntKind) (n c:Nat) (f:n<=c) (g:i.bytes * c<=281474976710656) (p:c<=9223372036854775807) (w:World) :
 (Instr.makeSlice t (.int v (n:Int)) (.int x (c:Int))).run P w=.ok (.slice (some (af7 (w.heap.size) 0)) n c) (w.alloc (.cells (madeCells z.cells (c * i.size)) e)):=by
 have u:(i.bytes:Int) * (c:Int)<=281474976710656:=by
  have h:((i.bytes * c:Nat):Int)<=281474976710656:=aa
  rwa [fE] at h
 have y:=run_make (P:=P) w t e i z r s q v x n c aa  aa u aa;simp only[bY] at y;exact y
open Go.RowKit Go.ChangeShapes Go.WideShapes
def jC(k:IntKind)(w:World)(v:Value)(zs:List Int):Prop:=Rd 1 w v (ab0 zs) (zs.map (Value.int k))
def Ms(k:IntKind)(w:World)(A:Option Addr)(zs:List Int):Prop:=0<ab0 zs->∃g off,A=some (af7 g off)/\g<w.heap.size/\∀j (h:j<ab0 zs),w.cell? (af7 g (off+j))=some (.int k zs[j])
section
variable {k : IntKind} {w w' : World} {v : Value} {zs : List Int}
def jC.K(h:jC k w v zs)(z:af3 w w'):jC k w' v zs:=Rd.K h z
def jC.form(h:jC k w v zs):∃A c,v=.slice A (ab0 zs) c/\ab0 zs<=c/\c<=9223372036854775807/\Ms k w A zs:=by
 obtain⟨_,A,c,q,y,x,u⟩:=h;refine⟨A,c,q,y,by unfold maxLen at x;omega,λz=>?_⟩;obtain⟨g,p,t,s,r⟩:=u z;refine⟨g,p,t,s,λj h=>?_⟩;rw[r j aa];simp[aL h]
def Ms.at_{A:Option Addr}(h:Ms k w A zs){j:Nat}(u:j<ab0 zs):∃g z,A=some (af7 g z)/\g<w.heap.size/\w.cell? (af7 g (z+j))=some (.int k zs[j]):=by
 obtain⟨g,z,y,v,x⟩:=h aa;exact⟨g,z,y,v,x j u⟩
end
section
variable {H : Type} {enc : TypeId × Value -> H} {P : Program} {w : World} {base : Nat} {held : Bool}
def sr(s:laidOutB P=true){W W':World}(u:af3 W W'){sp:Nat->Bool}:∀{ts:List TypeId} {v:List Value} {y:List (DataW H)} {z:List MemPlace},
 (∀t∈ts,P.readableRec t=true/\t<P.types.size)->DataW.TrodAll enc P W 0 (λ_=>true) true ts v y z->(∀x∈z,x.block<W.heap.size)->(∀x∈z,sp x.block=true)->DataW.TrodAll enc P W' 0 sp true ts v y z
 | [],_,_,_,_,h,_,_=>by
  obtain⟨rfl,rfl,rfl⟩:=trodAll_nil h;exact trodAll_mk0
 | t::ts,_,_,_,hr,h,hlt,hsp=>by
  obtain⟨v,c,d,f,a,b,rfl,rfl,rfl,y,r⟩:=trodAll_cons h;obtain⟨p,g⟩:=hr t (aJ ..);refine trodAll_cons_mk (WideElems.Trod_stays s p g y (λx z=>u.same (hlt x (by simp[z]))) (λx z=>hsp x (by simp[z]))) ?_;exact sr s u (λt q=>hr t (aQ _ q)) r (λx z=>hlt x (by simp[z])) (λx z=>hsp x (by simp[z]))
end
section
variable {H : Type} {enc : TypeId × Value -> H} {P : Program}
def xD{f:Func}{s:ChangeSpec}{fresh handsOn again:Bool}{W W':World}{args:Array Value}{ds:List (DataW H)}{before:List MemPlace}{t:TypeId}
 (L:laidOutB P=true) (K:(f.params.toList.all λt=>P.readableRec t && decide (t<P.types.size))=true) (R:s.vars=[]) (S:f.resultTypes=#[t]) (u:P.underlying t=some .bool)
 (r:DataW.Whole enc P f.params.toList s.vars false W args.toList ds [] before) (c:s.fn H ds={results:=[.lit (.bool true)],args:=ds}) (g:af3 W W') :
 s.post enc P f false fresh handsOn again W args (.bool true) W':=by
 have U:∀p∈before,p.block<W.heap.size:=λp v=>r.lt p v;have E:∀p∈before,(λb=>decide (b<W.heap.size)) p.block=true:=λp v=>by simpa using U p v
 have M:=r;obtain⟨p,q,N,a,rfl,G,F⟩:=r;have J:∀t∈f.params.toList,P.readableRec t=true/\t<P.types.size:=λt u=>by
  have:=gB.1 K t u;simpa using this
 rw[R] at a;obtain⟨_,rfl⟩:=trodVars_none a;have d:∀x∈p,x.block<W.heap.size:=λx y=>U x (by simp[y]);have Y:∀z:Nat->Bool,(∀x∈p,z x.block=true)->DataW.TrodAll enc P W' 0 z true f.params.toList args.toList (s.fn H (ds++[])).args p:=λz I=>by
  rw[bP,c];exact sr L g J N d I
 have T:∀(b:Nat) (z:Nat->Bool) (X:Bool),DataW.TrodAll enc P W' b z X f.resultTypes.toList ((Value.bool true).resultList f.resultTypes.size) (s.fn H (ds++[])).results []:=λb z X=>by
  rw[bP,c,S];exact trodAll_cons_mk (shut_bool u _) trodAll_mk0
 have Q:∀z:Nat->Bool,DataW.TrodVars enc P W' z s.vars (s.fn H (ds++[])).vars []:=λz=>by
  rw[bP,c,R];exact rfl
 refine⟨ds,[],p++[],[],p,[],M,T _ _ _,Y _ (λx y=>by simpa using d x y),Q _,World.keptBut_mono (λx y=>⟨y,.inr (by simpa using y)⟩) (g.frame (·∈p++[])),λ_=>?_⟩;refine⟨ok_one S rfl (okWide_bool_mk u _),_,_,([]++p)++[],⟨[]++p,[],trodAll_append (Y _ (λ_ _=>rfl)) (T _ _ _),Q _,rfl,?_,?_⟩,?_⟩
 .intro b O v
  have V:MemPlace.cell b O∈p:=by simpa using v
  rw[g.F (d _ V)];exact G b O (by simpa using V)
 .intro V
  cases V
 .intro x y _
  simpa using y
end
def iy(x:Int):ad0 .u64 x=x % 18446744073709551616:=c_ x
def RY(x:Int)(z:0<=x)(y:x<18446744073709551616):ad0 .u64 x=x:=by rw[iy];omega
structure nQ(a b u d q r:Int):Prop where
 e:q * a+r=u
 r0:0<=r
 q0:0<=q
 q1:q<=4294967297
 lo:(u * 4294967296+d) / (a * 4294967296+b)<=q
structure Bf(a b u d:Int):Prop where
 ha:2147483648<=a
 ha1:a<4294967296
 hb:0<=b
 hb1:b<4294967296
 hu:0<=u
 hu1:u<a * 4294967296+b
 hd:0<=d
 hd1:d<4294967296
section
variable {a b u d q r : Int}
def rK(K:Bf a b u d):0<=(u * 4294967296+d) / (a * 4294967296+b):=by
 obtain⟨z,y,x,v,r,q,t,s⟩:=K;exact dh aa  aa
def xE(K:Bf a b u d):(u * 4294967296+d) / (a * 4294967296+b)<4294967296:=by
 obtain⟨z,y,x,v,r,q,t,s⟩:=K;exact cj aa  aa
def nQ.start(K:Bf a b u d):nQ a b u d (u / a) (u % a):=by
 have s:=rK K;obtain⟨g,f,v,c,t,V,Y,X⟩:=K;have z:=dB u (show a≠0 by omega);have y:=cP u a;have x:u / a * a+u % a=u:=by rw[cd];exact y
 refine⟨x,z,dh t aa,?_,?_⟩
 .have:u / a<4294967298:=cj aa  aa
  omega
 .have r:=fK (u * 4294967296+d) (show a * 4294967296+b≠0 by omega)
  generalize (u * 4294967296+d) / (a * 4294967296+b)=k at *;apply gH aa
  have q:k * (a * 4294967296+b)=k * a * 4294967296+k * b:=by rw[eQ,bF]
  have p:0<=k * b:=cX s v;omega
def nQ.cond(h:nQ a b u d q r):(4294967296 * r+d<q * b)<->u * 4294967296+d<q * (a * 4294967296+b):=by
 have z:q * (a * 4294967296+b)=q * a * 4294967296+q * b:=by rw[eQ,bF]
 have:=h.e;omega
def nQ.next(K:Bf a b u d)(h:nQ a b u d q r)(z:4294967296<=q\/4294967296 * r+d<q * b):nQ a b u d (q - 1) (r+a):=by
 have U:=xE K;have V:=rK K;obtain⟨x,v,t,s,Y,X,p,g⟩:=K;have c:(u * 4294967296+d) / (a * 4294967296+b)<q:=by
  rcases z with z|z
  .omega
  .exact cj aa (h.cond.1 z)
 have f:=h.e;have:=h.q1;have:=h.r0;have y:(q - 1) * a=q * a - a:=by rw[Int.sub_mul,ez]
 exact⟨aa,aa,aa,aa,aa⟩
def nQ.stop(K:Bf a b u d)(h:nQ a b u d q r)(z:q * b<=4294967296 * r+d):q=(u * 4294967296+d) / (a * 4294967296+b):=by
 obtain⟨x,v,t,s,f,c,p,g⟩:=K;have y:q<=(u * 4294967296+d) / (a * 4294967296+b):=by
  apply gH aa
  have:=h.cond;omega
 have:=h.lo;omega
def nQ.brk(K:Bf a b u d)(h:nQ a b u d q r)(z:q<=4294967296)(y:4294967296<=r):q=(u * 4294967296+d) / (a * 4294967296+b):=by
 have x:q * b<=4294967296 * b:=bU z K.hb;have:=K.hb1;have:=K.hd;exact h.stop K aa
end
def SF{a b u d f:Int}(K:Bf a b u d)(z:0<=f)(y:f<4294967296):Bf a b ((u * 4294967296+d) % (a * 4294967296+b)) f:=by
 obtain⟨x,v,t,s,p,g,r,q⟩:=K;exact⟨x,v,t,s,dB _ aa,cO _ aa,z,y⟩
def RZ(T Y:Int)(y:0<Y)(u:Y<18446744073709551616):(T - T / Y * Y) % 18446744073709551616=T % Y:=by
 have x:=dB T (show Y≠0 by omega);have v:=cO T y;have z:=cP T Y;rw[cd] at z;omega
def Xk(U d e Y:Int)(x:0<Y):((U * 4294967296+d) * 4294967296+e) / Y=(U * 4294967296+d) / Y * 4294967296+((U * 4294967296+d) % Y * 4294967296+e) / Y /\
 ((U * 4294967296+d) * 4294967296+e) % Y=((U * 4294967296+d) % Y * 4294967296+e) % Y:=by
 have y:=cP (U * 4294967296+d) Y;generalize (U * 4294967296+d) / Y=k at *;generalize (U * 4294967296+d) % Y=m at *;have z:(U * 4294967296+d) * 4294967296+e=(m * 4294967296+e)+Y * (k * 4294967296):=by
  have:Y * (k * 4294967296)=Y * k * 4294967296:=by rw[bF]
  omega
 rw[z,fD _ _ aa,eN];exact⟨aa,rfl⟩
def Cw(a:Int)(z:0<=a)(y:a<18446744073709551616):bits .and .u64 a 4294967295=a % 4294967296:=by
 obtain⟨n,rfl⟩:=bO z;have h:=bits_and_u64_nat n 4294967295 aa  aa;have e:n &&& 4294967295=n % 4294967296:=fS n 32;rw[e] at h;exact h
def orI(a b:Nat)(s:Nat)(z:a * 2 ^ s<18446744073709551616)(y:b<2 ^ s)(x:b<18446744073709551616):bits .or .u64 ((a:Int) * 2 ^ s) (b:Int)=(a:Int) * 2 ^ s+b:=by
 have h:=bits_or_u64_nat (a * 2 ^ s) b z x;have e:a * 2 ^ s ||| b=a * 2 ^ s+b:=by
  rw[cJ];exact(dT y a).Y
 rw[e] at h;simpa using h
def bitLenAux_zero:∀f:Nat,Lib.bitLenAux f 0=0
 | 0=>rfl
 | f+1=>by simp[Lib.bitLenAux]
def qQ:∀(f x:Nat),x<2 ^ f->x<2 ^ Lib.bitLenAux f x/\(x≠0->2 ^ (Lib.bitLenAux f x - 1)<=x/\1<=Lib.bitLenAux f x)
 | 0,x,h=>by simp[Lib.bitLenAux] at h |-;omega
 | f+1,x,h=>by
  unfold Lib.bitLenAux;by_cases z:x=0
  .rw[aH z];exact⟨aa,λy=>absurd z y⟩
  .rw[aF z]
   have p:2 ^ (f+1)=2 ^ f * 2:=cC 2 f;obtain⟨u,v⟩:=qQ f (x / 2) aa;by_cases y:x / 2=0
   .rw[y,bitLenAux_zero]
    simp only[cF];refine⟨aa,λ_=>⟨?_,aa⟩⟩;show 2 ^ 0<=x
    omega
   .obtain⟨t,s⟩:=v y
    generalize Lib.bitLenAux f (x / 2)=k at *;have r:2 ^ (1+k)=2 ^ k * 2:=by rw[fN];exact cC 2 k
    have q:2 ^ k=2 ^ (k - 1) * 2:=by rw[<-cC];congr 1;omega
    refine⟨aa,λ_=>⟨?_,aa⟩⟩;rw[show 1+k - 1=k by omega];omega
def Bg(x:Nat)(h:x<18446744073709551616):x<2 ^ Lib.bitLen x/\(x≠0->2 ^ (Lib.bitLen x - 1)<=x/\1<=Lib.bitLen x):=qQ 64 x aa
structure UM(hi lo y:Int)(s:Nat)(a b U d f:Int):Prop where
 ea:y * 2 ^ s / 4294967296=a
 eb:bits .and .u64 (y * 2 ^ s) 4294967295=b
 eU:bits .or .u64 (ad0 .u64 (hi * 2 ^ s)) (lo / 2 ^ (64 - s))=U
 ed:ad0 .u64 (lo * 2 ^ s) / 4294967296=d
 ef:bits .and .u64 (ad0 .u64 (lo * 2 ^ s)) 4294967295=f
 K:Bf a b U d
 f0:0<=f
 f1:f<4294967296
 ey:y * 2 ^ s=a * 4294967296+b
 eX:(hi * 18446744073709551616+lo) * 2 ^ s=(U * 4294967296+d) * 4294967296+f
def UN(r q y:Int)(s:Nat)(X:0<=r)(V:r<y)(S:0<=q)(L:q<18446744073709551616)(T:s<=63)
 (O:9223372036854775808<=y * 2 ^ s) (c:y * 2 ^ s<18446744073709551616):∃a b U d f,UM r q y s a b U d f:=by
 obtain⟨x,rfl⟩:=bO X;obtain⟨z,rfl⟩:=bO S;have Q:(0:Int)<2 ^ s:=dp aa;have N:(x:Int) * 2 ^ s<y * 2 ^ s:=Int.mul_lt_mul_of_pos_right V Q;have M:(x:Int) * 2 ^ s+2 ^ s<=y * 2 ^ s:=by
  have:((x:Int)+1) * 2 ^ s<=y * 2 ^ s:=bU aa  aa;rw[dk,ez] at this;exact this
 have U:0<=(x:Int) * 2 ^ s:=cX aa  aa;have P:((x:Int) * 2 ^ s)=((x * 2 ^ s:Nat):Int):=ad;have u:(2:Nat) ^ s * 2 ^ (64 - s)=18446744073709551616:=by rw[<-eP,show s+(64 - s)=64 by omega]
 have g:0<2 ^ (64 - s):=cB _;have R:z / 2 ^ (64 - s)<2 ^ s:=by rw[eF g,u];omega
 have K:(2:Nat) ^ s<=2 ^ 63:=bM aa T;have b:bits .or .u64 (ad0 .u64 ((x:Int) * 2 ^ s)) ((z:Int) / 2 ^ (64 - s))=(x:Int) * 2 ^ s+((z / 2 ^ (64 - s):Nat):Int):=by
  rw[RY _ U aa];have v:(z:Int) / 2 ^ (64 - s)=((z / 2 ^ (64 - s):Nat):Int):=ad;rw[v];exact orI x _ s aa R aa
 have f:=Nat.div_add_mod z (2 ^ (64 - s));have v:ad0 .u64 ((z:Int) * 2 ^ s)=((z % 2 ^ (64 - s) * 2 ^ s:Nat):Int):=by
  rw[iy];have p:z * 2 ^ s=z % 2 ^ (64 - s) * 2 ^ s+18446744073709551616 * (z / 2 ^ (64 - s)):=by
   have h:=bu (· * 2 ^ s) f;simp only[eD] at h;have d:2 ^ (64 - s) * (z / 2 ^ (64 - s)) * 2 ^ s=18446744073709551616 * (z / 2 ^ (64 - s)):=by
    rw[<-u,cJ,<-ej]
   omega
  have t:(z:Int) * 2 ^ s=((z * 2 ^ s:Nat):Int):=ad;have a:z % 2 ^ (64 - s) * 2 ^ s<18446744073709551616:=by
   rw[<-u,cJ (2 ^ s)];exact eI (ek _ g) (cB _)
  rw[t,p];omega
 have J:z % 2 ^ (64 - s) * 2 ^ s<18446744073709551616:=by
  rw[<-u,cJ (2 ^ s)];exact eI (ek _ g) (cB _)
 have a:((x:Int) * 18446744073709551616+z) * 2 ^ s=((x:Int) * 2 ^ s+((z / 2 ^ (64 - s):Nat):Int)) * 18446744073709551616+((z % 2 ^ (64 - s) * 2 ^ s:Nat):Int):=by
  have h:=bu (· * 2 ^ s) f;simp only[eD] at h;have d:2 ^ (64 - s) * (z / 2 ^ (64 - s)) * 2 ^ s=18446744073709551616 * (z / 2 ^ (64 - s)):=by
   rw[<-u,cJ,<-ej]
  have t:(z:Int) * 2 ^ s=((z * 2 ^ s:Nat):Int):=ad;have p:(x:Int) * 18446744073709551616 * 2 ^ s=(x:Int) * 2 ^ s * 18446744073709551616:=by rw[bF,cd 18446744073709551616,<-bF]
  rw[dk,p,t];omega
 refine⟨_,_,_,_,_,⟨rfl,rfl,b,rfl,rfl,?_,?_,?_,?_,?_⟩⟩
 .rw[Cw _ aa c,v]
  generalize z % 2 ^ (64 - s) * 2 ^ s=I at *;generalize z / 2 ^ (64 - s)=t at *;generalize (x:Int) * 2 ^ s=d at *;generalize y * 2 ^ s=Y at *;have:((t:Nat):Int)<2 ^ s:=by
   have:((t:Nat):Int)<((2 ^ s:Nat):Int):=aa;simpa using this
  generalize (2:Int) ^ s=p at *;constructor<;>omega
 .rw[Cw _ (by rw[v];omega) (by rw[v];omega)];omega
 .rw[Cw _ (by rw[v];omega) (by rw[v];omega)];omega
 .rw[Cw _ aa c];omega
 .rw[a,Cw _ (by rw[v];omega) (by rw[v];omega),v];omega
def Xl(X y U d f Y:Int)(s:Nat)(r:y * 2 ^ s=Y)(t:X * 2 ^ s=(U * 4294967296+d) * 4294967296+f)(u:0<Y):X / y=(U * 4294967296+d) / Y * 4294967296+((U * 4294967296+d) % Y * 4294967296+f) / Y/\X % y=((U * 4294967296+d) % Y * 4294967296+f) % Y / 2 ^ s:=by
 have v:(0:Int)<2 ^ s:=dp aa;obtain⟨z,x⟩:=Xk U d f Y u;rw[<-t] at z x;rw[<-z,<-x,<-r,Int.mul_ediv_mul_of_pos_left _ _ v,cd X,cd y,gG _ _ v,Int.mul_ediv_cancel_left _ aa];exact⟨rfl,rfl⟩
def JT(x:Int)(w:World)(f:0<=x)(d:x<18446744073709551616)(t:4294967296<=x)(r:65536<=x / 4294967296)(q:256<=x / 4294967296 / 65536):af4 af5 302 #[.int .u64 x] w λe u=>e=.returned (af6 (Lib.bitLen x.toNat))/\w=u:=by
 have p:0<=x / 4294967296 / 65536 / 256:=aa;have g:x / 4294967296 / 65536 / 256<=255:=aa;have l:=Lib.bitLen_le8' (x / 4294967296 / 65536 / 256) aa  aa;have z:=Lib.len8_of (x / 4294967296 / 65536 / 256) aa  aa;have c:0<=len8 (x / 4294967296 / 65536 / 256):=aa;have b:len8 (x / 4294967296 / 65536 / 256)<=8:=aa;have y:(x / 4294967296 / 65536 / 256).toNat=x.toNat / 72057594037927936:=aa;have s:=Lib.bitLen_shift56 x.toNat aa  aa;have v:Hid (56+len8 (x / 4294967296 / 65536 / 256)=Lib.bitLen x.toNat):=by
  show 56+len8 (x / 4294967296 / 65536 / 256)=_
  rw[y] at z;omega
 clear s y z l;go_in;go_wp2;go_ret;rw[<-v.o];exact⟨rfl,rfl⟩
def JU(x:Int)(w:World)(f:0<=x)(d:x<18446744073709551616)(t:4294967296<=x)(r:65536<=x / 4294967296)(q:x / 4294967296 / 65536<256):af4 af5 302 #[.int .u64 x] w λe u=>e=.returned (af6 (Lib.bitLen x.toNat))/\w=u:=by
 have p:0<=x / 4294967296 / 65536:=aa;have g:x / 4294967296 / 65536<=255:=aa;have l:=Lib.bitLen_le8' (x / 4294967296 / 65536) aa  aa;have z:=Lib.len8_of (x / 4294967296 / 65536) aa  aa;have c:0<=len8 (x / 4294967296 / 65536):=aa;have b:len8 (x / 4294967296 / 65536)<=8:=aa;have y:(x / 4294967296 / 65536).toNat=x.toNat / 281474976710656:=aa;have s:=Lib.bitLen_shift48 x.toNat aa  aa;have v:Hid (48+len8 (x / 4294967296 / 65536)=Lib.bitLen x.toNat):=by
  show 48+len8 (x / 4294967296 / 65536)=_
  rw[y] at z;omega
 clear s y z l;go_in;go_wp2;go_ret;rw[<-v.o];exact⟨rfl,rfl⟩
def JV(x:Int)(w:World)(f:0<=x)(d:x<18446744073709551616)(t:4294967296<=x)(r:x / 4294967296<65536)(q:256<=x / 4294967296):af4 af5 302 #[.int .u64 x] w λe u=>e=.returned (af6 (Lib.bitLen x.toNat))/\w=u:=by
 have p:0<=x / 4294967296 / 256:=aa;have g:x / 4294967296 / 256<=255:=aa;have l:=Lib.bitLen_le8' (x / 4294967296 / 256) aa  aa;have z:=Lib.len8_of (x / 4294967296 / 256) aa  aa;have c:0<=len8 (x / 4294967296 / 256):=aa;have b:len8 (x / 4294967296 / 256)<=8:=aa;have y:(x / 4294967296 / 256).toNat=x.toNat / 1099511627776:=aa;have s:=Lib.bitLen_shift40 x.toNat aa  aa;have v:Hid (40+len8 (x / 4294967296 / 256)=Lib.bitLen x.toNat):=by
  show 40+len8 (x / 4294967296 / 256)=_
  rw[y] at z;omega
 clear s y z l;go_in;go_wp2;go_ret;rw[<-v.o];exact⟨rfl,rfl⟩
def JW(x:Int)(w:World)(g:0<=x)(f:x<18446744073709551616)(t:4294967296<=x)(_a2:x / 4294967296<65536)(r:x / 4294967296<256):af4 af5 302 #[.int .u64 x] w λe u=>e=.returned (af6 (Lib.bitLen x.toNat))/\w=u:=by
 have q:0<=x / 4294967296:=aa;have p:x / 4294967296<=255:=aa;have l:=Lib.bitLen_le8' (x / 4294967296) aa  aa;have z:=Lib.len8_of (x / 4294967296) aa  aa;have d:0<=len8 (x / 4294967296):=aa;have c:len8 (x / 4294967296)<=8:=aa;have y:(x / 4294967296).toNat=x.toNat / 4294967296:=aa;have s:=Lib.bitLen_shift32 x.toNat aa  aa;have v:Hid (32+len8 (x / 4294967296)=Lib.bitLen x.toNat):=by
  show 32+len8 (x / 4294967296)=_
  rw[y] at z;omega
 clear s y z l;go_in;go_wp2;go_ret;rw[<-v.o];exact⟨rfl,rfl⟩
def JX(x:Int)(w:World)(f:0<=x)(d:x<18446744073709551616)(t:x<4294967296)(r:65536<=x)(q:256<=x / 65536):af4 af5 302 #[.int .u64 x] w λe u=>e=.returned (af6 (Lib.bitLen x.toNat))/\w=u:=by
 have p:0<=x / 65536 / 256:=aa;have g:x / 65536 / 256<=255:=aa;have l:=Lib.bitLen_le8' (x / 65536 / 256) aa  aa;have z:=Lib.len8_of (x / 65536 / 256) aa  aa;have c:0<=len8 (x / 65536 / 256):=aa;have b:len8 (x / 65536 / 256)<=8:=aa;have y:(x / 65536 / 256).toNat=x.toNat / 16777216:=aa;have s:=Lib.bitLen_shift24 x.toNat aa  aa;have v:Hid (24+len8 (x / 65536 / 256)=Lib.bitLen x.toNat):=by
  show 24+len8 (x / 65536 / 256)=_
  rw[y] at z;omega
 clear s y z l;go_in;go_wp2;go_ret;rw[<-v.o];exact⟨rfl,rfl⟩
def JY(x:Int)(w:World)(f:0<=x)(d:x<18446744073709551616)(t:x<4294967296)(r:65536<=x)(q:x / 65536<256):af4 af5 302 #[.int .u64 x] w λe u=>e=.returned (af6 (Lib.bitLen x.toNat))/\w=u:=by
 have p:0<=x / 65536:=aa;have g:x / 65536<=255:=aa;have l:=Lib.bitLen_le8' (x / 65536) aa  aa;have z:=Lib.len8_of (x / 65536) aa  aa;have c:0<=len8 (x / 65536):=aa;have b:len8 (x / 65536)<=8:=aa;have y:(x / 65536).toNat=x.toNat / 65536:=aa;have s:=Lib.bitLen_shift16 x.toNat aa  aa;have v:Hid (16+len8 (x / 65536)=Lib.bitLen x.toNat):=by
  show 16+len8 (x / 65536)=_
  rw[y] at z;omega
 clear s y z l;go_in;go_wp2;go_ret;rw[<-v.o];exact⟨rfl,rfl⟩
def J0(x:Int)(w:World)(g:0<=x)(f:x<18446744073709551616)(t:x<4294967296)(_:x<65536)(r:256<=x):af4 af5 302 #[.int .u64 x] w λe u=>e=.returned (af6 (Lib.bitLen x.toNat))/\w=u:=by
 have q:0<=x / 256:=aa;have p:x / 256<=255:=aa;have l:=Lib.bitLen_le8' (x / 256) aa  aa;have z:=Lib.len8_of (x / 256) aa  aa;have d:0<=len8 (x / 256):=aa;have c:len8 (x / 256)<=8:=aa;have y:(x / 256).toNat=x.toNat / 256:=aa;have s:=Lib.bitLen_shift8 x.toNat aa  aa;have v:Hid (8+len8 (x / 256)=Lib.bitLen x.toNat):=by
  show 8+len8 (x / 256)=_
  rw[y] at z;omega
 clear s y z l;go_in;go_wp2;go_ret;rw[<-v.o];exact⟨rfl,rfl⟩
def J5(x:Int)(w:World)(p:0<=x)(g:x<18446744073709551616)(t:x<4294967296)(_:x<65536)(s:x<256):af4 af5 302 #[.int .u64 x] w λe u=>e=.returned (af6 (Lib.bitLen x.toNat))/\w=u:=by
 have r:0<=x:=aa;have q:x<=255:=aa;have l:=Lib.bitLen_le8' (x) aa  aa;have z:=Lib.len8_of (x) aa  aa;have f:0<=len8 (x):=aa;have d:len8 (x)<=8:=aa;have y:(x).toNat=x.toNat:=aa;have v:Hid (0+len8 (x)=Lib.bitLen x.toNat):=by
  show 0+len8 (x)=_
  rw[y] at z;omega
 clear y z l;go_in;go_wp2;go_ret;rw[<-v.o];exact⟨by rw[gF];rfl,rfl⟩
def nJ(x:Int)(w:World)(z:0<=x)(y:x<18446744073709551616):af4 af5 302 #[.int .u64 x] w λe s=>e=.returned (af6 (Lib.bitLen x.toNat))/\w=s:=by
 by_cases t:4294967296<=x
 .by_cases u:65536<=x / 4294967296
  .by_cases v:256<=x / 4294967296 / 65536
   .exact JT x w z y t u v
   .exact JU x w z y t u aa
  .by_cases v:256<=x / 4294967296
   .exact JV x w z y t aa v
   .exact JW x w z y t aa  aa
 .by_cases u:65536<=x
  .by_cases v:256<=x / 65536
   .exact JX x w z y aa u v
   .exact JY x w z y aa u aa
  .by_cases v:256<=x
   .exact J0 x w z y aa  aa v
   .exact J5 x w z y aa  aa  aa
def Mt(x:Int)(w:World)(y:0<=x)(v:x<18446744073709551616):af4 af5 383 #[.int .u64 x] w λe z=>e=.returned (af6 (64 - (Lib.bitLen x.toNat:Int)))/\w=z:=by
 have l:Lib.bitLen x.toNat<=64:=Lib.bitLen_le x.toNat 64 aa  aa;go_in;go_wp2_with (go_at_call 302;refine Ix (nJ _ _ y v) ?_)
 go_ret;exact⟨rfl,rfl⟩
def Mu(x:Int)(w:World)(q:0<x)(u:x<18446744073709551616):af4 af5 383 #[.int .u64 x] w λe z=>∃s:Nat,e=.returned (af6 (s:Int))/\s<=63/\9223372036854775808<=x * 2 ^ s/\x * 2 ^ s<18446744073709551616/\w=z:=by
 refine Ix (Mt x w aa u) ?_;obtain⟨n,rfl⟩:=bO (show 0<=x by omega);have l:Lib.bitLen n<=64:=Lib.bitLen_le n 64 aa  aa;obtain⟨t,s⟩:=Bg n aa;obtain⟨r,p⟩:=s aa;have y:2 ^ Lib.bitLen n * 2 ^ (64 - Lib.bitLen n)=18446744073709551616:=by rw[<-eP,show Lib.bitLen n+(64 - Lib.bitLen n)=64 by omega]
 have v:2 ^ (Lib.bitLen n - 1) * 2 ^ (64 - Lib.bitLen n)=9223372036854775808:=by rw[<-eP,show Lib.bitLen n - 1+(64 - Lib.bitLen n)=63 by omega]
 have g:n * 2 ^ (64 - Lib.bitLen n)<18446744073709551616:=by rw[<-y];exact eI t (cB _)
 have f:9223372036854775808<=n * 2 ^ (64 - Lib.bitLen n):=by rw[<-v];exact cN _ r
 have c:(n:Int) * 2 ^ (64 - Lib.bitLen n)=((n * 2 ^ (64 - Lib.bitLen n):Nat):Int):=ad;refine⟨64 - Lib.bitLen n,by simp only[bY];rw[Int.natCast_sub l];rfl,aa,?_,?_,rfl⟩
 .rw[c];omega
 .rw[c];omega
def J6(z y:Int)(w:World)(u:0<=z)(t:z<18446744073709551616)(s:0<y)(r:y<18446744073709551616):af4 af5 323 #[.int .u64 0,.int .u64 z,.int .u64 y] w (au w (.tuple #[.int .u64 (z / y),.int .u64 (z % y)])):=by
 have v:(y == 0)=false:=ae;go_in;go_wp2;go_region
 all_goals (go_wp2;go_ret2;exact⟨rfl,(aC _ _).drew⟩)
def zT(u a:Int):u - u / a * a=u % a:=by have:=cP u a;rw[cd] at this;omega
def FP(t c y:Int)(w:World)(h0:0<t)(o:t<y)(l0:0<=c)(l1:c<18446744073709551616)(y1:y<18446744073709551616):af4 af5 323 #[.int .u64 t,.int .u64 c,.int .u64 y] w (au w (.tuple #[.int .u64 ((t * 18446744073709551616+c) / y),.int .u64 ((t * 18446744073709551616+c) % y)])):=by
 have hy:(y == 0)=false:=ae;have hh:(t == 0)=false:=ae;go_in;go_upto_region 8 with(go_at_call 383;refine WE (Mu _ _ aa y1) ?_;rintro s D ⟨hs,n,W,rfl⟩);obtain⟨a,b,U,d,f,N⟩:=UN t c y s aa o l0 l1 hs n W;obtain⟨ea,eb,eU,ed,ef,K,l,m,v,x⟩:=N;have B:=ax x;have M:=ax v;have g:=ax K;have⟨ha,ha1,Q,hb1,hu,hu1,hd,hd1⟩:=K;have J:0<a * 4294967296+b:=aa;have E:a * 4294967296+b<18446744073709551616:=aa;have k1:=xE K;have k0:=rK K;have z:=nQ.start K;have st0:=z.q0;have st1:=z.q1;have stm:0<=U / a * a:=cX st0 aa;have aa7:U / a * a<=U:=fK _ aa;have em:=zT U a;have em1:U % a<a:=cO U aa;have A:=ax z;clear x v K z;have⟨S,z⟩:=ar ((U * 4294967296+d) / (a * 4294967296+b));rw[z] at k0 k1;have X:=ax z;clear z;go_upto_block 0 with fail
 go_cut [15] (λu wr=>u=.int .u64 S/\w=wr)
 case first=>
  go_wp2;go_loopg [15,16] ((U / a).toNat) (λk u F wr=>(∃q r:Int,u=.int .u64 q/\F=.int .u64 r/\nQ a b U d q r/\r<4294967296/\q<=k)/\w=wr)
  exact⟨⟨_,_,rfl,rfl,A.o,aa,aa⟩,rfl⟩
  case round=>
   obtain⟨⟨q,r,rfl,rfl,z,h,i⟩,rfl⟩:=hrel;have G:=z.q0;have u:=z.q1;have r0:=z.r0;have O:=ax z;by_cases H:4294967296<=q
   .have x:=z.next g.o (.inl H)
    have v:=ax x;clear z x;by_cases p:4294967296<=r+a
    .go_wp21
     go_meet
     exact⟨by rw[<-X.o,v.o.brk g.o aa p],rfl⟩
    .go_wp2
     go_roundg ((q - 1).toNat)
     exact⟨⟨_,_,rfl,rfl,v.o,aa,aa⟩,rfl⟩;omega
   .have m0:0<=q * b:=cX G Q
    have m1:q * b<=4294967295 * b:=bU aa Q;by_cases I:4294967296 * r+d<q * b
    .have x:=z.next g.o (.inr I)
     have n0:=x.q0;have v:=ax x;clear z x;by_cases p:4294967296<=r+a
     .go_wp21
      go_meet
      exact⟨by rw[<-X.o,v.o.brk g.o aa p],rfl⟩
     .go_wp2
      go_roundg ((q - 1).toNat)
      exact⟨⟨_,_,rfl,rfl,v.o,aa,aa⟩,rfl⟩;omega
    .clear z
     go_wp21
     go_meet
     exact⟨by rw[<-X.o,O.o.stop g.o aa],rfl⟩
 case rest=>
  obtain⟨rfl,rfl⟩:=hcut;have L:=SF g.o l m;have⟨V,T⟩:=ar ((U * 4294967296+d) % (a * 4294967296+b));rw[T] at L;have Y:=ax L;have⟨_,_,_,_,hv,hv1,_,_⟩:=L;have eV:ad0 .u64 (ad0 .u64 (ad0 .u64 (U * 4294967296)+d) - ad0 .u64 (S * (y * 2 ^ s)))=V:=by
   rw[M.o,<-T,<-RZ _ _ J E,X.o];simp only[iy];omega
  have C:=ax T;clear T;have P:=nQ.start L;have sv0:=P.q0;have sv1:=P.q1;have svm:0<=V / a * a:=cX sv0 aa;have aa8:V / a * a<=V:=fK _ aa;have fm:=zT V a;have fm1:V % a<a:=cO V aa;have j:=ax P;have j1:=xE L;have j0:=rK L;have⟨R,K⟩:=ar ((V * 4294967296+f) / (a * 4294967296+b));rw[K] at j0 j1;have T:=ax K;clear P K L;go_upto_block 2 with fail
  go_cut [18] (λu wr=>u=.int .u64 R/\w=wr)
  case first=>
   go_wp2;go_loopg [18,16] ((V / a).toNat) (λk u F wr=>(∃q r:Int,u=.int .u64 q/\F=.int .u64 r/\nQ a b V f q r/\r<4294967296/\q<=k)/\w=wr)
   exact⟨⟨_,_,rfl,rfl,j.o,aa,aa⟩,rfl⟩
   case round=>
    obtain⟨⟨q,r,rfl,rfl,z,h,i⟩,rfl⟩:=hrel;have G:=z.q0;have u:=z.q1;have r0:=z.r0;have O:=ax z;by_cases H:4294967296<=q
    .have x:=z.next Y.o (.inl H)
     have v:=ax x;clear z x;by_cases p:4294967296<=r+a
     .go_wp21
      go_meet
      exact⟨by rw[<-T.o,v.o.brk Y.o aa p],rfl⟩
     .go_wp2
      go_roundg ((q - 1).toNat)
      exact⟨⟨_,_,rfl,rfl,v.o,aa,aa⟩,rfl⟩;omega
    .have m0:0<=q * b:=cX G Q
     have m1:q * b<=4294967295 * b:=bU aa Q;by_cases I:4294967296 * r+f<q * b
     .have x:=z.next Y.o (.inr I)
      have n0:=x.q0;have v:=ax x;clear z x;by_cases p:4294967296<=r+a
      .go_wp21
       go_meet
       exact⟨by rw[<-T.o,v.o.brk Y.o aa p],rfl⟩
      .go_wp2
       go_roundg ((q - 1).toNat)
       exact⟨⟨_,_,rfl,rfl,v.o,aa,aa⟩,rfl⟩;omega
     .clear z
      go_wp21
      go_meet
      exact⟨by rw[<-T.o,O.o.stop Y.o aa],rfl⟩
  case rest=>
   obtain⟨rfl,rfl⟩:=hcut;have⟨Z,x⟩:=ar ((V * 4294967296+f) % (a * 4294967296+b));have p:ad0 .u64 (ad0 .u64 (ad0 .u64 (V * 4294967296)+f) - ad0 .u64 (R * (y * 2 ^ s)))=Z:=by
    rw[M.o,<-x,<-RZ _ _ J E,T.o];simp only[iy];omega
   have z:=Xl _ _ U d f _ s M.o B.o J;rw[C.o,X.o,T.o,x] at z;have v:=ax z;clear z x;go_wp2;go_ret2;rw[v.o.1,v.o.2];exact⟨rfl,aC _ _⟩
def J7(z x y:Int)(w:World)(q:0<=z)(v:z<y)(u:0<=x)(t:x<18446744073709551616)(s:y<18446744073709551616):af4 af5 323 #[.int .u64 z,.int .u64 x,.int .u64 y] w (au w (.tuple #[.int .u64 ((z * 18446744073709551616+x) / y),.int .u64 ((z * 18446744073709551616+x) % y)])):=by
 by_cases h:z=0
 .subst h
  have:=J6 x y w u t v s;simpa using this
 .exact FP z x y w aa v u t s
namespace FG
def maskN(a:Nat)(z:a<18446744073709551616):bits .and .u64 (a:Int) 4294967295=((a % 4294967296:Nat):Int):=by
 have h:=bits_and_u64_nat a 4294967295 z aa;have e:a &&& 4294967295=a % 4294967296:=fS a 32;rw[e] at h;exact h
def divN(a:Nat):(a:Int) / 4294967296=((a / 4294967296:Nat):Int):=aa
def mulN(a b:Nat):(a:Int) * (b:Int)=((a * b:Nat):Int):=(fE a b).Y
def addN(a b:Nat):(a:Int)+(b:Int)=((a+b:Nat):Int):=(dx a b).Y
def wrapN(a:Nat)(z:a<18446744073709551616):ad0 .u64 (a:Int)=(a:Int):=by rw[c_];omega
def wrapM(a:Nat):ad0 .u64 (a:Int)=((a % 18446744073709551616:Nat):Int):=by rw[c_];omega
end FG
def J8(x y:Nat)(v:x<18446744073709551616)(u:y<18446744073709551616)(w:World):af4 af5 322 #[.int .u64 x,.int .u64 y] w λe d=>e=.returned (.tuple #[.int .u64 ((x * y / 18446744073709551616:Nat):Int),.int .u64 ((x * y % 18446744073709551616:Nat):Int)])/\w=d:=by
 obtain⟨q,z,bw,f⟩:=Lib.mul64_hi x y v u;have c:=Lib.half_mul_le (a:=x / 4294967296) (b:=y / 4294967296) aa  aa;have Y:=Lib.half_mul_le (a:=x / 4294967296) (b:=y % 4294967296) aa  aa;have X:=Lib.half_mul_le (a:=x % 4294967296) (b:=y / 4294967296) aa  aa;have t:x / 4294967296 * (y / 4294967296)<18446744073709551616:=aa;have s:x / 4294967296 * (y % 4294967296)<18446744073709551616:=aa;have r:x % 4294967296 * (y / 4294967296)<18446744073709551616:=aa;have g:x / 4294967296 * (y / 4294967296)+(x / 4294967296 * (y % 4294967296)+x % 4294967296 * (y % 4294967296) / 4294967296) / 4294967296<18446744073709551616:=aa;have p:x / 4294967296 * (y / 4294967296)+(x / 4294967296 * (y % 4294967296)+x % 4294967296 * (y % 4294967296) / 4294967296) / 4294967296+((x / 4294967296 * (y % 4294967296)+x % 4294967296 * (y % 4294967296) / 4294967296) % 4294967296+x % 4294967296 * (y / 4294967296)) / 4294967296<18446744073709551616:=aa;go_in;go_wp2;simp only[FG.maskN x v,FG.maskN y u,FG.divN,FG.mulN,FG.addN,FG.wrapN _ q,FG.wrapN _ s,FG.wrapN _ z,FG.maskN _ z,FG.wrapN _ r,FG.wrapN _ bw,FG.wrapN _ t,FG.wrapN _ g,FG.wrapN _ p,FG.wrapM (x * y)];rw[f];go_ret2;exact⟨rfl,rfl⟩
def J9(x y:Int)(w:World)(v:0<=x)(t:x<18446744073709551616)(u:0<=y)(s:y<18446744073709551616):af4 af5 322 #[.int .u64 x,.int .u64 y] w λe z=>e=.returned (.tuple #[.int .u64 (x * y / 18446744073709551616),.int .u64 (x * y % 18446744073709551616)])/\w=z:=by
 obtain⟨a,rfl⟩:=bO v;obtain⟨b,rfl⟩:=bO u;exact J8 a b aa  aa w
def J_(x y c:Int)(w:World)(u:0<=x)(t:0<=y)(z:0<=c)(v:c<=1):(callFunc 382 #[.int .u64 x,.int .u64 y,.int .u64 c]).run prog w =
  .ok (.value (.tuple #[.int .u64 ((x+y+c) % 18446744073709551616),.int .u64 ((x+y+c) / 18446744073709551616)])) w:=by
 rw[run_callFunc_extern func382 (by kernel_rfl) (by kernel_rfl) (by kernel_rfl) (e:=add64Entry) (by kernel_rfl)];have h:=run_add64 (P:=prog) (w:=w) x y c aa  aa  aa  aa;rw[h];rfl
