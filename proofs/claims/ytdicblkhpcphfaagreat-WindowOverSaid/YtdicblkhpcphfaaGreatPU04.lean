/- Parts. -/
import Derived.StillTail
import Derived.OrdersHeld
import Derived.Test.YtdicblkhpcphfaaGreatPU03
import Derived.Shelf.Spec.SlicesGrow
set_option maxRecDepth 100000
set_option maxHeartbeats 0
set_option linter.all false
namespace Go.Proofs.YtdicblkhpcphfaaGreat
open Tryz Go.RowKit Go.Lib
open _root_.List renaming length→ab0
open Go.IntKind renaming wrap→ad0
open _root_.Go renaming Calls→af4
open Tryz renaming prog→af5
section
variable {P : Program} {ops : Array Oper} {md : Region.Mode} {S : World -> Prop}
variable{v:Value}{o:Oper}{a:Act}{Lq:Act->Prop}
def MT(S:World->Prop)(v u:Value)(w:World):Prop:=u=v/\S w
def UR(S:World->Prop)(v:Value)(e:Ending)(w:World):Prop:=e=.returned v/\S w
def Gives(P:Program)(S:World->Prop)(v:Value):Result Next->Prop
 | .ok (.value u) w=>MT S v u w
 | .ok (.enter f args) w=>Calls P f args w (UR S v)
 | _=>False
@[go_sem] theorem Sa  (u:Value) (w:World):Gives P S v (.ok (.value u) w)=MT S v u w:=rfl
@[go_sem] theorem Sb  (f:FuncId) (z:Array Value) (w:World):Gives P S v (.ok (.enter f z) w)=Calls P f z w (UR S v):=rfl
def lO(P:Program)(ops:Array Oper)(S:World->Prop)(o:Oper)(v:Value)(a:Act):Prop:=
 (Region.wanted o (yielded ops a.tmps)=true/\∀w,S w->Gives P S v ((execOp a.eval o).run P w)) \/
 (Region.wanted o (yielded ops a.tmps)=false/\v=undef)
def lO.of_same{a':Act}(x:lO P ops S o v a)(z:execOp a'.eval o=execOp a.eval o)
 (y:Region.wanted o (yielded ops a'.tmps)=Region.wanted o (yielded ops a.tmps)):lO P ops S o v a':=by
 unfold lO at *;rw[z,y];exact x
def lO.wpOp{Q:Exit->Act->World->Prop}{i:Nat}{o:Oper}{v:Value}{a:Act}(q:ops[i]?=some o)(g:lO P ops S o v a)
 {K:Act->World->Prop} {w:World} (s:S w) (h:∀w',S w'->K (a.put o.dst v) w'):Go.wpOp P ops Q i K a w:=by
 unfold Go.wpOp;simp only[q];rcases g with⟨t,p⟩|⟨t,rfl⟩
 .simp only[t,if_true]
  refine .inl ?_;have z:=p w s;unfold Oper.wp;generalize (execOp a.eval o).run P w=r at *;cases r with
  | ok n w'=>
   cases n<;>simp only[Gives,MT,Oper.upon] at z |-
   case value u=>obtain⟨rfl,y⟩:=z;exact h _ y
   case enter f args=>
    refine Calls.M z λe x x=>?_;obtain⟨rfl,y⟩:=x;exact h _ y
  | halt x w'=>simp only[Gives] at z
 .simp only[t,fc,if_false];exact h _ s
def xZ(P:Program)(md:Region.Mode)(ops:Array Oper)(S:World->Prop)(n:Nat)(L:Array Bool->Act->Prop):Nat->Array Bool->Act->Prop
 | 0,listed,a=>L listed a
 | f+1,listed,a=>
  Region.ready md ops listed≠[]/\∀i∈Region.ready md ops listed,i<n/\∃o v,ops[i]?=some o/\lO P ops S o v a/\xZ P md ops S n L f (listed.setIfInBounds i true) (a.put o.dst v)
def qZ{n g:Nat}{L:Array Bool->Act->Prop}{Q:Exit->Act->World->Prop}(z:∀listed a,L listed a->∀w,S w->wpAny P md ops Q g listed a w):∀(f:Nat) (listed:Array Bool) (a:Act),xZ P md ops S n L f listed a->∀w,S w->wpAny P md ops Q (f+g) listed a w
 | 0,listed,a,h,w,hS=>by rw[cG];exact z _ _ h w hS
 | f+1,listed,a,h,w,hS=>by
  rw[show f+1+g=(f+g)+1 by omega];refine⟨λy=>absurd y h.1,λi y=>?_⟩;obtain⟨_,o,v,u,t,x⟩:=h.2 i y;exact t.wpOp u hS λs y=>qZ z f _ _ x s y
def Bm{n i:Nat}{oi:Oper}{L:Array Bool->Act->Prop}(U:ops[i]?=some oi)(I:∀(j:Nat) (o:Oper) r b,ops[j]?=some o->o.op≠.select r b)
 (J:Region.sinkB md ops n=true) (R:Region.chainB md ops n=true) (K:n<ops.size) (O:i<n)
 (C:∀z a,L z a->∀j∈Region.ready md ops z,n<=j) :
 ∀(f:Nat) (z:Array Bool) (a:Act),HeadInv md ops n z ->
  (∀j p,ops[j]?=some p->j≠i->z.getD j true=false->(∀e∈p.after,Region.binds md e=true->e.on≠i)->oi.apart ops p=true) ->
  i∈Region.ready md ops z->lO P ops S oi v a ->
  xZ P md ops S n L f (z.setIfInBounds i true) (a.put oi.dst v)->xZ P md ops S n L (f+1) z a:=by
 intro f
 induction f with
 | zero=>
  intro z a V _ t X H;have Y:=(mem_ready.1 t).1;refine⟨λh=>(by rw[h] at t;cases t),λj s=>?_⟩;have d:j<n:=by
   rcases bm j n with h|h
   .exact h
   .exact absurd s (tail_waits J R K V _ i rfl O Y j h)
  refine⟨d,?_⟩;by_cases x:j=i
  .subst x;exact⟨oi,v,U,X,H⟩
  .have:=C _ _ H j (ready_mono s x)
   omega
 | succ f ih=>
  intro z a V Q t X H;have Y:=(mem_ready.1 t).1;refine⟨λh=>(by rw[h] at t;cases t),λj s=>?_⟩;have d:j<n:=by
   rcases bm j n with h|h
   .exact h
   .exact absurd s (tail_waits J R K V _ i rfl O Y j h)
  refine⟨d,?_⟩;by_cases x:j=i
  .subst x;exact⟨oi,v,U,X,H⟩
  .obtain⟨_,p,u,c,hyj,W⟩:=H.2 j (ready_mono s x)
   obtain⟨M,y,Xm,E⟩:=mem_ready.1 s;have Xn:y=p:=bJ (Xm.Y.T c);subst Xn;have hnot:∀e∈y.after,Region.binds md e=true->e.on≠i:=λe B D A=>by
    have q:=E e B D;rw[A,getD_both Y] at q;cases q
   obtain⟨q,F,T⟩:=Oper.apart_spec (Q j y c x M hnot);have l:∀k g,ops[k]?=some g->k≠i->(z.setIfInBounds j true).getD k true=false ->
    (∀e∈g.after,Region.binds md e=true->e.on≠i)->oi.apart ops g=true:=λk g m o G w=>by
    refine Q k g m o ?_ w;by_cases N:j=k
    .subst N;exact M
    .rw[getD_set_ne true N] at G;exact G
   have Xo:lO P ops S y u a:=hyj.of_same (execOp_put y (λr b=>I j y r b c) a oi.dst v q).Y (wanted_put y a oi.dst v q).Y;have N:lO P ops S oi v (a.put y.dst u):=X.of_same (execOp_put oi (λr b=>I i oi r b U) a y.dst u T) (wanted_put oi a y.dst u T);refine⟨y,u,c,Xo,ih _ _ (V.set s d) l (ready_mono t (Ne.Y x)) N ?_⟩;rw[dZ _ _ x,<-Act.put_comm a v u F];exact W
def uO(P:Program)(ops:Array Oper)(S:World->Prop)(Lq:Act->Prop):List Oper->Act->Prop
 | [],a=>Lq a
 | o::rest,a=>∃v,lO P ops S o v a/\uO P ops S Lq rest (a.put o.dst v)
def x8{n g:Nat}{Lq:Act->Prop}(q:Region.noSelect ops=true)(r:Region.sinkB md ops n=true)(x:Region.chainB md ops n=true)(t:n<ops.size):∀(l:List Oper) (k:Nat) (listed:Array Bool) (a:Act),(∀j,j<ab0 l->l[j]?=ops[k+j]?)->k+ab0 l=n->HeadInv md ops n listed ->
 Region.lexHead md ops g (ab0 l) k listed=true->uO P ops S Lq l a ->
 xZ P md ops S n (λp z=>Region.seqB md ops g n p=true/\Lq z) (ab0 l) listed a
 | [],k,listed,a,_,hk,_,hB,h=>by
  have:k=n:=by simpa using hk
  subst this;exact⟨by simpa[Region.lexHead] using hB,h⟩
 | o::l,k,listed,a,hl,hk,inv,hB,h=>by
  have y:ops[k]?=some o:=by simpa using (hl 0 ad).Y
  simp only[aK,Region.lexHead,bC] at hB;obtain⟨⟨b,c⟩,f⟩:=hB;have u:k<n:=by simp only[aK] at hk;omega
  have s:k∈Region.ready md ops listed:=by simpa using b
  obtain⟨v,Y,d⟩:=h;exact Bm y (dK q) r x t u (λp z z=>seqB_ready z.1) (ab0 l) listed a inv (d_ y c) s Y
   (x8 q r x t l (k+1) _ _ (λj z=>by have:=hl (j+1) ae ;simpa[de,fN 1 j] using this) (by simp only[aK] at hk;omega) (inv.set s u) f d)
def x9{id:Nat}{Q:Exit->Act->World->Prop}{w:World}{l:List Oper}(S:World->Prop)(n:Nat)(d:P.follows .mixedOrders=true)(v:Region.lexTailB .any l.toArray n=true)
 (q:S w.drew) (h:uO P l.toArray S (λx=>∀z,S z->wpList P l.toArray Q (l.drop n) x z) (l.take n) a):(Code.region id l.toArray true).wp P Q a w:=by
 simp only[Region.lexTailB,bC,bD] at v;obtain⟨⟨⟨⟨b,r⟩,c⟩,p⟩,f⟩:=v;have V:n<ab0 l:=by simpa using r
 have y:ab0 (l.take n)=n:=ae;have s:ab0 (l.drop n)=l.toArray.size - n:=ad;have Y:HeadInv .any l.toArray n (Array.replicate l.toArray.size false):=
  ⟨ad,λj X _ u=>(by rw[getD_replicate_false] at u;cases u),λt _ g=>getD_in (by simpa using g) (getD_replicate_false _ _)⟩
 have H:=x8 (md:=.any) (g:=l.toArray.size - n) b c p r (l.take n) 0 _ a (λj u=>by
  have t:j<n:=by rw[y] at u;exact u
  simp[t]) (by simpa using y) Y (by rw[y];exact f) h
 refine wp_region_any d ?_;have:=qZ (Q:=Q) (g:=l.toArray.size - n) (λX x u z t=>by
  have:=wpAny_of_seq (md:=.any) (Q':=Q) (l.drop n) n X x z (λj=>by simp[dz]) (by rw[s];exact u.1) (u.2 z t)
  rwa [s] at this) _ _ _ H _ q
 rw[y,show n+(l.toArray.size - n)=l.toArray.size by omega] at this;exact this
def Gh(h:Lq a):uO P ops S Lq [] a:=h
def Kf{rest:List Oper}(x:Region.wanted o (yielded ops a.tmps)=true)
 (h:∀R:Act->Prop,(∀z,uO P ops S Lq rest z->R z)->∃v,(∀w,S w->Gives P S v ((execOp a.eval o).run P w))/\R (a.put o.dst v)):uO P ops S Lq (o::rest) a:=by
 obtain⟨v,z,y⟩:=h _ (λ_ h=>h);exact⟨v,.inl ⟨x,z⟩,y⟩
end
section
variable {P : Program} {ops : Array Oper} {md : Region.Mode} {S : World -> Prop} {Q : Exit -> Act -> World -> Prop}
variable{i id:Nat}{a a':Act}{w:World}{v:Value}{l:List Oper}{r:List (Nat × Bool)}{o:Oper}{Lq:Act->World->Prop}
def vN(md:Region.Mode)(ops:Array Oper):List (Nat × Bool)->Array Bool->Bool
 | [],listed=>(Region.ready md ops listed).isEmpty
 | (i,true)::r,listed=>(Region.ready md ops listed).contains i && Region.free md ops listed i && vN md ops r (listed.setIfInBounds i true)
 | (i,false)::r,listed=>decide (Region.ready md ops listed=[i]) && vN md ops r (listed.setIfInBounds i true)
def jV(P:Program)(ops:Array Oper)(Q:Exit->Act->World->Prop)(S:World->Prop):List (Nat × Bool)->Act->World->Prop
 | [],a,w=>Q .normal a w
 | (i,true)::r,a,w=>∃o v,ops[i]?=some o/\YieldsIf P ops S o v a/\jV P ops Q S r (a.put o.dst v) w
 | (i,false)::r,a,w=>wpOp P ops Q i (λa' w'=>S w'/\jV P ops Q S r a' w') a w
def sI(x:Region.noSelect ops=true)(y:∀c a w,¬Q (.panic c) a w):∀(l:List (Nat × Bool)) (listed:Array Bool) (a:Act) (w:World),vN md ops l listed=true->S w ->
 jV P ops Q S l a w->wpAnyH P md ops Q S (ab0 l) listed a w
 | [],listed,a,w,hB,_,h=>⟨by simpa[vN] using hB,h⟩
 | (i,true)::r,listed,a,w,hB,hS,h=>by
  simp only[vN,bC] at hB;obtain⟨o,v,u,s,z⟩:=h;exact wpAnyH_take u x hB.1.2 hB.1.1 (λc a w t=>absurd t (y c _ w)) s hS (sI x y r _ _ w hB.2 hS z)
 | (i,false)::r,listed,a,w,hB,hS,h=>by
  simp only[vN,bC,bD] at hB;refine⟨λv=>(by rw[hB.1] at v;cases v),λj z=>?_⟩;rw[hB.1] at z;have t:j=i:=by simpa using z
  subst t;exact wpOp_mono (λu s z=>⟨z.1,sI x y r _ u s hB.2 z.1 z.2⟩) h
def Calm(Q:Exit->Act->World->Prop):Exit->Act->World->Prop
 | .panic _,_,_=>False
 | e,a,w=>Q e a w
def Calm.imp:∀(e:Exit) (a:Act) (w:World),Calm Q e a w->Q e a w:=λe a w h=>by
 cases e<;>first|exact h|exact(h:False).elim
def x_(S:World->Prop)(l:List (Nat × Bool))(x:P.follows .mixedOrders=true)
 (z:(Region.noSelect ops && decide (ab0 l=ops.size) && vN .any ops l (Array.replicate ops.size false))=true)
 (y:S w.drew) (h:jV P ops (Calm Q) S l a w.drew):(Code.region id ops true).wp P Q a w:=by
 simp only[bC,bD] at z;have H:=sI (Q:=Calm Q) z.1.1 (λ_ _ _ h=>h) l _ a _ z.2 y h;rw[z.1.2] at H;exact eZ Calm.imp (wp_region_any x (wpAny_of_held _ _ _ _ H))
def x'(P:Program)(md:Region.Mode)(ops:Array Oper)(Q:Exit->Act->World->Prop)(S:World->Prop)(n:Nat)(L:Array Bool->Act->World->Prop):Nat->Array Bool->Act->World->Prop
 | 0,listed,a,w=>L listed a w
 | f+1,listed,a,w=>
  Region.ready md ops listed≠[]/\∀i∈Region.ready md ops listed,i<n/\wpOp P ops Q i (λa' w'=>S w'/\x' P md ops Q S n L f (listed.setIfInBounds i true) a' w') a w
def pn{n g:Nat}{L:Array Bool->Act->World->Prop}(z:∀listed a w,L listed a w->wpAny P md ops Q g listed a w):∀(f:Nat) (listed:Array Bool) (a:Act) (w:World),x' P md ops Q S n L f listed a w->wpAny P md ops Q (f+g) listed a w
 | 0,listed,a,w,h=>by rw[cG];exact z _ _ _ h
 | f+1,listed,a,w,h=>by
  rw[show f+1+g=(f+g)+1 by omega];exact⟨λy=>absurd y h.1,λi v=>wpOp_mono (λy u x=>pn z f _ y u x.2) (h.2 i v).2⟩
def Bn{n:Nat}{oi:Oper}{L:Array Bool->Act->World->Prop}(V:ops[i]?=some oi)(M:∀(j:Nat) (o:Oper) s b,ops[j]?=some o->o.op≠.select s b)
 (J:∀c a w,¬Q (.panic c) a w) (N:Region.sinkB md ops n=true) (T:Region.chainB md ops n=true) (O:n<ops.size) (R:i<n)
 (F:∀z a w,L z a w->∀j∈Region.ready md ops z,n<=j) :
 ∀(f:Nat) (z:Array Bool) (a:Act) (w:World),HeadInv md ops n z ->
  (∀j t,ops[j]?=some t->j≠i->z.getD j true=false->(∀e∈t.after,Region.binds md e=true->e.on≠i)->oi.apart ops t=true) ->
  i∈Region.ready md ops z->YieldsIf P ops S oi v a->S w ->
  x' P md ops Q S n L f (z.setIfInBounds i true) (a.put oi.dst v) w->x' P md ops Q S n L (f+1) z a w:=by
 intro f
 induction f with
 | zero=>
  intro z a w X _ x Y r H;have d:=(mem_ready.1 x).1;refine⟨λh=>(by rw[h] at x;cases x),λj u=>?_⟩;have g:j<n:=by
   rcases bm j n with h|h
   .exact h
   .exact absurd u (tail_waits N T O X _ i rfl R d j h)
  refine⟨g,?_⟩;by_cases y:j=i
  .subst y;exact Y.wpOp V r ⟨r,H⟩
  .have:=F _ _ _ H j (ready_mono u y)
   omega
 | succ f ih=>
  intro z a w X S x Y r H;have d:=(mem_ready.1 x).1;refine⟨λh=>(by rw[h] at x;cases x),λj u=>?_⟩;have g:j<n:=by
   rcases bm j n with h|h
   .exact h
   .exact absurd u (tail_waits N T O X _ i rfl R d j h)
  refine⟨g,?_⟩;by_cases y:j=i
  .subst y;exact Y.wpOp V r ⟨r,H⟩
  .have q:=(H.2 j (ready_mono u y)).2
   obtain⟨P,t,U,I⟩:=mem_ready.1 u;have m:∀e∈t.after,Region.binds md e=true->e.on≠i:=λe E G D=>by
    have q:=I e E G;rw[D,getD_both d] at q;cases q
   have K:=wpOp_putIf U (S j t U y P m) (λs b=>M i oi s b V) (λs b=>M j t s b U) (λc a w s=>absurd s (J c _ w)) Y q
   have C:∀k s,ops[k]?=some s->k≠i->(z.setIfInBounds j true).getD k true=false ->
    (∀e∈s.after,Region.binds md e=true->e.on≠i)->oi.apart ops s=true:=λk s B A c l=>by
    refine S k s B A ?_ l;by_cases p:j=k
    .subst p;exact P
    .rw[getD_set_ne true p] at c;exact c
   refine wpOp_mono (λb o p=>⟨p.2.1,ih (z.setIfInBounds j true) b o (X.set u g) C (ready_mono x (Ne.Y y)) p.1 p.2.1 ?_⟩) K;rw[dZ _ _ y];exact p.2.2
def vO(md:Region.Mode)(ops:Array Oper)(n g:Nat):List (Nat × Bool)->Array Bool->Bool
 | [],listed=>Region.seqB md ops g n listed
 | (i,true)::r,listed=>decide (i<n) && (Region.ready md ops listed).contains i && Region.free md ops listed i && vO md ops n g r (listed.setIfInBounds i true)
 | (i,false)::r,listed=>decide (i<n) && decide (Region.ready md ops listed=[i]) && vO md ops n g r (listed.setIfInBounds i true)
def kq(P:Program)(ops:Array Oper)(Q:Exit->Act->World->Prop)(S:World->Prop)(Lq:Act->World->Prop):List (Nat × Bool)->Act->World->Prop
 | [],a,w=>Lq a w
 | (i,true)::r,a,w=>∃o v,ops[i]?=some o/\YieldsIf P ops S o v a/\kq P ops Q S Lq r (a.put o.dst v) w
 | (i,false)::r,a,w=>wpOp P ops Q i (λa' w'=>S w'/\kq P ops Q S Lq r a' w') a w
def q7{n g:Nat}{Lq:Act->World->Prop}(f:Region.noSelect ops=true)(t:∀c a w,¬Q (.panic c) a w)(p:Region.sinkB md ops n=true)(s:Region.chainB md ops n=true)(q:n<ops.size):∀(l:List (Nat × Bool)) (listed:Array Bool) (a:Act) (w:World),vO md ops n g l listed=true->HeadInv md ops n listed->S w ->
 kq P ops Q S Lq l a w->x' P md ops Q S n (λz x d=>Region.seqB md ops g n z=true/\Lq x d) (ab0 l) listed a w
 | [],listed,a,w,hB,_,_,h=>⟨by simpa[vO] using hB,h⟩
 | (i,true)::r,listed,a,w,hB,inv,hS,h=>by
  simp only[vO,bC,bD] at hB;obtain⟨⟨⟨z,y⟩,X⟩,u⟩:=hB;obtain⟨o,v,c,U,V⟩:=h;have b:i∈Region.ready md ops listed:=by simpa using y
  exact Bn c (dK f) t p s q z (λ_ _ _ Y=>seqB_ready Y.1) (ab0 r) listed a w inv (d_ c X) b U hS
   (q7 f t p s q r _ _ w u (inv.set b z) hS V)
 | (i,false)::r,listed,a,w,hB,inv,hS,h=>by
  simp only[vO,bC,bD] at hB;obtain⟨⟨z,y⟩,u⟩:=hB;refine⟨λc=>(by rw[y] at c;cases c),λj v=>?_⟩;rw[y] at v;have b:j=i:=by simpa using v
  subst b;refine⟨z,wpOp_mono (λx d v=>⟨v.1,q7 f t p s q r _ x d u (inv.set (by rw[y];simp) z) v.1 v.2⟩) h⟩
def wK(S:World->Prop)(n:Nat)(z:List (Nat × Bool))(p:P.follows .mixedOrders=true)
 (v:(Region.noSelect l.toArray && decide (n<l.toArray.size) && decide (ab0 z=n) && Region.sinkB .any l.toArray n && Region.chainB .any l.toArray n && vO .any l.toArray n (l.toArray.size - n) z (Array.replicate l.toArray.size false))=true)
 (r:S w.drew) (h:kq P l.toArray (Calm Q) S (λy x=>wpList P l.toArray (Calm Q) (l.drop n) y x) z a w.drew):(Code.region id l.toArray true).wp P Q a w:=by
 simp only[bC,bD] at v;obtain⟨⟨⟨⟨⟨Y,f⟩,c⟩,b⟩,q⟩,d⟩:=v;have s:ab0 (l.drop n)=l.toArray.size - n:=ad;have X:HeadInv .any l.toArray n (Array.replicate l.toArray.size false):=
  ⟨ad,λj V _ u=>(by rw[getD_replicate_false] at u;cases u),λt _ g=>getD_in (by simpa using g) (getD_replicate_false _ _)⟩
 have H:=q7 (Q:=Calm Q) (md:=.any) (g:=l.toArray.size - n) Y (λ_ _ _ h=>h) b q f z _ a _ d X r h;have K:=pn (Q:=Calm Q) (g:=l.toArray.size - n) (λt y x u=>by
  have:=wpAny_of_seq (md:=.any) (Q':=Calm Q) (l.drop n) n t y x (λj=>by simp[dz]) (by rw[s];exact u.1) u.2
  rwa [s] at this) _ _ _ _ H
 rw[c,show n+(l.toArray.size - n)=l.toArray.size by omega] at K;exact eZ Calm.imp (wp_region_any p K)
def po(v:Value)(w:World):Result Next->Prop
 | .ok r w'=>r=.value v/\w'=w
 | _=>False
def IV(v:Value)(w:World)(u:Value)(w':World):Prop:=u=v/\w'=w
@[go_sem] theorem Sc   (u:Value) (z:World):po v w (.ok (.value u) z)=IV v w u z:=by
 simp[po,IV]
def mT(s:ops[i]?=some o)(q:Region.wanted o (yielded ops a.tmps)=true)
 (h:∀R:Act->Prop,(∀z,jV P ops Q S r z w->R z)->∃v,(∀z,S z->po v z ((execOp a.eval o).run P z))/\R (a.put o.dst v)):jV P ops Q S ((i,true)::r) a w:=by
 obtain⟨v,u,t⟩:=h _ (λ_ h=>h);refine⟨o,v,s,.inl ⟨q,λz x=>?_⟩,t⟩;have y:=u z x;generalize (execOp a.eval o).run P z=x at *;cases x with
 | ok n w''=>obtain⟨rfl,rfl⟩:=y;rfl
 | halt x w''=>exact y.elim
def C9(z:ops[i]?=some o)(y:Region.wanted o (yielded ops a.tmps)=false)
 (h:jV P ops Q S r (a.put o.dst undef) w):jV P ops Q S ((i,true)::r) a w:=⟨o,undef,z,.inr ⟨y,rfl⟩,h⟩
def mz(x:ops[i]?=some o)(v:Region.wanted o (yielded ops a.tmps)=true)
 (h:∀K:Act->World->Prop,(∀y z,S z->jV P ops Q S r y z->K y z)->o.wp P a w K Q):jV P ops Q S ((i,false)::r) a w:=by
 unfold jV wpOp;simp only[x,v,if_true];exact .inl (h _ λ_ _ z y=>⟨z,y⟩)
def g4(h:Q .normal a w):jV P ops (Calm Q) S [] a w:=h
def Bo(s:ops[i]?=some o)(q:Region.wanted o (yielded ops a.tmps)=true)
 (h:∀R:Act->Prop,(∀z,kq P ops Q S Lq r z w->R z)->∃v,(∀z,S z->po v z ((execOp a.eval o).run P z))/\R (a.put o.dst v)):kq P ops Q S Lq ((i,true)::r) a w:=by
 obtain⟨v,u,t⟩:=h _ (λ_ h=>h);refine⟨o,v,s,.inl ⟨q,λz x=>?_⟩,t⟩;have y:=u z x;generalize (execOp a.eval o).run P z=x at *;cases x with
 | ok n w''=>obtain⟨rfl,rfl⟩:=y;rfl
 | halt x w''=>exact y.elim
def Gi(x:ops[i]?=some o)(v:Region.wanted o (yielded ops a.tmps)=true)
 (h:∀K:Act->World->Prop,(∀y z,S z->kq P ops Q S Lq r y z->K y z)->o.wp P a w K Q):kq P ops Q S Lq ((i,false)::r) a w:=by
 unfold kq wpOp;simp only[x,v,if_true];exact .inl (h _ λ_ _ z y=>⟨z,y⟩)
def hN(h:Lq a w):kq P ops Q S Lq [] a w:=h
def g6(h:Q .normal a w):Calm Q .normal a w:=h
def hQ:Nat->Nat->List (Nat × Bool)->List (Nat × Bool)
 | _,0,r=>r
 | i,n+1,r=>(i,true)::hQ (i+1) n r
def ik(i:Nat)(r:List (Nat × Bool)):List (Nat × Bool):=(i,false)::r
def ib(k:jV P ops Q S r a' w)(u:ops[i]?=some o:=by rfl)(t:Region.wanted o (yielded ops a.tmps)=true:=by rfl)
 (h:∀z,S z->po v z ((execOp a.eval o).run P z):=by
  intro z y
  first
  | (have q:=Z.o z y;(repeat ((with_reducible have s:=And.left q);(with_reducible replace q:=And.right q)));exact af8)
  | (exact af8))
 (x:∀R:Act->Prop,R a'->R (a.put o.dst v):=by intro R y;go_simp;exact y):jV P ops Q S ((i,true)::r) a w:=
 mT u t λR y=>⟨v,h,x R (y _ k)⟩
def jG(k:kq P ops Q S Lq r a' w)(u:ops[i]?=some o:=by rfl)(t:Region.wanted o (yielded ops a.tmps)=true:=by rfl)
 (h:∀z,S z->po v z ((execOp a.eval o).run P z):=by
  intro z y
  first
  | (have q:=Z.o z y;(repeat ((with_reducible have s:=And.left q);(with_reducible replace q:=And.right q)));exact af8)
  | (exact af8))
 (x:∀R:Act->Prop,R a'->R (a.put o.dst v):=by intro R y;go_simp;exact y):kq P ops Q S Lq ((i,true)::r) a w:=
 Bo u t λR y=>⟨v,h,x R (y _ k)⟩
def iz(h:∀K:Act->World->Prop,(∀y z,S z->jV P ops Q S r y z->K y z)->o.wp P a w K Q)
 (x:ops[i]?=some o:=by rfl) (v:Region.wanted o (yielded ops a.tmps)=true:=by rfl):jV P ops Q S ((i,false)::r) a w:=mz x v h
def pq(h:∀K:Act->World->Prop,(∀y z,S z->kq P ops Q S Lq r y z->K y z)->o.wp P a w K Q)
 (x:ops[i]?=some o:=by rfl) (v:Region.wanted o (yielded ops a.tmps)=true:=by rfl):kq P ops Q S Lq ((i,false)::r) a w:=Gi x v h
def kJ(h:jV P ops Q S r (a.put o.dst undef) w)(z:ops[i]?=some o:=by rfl)(y:Region.wanted o (yielded ops a.tmps)=false:=by rfl):jV P ops Q S ((i,true)::r) a w:=C9 z y h
def jh(S:World->Prop)(l:List (Nat × Bool))(y:S w.drew)(h:jV P ops (Calm Q) S l a w.drew)(x:P.follows .mixedOrders=true:=by kernel_rfl)
 (z:(Region.noSelect ops && decide (ab0 l=ops.size) && vN .any ops l (Array.replicate ops.size false))=true:=by kernel_rfl):(Code.region id ops true).wp P Q a w:=x_ S l x z y h
def kr(S:World->Prop)(n:Nat)(z:List (Nat × Bool))(v:S w.drew)(h:kq P l.toArray (Calm Q) S (λy t=>wpList P l.toArray (Calm Q) (l.drop n) y t) z a w.drew)(u:P.follows .mixedOrders=true:=by kernel_rfl)
 (x:(Region.noSelect l.toArray && decide (n<l.toArray.size) && decide (ab0 z=n) && Region.sinkB .any l.toArray n && Region.chainB .any l.toArray n && vO .any l.toArray n (l.toArray.size - n) z (Array.replicate l.toArray.size false))=true:=by kernel_rfl):(Code.region id l.toArray true).wp P Q a w:=wK S n z u x v h
end
variable{w w':World}{o:Oper}{a:Act}{Q:Exit->Act->World->Prop}{g:Nat}{F:Nat->Prop}{d hi lo:Int}{L W:List Mn}
structure Qf(d n done weight:Int):Prop where
 d0:0<=d
 d1:d<=1000
 n1:n<=281474976710656
 e0:0<=done
 w0:0<weight
 dw:done+weight<=n
def Qg(d n done z:Int)(w:World)(M:Qf d n done z):af4 af5 320 #[af6 d,.int .u64 n,.int .u64 done,.int .u64 z] w (au w (.bool (tr d n done z))):=by
 obtain⟨x,v,b,p,Y,q⟩:=M;have s:0<=z * d:=cX aa x;have a:z * d<=z * 1000:=bX v aa;have y:=ax (ID (z * d * n) ((2 * done+z) * (2 * n - 2 * done - z)));go_in;go_wp21;refine RX (xF (z * d) n _ s aa  aa  aa) ?_;intro X u;have f:=u.size;go_wp21;refine RX (xF (2 * done+z) (2 * n - 2 * done - z) _ aa  aa  aa  aa) ?_;intro V t;have c:=t.size;go_wp21;refine RX (P6 _ _ _) ?_;intro U g;go_wp2;go_ret;exact⟨ph y.o,bw⟩
def MU(d n done z:Int)(w:World)(M:Qf d n done z):af4 af5 231 #[af6 d,.int .u64 n,.int .u64 done,.int .u64 z] w (au w (.bool (tr d n done z))):=by
 obtain⟨q,p,O,R,L,S⟩:=M;have x:0<=z * d:=cX aa q;have N:z * d<=z * 1000:=bX p aa;have r:=ax (ID (z * d * n) ((2 * done+z) * (2 * n - 2 * done - z)));have s:=ax (show 2 * (n - done) - z=2 * n - 2 * done - z by omega);obtain⟨Y,X⟩:=rL (a:=z * d) (b:=n) x aa  aa  aa;obtain⟨f,c⟩:=rL (a:=2 * done+z) (b:=2 * (n - done) - z) aa  aa  aa  aa;go_in;go_wp21;refine WE (xO (z * d) n _ x aa  aa  aa) ?_;rintro V K ⟨y,g⟩;have u:=ax y;have Q:=g.size;clear y;go_wp21;refine WE (xO (2 * done+z) (2 * (n - done) - z) _ aa  aa  aa  aa) ?_;rintro U J ⟨v,y⟩;have t:=ax v;have P:=y.size;clear v;go_wp21;refine RX (ML V U _ _ _ (u.o.K y) t.o Y X f c) ?_;intro I v;rw[s.o];go_wp2;go_ret;exact⟨ph r.o,bw⟩
def MV(u v t z:Int)(w:World)(a:-9223372036854775808<=u)(g:u<=t)(Y:t<=9223372036854775807)(X:0<=v)(U:0<z)(f:v+z<18446744073709551616):af4 af5 232 #[af6 u,.int .u64 v,af6 t,.int .u64 z] w (au w (af6 (mo u t z (v+z)))):=by
 have c:ad0 .u64 (ad0 .u64 t - ad0 .u64 u)=t - u:=by simp only[iy];omega
 obtain⟨q,p⟩:=tk g (x:=z) (y:=v+z) aa  aa  aa;have s:wrap64 (ad0 .u64 (ad0 .u64 u+(t - u) * z / (v+z)))=mo u t z (v+z):=by
  simp only[iy,wrap64];unfold mo at *;omega
 have r:=ax s;clear q p s;go_in;go_wp2_with (first|(go_at_call 142;refine RX (F_ (t - u) _ _ _ aa  aa  aa  aa  aa f) ?_;intro V s;have⟨p,b⟩:=vK s;have q:=s.size;try simp only[aI,bT,dL,World.ir] at q))
 go_ret;exact⟨jz r.o,bw⟩
def Ah(a b:Mn)(w:World):af4 af5 245 #[.agg #[af6 a.1,.int .u64 a.2],.agg #[af6 b.1,.int .u64 b.2]] w (au w (.bool (decide (a.1<b.1)))):=by
 go_in;go_wp2;go_ret;exact⟨rfl,bw⟩
def iJ(v:Value)(l:List Mn)(w:World)(h:mS w v l)(y:lf l)(S:tot l<=18446744073709551615):af4 af5 60 #[v] w (au w (.int .u64 (tot l))):=by
 obtain⟨A,c,rfl,T,X,z⟩:=h.form;have s:=ax z;clear z h;go_in;go_wp2;go_loopg [3,4] (ab0 l) (λk n i wr=>∃j:Nat,k=ab0 l - j/\j<=ab0 l/\n=.int .u64 (tot (l.take j))/\i=af6 j/\af3 w wr)
 exact⟨0,rfl,aa,rfl,rfl,aC _ _⟩
 case round=>
  obtain⟨j,z,U,rfl,rfl,d⟩:=hrel;have t:=ax z;clear z;by_cases z:j<ab0 l
  .obtain⟨g,R,rfl,V,p,f⟩:=(s.o.K d).at_ z
   have Q:=y.tq j;have a:=y.Bi z;have b:=(y.get z).2.2;have r:=ax (ja l j z);have⟨x,u⟩:=ar (l[j].2);rw[u] at f a b;have q:=ax u;clear u p;go_wp2;go_roundg (ab0 l - (j+1))
   exact⟨j+1,rfl,aa,by rw[r.o,q.o],af,bw⟩;have:=t.o;omega
  .go_wp2
   go_ret;exact⟨jz (by rw[bc aa]),bw⟩
def IW:(prog.info? 216).map (λi=>(i.zero,i.size,i.bytes))=some (some (.agg #[af6 0,.int .u64 0]),2,16):=by kernel_rfl
def iP{ops:Array Oper}{rest:List Oper}(b:o.guard=none)(s x:Operand)
 (X:o.op=.call {callee:=.builtin .append,args:=#[s,x],argTypes:=#[109,109]})
 (r:Nat) (v:Value) (xs:List Mn) (U:a.eval s=v) (V:ic r w v xs)
 (u:Value) (y:List Mn) (T:a.eval x=u) (q:mS w u y)
 (N:ab0 xs+ab0 y<=1099511627776) (d:r<=w.heap.size)
 (h:∀z t,ic r t z (xs++y)->w.grownBy t v.ownBlock->(z.ownBlock=v.ownBlock\/z.ownBlock=some w.heap.size)->wpList prog ops Q rest (a.put o.dst z) t):wpList prog ops Q (o::rest) a w:=by
 obtain⟨O,Y,S,R,P⟩:=cR IW;obtain⟨A,c,rfl,_,_,_⟩:=q.form;refine kQ w b s x 109 X r 216 O _ 2 16 underlying109 Y S R P rfl aa v (ab0 xs) (iE xs) U V A (ab0 y) c (iE y) T q (xH _)
  (by unfold maxLen;omega) aa d λz t p g f=>h z t ?_ g f
 unfold ic;rw[aE,ss];exact p
def vP{K:Act->World->Prop}(s x:Operand)
 (Y:o.op=.call {callee:=.builtin .append,args:=#[s,x],argTypes:=#[109,109]})
 (r:Nat) (v:Value) (xs:List Mn) (V:a.eval s=v) (X:ic r w v xs)
 (u:Value) (y:List Mn) (U:a.eval x=u) (q:mS w u y)
 (O:ab0 xs+ab0 y<=1099511627776) (d:r<=w.heap.size)
 (h:∀z t,ic r t z (xs++y)->w.grownBy t v.ownBlock->(z.ownBlock=v.ownBlock\/z.ownBlock=some w.heap.size)->K (a.put o.dst z) t):o.wp prog a w K Q:=by
 obtain⟨P,b,T,S,R⟩:=cR IW;obtain⟨A,c,rfl,_,_,_⟩:=q.form;refine nt w s x 109 Y r 216 P _ 2 16 underlying109 b T S R rfl aa v (ab0 xs) (iE xs) V X A (ab0 y) c (iE y) U q (xH _)
  (by unfold maxLen;omega) aa d λz t p g f=>h z t ?_ g f
 unfold ic;rw[aE,ss];exact p
def q8(w:World)(g:Nat)(F:Nat->Prop)(d:Int)(L W:List Mn)(lo hi:Int):Prop:=
 ∃lv wv,g7 w g 111 #[af6 d,lv,wv,af6 lo,af6 hi]/\ic 0 w lv L/\ic 0 w wv W/\F g/\(∀k,lv.ownBlock=some k->F k)/\(∀k,wv.ownBlock=some k->F k) /\
  (∀k,wv.ownBlock=some k->lv.ownBlock≠some k)/\(∀k,F k->k<w.heap.size)
def q8.stay(h:q8 w g F d L W lo hi)(z:∀k,F k->w'.heap[k]?=w.heap[k]?)(f:w.heap.size<=w'.heap.size):q8 w' g F d L W lo hi:=by
 obtain⟨c,b,s,q,p,v,y,x,u,t⟩:=h;exact⟨c,b,(z g v).T s,q.stay λk e=>z k (y k e),p.stay λk e=>z k (x k e),v,y,x,u,λk r=>aG (t k r) f⟩
def q8.K(h:q8 w g F d L W lo hi)(y:af3 w w'):q8 w' g F d L W lo hi:=by
 have z:=h;obtain⟨v,u,_,_,_,_,_,_,_,z⟩:=z;exact h.stay (λk x=>y.block k (z k x)) y.size
def kN(g:Nat)(F:Nat->Prop)(d X b:Int)(L W:List Mn)(w:World)(h:q8 w g F d L W X b)(P:ab0 L+ab0 W<=1099511627776):af4 af5 61 #[aq g] w λe u=>∃v,e=.returned v/\ic w.heap.size u v (L++W)/\af3 w u:=by
 obtain⟨V,R,z,y,x,Q,v,r,q,c⟩:=h;have p:=z.k1;have f:=z.k2;have O:=z.lt;have t:=ax y;have s:=ax x;clear z y x v r q c;go_in
 go_wp2_with (first
  | (at_builtin
     refine iP rfl (.tmp 4) (.tmp 8) rfl w.heap.size (.slice none 0 0) [] rfl (ic.nil_ _ _) V L rfl t.o.rd (by simp only[aY];omega) (aD _) ?_;intro U q v x r;have z:af3 w q:=(aC _ _).grown x (aD _) (by simp[Value.ownBlock]);have Y:=z.size;have⟨c,a⟩:=vK z;have y:=ax v;clear v x r)
  | (at_builtin
     refine iP rfl (.tmp 10) (.tmp 14) rfl w.heap.size U ([]++L) rfl y.o R W rfl (s.o.K z).rd (by simp only[bB];omega) aa ?_;intro T S v x q;have c:af3 w S:=z.grown x Y (λk a=>(y.o.lt k a).1);have r:=ax v;clear v x q))
 go_ret;exact⟨T,rfl,r.o,c⟩
structure IX(x:Mn)(out:List Mn)(k:Nat):Prop where
 le:∀j (h:j<ab0 out),j<k->out[j].1<=x.1
def IX.next{x:Mn}{out:List Mn}{k:Nat}(h:IX x out k)(t:k<ab0 out)(v:out[k].1<=x.1):IX x out (k+1):=
 ⟨λj y u=>by
  rcases bm j k with z|z
  .exact h.le j y z
  .have:j=k:=aa
   subst this;exact v⟩
def Kg(v:Value)(l:List Mn)(w:World)(h:mS w v l)(hlen:ab0 l<=1000000000):af4 af5 230 #[v] w λe w'=>∃v,e=.returned v/\ic w.heap.size w' v (jk l)/\af3 w w':=by
 obtain⟨A,c,rfl,hn,hc,z⟩:=h.form;have HP:=ax z;clear z h;go_in;go_wp2;go_loopg [3,4] (ab0 l) (λq o i wr=>∃j:Nat,q=ab0 l - j/\j<=ab0 l/\i=af6 j/\ic w.heap.size wr o (jk (l.take j))/\af3 w wr)
 exact⟨0,rfl,aa,rfl,ic.nil_ _ _,aC _ _⟩
 case round=>
  obtain⟨j,t,L,rfl,Q,M⟩:=hrel;obtain⟨z,rfl⟩:∃z:World,z=wr:=⟨_,rfl⟩;have HK:=ax t;have W:=M.size;clear t;have E:=kL (l.take j);rw[aU,dM L] at E;by_cases n:j<ab0 l
  .have HT:=ax (zH l j n)
   have⟨x,y⟩:=ar (l[j]);have HX:=ax y;obtain⟨g,F,rfl,G,N,H⟩:=(HP.o.K M).at_ n;rw[y] at N H;clear y;have⟨S,y⟩:=ar (jk (l.take j));rw[y] at Q E;have HS:=ax y;have HO:=ax Q;obtain⟨B,d,rfl,hn2,hc2,u⟩:=Q.form;have o:=ax u;have hsl:ab0 S<=1000000000:=aa;clear y Q u E;go_upto_block 2 with fail
   go_cut [5,6] (λb V wr=>∃k:Nat,V=af6 k/\k<=ab0 S/\ic z.heap.size wr b (S.take k)/\Hid (ins x S=S.take k++x::S.drop k)/\af3 z wr)
   case first=>
    go_wp2;go_loopg [5,6] (ab0 S) (λr b V wr=>∃k:Nat,r=ab0 S - k/\V=af6 k/\k<=ab0 S/\ic z.heap.size wr b (S.take k)/\Hid (IX x S k)/\af3 z wr)
    exact⟨0,rfl,rfl,aa,ic.nil_ _ _,⟨λj _ h=>absurd h aa⟩,aC _ _⟩
    case round=>
     obtain⟨q,t,rfl,m,s,U,y⟩:=hrel;have I:=ax t;have O:=y.size;have u:=ax s;clear t s;have D:=(y.C (p:=af7 g (F+j * 2)) G).T N;by_cases a:q<ab0 S
     .obtain⟨P,Xp,rfl,hg2,e0,e1⟩:=(o.o.K y).at_ a
      by_cases C:S[q].1<=x.1
      .have X:=ax (U.o.next a C)
       go_wp21
       go_quiet (fail)
       go_wp2_with (first
        | (at_builtin
           refine iP rfl (.tmp 30) (.tmp 35) rfl z.heap.size u5 (S.take q) rfl ((u.o.drewN _).alloc _) _ [S[q]] rfl (mS.one _ S[q]) (by simp only[aU,bh];omega) (by simp only[aI,ir];omega) ?_;intro i R Y f T;have J:af3 z R:=((below_drewN y _).alloc (by simp only[ir];omega) _).grown f (by simp only[aI,ir];omega) (λk t=>(u.o.lt k t).1);have K:=ax Y;clear Y f T))
       go_roundg (ab0 S - (q+1))
       exact⟨q+1,rfl,af,aa,by rw[aM a];exact K.o,X,J⟩;have:=I.o;omega
      .have X:Hid (ins x S=S.take q++x::S.drop q):=uJ x S q aa (λj h L=>U.o.le j h L) (λ_=>by omega)
       go_wp21
       go_quiet (fail)
       go_wp21
       go_meet
       exact⟨q,rfl,aa,u.o.drewN _,X,bw⟩
     .have X:Hid (ins x S=S.take q++x::S.drop q):=uJ x S q aa (λj h L=>U.o.le j h aa) (λh=>absurd h a)
      go_wp21
      go_quiet (fail)
      go_wp21
      go_meet
      exact⟨q,rfl,aa,u.o.drewN _,X,bw⟩
   case rest=>
    obtain⟨q,rfl,m,s,X,y⟩:=hcut;have u:=ax s;have O:=y.size;have D:=(y.C (p:=af7 g (F+j * 2)) G).T N;have C:=(y.C (p:=af7 g (F+j * 2+1)) G).T H;clear s N H
    go_upto_block 4 with(first
     | (at_builtin
        refine iP rfl (.tmp 39) (.tmp 44) rfl z.heap.size u5 (S.take q) rfl (u.o.alloc _) _ [x] rfl (mS.one _ x) (by simp only[aU,bh];omega) (by simp only[aI];omega) ?_;intro i R Y f T;have J:af3 z R:=(y.alloc aa _).grown f (by simp only[aI];omega) (λk t=>(u.o.lt k t).1);have K:=ax Y;clear Y f T))
    have⟨T,f⟩:=ar (ins x S);rw[f] at X;obtain⟨R,U,Y⟩:=Mz X.o m;have T1:=ax U;have T2:=ax Y;have TL:=ax R;have i:=ax f;clear U Y R f u O D C y;go_cut [5,6] (λb V wr=>ic z.heap.size wr b T/\af3 z wr)
    case first=>
     go_wp2;go_loopg [5,6] (ab0 S - q) (λr b V wr=>∃k:Nat,r=ab0 S - k/\V=af6 k/\q<=k/\k<=ab0 S/\ic z.heap.size wr b (T.take (k+1))/\af3 z wr)
     exact⟨q,rfl,rfl,aa,aa,by rw[T1.o];exact K.o,J⟩
     case round=>
      obtain⟨k,t,rfl,U,D,s,y⟩:=hrel;have I:=ax t;have O:=y.size;have u:=ax s;clear t s;by_cases a:k<ab0 S
      .obtain⟨P,Xp,rfl,hg2,e0,e1⟩:=(o.o.K y).at_ a
       go_wp2_with (first
        | (at_builtin
           refine iP rfl (.tmp 50) (.tmp 55) rfl z.heap.size u5 (T.take (k+1)) rfl (u.o.alloc _) _ [S[k]] rfl (mS.one _ S[k]) (by simp only[aU,bh];omega) (by simp only[aI];omega) ?_;intro R b r P f;have V:af3 z b:=(y.alloc aa _).grown P (by simp only[aI];omega) (λk t=>(u.o.lt k t).1);have Y:=ax r;clear r P f))
       go_roundg (ab0 S - (k+1))
       exact⟨k+1,rfl,af,aa,aa,by rw[T2.o k a U];exact Y.o,V⟩;have:=I.o;omega
      .go_wp21
       go_meet
       exact⟨by have h:=u.o;rwa [bc (aa2 TL.o)] at h,y⟩
    case rest=>
     obtain⟨s,y⟩:=hcut;have u:=ax s;have O:=y.size;clear s;go_wp2;go_roundg (ab0 l - (j+1))
     exact⟨j+1,rfl,aa,af,by rw[HT.o,HX.o,HS.o,i.o];exact u.o.more W,ti y W M⟩;have:=HK.o;omega
  .have u:=ax Q
   clear Q;go_wp2;go_ret;refine⟨_,rfl,?_,M⟩;have h:=u.o
   rwa [bc (show ab0 l<=j by omega)] at h
def Bp(d:Int)(v:Value)(l:List Mn)(w:World)(h:mS w v l)(ho:lf l)(hlen:ab0 l<=1000000000)(ht:tot l<=281474976710656)(d0:0<=d)(d1:d<=1000):af4 af5 143 #[af6 d,v] w λe r=>∃v,e=.returned v/\ic w.heap.size r v (qT d l)/\af3 w r:=by
 have H:=ax h;have h2:=h.form;obtain⟨A0,c0,rfl,_,_,_⟩:=h2;clear h;go_in;go_wp21;refine WE (Kg _ l _ H.o hlen) ?_;rintro v1 w1 ⟨z,hb1⟩;have hz1:=hb1.size;have t:=kL l;have s:=tp l;have y:=uK l;have h:=ho.jk;have F:Hid (qT d l=nR d (tot (jk l)) (jk l)):=by show _=_;rw[qT,tp]
 have⟨S,x⟩:=ar (jk l);rw[x] at z t s y h F;have hsl1:ab0 S<=1000000000:=aa;have hst1:tot S<=281474976710656:=aa;have O1:=ax z;obtain⟨A,c,rfl,hn,hc,u⟩:=z.form;have HP:=ax u;have HR:=ax y;clear z u x t s y;go_wp21;refine RX (iJ _ S _ O1.o.rd h aa) ?_;intro x hb2;have hz2:=hb2.size;go_wp2
 go_loopg [7,8,9] (ab0 S) (λq o u i wr=>∃j:Nat,q=ab0 S - j/\j<=ab0 S/\i=af6 j/\af3 x wr /\
  ((j=0/\o=.slice none 0 0/\u=.int .u64 0)\/(∃z y,0<j/\qU d (tot S) S j z y/\u=.int .u64 (tot z)/\ic x.heap.size wr o (z++[y]))))
 exact⟨0,rfl,aa,rfl,aC _ _,.inl ⟨rfl,rfl,rfl⟩⟩
 case round=>
  obtain⟨j,L,hj,rfl,O,n⟩:=hrel;have HK:=ax L;have hz:=O.size;clear L;by_cases T:j<ab0 S
  .obtain⟨g,off,rfl,W,P,U⟩:=((HP.o.K hb2).K O).at_ T
   go_upto_block 1 with fail
   go_cut [7,8] (λo u t=>af3 x t/\∃z y,qU d (tot S) S (j+1) z y/\u=.int .u64 (tot z)/\ic x.heap.size t o (z++[y]))
   case first=>
    rcases n with⟨rfl,rfl,rfl⟩|⟨z,y,j0,u,rfl,t⟩
    .have p:=ax (qU.start d T h HR.o)
     have s:((0:Nat):Int)=0:=rfl;simp only[dj,cF] at P U;rw[s];clear s
     go_wp2_with (first
      | (at_builtin
         refine iP rfl (.tmp 23) (.tmp 28) rfl x.heap.size (.slice none 0 0) [] rfl (ic.nil_ _ _) _ [S[0]] rfl (mS.one _ S[0]) ad (by simp only[aI];omega) ?_;intro v1 f q s Y;have b:af3 x f:=(O.alloc aa _).grown s (by simp only[aI];omega) (by simp[Value.ownBlock]);have a:=ax q;clear q s Y))
     go_meet
     exact⟨b,[],S[0],p.o,rfl,a.o⟩
    .obtain⟨f1,D,C,f4,f5⟩:=u.facts T
     have hlen2:=u.len;obtain⟨B,c2,rfl,b1,V,b3,b4⟩:=t.pos ad;have hj0:((j:Int) == 0)=false:=ae;have E:=t.at_ (j:=ab0 z) (by simp);rw[cU aa] at E;simp only[cZ,bZ] at E;obtain⟨Q,Y,J,I⟩:=E;have s:=ax t;have X:=ax u;clear t u;have MB:Qf d (tot S) (tot z) (y.2+S[j].2):=⟨d0,d1,hst1,f1,by have:=D.2.2;have:=C.2.2;omega,f5⟩;have p1:=D.2.2;have p2:=C.2.2;have⟨N,q⟩:=ar (ab0 (z++[y]));have⟨m,p⟩:=ar (ab0 z);have a:N=m+1:=by rw[<-q,<-p];simp
     rw[p] at Q Y J I hlen2;rw[q] at s b3 |-;have hNI:(N:Int) - 1=(m:Int):=aa
     have i0:(0:Int)<=(m:Int):=aa;have i1:(m:Int)<(N:Int):=aa;have HM:=ax p;have HN:=ax q;clear q p a;have i2:(0:Int)<=((j:Nat):Int):=aa;have i3:((j:Nat):Int)<((ab0 S:Nat):Int):=aa;have s1:ad0 .u64 (y.2+S[j].2)=y.2+S[j].2:=RY _ aa  aa;go_upto_region 11 with fail
     go_region_held3 (λr=>r.cell? (af7 B (m * 2+1))=some (.int .u64 y.2)/\r.cell? (af7 g (off+j * 2+1))=some (.int .u64 S[j].2)) (first|go_keep|exact⟨(q _ _ ag).T Y,(q _ _ ag).T U⟩)
      (first|(go_at_call 231;refine RX (MU d (tot S) (tot z) (y.2+S[j].2) _ MB) ?_;intro f b;have⟨q,p⟩:=vK b;have a:=b.size;try simp only[aI,bT,dL,World.ir] at a))
     have hs3:=b.size;have a:B<f.heap.size:=aG V hs3;have hg4:g<f.heap.size:=aG W hs3;replace Q:=(q _ _ V).T Q;replace Y:=(q _ _ V).T Y;replace J:=(p _ _ V).T J;replace I:=(p _ _ V).T I;replace P:=(q _ _ W).T P;replace U:=(q _ _ W).T U;clear q p;have M:af3 wr f:=(aC _ _).drew.T b;by_cases K:tr d (tot S) (tot z) (y.2+S[j].2)=true
     .have G:=ax (X.o.merge T K)
      rw[K];go_upto_region 12 with fail;refine x9 (λr=>af3 f r) 36 (by kernel_rfl) (by kernel_rfl) (aC _ _).drew ?_;simp only[cE,dm,aX,bj]
      iterate 36 (first
       | (refine Kf rfl (λR i=>?_)
          apply bp
          refine⟨λr q=>?_,?_⟩
          .have k:=(q.C (p:=af7 _ _) a).T Q
           have k1:=(q.C (p:=af7 _ _) a).T Y;have k2:=(q.C (p:=af7 _ _) hg4).T P;have k3:=(q.C (p:=af7 _ _) hg4).T U;go_simp
           first
            | exact⟨rfl,q⟩
            | (refine RX (MV y.1 y.2 S[j].1 S[j].2 _ D.1 f4 C.2.1 aa p2 aa) ?_
               intro w4 o;exact⟨rfl,q.T (o.M q.size)⟩)
          go_simp;refine i _ ?_;clear i R))
      refine Gh ?_;intro R q;have k2:=(q.F (p:=af7 _ _) a).T J;have k3:=(q.F (p:=af7 _ _) a).T I;have k:=(q.C (p:=af7 _ _) a).T Q;have k1:=(q.C (p:=af7 _ _) a).T Y;go_wp21
      go_meet
      exact⟨bw,z,_,G.o,rfl,((s.o.K M).K q).setLast _ HM.o HN.o⟩
     .have q:tr d (tot S) (tot z) (y.2+S[j].2)=false:=by simpa using K
      have G:=ax (X.o.push T q);have R:Hid (tot (z++[y])=tot z+y.2):=by show _=_;rw[h_];simp[tot]
      have hal:ab0 z+1<=1000000000:=by have:=X.o.len;omega
      rw[q];clear K q
      go_wp2_with (first
       | (at_builtin
          refine iP rfl (.tmp 91) (.tmp 96) rfl x.heap.size (.slice (some (af7 B 0)) N c2) (z++[y]) rfl ((s.o.K M).alloc _) _ [S[j]] rfl (mS.one _ S[j]) (by simp only[aE,bh];omega) ag ?_;intro v1 w6 p q a6;have hb6:af3 x w6:=((O.T (M.M hz)).alloc ag _).grown q ag (λk L=>((s.o.K M).lt k L).1);have i:=ax p;clear p q a6))
      go_meet
      exact⟨hb6,z++[y],S[j],G.o,by rw[R.o],i.o⟩
   case rest=>
    obtain⟨o,z,y,u,rfl,t⟩:=hcut;have X:=ax u;have s:=ax t;clear u t n;go_wp2;go_roundg (ab0 S - (j+1))
    exact⟨j+1,rfl,aa,af,o,.inr ⟨z,y,aa,X.o,rfl,s.o⟩⟩;have:=HK.o;omega
  .have p:j=ab0 S:=aa
   rcases n with⟨f,rfl,rfl⟩|⟨z,y,j0,u,rfl,t⟩
   .have g:S=[]:=aV aa
    have q:Hid (qT d l=[]):=by show _=_;rw[F.o,g];rfl
    go_wp2;go_ret;exact⟨_,rfl,by rw[q.o];exact ic.nil_ _ _,bw⟩
   .have q:Hid (qT d l=z++[y]):=by
     show _=_
     rw[p] at u;rw[F.o,u.fin]
    have s:=ax t;clear u t p;go_wp2;go_ret;exact⟨_,rfl,by rw[q.o];exact s.o.more aa,bw⟩
def SJ(n:Nat)(w:World)(X:n<=1099511627776):af4 af5 259 #[.slice none 0 0,af6 n] w λe f=>∃v,e=.returned v/\ic w.heap.size f v []/\af3 w f:=by
 obtain⟨u,q,g,Y,v⟩:=cR IW;by_cases b:n=0
 .subst b
  go_in;go_wp2;go_ret;exact⟨_,rfl,ic.nil_ _ _,bw⟩
 .have p:(Builtin.firstCells u.size 0 (.slice none 0 0)).run prog w.drew=.ok #[] w.drew:=run_firstCells_none w.drew u.size 0 0 0
  have x:∀t,(Builtin.append_ #[109,3] t #[.slice none 0 0,af6 (n:Int)]).run prog w =
   .ok (.slice (some (af7 (w.heap.size) 0)) n (grownCap w n 0 216)) (w.drew.alloc (.cells (([]:List Value).toArray++Builtin.zeroCells (Value.agg #[af6 0,.int .u64 0]).cells n++Builtin.zeroCells (Value.agg #[af6 0,.int .u64 0]).cells (grownCap w n 0 216 - n)) 216)):=λt=>by
   have h:=Lib.run_append_grow_zeros w 109 3 t 216 u _ .i64 .i64 underlying109 underlying3 q g none 0 0 [] p n aa  aa  aa  aa (by rw[v];omega) (growslice_fits aa (by rw[v];omega));simpa using h
  have a:n<=grownCap w n 0 216:=grownCap_ge w _ _ _;have z:grownCap w n 0 216<=maxLen:=grownCap_le_maxLen w n 0 216 (by unfold maxLen;omega);have⟨G,s⟩:=ar (grownCap w n 0 216);rw[s] at x a z;obtain⟨Z,y⟩:∃Z:Array Value,(([]:List Value).toArray++Builtin.zeroCells (Value.agg #[af6 0,.int .u64 0]).cells n++Builtin.zeroCells (Value.agg #[af6 0,.int .u64 0]).cells (G - n))=Z:=⟨_,rfl⟩;rw[y] at x;have r:Z.size=G * 2:=by
   rw[<-y,fh,fh,size_zeroCells,size_zeroCells];simp only[Value.cells,dX,aK,aY];omega
  have c:=ax r;have d:=ax z;clear y r s p q g Y v z;go_in;go_wp2_with (at_builtin;refine Lib.wpList_append_run _ rfl _ _ _ _ rfl _ _ rfl rfl _ _ (x _) ?_)
  go_ret;refine⟨_,rfl,?_,bw⟩;exact⟨by simp[iE],.inr ⟨w.heap.size,G,Z,rfl,aD _,cH _ _,bl _,d.o,c.o,by simp[iE]⟩⟩
def Kh(w:World):ic w.heap.size (w.alloc (.cells #[] 216)) (.slice (some (af7 (w.heap.size) 0)) 0 0) []:=
 ⟨by simp[iE],.inr ⟨w.heap.size,0,#[],rfl,aD _,cH _ _,bl _,by unfold maxLen;omega,rfl,by simp[iE]⟩⟩
def rN(v:Value)(l:List Mn)(w:World)(h:mS w v l)(b:ab0 l<=1099511627776):af4 af5 281 #[v] w λe u=>∃z,e=.returned z/\ic w.heap.size u z l/\af3 w u:=by
 have H:=ax h;obtain⟨A,c,rfl,Y,d,y⟩:=h.form;rcases A with _|a
 .have t:l=[]:=by
   rcases bo (ab0 l) with z|z
   .exact aV z
   .obtain⟨g,s,x,_⟩:=y z;cases x
  subst t;clear y h;have q:(binOp .eql 109 (.slice none 0 c) (.slice none 0 0)).run prog w=.ok (.bool true) w:=Lib.run_eql_slice_nil w _ _ _ _ _ _ _ underlying109;go_in;go_wp2;go_ret;exact⟨_,rfl,ic.nil_ _ _,bw⟩
 .clear y h
  have q:(binOp .eql 109 (.slice (some a) (ab0 l) c) (.slice none 0 0)).run prog w=.ok (.bool false) w:=Lib.run_eql_slice_nil w _ _ _ _ _ _ _ underlying109;go_in
  go_wp2_with (first
   | (at_builtin
      go_must (refine iP rfl (.tmp 5) (.tmp 6) rfl w.heap.size (.slice (some (af7 (w.heap.size) 0)) 0 0) [] rfl (Kh w) (.slice (some a) (ab0 l) c) l rfl (H.o.K ((aC _ _).alloc (aD _) _)) (by simp only[aY];omega) ag ?_)
      intro g f x z s;have r:af3 w f:=((aC _ _).alloc (aD _) _).grown z ag (λk p=>by simp[Value.ownBlock] at p;omega);have t:=ax x;clear x z s))
  go_ret;exact⟨g,rfl,t.o,r⟩
def vQ(w:World)(g:Nat)(L:List (List Mn)):Prop:=∀i (h:i<ab0 L),∃v,w.cell? (af7 g i)=some v/\mS w v L[i]
def vQ.K{L:List (List Mn)}(h:vQ w g L)(u:g<w.heap.size)(z:af3 w w'):vQ w' g L:=λi t=>by
 obtain⟨v,y,x⟩:=h i t;exact⟨v,(z.C (p:=af7 g i) u).T y,x.K z⟩
def q9(L:List (List Mn))(i:Nat)(h:i<ab0 L):(L.take (i+1)).flatten=(L.take i).flatten++L[i]:=by
 rw[aM h,List.flatten_append];simp
def p8(L:List (List Mn))(i:Nat):ab0 (L.take i).flatten<=ab0 L.flatten:=by
 have h:L.flatten=(L.take i).flatten++(L.drop i).flatten:=by rw[<-List.flatten_append,bL]
 rw[h,aE];omega
def yb(g:Nat)(L:List (List Mn))(w:World)(V:g<w.heap.size)(h:vQ w g L)(C:ab0 L<=1000)(B:ab0 L.flatten<=1099511627776):af4 af5 175 #[.slice (some (af7 g 0)) (ab0 L) (ab0 L)] w λe R=>∃v,e=.returned v/\ic w.heap.size R v L.flatten/\af3 w R:=by
 have H:=ax h;clear h;go_in;go_wp2;go_loopg [3,11] (ab0 L) (λq y i wr=>∃j z:Nat,q=ab0 L - j/\j<=ab0 L/\i=af6 j/\y=af6 (z:Int)/\Hid (ab0 (L.take j).flatten=z)/\af3 w wr)
 exact⟨0,0,rfl,aa,rfl,rfl,rfl,aC _ _⟩
 case round=>
  obtain⟨j,z,s,I,rfl,rfl,Y,t⟩:=hrel;have p:=ax s;have a:=t.size;clear s;have E:z<=1099511627776:=by have:=p8 L j;have:=Y.o;omega
  by_cases U:j<ab0 L
  .obtain⟨v,K,r⟩:=(H.o.K V t) j U
   obtain⟨A,c,rfl,f,x,y⟩:=r.form;have u:Hid (ab0 (L.take (j+1)).flatten=z+ab0 L[j]):=by show _=_;rw[q9 L j U,aE,Y.o]
   have b:z+ab0 L[j]<=1099511627776:=by have:=p8 L (j+1);have:=u.o;omega
   clear y r;go_wp2;go_roundg (ab0 L - (j+1))
   exact⟨j+1,z+ab0 L[j],rfl,aa,af,af,u,t⟩;have:=p.o;omega
  .have G:j=ab0 L:=aa
   clear p;go_wp2_with (first|(go_at_call 259;refine WE (SJ z _ E) ?_;rintro m n ⟨y,X⟩;have P:=ax y;have A:=X.size;clear y))
   obtain⟨y,rfl⟩:∃y:World,y=wr:=⟨_,rfl⟩;go_loopg [6,27] (ab0 L) (λq f i x=>∃k:Nat,q=ab0 L - k/\k<=ab0 L/\i=af6 k/\ic y.heap.size x f (L.take k).flatten/\af3 y x)
   exact⟨0,rfl,aa,rfl,P.o,X⟩
   case round=>
    obtain⟨k,s,I,rfl,x,f⟩:=hrel;have p:=ax s;have l:=f.size;have d:=ax x;clear s x;by_cases T:k<ab0 L
    .obtain⟨v,K,r⟩:=(H.o.K V (t.T (f.M a))) k T
     have N:=ax r;have u:=ax (q9 L k T);have b:ab0 (L.take k).flatten+ab0 L[k]<=1099511627776:=by
      have q:=p8 L (k+1);rw[u.o,aE] at q;omega
     have Q:=ax b;clear b r
     go_wp2_with (first
      | (at_builtin
         refine iP rfl (.tmp 31) (.tmp 32) rfl y.heap.size u6 _ rfl d.o v L[k] rfl N.o Q.o aa ?_;intro o D S c M;have J:af3 y D:=f.grown c aa (λx F=>(d.o.lt x F).1);have O:=ax S;clear S c M))
     go_roundg (ab0 L - (k+1))
     exact⟨k+1,rfl,aa,af,by rw[u.o];exact O.o,J⟩;have:=p.o;omega
    .have c:k=ab0 L:=aa
     have x:Hid (L.take k=L):=by show _=_;rw[bc aa]
     clear c G;go_wp2;go_ret;refine⟨_,rfl,?_,t.T (f.M a)⟩;have q:=d.o;rw[x.o] at q;exact q.more a
def SK(c:Nat)(t:c<=1099511627776)(w:World):∃Z:Array Value,(Instr.makeSlice 109 (af6 0) (af6 (c:Int))).run prog w=.ok (.slice (some (af7 (w.heap.size) 0)) 0 c) (w.alloc (.cells Z 216)) /\
 ic w.heap.size (w.alloc (.cells Z 216)) (.slice (some (af7 (w.heap.size) 0)) 0 c) []:=by
 obtain⟨u,z,y,x,v⟩:=cR IW;refine⟨_,mK 109 216 u _ underlying109 z y .i64 .i64 0 c (bl _) (by rw[v];omega) aa w,?_⟩;exact⟨by simp[iE],.inr ⟨w.heap.size,c,_,rfl,aD _,cH _ _,bl _,by unfold maxLen;omega,by rw[size_madeCells,x],by simp[iE]⟩⟩
