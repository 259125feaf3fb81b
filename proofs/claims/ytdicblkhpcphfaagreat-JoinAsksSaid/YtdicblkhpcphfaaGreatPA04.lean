/- Parts. No condition. -/
import Derived.Test.YtdicblkhpcphfaaGreatPA03
import Derived.StillTail
import Derived.OrdersHeld
set_option maxRecDepth 100000
set_option maxHeartbeats 0
set_option linter.all false
namespace Go.Proofs.YtdicblkhpcphfaaGreat
open Tryz Go.RowKit Go.Lib
open _root_.List renaming length→ao
open _root_.Go renaming Calls→ar
open Tryz renaming prog→Oe
section
def Gq(p:Option Int)(v:Int):List Int:=match p with
 | none=>zg v
 | some q=>hZ (v - q)
def q':Option Int->List Mn->List Int
 | _,[]=>[]
 | p,m::l=>Gq p m.1++(hZ m.2++q' (some m.1) l)
def wR:List Mn->List Int
 | []=>[]
 | m::l=>zg m.1++(hZ m.2++wR l)
def QV(d:Int)(L W:List Mn)(lo hi:Int):List Int:=hZ d++(zg lo++(zg hi++(hZ (ao L)++(q' none L++(hZ (ao W)++wR W)))))
def wS:Option Int->List Mn->Option Int
 | p,[]=>p
 | _,m::l=>wS (some m.1) l
def uf(m:Mn):∀(p:Option Int) (l:List Mn),wS p (l++[m])=some m.1
 | _,[]=>rfl
 | _,x::l=>uf m (some x.1) l
def ug(m:Mn):∀(p:Option Int) (l:List Mn),q' p (l++[m])=q' p l++(Gq (wS p l) m.1++hZ m.2)
 | p,[]=>by simp[q',wS]
 | p,x::l=>by simp only[b8,q',ug m (some x.1) l,wS,aO]
def zF(m:Mn):∀(l:List Mn),wR (l++[m])=wR l++(zg m.1++hZ m.2)
 | []=>by simp[wR]
 | x::l=>by simp only[b8,wR,zF m l,aO]
def wT(l:List Mn)(h:0<ao l):q' none (l.take 1)=q' none (l.take 0)++(zg l[0].1++hZ l[0].2):=by
 have:=ug l[0] none (l.take 0);rw[<-aM h] at this;rw[this];simp[wS,Gq]
def zG(l:List Mn)(j:Nat)(h:j+1<ao l):q' none (l.take (j+1+1))=q' none (l.take (j+1))++(hZ (l[j+1].1 - l[j].1)++hZ l[j+1].2):=by
 have:=ug l[j+1] none (l.take (j+1));rw[<-aM h] at this;rw[this,aM (show j<ao l by omega),uf]
 rfl
def zH(l:List Mn)(j:Nat)(h:j<ao l):wR (l.take (j+1))=wR (l.take j)++(zg l[j].1++hZ l[j].2):=by
 rw[aM h,zF]
def Jo(p:Option Int)(v:Int):1<=ao (Gq p v)/\ao (Gq p v)<=10:=by
 unfold Gq
 split
 ·exact gS _
 ·exact gS _
def tx:∀(p:Option Int) (l:List Mn),2 * ao l<=ao (q' p l)/\ao (q' p l)<=20 * ao l
 | _,[]=>by simp[q']
 | p,m::l=>by
  have z:=tx (some m.1) l;have y:=Jo p m.1;have x:=gS m.2;simp only[q',aE,aJ];omega
def EF:∀(l:List Mn),2 * ao l<=ao (wR l)/\ao (wR l)<=20 * ao l
 | []=>by simp[wR]
 | m::l=>by
  have z:=EF l;have y:=gS (qs m.1);have x:=gS m.2;simp only[wR,zg,aE,aJ];omega
def rj(l:List Mn)(j:Nat):ao (q' none (l.take j))<=20 * ao l:=by
 have z:=(tx none (l.take j)).2;have y:ao (l.take j)<=ao l:=by rw[aU];omega
 omega
def rk(l:List Mn)(j:Nat):ao (wR (l.take j))<=20 * ao l:=by
 have z:=(EF (l.take j)).2;have y:ao (l.take j)<=ao l:=by rw[aU];omega
 omega
end
section
variable {P : Program} {ops : Array Oper} {md : Region.Mode} {S : World -> Prop}
variable{v:Value}{o:Oper}{a:Act}{Lq:Act->Prop}
def Jp(S:World->Prop)(v u:Value)(w:World):Prop:=u=v/\S w
def QW(S:World->Prop)(v:Value)(e:Ending)(w:World):Prop:=e=.returned v/\S w
def Gives(P:Program)(S:World->Prop)(v:Value):Result Next->Prop
 | .ok (.value u) w=>Jp S v u w
 | .ok (.enter f args) w=>Calls P f args w (QW S v)
 | _=>False
@[go_sem] theorem Ol  (u:Value) (w:World):Gives P S v (.ok (.value u) w)=Jp S v u w:=rfl
@[go_sem] theorem Om  (f:FuncId) (z:Array Value) (w:World):Gives P S v (.ok (.enter f z) w)=Calls P f z w (QW S v):=rfl
def kH(P:Program)(ops:Array Oper)(S:World->Prop)(o:Oper)(v:Value)(a:Act):Prop:=
 (Region.wanted o (yielded ops a.tmps)=true/\∀w,S w->Gives P S v ((execOp a.eval o).run P w)) \/
 (Region.wanted o (yielded ops a.tmps)=false/\v=undef)
def kH.of_same{a':Act}(x:kH P ops S o v a)(z:execOp a'.eval o=execOp a.eval o)
 (y:Region.wanted o (yielded ops a'.tmps)=Region.wanted o (yielded ops a.tmps)):kH P ops S o v a':=by
 unfold kH at *;rw[z,y];exact x
def kH.wpOp{Q:Exit->Act->World->Prop}{i:Nat}{o:Oper}{v:Value}{a:Act}(q:ops[i]?=some o)(g:kH P ops S o v a)
 {K:Act->World->Prop} {w:World} (s:S w) (h:∀w',S w'->K (a.put o.dst v) w'):Go.wpOp P ops Q i K a w:=by
 unfold Go.wpOp;simp only[q]
 rcases g with⟨t,p⟩|⟨t,rfl⟩
 ·simp only[t,if_true]
  refine .inl ?_
  have z:=p w s;unfold Oper.wp;generalize (execOp a.eval o).run P w=r at *
  cases r with
  | ok n w'=>
   cases n<;>simp only[Gives,Jp,Oper.upon] at z |-
   case value u=>obtain⟨rfl,y⟩:=z;exact h _ y
   case enter f args=>
    refine Calls.mono z λe x x=>?_
    obtain⟨rfl,y⟩:=x;exact h _ y
  | halt x w'=>simp only[Gives] at z
 ·simp only[t,dN,if_false];exact h _ s
def uh(P:Program)(md:Region.Mode)(ops:Array Oper)(S:World->Prop)(n:Nat)(L:Array Bool->Act->Prop):Nat->Array Bool->Act->Prop
 | 0,listed,a=>L listed a
 | f+1,listed,a=>
  Region.ready md ops listed≠[]/\∀i∈Region.ready md ops listed,i<n/\∃o v,ops[i]?=some o/\kH P ops S o v a/\uh P md ops S n L f (listed.setIfInBounds i true) (a.put o.dst v)
def pc{n g:Nat}{L:Array Bool->Act->Prop}{Q:Exit->Act->World->Prop}(z:∀listed a,L listed a->∀w,S w->wpAny P md ops Q g listed a w) :
 ∀(f:Nat) (listed:Array Bool) (a:Act),uh P md ops S n L f listed a->∀w,S w->wpAny P md ops Q (f+g) listed a w
 | 0,listed,a,h,w,hS=>by rw[cJ];exact z _ _ h w hS
 | f+1,listed,a,h,w,hS=>by
  rw[show f+1+g=(f+g)+1 by omega]
  refine⟨λy=>absurd y h.1,λi y=>?_⟩
  obtain⟨_,o,v,u,t,x⟩:=h.2 i y;exact t.wpOp u hS λs y=>pc z f _ _ x s y
def yk{n i:Nat}{oi:Oper}{L:Array Bool->Act->Prop}(U:ops[i]?=some oi)(I:∀(j:Nat) (o:Oper) r b,ops[j]?=some o->o.op≠.select r b)
 (J:Region.sinkB md ops n=true) (R:Region.chainB md ops n=true) (K:n<ops.size) (O:i<n)
 (C:∀z a,L z a->∀j∈Region.ready md ops z,n<=j) :
 ∀(f:Nat) (z:Array Bool) (a:Act),HeadInv md ops n z ->
  (∀j p,ops[j]?=some p->j≠i->z.getD j true=false->(∀e∈p.after,Region.binds md e=true->e.on≠i)->oi.apart ops p=true) ->
  i∈Region.ready md ops z->kH P ops S oi v a ->
  uh P md ops S n L f (z.setIfInBounds i true) (a.put oi.dst v)->uh P md ops S n L (f+1) z a:=by
 intro f
 induction f with
 | zero=>
  intro z a V _ t X H;have Y:=(mem_ready.1 t).1;refine⟨λh=>(by rw[h] at t;cases t),λj s=>?_⟩
  have d:j<n:=by
   rcases bg j n with h|h
   ·exact h
   ·exact absurd s (tail_waits J R K V _ i rfl O Y j h)
  refine⟨d,?_⟩
  by_cases x:j=i
  ·subst x;exact⟨oi,v,U,X,H⟩
  ·have:=C _ _ H j (ready_mono s x)
   omega
 | succ f ih=>
  intro z a V Q t X H;have Y:=(mem_ready.1 t).1;refine⟨λh=>(by rw[h] at t;cases t),λj s=>?_⟩
  have d:j<n:=by
   rcases bg j n with h|h
   ·exact h
   ·exact absurd s (tail_waits J R K V _ i rfl O Y j h)
  refine⟨d,?_⟩
  by_cases x:j=i
  ·subst x;exact⟨oi,v,U,X,H⟩
  ·obtain⟨_,p,u,c,hyj,W⟩:=H.2 j (ready_mono s x)
   obtain⟨M,y,SH,E⟩:=mem_ready.1 s;have SI:y=p:=bC (SH.symm.trans c);subst SI;have hnot:∀e∈y.after,Region.binds md e=true->e.on≠i:=λe B D A=>by
    have q:=E e B D;rw[A,getD_both Y] at q
    cases q
   obtain⟨q,F,T⟩:=Oper.apart_spec (Q j y c x M hnot);have l:∀k g,ops[k]?=some g->k≠i->(z.setIfInBounds j true).getD k true=false ->
    (∀e∈g.after,Region.binds md e=true->e.on≠i)->oi.apart ops g=true:=λk g m o G w=>by
    refine Q k g m o ?_ w
    by_cases N:j=k
    ·subst N;exact M
    ·rw[getD_set_ne true N] at G;exact G
   have SJ:kH P ops S y u a:=hyj.of_same (execOp_put y (λr b=>I j y r b c) a oi.dst v q).symm (wanted_put y a oi.dst v q).symm
   have N:kH P ops S oi v (a.put y.dst u):=X.of_same (execOp_put oi (λr b=>I i oi r b U) a y.dst u T) (wanted_put oi a y.dst u T)
   refine⟨y,u,c,SJ,ih _ _ (V.set s d) l (ready_mono t (Ne.symm x)) N ?_⟩
   rw[dV _ _ x,<-Act.put_comm a v u F];exact W
def si(P:Program)(ops:Array Oper)(S:World->Prop)(Lq:Act->Prop):List Oper->Act->Prop
 | [],a=>Lq a
 | o::rest,a=>∃v,kH P ops S o v a/\si P ops S Lq rest (a.put o.dst v)
def ui{n g:Nat}{Lq:Act->Prop}(q:Region.noSelect ops=true)(r:Region.sinkB md ops n=true)(x:Region.chainB md ops n=true)(t:n<ops.size) :
 ∀(l:List Oper) (k:Nat) (listed:Array Bool) (a:Act),(∀j,j<ao l->l[j]?=ops[k+j]?)->k+ao l=n->HeadInv md ops n listed ->
 Region.lexHead md ops g (ao l) k listed=true->si P ops S Lq l a ->
 uh P md ops S n (λp z=>Region.seqB md ops g n p=true/\Lq z) (ao l) listed a
 | [],k,listed,a,_,hk,_,hB,h=>by
  have:k=n:=by simpa using hk
  subst this;exact⟨by simpa[Region.lexHead] using hB,h⟩
 | o::l,k,listed,a,hl,hk,inv,hB,h=>by
  have y:ops[k]?=some o:=by simpa using (hl 0 ad).symm
  simp only[aJ,Region.lexHead,bQ] at hB;obtain⟨⟨b,c⟩,f⟩:=hB;have u:k<n:=by simp only[aJ] at hk;omega
  have s:k∈Region.ready md ops listed:=by simpa using b
  obtain⟨v,Y,d⟩:=h;exact yk y (dK q) r x t u (λp z z=>seqB_ready z.1) (ao l) listed a inv (dW y c) s Y
   (ui q r x t l (k+1) _ _ (λj z=>by have:=hl (j+1) af ;simpa[cX,fD 1 j] using this) (by simp only[aJ] at hk;omega) (inv.set s u) f d)
def uj{id:Nat}{Q:Exit->Act->World->Prop}{w:World}{l:List Oper}(S:World->Prop)(n:Nat)(d:P.follows .mixedOrders=true)(v:Region.lexTailB .any l.toArray n=true)
 (q:S w.drew) (h:si P l.toArray S (λx=>∀z,S z->wpList P l.toArray Q (l.drop n) x z) (l.take n) a):(Code.region id l.toArray true).wp P Q a w:=by
 simp only[Region.lexTailB,bQ,a_] at v;obtain⟨⟨⟨⟨b,r⟩,c⟩,p⟩,f⟩:=v;have V:n<ao l:=by simpa using r
 have y:ao (l.take n)=n:=af
 have s:ao (l.drop n)=l.toArray.size - n:=ad
 have Y:HeadInv .any l.toArray n (Array.replicate l.toArray.size false):=
  ⟨by simp,λj X _ u=>(by rw[getD_replicate_false] at u;cases u),λt _ g=>getD_in (by simpa using g) (getD_replicate_false _ _)⟩
 have H:=ui (md:=.any) (g:=l.toArray.size - n) b c p r (l.take n) 0 _ a (λj u=>by
  have t:j<n:=by rw[y] at u;exact u
  simp[t]) (by simpa using y) Y (by rw[y];exact f) h
 refine wp_region_any d ?_
 have:=pc (Q:=Q) (g:=l.toArray.size - n) (λX x u z t=>by
  have:=wpAny_of_seq (md:=.any) (Q':=Q) (l.drop n) n X x z (λj=>by simp[dD]) (by rw[s];exact u.1) (u.2 z t)
  rwa [s] at this) _ _ _ H _ q
 rw[y,show n+(l.toArray.size - n)=l.toArray.size by omega] at this
 exact this
def Cq(h:Lq a):si P ops S Lq [] a:=h
def Gs{rest:List Oper}(x:Region.wanted o (yielded ops a.tmps)=true)
 (h:∀R:Act->Prop,(∀z,si P ops S Lq rest z->R z)->∃v,(∀w,S w->Gives P S v ((execOp a.eval o).run P w))/\R (a.put o.dst v)):si P ops S Lq (o::rest) a:=by
 obtain⟨v,z,y⟩:=h _ (λ_ h=>h)
 exact⟨v,.inl ⟨x,z⟩,y⟩
end
section
variable {P : Program} {ops : Array Oper} {md : Region.Mode} {S : World -> Prop} {Q : Exit -> Act -> World -> Prop}
variable{i id:Nat}{a a':Act}{w:World}{v:Value}{l:List Oper}{r:List (Nat × Bool)}{o:Oper}{Lq:Act->World->Prop}
def sT(md:Region.Mode)(ops:Array Oper):List (Nat × Bool)->Array Bool->Bool
 | [],listed=>(Region.ready md ops listed).isEmpty
 | (i,true)::r,listed=>(Region.ready md ops listed).contains i && Region.free md ops listed i && sT md ops r (listed.setIfInBounds i true)
 | (i,false)::r,listed=>decide (Region.ready md ops listed=[i]) && sT md ops r (listed.setIfInBounds i true)
def jG(P:Program)(ops:Array Oper)(Q:Exit->Act->World->Prop)(S:World->Prop):List (Nat × Bool)->Act->World->Prop
 | [],a,w=>Q .normal a w
 | (i,true)::r,a,w=>∃o v,ops[i]?=some o/\YieldsIf P ops S o v a/\jG P ops Q S r (a.put o.dst v) w
 | (i,false)::r,a,w=>wpOp P ops Q i (λa' w'=>S w'/\jG P ops Q S r a' w') a w
def qC(x:Region.noSelect ops=true)(y:∀c a w,¬Q (.panic c) a w):∀(l:List (Nat × Bool)) (listed:Array Bool) (a:Act) (w:World),sT md ops l listed=true->S w ->
 jG P ops Q S l a w->wpAnyH P md ops Q S (ao l) listed a w
 | [],listed,a,w,hB,_,h=>⟨by simpa[sT] using hB,h⟩
 | (i,true)::r,listed,a,w,hB,hS,h=>by
  simp only[sT,bQ] at hB;obtain⟨o,v,u,s,z⟩:=h;exact wpAnyH_take u x hB.1.2 hB.1.1 (λc a w t=>absurd t (y c _ w)) s hS (qC x y r _ _ w hB.2 hS z)
 | (i,false)::r,listed,a,w,hB,hS,h=>by
  simp only[sT,bQ,a_] at hB;refine⟨λv=>(by rw[hB.1] at v;cases v),λj z=>?_⟩
  rw[hB.1] at z;have t:j=i:=by simpa using z
  subst t;exact wpOp_mono (λu s z=>⟨z.1,qC x y r _ u s hB.2 z.1 z.2⟩) h
def Calm(Q:Exit->Act->World->Prop):Exit->Act->World->Prop
 | .panic _,_,_=>False
 | e,a,w=>Q e a w
def Calm.imp:∀(e:Exit) (a:Act) (w:World),Calm Q e a w->Q e a w:=λe a w h=>by
 cases e<;>first|exact h|exact(h:False).elim
def uk(S:World->Prop)(l:List (Nat × Bool))(x:P.follows .mixedOrders=true)
 (z:(Region.noSelect ops && decide (ao l=ops.size) && sT .any ops l (Array.replicate ops.size false))=true)
 (y:S w.drew) (h:jG P ops (Calm Q) S l a w.drew):(Code.region id ops true).wp P Q a w:=by
 simp only[bQ,a_] at z;have H:=qC (Q:=Calm Q) z.1.1 (λ_ _ _ h=>h) l _ a _ z.2 y h
 rw[z.1.2] at H;exact ft Calm.imp (wp_region_any x (wpAny_of_held _ _ _ _ H))
def uo(P:Program)(md:Region.Mode)(ops:Array Oper)(Q:Exit->Act->World->Prop)(S:World->Prop)(n:Nat)(L:Array Bool->Act->World->Prop):Nat->Array Bool->Act->World->Prop
 | 0,listed,a,w=>L listed a w
 | f+1,listed,a,w=>
  Region.ready md ops listed≠[]/\∀i∈Region.ready md ops listed,i<n/\wpOp P ops Q i (λa' w'=>S w'/\uo P md ops Q S n L f (listed.setIfInBounds i true) a' w') a w
def nD{n g:Nat}{L:Array Bool->Act->World->Prop}(z:∀listed a w,L listed a w->wpAny P md ops Q g listed a w) :
 ∀(f:Nat) (listed:Array Bool) (a:Act) (w:World),uo P md ops Q S n L f listed a w->wpAny P md ops Q (f+g) listed a w
 | 0,listed,a,w,h=>by rw[cJ];exact z _ _ _ h
 | f+1,listed,a,w,h=>by
  rw[show f+1+g=(f+g)+1 by omega]
  exact⟨λy=>absurd y h.1,λi v=>wpOp_mono (λy u x=>nD z f _ y u x.2) (h.2 i v).2⟩
def yl{n:Nat}{oi:Oper}{L:Array Bool->Act->World->Prop}(V:ops[i]?=some oi)(M:∀(j:Nat) (o:Oper) s b,ops[j]?=some o->o.op≠.select s b)
 (J:∀c a w,¬Q (.panic c) a w) (N:Region.sinkB md ops n=true) (T:Region.chainB md ops n=true) (O:n<ops.size) (R:i<n)
 (F:∀z a w,L z a w->∀j∈Region.ready md ops z,n<=j) :
 ∀(f:Nat) (z:Array Bool) (a:Act) (w:World),HeadInv md ops n z ->
  (∀j t,ops[j]?=some t->j≠i->z.getD j true=false->(∀e∈t.after,Region.binds md e=true->e.on≠i)->oi.apart ops t=true) ->
  i∈Region.ready md ops z->YieldsIf P ops S oi v a->S w ->
  uo P md ops Q S n L f (z.setIfInBounds i true) (a.put oi.dst v) w->uo P md ops Q S n L (f+1) z a w:=by
 intro f
 induction f with
 | zero=>
  intro z a w X _ x Y r H;have d:=(mem_ready.1 x).1;refine⟨λh=>(by rw[h] at x;cases x),λj u=>?_⟩
  have g:j<n:=by
   rcases bg j n with h|h
   ·exact h
   ·exact absurd u (tail_waits N T O X _ i rfl R d j h)
  refine⟨g,?_⟩
  by_cases y:j=i
  ·subst y;exact Y.wpOp V r ⟨r,H⟩
  ·have:=F _ _ _ H j (ready_mono u y)
   omega
 | succ f ih=>
  intro z a w X S x Y r H;have d:=(mem_ready.1 x).1;refine⟨λh=>(by rw[h] at x;cases x),λj u=>?_⟩
  have g:j<n:=by
   rcases bg j n with h|h
   ·exact h
   ·exact absurd u (tail_waits N T O X _ i rfl R d j h)
  refine⟨g,?_⟩
  by_cases y:j=i
  ·subst y;exact Y.wpOp V r ⟨r,H⟩
  ·have q:=(H.2 j (ready_mono u y)).2
   obtain⟨P,t,U,I⟩:=mem_ready.1 u;have m:∀e∈t.after,Region.binds md e=true->e.on≠i:=λe E G D=>by
    have q:=I e E G;rw[D,getD_both d] at q
    cases q
   have K:=wpOp_putIf U (S j t U y P m) (λs b=>M i oi s b V) (λs b=>M j t s b U) (λc a w s=>absurd s (J c _ w)) Y q
   have C:∀k s,ops[k]?=some s->k≠i->(z.setIfInBounds j true).getD k true=false ->
    (∀e∈s.after,Region.binds md e=true->e.on≠i)->oi.apart ops s=true:=λk s B A c l=>by
    refine S k s B A ?_ l
    by_cases p:j=k
    ·subst p;exact P
    ·rw[getD_set_ne true p] at c;exact c
   refine wpOp_mono (λb o p=>⟨p.2.1,ih (z.setIfInBounds j true) b o (X.set u g) C (ready_mono x (Ne.symm y)) p.1 p.2.1 ?_⟩) K
   rw[dV _ _ y];exact p.2.2
def sU(md:Region.Mode)(ops:Array Oper)(n g:Nat):List (Nat × Bool)->Array Bool->Bool
 | [],listed=>Region.seqB md ops g n listed
 | (i,true)::r,listed=>decide (i<n) && (Region.ready md ops listed).contains i && Region.free md ops listed i && sU md ops n g r (listed.setIfInBounds i true)
 | (i,false)::r,listed=>decide (i<n) && decide (Region.ready md ops listed=[i]) && sU md ops n g r (listed.setIfInBounds i true)
def jH(P:Program)(ops:Array Oper)(Q:Exit->Act->World->Prop)(S:World->Prop)(Lq:Act->World->Prop):List (Nat × Bool)->Act->World->Prop
 | [],a,w=>Lq a w
 | (i,true)::r,a,w=>∃o v,ops[i]?=some o/\YieldsIf P ops S o v a/\jH P ops Q S Lq r (a.put o.dst v) w
 | (i,false)::r,a,w=>wpOp P ops Q i (λa' w'=>S w'/\jH P ops Q S Lq r a' w') a w
def pd{n g:Nat}{Lq:Act->World->Prop}(f:Region.noSelect ops=true)(t:∀c a w,¬Q (.panic c) a w)(p:Region.sinkB md ops n=true)(s:Region.chainB md ops n=true)(q:n<ops.size) :
 ∀(l:List (Nat × Bool)) (listed:Array Bool) (a:Act) (w:World),sU md ops n g l listed=true->HeadInv md ops n listed->S w ->
 jH P ops Q S Lq l a w->uo P md ops Q S n (λz x d=>Region.seqB md ops g n z=true/\Lq x d) (ao l) listed a w
 | [],listed,a,w,hB,_,_,h=>⟨by simpa[sU] using hB,h⟩
 | (i,true)::r,listed,a,w,hB,inv,hS,h=>by
  simp only[sU,bQ,a_] at hB;obtain⟨⟨⟨z,y⟩,X⟩,u⟩:=hB;obtain⟨o,v,c,U,V⟩:=h;have b:i∈Region.ready md ops listed:=by simpa using y
  exact yl c (dK f) t p s q z (λ_ _ _ Y=>seqB_ready Y.1) (ao r) listed a w inv (dW c X) b U hS
   (pd f t p s q r _ _ w u (inv.set b z) hS V)
 | (i,false)::r,listed,a,w,hB,inv,hS,h=>by
  simp only[sU,bQ,a_] at hB;obtain⟨⟨z,y⟩,u⟩:=hB;refine⟨λc=>(by rw[y] at c;cases c),λj v=>?_⟩
  rw[y] at v;have b:j=i:=by simpa using v
  subst b;refine⟨z,wpOp_mono (λx d v=>⟨v.1,pd f t p s q r _ x d u (inv.set (by rw[y];simp) z) v.1 v.2⟩) h⟩
def tg(S:World->Prop)(n:Nat)(z:List (Nat × Bool))(p:P.follows .mixedOrders=true)
 (v:(Region.noSelect l.toArray && decide (n<l.toArray.size) && decide (ao z=n) && Region.sinkB .any l.toArray n && Region.chainB .any l.toArray n && sU .any l.toArray n (l.toArray.size - n) z (Array.replicate l.toArray.size false))=true)
 (r:S w.drew) (h:jH P l.toArray (Calm Q) S (λy x=>wpList P l.toArray (Calm Q) (l.drop n) y x) z a w.drew):(Code.region id l.toArray true).wp P Q a w:=by
 simp only[bQ,a_] at v;obtain⟨⟨⟨⟨⟨Y,f⟩,c⟩,b⟩,q⟩,d⟩:=v;have s:ao (l.drop n)=l.toArray.size - n:=ad
 have X:HeadInv .any l.toArray n (Array.replicate l.toArray.size false):=
  ⟨by simp,λj V _ u=>(by rw[getD_replicate_false] at u;cases u),λt _ g=>getD_in (by simpa using g) (getD_replicate_false _ _)⟩
 have H:=pd (Q:=Calm Q) (md:=.any) (g:=l.toArray.size - n) Y (λ_ _ _ h=>h) b q f z _ a _ d X r h
 have K:=nD (Q:=Calm Q) (g:=l.toArray.size - n) (λt y x u=>by
  have:=wpAny_of_seq (md:=.any) (Q':=Calm Q) (l.drop n) n t y x (λj=>by simp[dD]) (by rw[s];exact u.1) u.2
  rwa [s] at this) _ _ _ _ H
 rw[c,show n+(l.toArray.size - n)=l.toArray.size by omega] at K
 exact ft Calm.imp (wp_region_any p K)
def nE(v:Value)(w:World):Result Next->Prop
 | .ok r w'=>r=.value v/\w'=w
 | _=>False
def EG(v:Value)(w:World)(u:Value)(w':World):Prop:=u=v/\w'=w
@[go_sem] theorem On   (u:Value) (z:World):nE v w (.ok (.value u) z)=EG v w u z:=by
 simp[nE,EG]
def zI(s:ops[i]?=some o)(q:Region.wanted o (yielded ops a.tmps)=true)
 (h:∀R:Act->Prop,(∀z,jG P ops Q S r z w->R z)->∃v,(∀z,S z->nE v z ((execOp a.eval o).run P z))/\R (a.put o.dst v)):jG P ops Q S ((i,true)::r) a w:=by
 obtain⟨v,u,t⟩:=h _ (λ_ h=>h)
 refine⟨o,v,s,.inl ⟨q,λz x=>?_⟩,t⟩
 have y:=u z x;generalize (execOp a.eval o).run P z=x at *
 cases x with
 | ok n w''=>obtain⟨rfl,rfl⟩:=y;rfl
 | halt x w''=>exact y.elim
def zJ(z:ops[i]?=some o)(y:Region.wanted o (yielded ops a.tmps)=false)
 (h:jG P ops Q S r (a.put o.dst undef) w):jG P ops Q S ((i,true)::r) a w:=⟨o,undef,z,.inr ⟨y,rfl⟩,h⟩
def Gt(x:ops[i]?=some o)(v:Region.wanted o (yielded ops a.tmps)=true)
 (h:∀K:Act->World->Prop,(∀y z,S z->jG P ops Q S r y z->K y z)->o.wp P a w K Q):jG P ops Q S ((i,false)::r) a w:=by
 unfold jG wpOp;simp only[x,v,if_true];exact .inl (h _ λ_ _ z y=>⟨z,y⟩)
def gM(h:Q .normal a w):jG P ops (Calm Q) S [] a w:=h
def ym(s:ops[i]?=some o)(q:Region.wanted o (yielded ops a.tmps)=true)
 (h:∀R:Act->Prop,(∀z,jH P ops Q S Lq r z w->R z)->∃v,(∀z,S z->nE v z ((execOp a.eval o).run P z))/\R (a.put o.dst v)):jH P ops Q S Lq ((i,true)::r) a w:=by
 obtain⟨v,u,t⟩:=h _ (λ_ h=>h)
 refine⟨o,v,s,.inl ⟨q,λz x=>?_⟩,t⟩
 have y:=u z x;generalize (execOp a.eval o).run P z=x at *
 cases x with
 | ok n w''=>obtain⟨rfl,rfl⟩:=y;rfl
 | halt x w''=>exact y.elim
def Cr(x:ops[i]?=some o)(v:Region.wanted o (yielded ops a.tmps)=true)
 (h:∀K:Act->World->Prop,(∀y z,S z->jH P ops Q S Lq r y z->K y z)->o.wp P a w K Q):jH P ops Q S Lq ((i,false)::r) a w:=by
 unfold jH wpOp;simp only[x,v,if_true];exact .inl (h _ λ_ _ z y=>⟨z,y⟩)
def gU(h:Lq a w):jH P ops Q S Lq [] a w:=h
def gQ(h:Q .normal a w):Calm Q .normal a w:=h
def gW:Nat->Nat->List (Nat × Bool)->List (Nat × Bool)
 | _,0,r=>r
 | i,n+1,r=>(i,true)::gW (i+1) n r
def ib(i:Nat)(r:List (Nat × Bool)):List (Nat × Bool):=(i,false)::r
def hC(k:jG P ops Q S r a' w)(u:ops[i]?=some o:=by rfl)(t:Region.wanted o (yielded ops a.tmps)=true:=by rfl)
 (h:∀z,S z->nE v z ((execOp a.eval o).run P z):=by
  intro z y
  first
  | (have q:=Z.o z y;(repeat ((with_reducible have s:=And.left q);(with_reducible replace q:=And.right q)));exact Qv)
  | (exact Qv))
 (x:∀R:Act->Prop,R a'->R (a.put o.dst v):=by intro R y;go_simp;exact y):jG P ops Q S ((i,true)::r) a w:=
 zI u t λR y=>⟨v,h,x R (y _ k)⟩
def jw(k:jH P ops Q S Lq r a' w)(u:ops[i]?=some o:=by rfl)(t:Region.wanted o (yielded ops a.tmps)=true:=by rfl)
 (h:∀z,S z->nE v z ((execOp a.eval o).run P z):=by
  intro z y
  first
  | (have q:=Z.o z y;(repeat ((with_reducible have s:=And.left q);(with_reducible replace q:=And.right q)));exact Qv)
  | (exact Qv))
 (x:∀R:Act->Prop,R a'->R (a.put o.dst v):=by intro R y;go_simp;exact y):jH P ops Q S Lq ((i,true)::r) a w:=
 ym u t λR y=>⟨v,h,x R (y _ k)⟩
def iy(h:∀K:Act->World->Prop,(∀y z,S z->jG P ops Q S r y z->K y z)->o.wp P a w K Q)
 (x:ops[i]?=some o:=by rfl) (v:Region.wanted o (yielded ops a.tmps)=true:=by rfl):jG P ops Q S ((i,false)::r) a w:=Gt x v h
def mg(h:∀K:Act->World->Prop,(∀y z,S z->jH P ops Q S Lq r y z->K y z)->o.wp P a w K Q)
 (x:ops[i]?=some o:=by rfl) (v:Region.wanted o (yielded ops a.tmps)=true:=by rfl):jH P ops Q S Lq ((i,false)::r) a w:=Cr x v h
def jI(h:jG P ops Q S r (a.put o.dst undef) w)(z:ops[i]?=some o:=by rfl)(y:Region.wanted o (yielded ops a.tmps)=false:=by rfl):jG P ops Q S ((i,true)::r) a w:=zJ z y h
def i'(S:World->Prop)(l:List (Nat × Bool))(y:S w.drew)(h:jG P ops (Calm Q) S l a w.drew)(x:P.follows .mixedOrders=true:=by kernel_rfl)
 (z:(Region.noSelect ops && decide (ao l=ops.size) && sT .any ops l (Array.replicate ops.size false))=true:=by kernel_rfl):(Code.region id ops true).wp P Q a w:=uk S l x z y h
def ki(S:World->Prop)(n:Nat)(z:List (Nat × Bool))(v:S w.drew)(h:jH P l.toArray (Calm Q) S (λy t=>wpList P l.toArray (Calm Q) (l.drop n) y t) z a w.drew)(u:P.follows .mixedOrders=true:=by kernel_rfl)
 (x:(Region.noSelect l.toArray && decide (n<l.toArray.size) && decide (ao z=n) && Region.sinkB .any l.toArray n && Region.chainB .any l.toArray n && sU .any l.toArray n (l.toArray.size - n) z (Array.replicate l.toArray.size false))=true:=by kernel_rfl):(Code.region id l.toArray true).wp P Q a w:=tg S n z u x v h
end
variable{w w':World}{o:Oper}{a:Act}{Q:Exit->Act->World->Prop}{g:Nat}{F:Nat->Prop}{d hi lo:Int}{L W:List Mn}
structure MD(d n done weight:Int):Prop where
 d0:0<=d
 d1:d<=1000
 n1:n<=281474976710656
 e0:0<=done
 w0:0<weight
 dw:done+weight<=n
def yn(d n done z:Int)(w:World)(M:MD d n done z) :
 ar Oe 320 #[.int .i64 d,.int .u64 n,.int .u64 done,.int .u64 z] w (aw w (.bool (rf d n done z))):=by
 obtain⟨x,v,b,p,Y,q⟩:=M;have s:0<=z * d:=cG aa x
 have a:z * d<=z * 1000:=bH v aa
 have y:=ay (Ey (z * d * n) ((2 * done+z) * (2 * n - 2 * done - z)))
 go_in
 go_wp2_with fail;refine(tO (z * d) n _ s aa  aa  aa).mono ?_
 rintro e X ⟨rfl,u⟩;have f:=u.size
 go_wp2_with fail;refine(tO (2 * done+z) (2 * n - 2 * done - z) _ aa  aa  aa  aa).mono ?_
 rintro e V ⟨rfl,t⟩;have c:=t.size
 go_wp2_with fail;refine(Mu _ _ _).mono ?_
 rintro e U ⟨rfl,g⟩
 go_wp2
 go_ret;exact⟨nw y.o,bw⟩
def Jq(d n done z:Int)(w:World)(M:MD d n done z) :
 ar Oe 231 #[.int .i64 d,.int .u64 n,.int .u64 done,.int .u64 z] w (aw w (.bool (rf d n done z))):=by
 obtain⟨q,p,O,R,L,S⟩:=M;have x:0<=z * d:=cG aa q
 have N:z * d<=z * 1000:=bH p aa
 have r:=ay (Ey (z * d * n) ((2 * done+z) * (2 * n - 2 * done - z)));have s:=ay (show 2 * (n - done) - z=2 * n - 2 * done - z by omega)
 obtain⟨Y,X⟩:=pJ (a:=z * d) (b:=n) x aa  aa  aa
 obtain⟨f,c⟩:=pJ (a:=2 * done+z) (b:=2 * (n - done) - z) aa  aa  aa  aa
 go_in
 go_wp2_with fail;refine(tX (z * d) n _ x aa  aa  aa).mono ?_
 rintro e K ⟨V,rfl,y,g⟩;have u:=ay y;have Q:=g.size;clear y
 go_wp2_with fail;refine(tX (2 * done+z) (2 * (n - done) - z) _ aa  aa  aa  aa).mono ?_
 rintro e J ⟨U,rfl,v,y⟩;have t:=ay v;have P:=y.size;clear v
 go_wp2_with fail;refine(Jj V U _ _ _ (u.o.keep y) t.o Y X f c).mono ?_
 rintro e I ⟨rfl,v⟩;rw[s.o]
 go_wp2
 go_ret;exact⟨nw r.o,bw⟩
def Jr(u v t z:Int)(w:World)(a:-9223372036854775808<=u)(g:u<=t)(Y:t<=9223372036854775807)(X:0<=v)(U:0<z)(f:v+z<18446744073709551616) :
 ar Oe 232 #[.int .i64 u,.int .u64 v,.int .i64 t,.int .u64 z] w (aw w (.int .i64 (jN u t z (v+z)))):=by
 have c:IntKind.u64.wrap (IntKind.u64.wrap t - IntKind.u64.wrap u)=t - u:=by simp only[g_];omega
 obtain⟨q,p⟩:=nz g (x:=z) (y:=v+z) aa  aa  aa
 have s:wrap64 (IntKind.u64.wrap (IntKind.u64.wrap u+(t - u) * z / (v+z)))=jN u t z (v+z):=by
  simp only[g_,wrap64];unfold jN at *;omega
 have r:=ay s;clear q p s
 go_in
 go_wp2_with (first|(go_at_call 142;refine(mH (t - u) _ _ _ aa  aa  aa  aa  aa f).mono ?_;rintro e V ⟨rfl,s⟩;have⟨p,b⟩:=oW s;have q:=s.size;try simp only[aI,bW,cW,World.hN] at q))
 go_ret;exact⟨ie r.o,bw⟩
def wU(a b:Mn)(w:World) :
 ar Oe 245 #[.agg #[.int .i64 a.1,.int .u64 a.2],.agg #[.int .i64 b.1,.int .u64 b.2]] w (aw w (.bool (decide (a.1<b.1)))):=by
 go_in
 go_wp2
 go_ret;exact⟨rfl,bw⟩
def hY(v:Value)(l:List Mn)(w:World)(h:kR w v l)(y:kg l)(S:tot l<=18446744073709551615) :
 ar Oe 60 #[v] w (aw w (.int .u64 (tot l))):=by
 obtain⟨A,c,rfl,T,X,z⟩:=h.form;have s:=ay z;clear z h
 go_in
 go_wp2
 go_loopg [3,4] (ao l) (λk n i wr=>∃j:Nat,k=ao l - j/\j<=ao l/\n=.int .u64 (tot (l.take j))/\i=.int .i64 j/\aq w wr)
 exact⟨0,rfl,aa,rfl,rfl,aC _ _⟩
 case round=>
  obtain⟨j,z,U,rfl,rfl,d⟩:=hrel;have t:=ay z;clear z
  by_cases z:j<ao l
  ·obtain⟨g,R,rfl,V,p,f⟩:=(s.o.keep d).at_ z
   have Q:=y.mC j;have a:=y.pL z;have b:=(y.get z).2.2;have r:=ay (hQ l j z);obtain⟨x,u⟩:=au (l[j].2);rw[u] at f a b;have q:=ay u;clear u p
   go_wp2
   go_roundg (ao l - (j+1))
   exact⟨j+1,rfl,aa,by rw[r.o,q.o],ag,bw⟩
   have:=t.o;omega
  ·go_wp2
   go_ret;exact⟨ie (by rw[bj aa]),bw⟩
def EH:(prog.info? 216).map (λi=>(i.zero,i.size,i.bytes))=some (some (.agg #[.int .i64 0,.int .u64 0]),2,16):=by kernel_rfl
def iI{ops:Array Oper}{rest:List Oper}(b:o.guard=none)(s x:Operand)
 (X:o.op=.call {callee:=.builtin .append,args:=#[s,x],argTypes:=#[109,109]})
 (r:Nat) (v:Value) (xs:List Mn) (U:a.eval s=v) (V:g7 r w v xs)
 (u:Value) (y:List Mn) (T:a.eval x=u) (q:kR w u y)
 (N:ao xs+ao y<=1099511627776) (d:r<=w.heap.size)
 (h:∀z t,g7 r t z (xs++y)->w.grownBy t v.ownBlock->(z.ownBlock=v.ownBlock\/z.ownBlock=some w.heap.size)->wpList prog ops Q rest (a.put o.dst z) t):wpList prog ops Q (o::rest) a w:=by
 obtain⟨O,Y,S,R,P⟩:=cx EH;obtain⟨A,c,rfl,_,_,_⟩:=q.form;refine jv w b s x 109 X r 216 O _ 2 16 underlying109 Y S R P rfl aa v (ao xs) (hI xs) U V A (ao y) c (hI y) T q (nY _)
  (by unfold maxLen;omega) aa d λz t p g f=>h z t ?_ g f
 unfold g7;rw[aE,lC];exact p
def sV{K:Act->World->Prop}(s x:Operand)
 (Y:o.op=.call {callee:=.builtin .append,args:=#[s,x],argTypes:=#[109,109]})
 (r:Nat) (v:Value) (xs:List Mn) (V:a.eval s=v) (X:g7 r w v xs)
 (u:Value) (y:List Mn) (U:a.eval x=u) (q:kR w u y)
 (O:ao xs+ao y<=1099511627776) (d:r<=w.heap.size)
 (h:∀z t,g7 r t z (xs++y)->w.grownBy t v.ownBlock->(z.ownBlock=v.ownBlock\/z.ownBlock=some w.heap.size)->K (a.put o.dst z) t):o.wp prog a w K Q:=by
 obtain⟨P,b,T,S,R⟩:=cx EH;obtain⟨A,c,rfl,_,_,_⟩:=q.form;refine kF w s x 109 Y r 216 P _ 2 16 underlying109 b T S R rfl aa v (ao xs) (hI xs) V X A (ao y) c (hI y) U q (nY _)
  (by unfold maxLen;omega) aa d λz t p g f=>h z t ?_ g f
 unfold g7;rw[aE,lC];exact p
def oO(w:World)(g:Nat)(F:Nat->Prop)(d:Int)(L W:List Mn)(lo hi:Int):Prop:=
 ∃lv wv,gN w g 111 #[.int .i64 d,lv,wv,.int .i64 lo,.int .i64 hi]/\g7 0 w lv L/\g7 0 w wv W/\F g/\(∀k,lv.ownBlock=some k->F k)/\(∀k,wv.ownBlock=some k->F k) /\
  (∀k,wv.ownBlock=some k->lv.ownBlock≠some k)/\(∀k,F k->k<w.heap.size)
def oO.stay(h:oO w g F d L W lo hi)(z:∀k,F k->w'.heap[k]?=w.heap[k]?)(f:w.heap.size<=w'.heap.size):oO w' g F d L W lo hi:=by
 obtain⟨c,b,s,q,p,v,y,x,u,t⟩:=h;exact⟨c,b,(z g v).trans s,q.stay λk e=>z k (y k e),p.stay λk e=>z k (x k e),v,y,x,u,λk r=>aR (t k r) f⟩
def oO.keep(h:oO w g F d L W lo hi)(y:aq w w'):oO w' g F d L W lo hi:=by
 have z:=h;obtain⟨v,u,_,_,_,_,_,_,_,z⟩:=z;exact h.stay (λk x=>y.block k (z k x)) y.size
def jx(g:Nat)(F:Nat->Prop)(d X b:Int)(L W:List Mn)(w:World)(h:oO w g F d L W X b)(P:ao L+ao W<=1099511627776) :
 ar Oe 61 #[.pointer (some ⟨g,0,none⟩)] w λe u=>∃v,e=.returned v/\g7 w.heap.size u v (L++W)/\aq w u:=by
 obtain⟨V,R,z,y,x,Q,v,r,q,c⟩:=h;have p:=z.k1;have f:=z.k2;have O:=z.lt;have t:=ay y;have s:=ay x;clear z y x v r q c
 go_in
 go_wp2_with (first
  | (at_builtin
     refine iI rfl (.tmp 4) (.tmp 8) rfl w.heap.size (.slice none 0 0) [] rfl (g7.nil_ _ _) V L rfl t.o.rd (by simp only[aV];omega) (aD _) ?_
     intro U q v x r;have z:aq w q:=(aC _ _).grown x (aD _) (by simp[Value.ownBlock])
     have Y:=z.size;have⟨c,a⟩:=oW z;have y:=ay v;clear v x r)
  | (at_builtin
     refine iI rfl (.tmp 10) (.tmp 14) rfl w.heap.size U ([]++L) rfl y.o R W rfl (s.o.keep z).rd (by simp only[cZ];omega) aa ?_
     intro T S v x q;have c:aq w S:=z.grown x Y (λk a=>(y.o.lt k a).1)
     have r:=ay v;clear v x q))
 go_ret;exact⟨T,rfl,r.o,c⟩
structure EI(x:Mn)(out:List Mn)(k:Nat):Prop where
 le:∀j (h:j<ao out),j<k->out[j].1<=x.1
def EI.next{x:Mn}{out:List Mn}{k:Nat}(h:EI x out k)(t:k<ao out)(v:out[k].1<=x.1):EI x out (k+1):=
 ⟨λj y u=>by
  rcases bg j k with z|z
  ·exact h.le j y z
  ·have:j=k:=aa
   subst this;exact v⟩
def Gu(v:Value)(l:List Mn)(w:World)(h:kR w v l)(hlen:ao l<=1000000000) :
 ar Oe 230 #[v] w λe w'=>∃v,e=.returned v/\g7 w.heap.size w' v (iJ l)/\aq w w':=by
 obtain⟨A,c,rfl,hn,hc,z⟩:=h.form;have HP:=ay z;clear z h
 go_in
 go_wp2
 go_loopg [3,4] (ao l) (λq o i wr=>∃j:Nat,q=ao l - j/\j<=ao l/\i=.int .i64 j/\g7 w.heap.size wr o (iJ (l.take j))/\aq w wr)
 exact⟨0,rfl,aa,rfl,g7.nil_ _ _,aC _ _⟩
 case round=>
  obtain⟨j,t,L,rfl,Q,M⟩:=hrel;obtain⟨z,rfl⟩:∃z:World,z=wr:=⟨_,rfl⟩;have HK:=ay t;have W:=M.size;clear t;have E:=jr (l.take j);rw[aU,dk L] at E
  by_cases n:j<ao l
  ·have HT:=ay (wj l j n)
   obtain⟨x,y⟩:=au (l[j]);have HX:=ay y;obtain⟨g,F,rfl,G,N,H⟩:=(HP.o.keep M).at_ n;rw[y] at N H;clear y;obtain⟨S,y⟩:=au (iJ (l.take j));rw[y] at Q E;have HS:=ay y;have HO:=ay Q;obtain⟨B,d,rfl,hn2,hc2,u⟩:=Q.form;have o:=ay u;have hsl:ao S<=1000000000:=aa
   clear y Q u E
   go_upto_block 2 with fail
   go_cut [5,6] (λb V wr=>∃k:Nat,V=.int .i64 k/\k<=ao S/\g7 z.heap.size wr b (S.take k)/\Hid (ins x S=S.take k++x::S.drop k)/\aq z wr)
   case first=>
    go_wp2
    go_loopg [5,6] (ao S) (λr b V wr=>∃k:Nat,r=ao S - k/\V=.int .i64 k/\k<=ao S/\g7 z.heap.size wr b (S.take k)/\Hid (EI x S k)/\aq z wr)
    exact⟨0,rfl,rfl,aa,g7.nil_ _ _,⟨λj _ h=>absurd h aa⟩,aC _ _⟩
    case round=>
     obtain⟨q,t,rfl,m,s,U,y⟩:=hrel;have I:=ay t;have O:=y.size;have u:=ay s;clear t s;have D:=(y.cell (p:=⟨g,F+j * 2,none⟩) G).trans N
     by_cases a:q<ao S
     ·obtain⟨P,SK,rfl,hg2,e0,e1⟩:=(o.o.keep y).at_ a
      by_cases C:S[q].1<=x.1
      ·have X:=ay (U.o.next a C)
       go_wp2_with fail
       go_quiet (fail)
       go_wp2_with (first
        | (at_builtin
           refine iI rfl (.tmp 30) (.tmp 35) rfl z.heap.size u5 (S.take q) rfl ((u.o.drewN _).alloc _) _ [S[q]] rfl (kR.one _ S[q]) (by simp only[aU,bu];omega) (by simp only[aI,hN];omega) ?_
           intro i R Y f T;have J:aq z R:=((below_drewN y _).alloc (by simp only[hN];omega) _).grown f (by simp only[aI,hN];omega) (λk t=>(u.o.lt k t).1)
           have K:=ay Y;clear Y f T))
       go_roundg (ao S - (q+1))
       exact⟨q+1,rfl,ag,aa,by rw[aM a];exact K.o,X,J⟩
       have:=I.o;omega
      ·have X:Hid (ins x S=S.take q++x::S.drop q):=r8 x S q aa (λj h L=>U.o.le j h L) (λ_=>by omega)
       go_wp2_with fail
       go_quiet (fail)
       go_wp2_with fail
       go_meet
       exact⟨q,rfl,aa,u.o.drewN _,X,bw⟩
     ·have X:Hid (ins x S=S.take q++x::S.drop q):=r8 x S q aa (λj h L=>U.o.le j h aa) (λh=>absurd h a)
      go_wp2_with fail
      go_quiet (fail)
      go_wp2_with fail
      go_meet
      exact⟨q,rfl,aa,u.o.drewN _,X,bw⟩
   case rest=>
    obtain⟨q,rfl,m,s,X,y⟩:=hcut;have u:=ay s;have O:=y.size;have D:=(y.cell (p:=⟨g,F+j * 2,none⟩) G).trans N;have C:=(y.cell (p:=⟨g,F+j * 2+1,none⟩) G).trans H;clear s N H
    go_upto_block 4 with(first
     | (at_builtin
        refine iI rfl (.tmp 39) (.tmp 44) rfl z.heap.size u5 (S.take q) rfl (u.o.alloc _) _ [x] rfl (kR.one _ x) (by simp only[aU,bu];omega) (by simp only[aI];omega) ?_
        intro i R Y f T;have J:aq z R:=(y.alloc aa _).grown f (by simp only[aI];omega) (λk t=>(u.o.lt k t).1)
        have K:=ay Y;clear Y f T))
    obtain⟨T,f⟩:=au (ins x S);rw[f] at X;obtain⟨R,U,Y⟩:=Ja X.o m;have T1:=ay U;have T2:=ay Y;have TL:=ay R;have i:=ay f;clear U Y R f u O D C y
    go_cut [5,6] (λb V wr=>g7 z.heap.size wr b T/\aq z wr)
    case first=>
     go_wp2
     go_loopg [5,6] (ao S - q) (λr b V wr=>∃k:Nat,r=ao S - k/\V=.int .i64 k/\q<=k/\k<=ao S/\g7 z.heap.size wr b (T.take (k+1))/\aq z wr)
     exact⟨q,rfl,rfl,aa,aa,by rw[T1.o];exact K.o,J⟩
     case round=>
      obtain⟨k,t,rfl,U,D,s,y⟩:=hrel;have I:=ay t;have O:=y.size;have u:=ay s;clear t s
      by_cases a:k<ao S
      ·obtain⟨P,SK,rfl,hg2,e0,e1⟩:=(o.o.keep y).at_ a
       go_wp2_with (first
        | (at_builtin
           refine iI rfl (.tmp 50) (.tmp 55) rfl z.heap.size u5 (T.take (k+1)) rfl (u.o.alloc _) _ [S[k]] rfl (kR.one _ S[k]) (by simp only[aU,bu];omega) (by simp only[aI];omega) ?_
           intro R b r P f;have V:aq z b:=(y.alloc aa _).grown P (by simp only[aI];omega) (λk t=>(u.o.lt k t).1)
           have Y:=ay r;clear r P f))
       go_roundg (ao S - (k+1))
       exact⟨k+1,rfl,ag,aa,aa,by rw[T2.o k a U];exact Y.o,V⟩
       have:=I.o;omega
      ·go_wp2_with fail
       go_meet
       exact⟨by have h:=u.o;rwa [bj (by have:=TL.o;omega)] at h,y⟩
    case rest=>
     obtain⟨s,y⟩:=hcut;have u:=ay s;have O:=y.size;clear s
     go_wp2
     go_roundg (ao l - (j+1))
     exact⟨j+1,rfl,aa,ag,by rw[HT.o,HX.o,HS.o,i.o];exact u.o.more W,nx y W M⟩
     have:=HK.o;omega
  ·have u:=ay Q
   clear Q
   go_wp2
   go_ret;refine⟨_,rfl,?_,M⟩
   have h:=u.o
   rwa [bj (show ao l<=j by omega)] at h
def od(d:Int)(v:Value)(l:List Mn)(w:World)(h:kR w v l)(ho:kg l)(hlen:ao l<=1000000000)(ht:tot l<=281474976710656)(d0:0<=d)(d1:d<=1000) :
 ar Oe 143 #[.int .i64 d,v] w λe r=>∃v,e=.returned v/\g7 w.heap.size r v (jM d l)/\aq w r:=by
 have H:=ay h;have h2:=h.form;obtain⟨A0,c0,rfl,_,_,_⟩:=h2;clear h
 go_in
 go_wp2_with fail;refine(Gu _ l _ H.o hlen).mono ?_
 rintro e w1 ⟨v1,rfl,z,hb1⟩;have hz1:=hb1.size;have t:=jr l;have s:=nZ l;have y:=pK l;have h:=ho.iJ;have F:Hid (jM d l=mD d (tot (iJ l)) (iJ l)):=by show _=_;rw[jM,nZ]
 obtain⟨S,x⟩:=au (iJ l);rw[x] at z t s y h F;have hsl1:ao S<=1000000000:=aa
 have hst1:tot S<=281474976710656:=aa
 have O1:=ay z;obtain⟨A,c,rfl,hn,hc,u⟩:=z.form;have HP:=ay u;have HR:=ay y;clear z u x t s y
 go_wp2_with fail;refine(hY _ S _ O1.o.rd h aa).mono ?_
 rintro e x ⟨rfl,hb2⟩;have hz2:=hb2.size
 go_wp2
 go_loopg [7,8,9] (ao S) (λq o u i wr=>∃j:Nat,q=ao S - j/\j<=ao S/\i=.int .i64 j/\aq x wr /\
  ((j=0/\o=.slice none 0 0/\u=.int .u64 0)\/(∃z y,0<j/\o6 d (tot S) S j z y/\u=.int .u64 (tot z)/\g7 x.heap.size wr o (z++[y]))))
 exact⟨0,rfl,aa,rfl,aC _ _,.inl ⟨rfl,rfl,rfl⟩⟩
 case round=>
  obtain⟨j,L,hj,rfl,O,n⟩:=hrel;have HK:=ay L;have hz:=O.size;clear L
  by_cases T:j<ao S
  ·obtain⟨g,off,rfl,W,P,U⟩:=((HP.o.keep hb2).keep O).at_ T
   go_upto_block 1 with fail
   go_cut [7,8] (λo u t=>aq x t/\∃z y,o6 d (tot S) S (j+1) z y/\u=.int .u64 (tot z)/\g7 x.heap.size t o (z++[y]))
   case first=>
    rcases n with⟨rfl,rfl,rfl⟩|⟨z,y,j0,u,rfl,t⟩
    ·have p:=ay (o6.start d T h HR.o)
     have s:((0:Nat):Int)=0:=rfl;simp only[db,bP] at P U;rw[s];clear s
     go_wp2_with (first
      | (at_builtin
         refine iI rfl (.tmp 23) (.tmp 28) rfl x.heap.size (.slice none 0 0) [] rfl (g7.nil_ _ _) _ [S[0]] rfl (kR.one _ S[0]) ad (by simp only[aI];omega) ?_
         intro v1 f q s Y;have b:aq x f:=(O.alloc aa _).grown s (by simp only[aI];omega) (by simp[Value.ownBlock])
         have a:=ay q;clear q s Y))
     go_meet
     exact⟨b,[],S[0],p.o,rfl,a.o⟩
    ·obtain⟨f1,D,C,f4,f5⟩:=u.facts T
     have hlen2:=u.len;obtain⟨B,c2,rfl,b1,V,b3,b4⟩:=t.pos ad
     have hj0:((j:Int) == 0)=false:=af
     have E:=t.at_ (j:=ao z) (by simp)
     rw[dF aa] at E
     simp only[eN,bn] at E;obtain⟨Q,Y,J,I⟩:=E;have s:=ay t;have X:=ay u;clear t u;have MB:MD d (tot S) (tot z) (y.2+S[j].2):=⟨d0,d1,hst1,f1,by have:=D.2.2;have:=C.2.2;omega,f5⟩
     have p1:=D.2.2;have p2:=C.2.2;obtain⟨N,q⟩:=au (ao (z++[y]));obtain⟨m,p⟩:=au (ao z);have a:N=m+1:=by rw[<-q,<-p];simp
     rw[p] at Q Y J I hlen2;rw[q] at s b3 |-;have YY:(N:Int) - 1=(m:Int):=aa
     have i0:(0:Int)<=(m:Int):=aa
     have i1:(m:Int)<(N:Int):=aa
     have HM:=ay p;have HN:=ay q;clear q p a;have i2:(0:Int)<=((j:Nat):Int):=aa
     have i3:((j:Nat):Int)<((ao S:Nat):Int):=aa
     have s1:IntKind.u64.wrap (y.2+S[j].2)=y.2+S[j].2:=Of _ aa  aa
     go_upto_region 11 with fail
     go_region_held3 (λr=>r.cell? ⟨B,m * 2+1,none⟩=some (.int .u64 y.2)/\r.cell? ⟨g,off+j * 2+1,none⟩=some (.int .u64 S[j].2)) (first|go_keep|exact⟨(q _ _ ah).trans Y,(q _ _ ah).trans U⟩)
      (first|(go_at_call 231;refine(Jq d (tot S) (tot z) (y.2+S[j].2) _ MB).mono ?_;rintro e f ⟨rfl,b⟩;have⟨q,p⟩:=oW b;have a:=b.size;try simp only[aI,bW,cW,World.hN] at a))
     have hs3:=b.size;have a:B<f.heap.size:=aR V hs3;have hg4:g<f.heap.size:=aR W hs3;replace Q:=(q _ _ V).trans Q;replace Y:=(q _ _ V).trans Y;replace J:=(p _ _ V).trans J;replace I:=(p _ _ V).trans I;replace P:=(q _ _ W).trans P;replace U:=(q _ _ W).trans U;clear q p;have M:aq wr f:=(aC _ _).drew.trans b
     by_cases K:rf d (tot S) (tot z) (y.2+S[j].2)=true
     ·have G:=ay (X.o.merge T K)
      rw[K]
      go_upto_region 12 with fail;refine uj (λr=>aq f r) 36 (by kernel_rfl) (by kernel_rfl) (aC _ _).drew ?_
      simp only[dh,cY,bc,bp]
      iterate 36 (first
       | (refine Gs rfl (λR i=>?_)
          apply br
          refine⟨λr q=>?_,?_⟩
          ·have k:=(q.cell (p:=⟨_,_,none⟩) a).trans Q
           have k1:=(q.cell (p:=⟨_,_,none⟩) a).trans Y;have k2:=(q.cell (p:=⟨_,_,none⟩) hg4).trans P;have k3:=(q.cell (p:=⟨_,_,none⟩) hg4).trans U
           go_simp
           first
            | exact⟨rfl,q⟩
            | (refine(Jr y.1 y.2 S[j].1 S[j].2 _ D.1 f4 C.2.1 aa p2 aa).mono ?_
               rintro e w4 ⟨rfl,o⟩;exact⟨rfl,q.trans (o.mono q.size)⟩)
          go_simp;refine i _ ?_;clear i R))
      refine Cq ?_
      intro R q;have k2:=(q.frozen (p:=⟨_,_,none⟩) a).trans J;have k3:=(q.frozen (p:=⟨_,_,none⟩) a).trans I;have k:=(q.cell (p:=⟨_,_,none⟩) a).trans Q;have k1:=(q.cell (p:=⟨_,_,none⟩) a).trans Y
      go_wp2_with fail
      go_meet
      exact⟨bw,z,_,G.o,rfl,((s.o.keep M).keep q).setLast _ HM.o HN.o⟩
     ·have q:rf d (tot S) (tot z) (y.2+S[j].2)=false:=by simpa using K
      have G:=ay (X.o.push T q);have R:Hid (tot (z++[y])=tot z+y.2):=by show _=_;rw[gY];simp[tot]
      have hal:ao z+1<=1000000000:=by have:=X.o.len;omega
      rw[q];clear K q
      go_wp2_with (first
       | (at_builtin
          refine iI rfl (.tmp 91) (.tmp 96) rfl x.heap.size (.slice (some ⟨B,0,none⟩) N c2) (z++[y]) rfl ((s.o.keep M).alloc _) _ [S[j]] rfl (kR.one _ S[j]) (by simp only[aE,bu];omega) ah ?_
          intro v1 w6 p q a6;have hb6:aq x w6:=((O.trans (M.mono hz)).alloc ah _).grown q ah (λk L=>((s.o.keep M).lt k L).1)
          have i:=ay p;clear p q a6))
      go_meet
      exact⟨hb6,z++[y],S[j],G.o,by rw[R.o],i.o⟩
   case rest=>
    obtain⟨o,z,y,u,rfl,t⟩:=hcut;have X:=ay u;have s:=ay t;clear u t n
    go_wp2
    go_roundg (ao S - (j+1))
    exact⟨j+1,rfl,aa,ag,o,.inr ⟨z,y,aa,X.o,rfl,s.o⟩⟩
    have:=HK.o;omega
  ·have p:j=ao S:=aa
   rcases n with⟨f,rfl,rfl⟩|⟨z,y,j0,u,rfl,t⟩
   ·have g:S=[]:=aN aa
    have q:Hid (jM d l=[]):=by show _=_;rw[F.o,g];rfl
    go_wp2
    go_ret;exact⟨_,rfl,by rw[q.o];exact g7.nil_ _ _,bw⟩
   ·have q:Hid (jM d l=z++[y]):=by
     show _=_
     rw[p] at u;rw[F.o,u.fin]
    have s:=ay t;clear u t p
    go_wp2
    go_ret;exact⟨_,rfl,by rw[q.o];exact s.o.more aa,bw⟩
end Go.Proofs.YtdicblkhpcphfaaGreat
