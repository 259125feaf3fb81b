/- Parts. No condition. -/
import Derived.Test.YtdicblkhpcphfaaGreatPA25
set_option maxRecDepth 100000
set_option maxHeartbeats 0
set_option linter.all false
namespace Go.Proofs.YtdicblkhpcphfaaGreat
open Tryz Go.RowKit Go.Lib
open _root_.List renaming length→ao
open _root_.Go renaming Calls→ar
open Tryz renaming prog→Oe
namespace K
section
variable{l:List Int}{j led:Nat}{L:LL}{k:Int}
def yX(p:Option Int)(v:Int):List Int:=match p with
 | none=>zg v
 | some q=>hZ (v - q)
def pD:Option Int->List Int->List Int
 | _,[]=>[]
 | p,v::l=>yX p v++pD (some v) l
def K9(l:List Int):List Int:=hZ (ao l)++pD none l
def kz:LL->List Int
 | []=>[]
 | l::L=>K9 l++kz L
def wg(k:Int)(L:LL)(led:Nat):List Int:=hZ k++(hZ led++(hZ (ao L)++kz L))
def xK:Option Int->List Int->Option Int
 | p,[]=>p
 | _,v::l=>xK (some v) l
def vr(v:Int):∀(p:Option Int) (l:List Int),xK p (l++[v])=some v
 | _,[]=>rfl
 | _,x::l=>vr v (some x) l
def vt(v:Int):∀(p:Option Int) (l:List Int),pD p (l++[v])=pD p l++yX (xK p l) v
 | p,[]=>by simp[pD,xK]
 | p,x::l=>by simp only[b8,pD,vt v (some x) l,xK,aO]
def xL(h:0<ao l):pD none (l.take 1)=pD none (l.take 0)++zg l[0]:=by
 have:=vt l[0] none (l.take 0);rw[<-aM h] at this;rw[this];simp[xK,yX]
def Bj(h:j+1<ao l):pD none (l.take (j+1+1))=pD none (l.take (j+1))++hZ (l[j+1] - l[j]):=by
 have:=vt l[j+1] none (l.take (j+1));rw[<-aM h] at this;rw[this,aM (show j<ao l by omega),vr]
 rfl
def ta:∀(A B:LL),kz (A++B)=kz A++kz B
 | [],B=>rfl
 | a::A,B=>by rw[b8,kz,ta A B,kz,aO]
def xM(h:j<ao L):kz (L.take (j+1))=kz (L.take j)++K9 (lvl L j):=by
 rw[aM h,ta,jX h];simp[kz]
def K_(p:Option Int)(v:Int):1<=ao (yX p v)/\ao (yX p v)<=10:=by
 unfold yX
 split
 ·exact gS _
 ·exact gS _
def tJ:∀(p:Option Int) (l:List Int),ao (pD p l)<=10 * ao l
 | _,[]=>by simp[pD]
 | p,v::l=>by
  have z:=tJ (some v) l;have y:=K_ p v;simp only[pD,aE,aJ];omega
def NC(l:List Int):ao (K9 l)<=10 * ao l+10:=by
 have z:=tJ none l;have y:=gS (ao l:Int);unfold K9;rw[aE];omega
def vu:∀(L:LL),ao (kz L)<=10 * cnt L+10 * ao L
 | []=>by simp[kz]
 | l::L=>by
  have z:=vu L;have y:=NC l;rw[kz,aE,lP,aJ];omega
def qw(L:LL)(j:Nat):ao (kz (L.take j))<=10 * cnt L+10 * ao L:=by
 have y:=vu (L.take j);have z:=mS (L.take j) (L.drop j);rw[bK] at z;have x:ao (L.take j)<=ao L:=by rw[aU];omega
 omega
def FD(k:Int)(L:LL)(z:Nat):ao (wg k L z)<=10 * cnt L+10 * ao L+30:=by
 have y:=vu L;have x:=gS k;have v:=gS (z:Int);have u:=gS (ao L:Int);unfold wg;simp only[aE];omega
def kW(l:List Int):Prop:=∀x∈l,-9223372036854775808<=x/\x<=9223372036854775807
def K':∀(p:Option Int) (l:List Int),kW l->(∀q,p=some q->-9223372036854775808<=q/\∀m∈l,q<=m)->mQ l->oc (pD p l)
 | _,[],_,_,_=>λb t=>by simp[pD] at t
 | p,v::l,hr,hp,hs=>by
  have z:=hr v (aK ..);have u:=aT.1 hs;simp only[pD];refine oc.append ?_ (K' (some v) l (λx y=>hr x (aP _ y)) (λq s=>by cases s;exact⟨z.1,λx y=>u.1 x y⟩) u.2)
  unfold yX
  cases p with
  | none=>exact r' (qB z.1 z.2).1 (qB z.1 z.2).2
  | some q=>have:=hp q rfl;have y:=this.2 v (aK ..);exact r' aa  aa
def FE:∀(L:LL),(∀l∈L,kW l/\mQ l/\ao l<18446744073709551616)->oc (kz L)
 | [],_=>λb v=>by simp[kz] at v
 | l::L,h=>by
  obtain⟨z,y,s⟩:=h l (aK ..);rw[kz,K9];exact oc.append (oc.append (r' aa  aa) (K' none l z (λq u=>by cases u) y)) (FE L λx t=>h x (aP _ t))
def P6(z:0<=k)(y:k<18446744073709551616)(v:led<18446744073709551616)(x:ao L<18446744073709551616)(h:∀l∈L,kW l/\mQ l/\ao l<18446744073709551616):oc (wg k L led):=by
 unfold wg;exact oc.append (r' z y) (oc.append (r' aa  aa) (oc.append (r' aa  aa) (FE L h)))
def wE(m:Int)(l:List Int):Option (Int × List Int):=match iH l with
 | none=>none
 | some p=>if p.1<=m then some p else none
def ND(p:Option Int)(n:Int):Option Int:=match p with
 | none=>some (wm n)
 | some q=>if wrap64 ((ub q+n) % 18446744073709551616)<q then none else some (wrap64 ((ub q+n) % 18446744073709551616))
def mV:Nat->List Int->List Int->Option (List Int × List Int)
 | 0,acc,l=>some (acc,l)
 | k+1,acc,l=>match iH l with
  | none=>none
  | some x=>match ND acc.getLast? x.1 with
   | none=>none
   | some v=>mV k (acc++[v]) x.2
def sI(l:List Int):Option (List Int × List Int):=match wE 4096 l with
 | none=>none
 | some x=>mV x.1.toNat [] x.2
def pE:Nat->LL->List Int->Option (LL × List Int)
 | 0,acc,l=>some (acc,l)
 | k+1,acc,l=>match sI l with
  | none=>none
  | some x=>pE k (acc++[x.1]) x.2
structure Rk where
 k:Int
 led:Int
 L:LL
def Bk(l:List Int):Option (Rk × List Int):=match wE 4096 l with
 | none=>none
 | some a=>match iH a.2 with
  | none=>none
  | some b=>match wE 49 b.2 with
   | none=>none
   | some c=>match pE c.1.toNat [] c.2 with
    | none=>none
    | some x=>some (⟨a.1,b.1,x.1⟩,x.2)
def yY{m n:Int}(z:0<=n)(y:n<18446744073709551616)(r:List Int):wE m (hZ n++r)=if n<=m then some (n,r) else none:=by
 unfold wE;rw[nB z y]
def Bl(r:List Int):∀(l acc:List Int),kW (acc++l)->mQ (acc++l)->mV (ao l) acc (pD acc.getLast? l++r)=some (acc++l,r)
 | [],acc,_,_=>by simp[mV,pD]
 | v::l,acc,hr,hs=>by
  have y:=hr v ad
  have z:=Bl r l (acc++[v]) (by simpa using hr) (by simpa using hs)
  rw[List.getLast?_concat] at z;simp only[aJ,mV,pD,aO] at z |-
  cases hl:acc.getLast? with
  | none=>
   have x:=qB y.1 y.2;unfold yX zg;simp only;rw[nB x.1 x.2];simp only[ND,MC];rw[z];simp
  | some q=>
   have x:q∈acc:=gA hl;have t:=hr q (by simp[x])
   have u:q<=v:=(gx.1 hs).2.2 q x v ad
   unfold yX;simp only;rw[nB aa  aa]
   simp only[ND,Gn t.1 u y.2];rw[aG aa]
   simp only;rw[z];simp
def La(r:List Int)(z:kW l)(y:mQ l)(x:ao l<=4096):sI (K9 l++r)=some (l,r):=by
 unfold sI K9;rw[aO,yY aa  aa,aH aa]
 simp only[bM];have:=Bl r l [] (by simpa using z) (by simpa using y)
 simpa using this
def xN(r:List Int):∀(L acc:LL),(∀l∈L,kW l/\mQ l/\ao l<=4096)->pE (ao L) acc (kz L++r)=some (acc++L,r)
 | [],acc,_=>by simp[pE,kz]
 | l::L,acc,h=>by
  obtain⟨z,y,v⟩:=h l (aK ..);have t:=xN r L (acc++[l]) λx u=>h x (aP _ u)
  rw[aJ,pE,kz,aO,La _ z y v];simp only;rw[t];simp
def NG(r:List Int)(z:0<=k)(y:k<=4096)(v:led<18446744073709551616)(x:ao L<=49)(h:∀l∈L,kW l/\mQ l/\ao l<=4096):Bk (wg k L led++r)=some (⟨k,led,L⟩,r):=by
 unfold Bk wg;simp only[aO];rw[yY z aa,aH y]
 simp only;rw[nB aa  aa]
 simp only;rw[yY aa  aa,aH aa]
 simp only[bM];rw[xN r L [] h];simp
end
section
variable{acc bs l:List Int}{b base g k:Nat}{w w':World}{u v:Value}{T:Option (List Int × List Int)}{x:Int × List Int}
def RP(e:Ending):Prop:=∃s,e=.panicked [{v:=.iface 444 (.string s),recovered:=false}]
def nO{α:Type}(x:Option (α × List Int))(val:α->World->Value->Prop)(w:World)(g:Nat)(bs:List Int)(e:Ending)(w':World):Prop:=
 match x with
 | some p=>∃v,e=.returned v/\val p.1 w' v/\hM w' g bs (ao bs - ao p.2)/\Touch (λk=>k=g) w w'
 | none=>RP e/\Touch (λk=>k=g) w w'
def rO{m:Int}{p:Int × List Int}(h:wE m l=some p):iH l=some p/\p.1<=m:=by
 unfold wE at h
 cases hu:iH l with
 | none=>rw[hu] at h;cases h
 | some q=>
  rw[hu] at h;simp only at h
  split at h
  ·rename_i z
   injection h with h;subst h;exact⟨rfl,z⟩
  ·cases h
def vw(c m:Int)(f:Int->Int)(X:Option (Int × List Int))(d g:Nat)(bs:List Int)(a:Nat)(w:World)(h:hM w g bs a)(s:w.cell? ⟨d,0,none⟩=some (.pointer (some ⟨g,0,none⟩)))
 (z:X=match iH (bs.drop a) with|none=>none|some p=>if f p.1<=m then some p else none)
 (y:∀w,hM w g bs a->ar Oe 330 #[.pointer (some ⟨g,0,none⟩),.int .u8 c] w (mI w g bs a f)) :
 ar Oe 399 #[.pointer (some ⟨d,0,none⟩),.int .u8 c,.int .u64 m] w (nO X (λn _ v=>v=.int .u64 (f n)) w g bs):=by
 have Y:=ay (y w h);clear h y
 go_in
 go_wp2_with fail;refine(Y.o).mono ?_
 intro e U u;unfold mI at u
 cases hu:iH (bs.drop a) with
 | none=>
  rw[hu] at z;simp only[hu] at u;have x:=ay z;obtain⟨q,rfl,r,v,y⟩:=u;have b:(q != 0)=true:=by rcases r with rfl|rfl<;>rfl
  have t:=ay y;clear hu r v y z s
  go_wp2_with fail;refine⟨rfl,?_⟩
  unfold nO;rw[x.o];exact⟨⟨_,rfl⟩,t.o⟩
 | some p=>
  rw[hu] at z;simp only[hu] at u z;obtain⟨rfl,v,y⟩:=u;have t:=ay y;have q:=ay v;obtain⟨n,r⟩:=p;simp only at z q |-
  by_cases b:f n<=m
  ·rw[aH b] at z
   have x:=ay z;have V:¬f n > m:=aa
   clear hu v y z s
   go_wp2;refine an ?_
   unfold nO;rw[x.o];exact⟨_,rfl,rfl,q.o,t.o⟩
  ·rw[aG b] at z
   have x:=ay z;have V:f n > m:=aa
   clear hu v y z s
   go_wp2_with fail;refine⟨rfl,?_⟩
   unfold nO;rw[x.o];exact⟨⟨_,rfl⟩,t.o⟩
def sJ(m:Int)(z g:Nat)(bs:List Int)(a:Nat)(w:World)(h:hM w g bs a)(x:w.cell? ⟨z,0,none⟩=some (.pointer (some ⟨g,0,none⟩)))(y:oc bs)(u:ao bs<=1000000000000) :
 ar Oe 399 #[.pointer (some ⟨z,0,none⟩),.int .u8 118,.int .u64 m] w (nO (wE m (bs.drop a)) (λn _ v=>v=.int .u64 n) w g bs):=
 vw 118 m id _ z g bs a w h x (by unfold wE;rfl) (λw h=>qF g bs a w h y u)
def tb(z g:Nat)(bs:List Int)(a:Nat)(w:World)(h:hM w g bs a)(x:w.cell? ⟨z,0,none⟩=some (.pointer (some ⟨g,0,none⟩)))(y:oc bs)(u:ao bs<=1000000000000) :
 ar Oe 399 #[.pointer (some ⟨z,0,none⟩),.int .u8 118,.int .u64 18446744073709551615] w (nO (iH (bs.drop a)) (λn _ v=>v=.int .u64 n) w g bs):=
 vw 118 _ id _ z g bs a w h x (by
  cases hu:iH (bs.drop a) with
  | none=>rfl
  | some p=>have:=lK (y.drop a) hu;simp only[id];rw[aH aa]) (λw h=>qF g bs a w h y u)
def H_(z g:Nat)(bs:List Int)(a:Nat)(w:World)(h:hM w g bs a)(x:w.cell? ⟨z,0,none⟩=some (.pointer (some ⟨g,0,none⟩)))(y:oc bs)(u:ao bs<=1000000000000) :
 ar Oe 399 #[.pointer (some ⟨z,0,none⟩),.int .u8 122,.int .u64 18446744073709551615] w (nO (iH (bs.drop a)) (λn _ v=>v=.int .u64 (ub (wm n))) w g bs):=
 vw 122 _ (λn=>ub (wm n)) _ z g bs a w h x (by
  cases hu:iH (bs.drop a) with
  | none=>rfl
  | some p=>have:=wY (wm p.1);simp only;rw[aH aa]) (λw h=>Cv g bs a w h y u)
def NH:gT 2 .i64 base w v l<->gO ig base w v l:=by
 unfold gO gT;rw[nM];rfl
def _root_.Go.Proofs.YtdicblkhpcphfaaGreat.OwnB.Ug{b':Nat}(h:OwnB b w v bs)(q:gT 2 .i64 b' w u l)(z:v.ownBlock=some k):u.ownBlock≠some k:=by
 intro e
 rcases h.2 with t|⟨Y,p,f,rfl,c,x,r⟩
 ·rw[t.1] at z;cases z
 ·rcases q.2 with s|⟨X,g,d,rfl,a,y,V⟩
  ·rw[s.1] at e;cases e
  ·cases z
   cases e
   rw[x] at y
   cases y
def _root_.Go.Proofs.YtdicblkhpcphfaaGreat.gN.Uh{t:Nat}{cs:Array Value}(h:gN w g t cs)(x:gT 2 .i64 b w v l)(u:t≠2):v.ownBlock≠some g:=by
 intro e
 rcases x.2 with y|⟨f,s,q,rfl,p,z,r⟩
 ·rw[y.1] at e;cases e
 ·cases e
  unfold gN at h;rw[h] at z
  cases z
  exact u rfl
def _root_.Go.Proofs.YtdicblkhpcphfaaGreat.hM.Lb{a:Nat}(h:hM w g bs a)(s:gT 2 .i64 b w u l)(x:w.grownBy w' u.ownBlock):hM w' g bs a:=by
 obtain⟨v,z,y,r⟩:=h;exact⟨v,(x.block g z.lt (λe=>z.Uh s ab e.symm)).trans z,gT.stay y (λk t=>x.block k (gT.lt y k t).2 (λe=>y.Ug s t e.symm)),r⟩
def _root_.Go.Proofs.YtdicblkhpcphfaaGreat.gT.away{t:TypeId}{k:IntKind}(h:gT t k base w v l)(z:Touch (λk=>k=g) w w')(x:g<base):gT t k base w' v l:=
 h.stay λk e=>z.block k (h.lt k e).2 (λy=>by have:=(h.lt k e).1;omega)
def xO(h:mV (k+1) acc l=T)(y:iH l=some x){v:Int}(z:ND acc.getLast? x.1=some v):mV k (acc++[v]) x.2=T:=by
 rw[mV,y] at h;simp only[z] at h;exact h
def xP(h:mV (k+1) acc l=T)(z:iH l=none):T=none:=by
 rw[mV,z] at h;exact h.symm
def Ia(h:mV (k+1) acc l=T)(y:iH l=some x)(z:ND acc.getLast? x.1=none):T=none:=by
 rw[mV,y] at h;simp only[z] at h;exact h.symm
def kW.snoc{v:Int}(h:kW l)(y:-9223372036854775808<=v)(u:v<=9223372036854775807):kW (l++[v]):=λx z=>by
 rcases cV.1 z with z|z
 ·exact h x z
 ·simp only[ct] at z;subst z;exact⟨y,u⟩
def DK(X g:Nat)(bs:List Int)(a:Nat)(w:World)(h:hM w g bs a)(z:w.cell? ⟨X,0,none⟩=some (.pointer (some ⟨g,0,none⟩)))(hne:X≠g)(x:oc bs)(hlen:ao bs<=1000000000000) :
 ar Oe 398 #[.pointer (some ⟨X,0,none⟩)] w (nO (sI (bs.drop a)) (λl y v=>gT 2 .i64 w.heap.size y v l/\kW l) w g bs):=by
 have C0:=ay z;have hlt:=h.lt;have hgr:X<w.heap.size:=bV _ _ z;have D:=ay x;have RQ:=ay (sJ 4096 X g bs a w h z x hlen);clear h x z
 go_in
 go_wp2_with fail;refine(RQ.o).mono ?_
 intro e c u;unfold nO at u
 cases hu:wE 4096 (bs.drop a) with
 | none=>
  simp only[hu] at u;have O:Hid (sI (bs.drop a)=none):=ay (by unfold sI;rw[hu])
  obtain⟨⟨pv,rfl⟩,y⟩:=u;have I:=ay y;clear hu y
  go_wp2_with fail;refine⟨rfl,?_⟩
  unfold nO;rw[O.o];exact⟨⟨_,rfl⟩,I.o⟩
 | some p=>
  obtain⟨n0,r⟩:=p;simp only[hu] at u;obtain⟨v,rfl,rfl,d,y⟩:=u;obtain⟨S,hm⟩:=rO hu;have x:=lK (D.o.drop a) S;have t:=my S;obtain⟨n,rfl⟩:∃n:Nat,n0=n:=⟨n0.toNat,by simp only at x;omega⟩
  simp only at hm x;have I:=ay y;have I4:=y.size;obtain⟨T,z⟩:=au (sI (bs.drop a));have HT:=ay z;have R0:Hid (mV n [] (bs.drop (ao bs - ao r))=T):=ay (by rw[t,<-z];unfold sI;rw[hu];simp)
  have H3:=ay d;have C2:Hid (c.cell? ⟨X,0,none⟩=some (.pointer (some ⟨g,0,none⟩))):=ay ((y.cell (o:=0) hgr hne).trans C0.o);have hg2:g<c.heap.size:=aa
  have Lc:X<c.heap.size:=aa
  have hwn:(n:Int)<=4096:=aa
  clear hu z d y S t x;generalize ao bs - ao r=a1 at *
  go_wp2
  go_loopg [3,4,5,6,10] n (λq v _ _ _ i wr=>∃(j f:Nat) (t:List Int),q=n - j/\j<=n/\i=.int .i64 j/\ao t=j/\Hid (kW t)/\Hid (gT 2 .i64 c.heap.size wr v t)/\Hid (hM wr g bs f)/\Hid (mV (n - j) t (bs.drop f)=T)/\Hid (Touch (λk=>k=g) c wr))
  exact⟨0,a1,[],rfl,aa,rfl,rfl,ay (λx S=>by simp at S),ay (gT.nil_ _ _ _ _),H3,R0,ay (Touch.refl _ _)⟩
  case round=>
   obtain⟨j,f,t,i,hj,rfl,W,m,E,HR,l,P⟩:=hrel;have HQ:=ay i;have Qz:=P.o.size;have A:=(P.o.cell (o:=0) Lc hne).trans C2.o;have hal:ao t+1<=1099511627776:=aa
   clear i
   by_cases hlt2:j<n
   ·have R:=l.o
    rw[show n - j=(n - (j+1))+1 by omega] at R
    have Q:=ay R;have hji:(j:Int)<(n:Int):=aa
    clear R l
    rcases bh j with rfl|hj0
    ·obtain rfl:t=[]:=aN W
     have N:=ay (H_ X g bs f wr HR.o A D.o hlen);have z:((0:Nat):Int)=0:=rfl;rw[z] at hji |-;clear z A
     go_wp2_with fail;refine(N.o).mono ?_
     intro e Y u;unfold nO at u
     cases hA:iH (bs.drop f) with
     | none=>
      simp only[hA] at u;have O:Hid (T=none):=ay (xP Q.o hA);obtain⟨⟨pv,rfl⟩,y⟩:=u;have b:=ay y;clear hA y
      go_wp2_with fail;refine⟨rfl,?_⟩
      unfold nO;rw[HT.o,O.o];exact⟨⟨_,rfl⟩,tt (tt I.o P.o) b.o⟩
     | some p=>
      obtain⟨z,G⟩:=p;simp only[hA] at u;obtain⟨v,rfl,rfl,d,y⟩:=u;have L:=lK (D.o.drop f) hA;have s:=OT L.1 L.2;have F:=yq s.1 s.2;have M:=my hA;have PX:Hid (mV (n - (0+1)) ([]++[wm z]) (bs.drop (ao bs - ao G))=T):=ay (by rw[M];exact xO Q.o hA rfl)
      have HI1:=ay (m.o.snoc s.1 s.2);have b:=ay (tt P.o y);have R3:=ay d;have U:Hid (gT 2 .i64 c.heap.size Y u3 []):=ay (E.o.away y hg2);have hz3:=y.size;clear hA d y L M;simp only;generalize ao bs - ao G=H at *
      go_wp2_with (first
       | (at_builtin
          go_loud (refine zB underlying196 Oi rfl (.tmp 15) (.tmp 19) rfl c.heap.size u3 [] rfl (U.o.alloc _) _ [wm z] rfl (jf.hJ _ _ _ _ _ rfl) ad (by simp only[aI];omega) ?_)
          intro v6 J K V a6;have hb7:aq Y (Y.alloc (.cells #[.int .i64 (wm z)] 2)):=(aC _ _).alloc (aD _) _;have R6:Hid (hM J g bs H):=ay ((R3.o.keep hb7).Lb (U.o.alloc _) V);have T6:Hid (Touch (λk=>k=g) c J):=ay (((b.o.alloc _).grown V (λk e=>.inr (U.o.lt k e).1)))
          have O6:=ay K;clear K V a6))
      go_roundg (n - (0+1))
      exact⟨1,H,[]++[wm z],rfl,aa,ag,rfl,HI1,O6,R6,PX,T6⟩
      have:=HQ.o;omega
    ·obtain⟨s,rfl⟩:∃s,j=s+1:=⟨j - 1,aa⟩
     have hsl:s<ao t:=aa
     obtain⟨A3,c3,hv3,m3,m4,B⟩:=E.o.rd.form;obtain⟨ga,oa,eA,hga,C⟩:=B.at_ hsl;have N:t.getLast?=some t[s]:=by
      rw[List.getLast?_eq_getElem?,W];simp[aQ hsl]
     have i:=m.o t[s] (aX hsl);obtain⟨q,F⟩:=au (t[s]);rw[F] at C N i;rw[W] at hv3 m3;subst eA;subst hv3;have XV:=ay (tb X g bs f wr HR.o A D.o hlen);have VG:=ay N;have hst:(s:Int)<(s:Int)+1:=aa
     have hws:IntKind.i64.wrap (s:Int)=(s:Int):=cy _ aa
     clear A B N F
     go_wp2_with fail;clear C;refine(XV.o).mono ?_
     intro e Y u;unfold nO at u
     cases hA:iH (bs.drop f) with
     | none=>
      simp only[hA] at u;have O:Hid (T=none):=ay (xP Q.o hA);obtain⟨⟨pv,rfl⟩,y⟩:=u;have b:=ay y;clear hA y
      go_wp2_with fail;refine⟨rfl,?_⟩
      unfold nO;rw[HT.o,O.o];exact⟨⟨_,rfl⟩,tt (tt I.o P.o) b.o⟩
     | some p=>
      obtain⟨z,G⟩:=p;simp only[hA] at u;obtain⟨v,rfl,rfl,d,y⟩:=u;have L:=lK (D.o.drop f) hA;have M:=my hA;have B:Hid (wrap64 (IntKind.u64.wrap (IntKind.u64.wrap q+z))=wrap64 ((ub q+z) % 18446744073709551616)):=ay (by rw[g_,g_];rfl)
      have C:Hid (wrap64 ((ub q+z) % 18446744073709551616)<q->T=none):=ay λh=>Ia Q.o hA (by rw[VG.o];unfold ND;simp only;rw[aH h])
      have F:Hid (¬wrap64 ((ub q+z) % 18446744073709551616)<q->mV (n - (s+1+1)) (t++[wrap64 ((ub q+z) % 18446744073709551616)]) (bs.drop (ao bs - ao G))=T):=ay λh=>by
       rw[M];exact xO Q.o hA (by rw[VG.o];unfold ND;simp only;rw[aG h])
      have N:-9223372036854775808<=wrap64 ((ub q+z) % 18446744073709551616)/\wrap64 ((ub q+z) % 18446744073709551616)<=9223372036854775807:=by unfold wrap64;omega
      obtain⟨x,S⟩:=au (wrap64 ((ub q+z) % 18446744073709551616));rw[S] at B C F N;have HI1:=ay (m.o.snoc N.1 N.2);have b:=ay (tt P.o y);have R3:=ay d;have U:=ay (E.o.away y hg2);have hz3:=y.size;clear hA d y L M S;simp only;generalize ao bs - ao G=H at *;have M:=B.o
      by_cases hlt:x<q
      ·have O:=ay (C.o hlt)
       go_wp2_with fail;refine⟨rfl,?_⟩
       unfold nO;rw[HT.o,O.o];exact⟨⟨_,rfl⟩,tt I.o b.o⟩
      ·have PX:=ay (F.o hlt)
       go_wp2_with (first
        | (at_builtin
           refine zB underlying196 Oi rfl (.tmp 36) (.tmp 38) rfl c.heap.size _ t rfl (U.o.alloc _) _ [x] rfl (jf.hJ _ _ _ _ _ rfl) aa (by simp only[aI];omega) ?_
           intro v6 J K V a6;have hb7:aq Y (Y.alloc (.cells #[.int .i64 x] 2)):=(aC _ _).alloc (aD _) _;have R6:Hid (hM J g bs H):=ay ((R3.o.keep hb7).Lb (U.o.alloc _) V);have T6:Hid (Touch (λk=>k=g) c J):=ay (((b.o.alloc _).grown V (λk e=>.inr (U.o.lt k e).1)))
           have O6:=ay K;clear K V a6))
       go_roundg (n - (s+1+1))
       exact⟨s+1+1,H,t++[x],rfl,aa,ag,by simp[W],HI1,O6,R6,PX,T6⟩
       have:=HQ.o;omega
   ·obtain rfl:j=n:=aa
    have R:=l.o;rw[eN,mV] at R;have Q:=ay R;have z:=ay HR.o;clear R l
    go_wp2;refine an ?_
    unfold nO;rw[HT.o,<-Q.o];have s:f<=ao bs:=by obtain⟨_,_,_,d⟩:=z.o;exact d
    refine⟨_,rfl,⟨gT.lift E.o (λk e=>bf I4 (gT.lt E.o k e).1),m.o⟩,?_,tt I.o P.o⟩
    simp only[aZ];rw[show ao bs - (ao bs - f)=f by omega]
    exact z.o
end
section
def Bm(c n x:Int)(z:Nat)(u:Value)(bs:List Int)(w:World)(d:z<=w.heap.size)(y:OwnB z w u bs)(T:ao bs<=1000000000000)(t:(c=118/\x=n/\0<=n/\n<18446744073709551616)\/(c=122/\n=ub x/\-9223372036854775808<=x/\x<=9223372036854775807)) :
 ar Oe 169 #[u,.int .u8 c,.int .u64 n] w λe r=>∃v,e=.returned v/\OwnB z r v (bs++(if c=118 then hZ x else zg x))/\Below z w r:=by
 have v:=ay y;have q:=ay (rl c n x w t);have S:ao (if c=118 then hZ x else zg x)<=10:=by split;exact(gS _).2;exact(gS _).2
 generalize (if c=118 then hZ x else zg x)=Y at *
 clear y t
 go_in
 go_wp2_with fail;refine(q.o).mono ?_
 rintro e Q ⟨X,rfl,t,y⟩;have p:=ay t;have R:=y.size;clear t
 go_wp2_with (first
  | (at_builtin
     go_must (refine jO rfl (.tmp 15) (.tmp 16) rfl z u bs rfl (gT.keep v.o y) X Y rfl (gT.rd p.o) aa  aa ?_)
     intro V U s t f;have b:Below z w U:=(y.mono d).grown t aa (λk a=>(gT.lt v.o k a).1)
     have g:=ay s;clear s t f))
 go_ret;exact⟨V,rfl,g.o,b⟩
def nQ(n:Int)(z:Nat)(y:Value)(bs:List Int)(w:World)(t:z<=w.heap.size)(u:OwnB z w y bs)(s:ao bs<=1000000000000)(r:0<=n)(q:n<18446744073709551616) :
 ar Oe 169 #[y,.int .u8 118,.int .u64 n] w λe x=>∃v,e=.returned v/\OwnB z x v (bs++hZ n)/\Below z w x:=by
 have h:=Bm 118 n n z y bs w t u s (.inl ⟨rfl,rfl,r,q⟩)
 rwa [aH rfl] at h
def Ib(x n:Int)(z:Nat)(y:Value)(bs:List Int)(w:World)(q:z<=w.heap.size)(r:OwnB z w y bs)(p:ao bs<=1000000000000)(g:n=ub x)(t:-9223372036854775808<=x)(s:x<=9223372036854775807) :
 ar Oe 169 #[y,.int .u8 122,.int .u64 n] w λe u=>∃v,e=.returned v/\OwnB z u v (bs++zg x)/\Below z w u:=by
 have h:=Bm 122 n x z y bs w q r p (.inr ⟨rfl,g,t,s⟩)
 rwa [aG aa] at h
def NI(k:Int)(v:Value)(L:LL)(u:Nat)(w:World)(h:Ht w v L)(k0:0<=k)(k1:k<=9223372036854775807)(yT:u<18446744073709551616)(hlen:ao L<=1000)(hcnt:cnt L<=1000000000)(z:∀j,mQ (lvl L j)/\kW (lvl L j)) :
 ar Oe 100 #[.int .i64 k,v,.int .u64 u] w λe g=>∃v,e=.returned v/\OwnB w.heap.size g v (wg k L u)/\aq w g:=by
 obtain⟨A,c,rfl,hc1,hc2⟩:=h.form;have HL:=ay h;have HS:=ay z;have XW:=ay (λj=>qw L j)
 have XY:=ay (λj=>hD L j)
 have s:=gS k;have r:=gS (u:Int);have q:=gS (ao L:Int);have B:=ay (show wg k L u=[]++hZ k++hZ u++hZ (ao L)++kz (L.take (ao L)) by unfold wg;simp)
 clear h z
 go_in
 go_wp2_with fail;refine(nQ k w.heap.size _ [] w (aD _) (gT.nil_ _ _ _ _) ad k0 aa).mono ?_
 rintro e w1 ⟨v1,rfl,z,y⟩;have O1:=ay z;have hz1:=y.size;clear z
 go_wp2_with fail;refine(nQ (u:Int) w.heap.size v1 ([]++hZ k) w1 hz1 O1.o af aa  aa).mono ?_
 rintro e w2 ⟨v2,rfl,t,x⟩;have O2:=ay t;have z:=ay (y.trans x);have hz2:=z.o.size;clear t y x
 go_wp2_with fail;refine(nQ (ao L:Int) w.heap.size v2 ([]++hZ k++hZ u) w2 hz2 O2.o af aa  aa).mono ?_
 rintro e w3 ⟨v3,rfl,x,t⟩;obtain⟨H,y⟩:=au ([]++hZ k++hZ u++hZ (ao L:Int));have UX:ao H<=30:=by rw[<-y];simp;omega
 rw[y] at x B;have O3:=ay x;have HB3:=ay (z.o.trans t);clear x t y s r q
 go_wp2
 go_loopg [7,8,9] (ao L) (λq v i _ wr=>∃j:Nat,q=ao L - j/\j<=ao L/\i=.int .i64 (j:Int)/\Hid (OwnB w.heap.size wr v (H++kz (L.take j)))/\Hid (aq w wr))
 exact⟨0,aa,aa,rfl,ay (by simpa[kz] using O3.o),HB3⟩
 case round=>
  obtain⟨j,y,hj,rfl,o,Y⟩:=hrel;have HQ:=ay y;clear y;have hz:=Y.o.size;have htl:=XW.o j
  by_cases h:j<ao L
  ·obtain⟨O,I,sA,sc,r,M,y,a⟩:=HL.o.at_ h
   subst r;obtain⟨_,_,ea,SB,XP,t⟩:=a.form;injection ea with Uc Ud Ue;subst Uc;subst Ue;have x:=ay (xM h);have hlc:=XY.o j;obtain⟨f,s⟩:=HS.o j;have d:=gS (ao (lvl L j):Int);obtain⟨l,b⟩:=au (lvl L j);rw[b] at y t x hlc f s d SB;have C:=ay t;have D:=ay y;have Mp:=ay f;have m:=ay s;have Q:=(Y.o.cell (p:=⟨O,I+j,none⟩) M).trans y;have X:ao (H++kz (L.take j))<=20000000000:=by rw[aE];omega
   have hji:(j:Int)<(ao L:Int):=aa
   clear b a Ud t y f s
   go_wp2_with fail;refine(nQ (ao l:Int) w.heap.size u7 (H++kz (L.take j)) wr hz o.o aa  aa  aa).mono ?_
   rintro e w4 ⟨v4,rfl,t,s⟩;obtain⟨G,y⟩:=au (H++kz (L.take j)++hZ (ao l:Int));have XZ:ao G<=20000000010:=by rw[<-y,aE];omega
   have X7:Hid (H++kz (L.take (j+1))=G++pD none (l.take (ao l))):=ay (by rw[x.o,<-y,K9,bN];simp)
   rw[y] at t;have O4:=ay t;have HB4:=ay (Y.o.trans s);clear t s y d X Q x
   go_wp2
   go_loopg [7,9] (ao l) (λq v i wr=>∃t:Nat,q=ao l - t/\t<=ao l/\i=.int .i64 (t:Int)/\Hid (OwnB w.heap.size wr v (G++pD none (l.take t)))/\Hid (aq w wr))
   exact⟨0,aa,aa,rfl,ay (by simpa[pD] using O4.o),HB4⟩
   case round=>
    obtain⟨t,y,ht,rfl,S,z⟩:=hrel;have n:=ay y;clear y;have hzw:=z.o.size;have Q:=(z.o.cell (p:=⟨O,I+j,none⟩) M).trans D.o
    by_cases d:t<ao l
    ·obtain⟨P,J,r,N,U⟩:=C.o.i64 d
     subst r;have V:=m.o l[t] (aX d);have hgt:ao (G++pD none (l.take t))<=100000000000:=by
      have:=tJ none (l.take t);have y:ao (l.take t)<=ao l:=by rw[aU];omega
      rw[aE];omega
     have W:=ay U;have hti:(t:Int)<(ao l:Int):=aa
     rcases bh t with rfl|ht0
     ·have q:=ay (xL d)
      have k1:=(z.o.cell (p:=⟨P,J+0,none⟩) N).trans U;obtain⟨x,b⟩:=au (l[0]);simp only[b,bP] at k1 V q;have y:((0:Nat):Int)=0:=rfl;rw[y];clear b U y
      go_wp2_with fail;refine(Ib x _ w.heap.size u7 (G++pD none (l.take 0)) wr hzw S.o aa (by rw[g_];rfl) V.1 V.2).mono ?_
      rintro e T ⟨F,rfl,a,f⟩;have R:Hid (OwnB w.heap.size T F (G++pD none (l.take 1))):=ay (by rw[q.o,<-aO];exact a)
      have X:=ay (z.o.trans f);clear a f
      go_wp2
      go_roundg (ao l - (0+1))
      exact⟨1,rfl,aa,ag,R,X⟩
      have:=n.o;omega
     ·obtain⟨s,rfl⟩:∃s,t=s+1:=⟨t - 1,aa⟩
      have hsl:s<ao l:=aa
      have q:=ay (Bj d);obtain⟨ga',X8,r,_,kb⟩:=C.o.i64 hsl;injection r with r;injection r with KN KO;subst KN;subst KO;have hle:=vq Mp.o d;have hy:=m.o l[s] (aX hsl);have i:=ay kb;obtain⟨x,b⟩:=au (l[s+1]);obtain⟨y,K⟩:=au (l[s]);simp only[b,K] at W i q V hy hle;have EW:=ay (show IntKind.u64.wrap (IntKind.u64.wrap x - IntKind.u64.wrap y)=x - y by simp only[g_];omega)
      have hst:(s:Int)<(ao l:Int):=aa
      have Ml:Hid (IntKind.i64.wrap (s:Int)=(s:Int)):=ay (cy _ aa)
      obtain⟨E,rfl⟩:∃E:World,E=wr:=⟨_,rfl⟩;clear b K U kb
      go_upto_region 13 with fail;clear Q;have Z:=ay (λ(g:World) (b:aq w g)=>(aF ((b.cell (p:=⟨O,I+j,none⟩) M).trans D.o) (aF ((b.cell (p:=⟨P,J+(s+1),none⟩) N).trans W.o) (aF ((b.cell (p:=⟨P,J+s,none⟩) N).trans i.o) (aF (EW.o) (Ml.o))))))
      refine i' (λg=>aq w g) (gW 0 19 (ib 19 (gW 20 1 []))) (z.o.drew) ?_
      iterate 19 refine hC ?_
      refine iy λK b=>?_
      go_simp;refine(nQ (x - y) w.heap.size u7 (G++pD none (l.take (s+1))) E.drew hzw (gT.drew S.o) aa  aa  aa).mono ?_
      rintro e T ⟨F,rfl,a,f⟩;have R:Hid (OwnB w.heap.size T F (G++pD none (l.take (s+1+1)))):=ay (by rw[q.o,<-aO];exact a)
      have X:Hid (aq w T):=ay (z.o.drew.trans f);clear a f;refine b _ _ (X.o) ?_
      clear b K;refine hC ?_
      refine gM ?_
      go_wp2
      go_roundg (ao l - (s+1+1))
      exact⟨s+1+1,rfl,aa,ag,R,X⟩
      have:=n.o;omega
    ·obtain rfl:t=ao l:=aa
     go_wp2
     go_roundg (ao L - (j+1))
     exact⟨j+1,rfl,aa,ag,by rw[X7.o];exact S,z⟩
     have:=HQ.o;omega
  ·obtain rfl:j=ao L:=aa
   go_wp2;refine an ?_
   exact⟨_,rfl,by rw[B.o];exact o.o,Y.o⟩
end
section
variable{L:LL}{n:Nat}{vs:List Sv}
def Bn(w:World):ar Oe 275 #[.string ⟨#[118,118,118]⟩] w (aw w (.bool true)):=by
 have y:=λw=>ay (jZ 7 118 w Gp)
 go_in
 go_wp2
 go_loopg [11] 3 (λq i wr=>∃j:Nat,q=3 - j/\j<=3/\i=.int .i64 j/\aq w wr)
 exact⟨0,rfl,aa,rfl,aC _ _⟩
 case round=>
  obtain⟨j,z,r,rfl,v⟩:=hrel;have x:=ay z;have q:=v.size;clear z
  rcases(show j=0\/j=1\/j=2\/j=3 by omega) with rfl|rfl|rfl|rfl
  ·go_wp2_with (go_at_call 276;refine((y _).o).mono ?_;rintro e t ⟨rfl,z⟩;have u:=z.size)
   go_roundg 2
   exact⟨1,rfl,aa,ag,bw⟩
   have:=x.o;omega
  ·go_wp2_with (go_at_call 276;refine((y _).o).mono ?_;rintro e t ⟨rfl,z⟩;have u:=z.size)
   go_roundg 1
   exact⟨2,rfl,aa,ag,bw⟩
   have:=x.o;omega
  ·go_wp2_with (go_at_call 276;refine((y _).o).mono ?_;rintro e t ⟨rfl,z⟩;have u:=z.size)
   go_roundg 0
   exact⟨3,rfl,aa,ag,bw⟩
   have:=x.o;omega
  ·go_wp2
   go_ret;exact⟨rfl,v⟩
def outs(a b c:Int):Nat->List Int
 | 0=>[]
 | 1=>hZ a
 | 2=>hZ a++hZ b
 | _=>hZ a++hZ b++hZ c
def vx(a b c:Int)(j:Nat):ao (outs a b c j)<=30:=by
 have z:=gS a;have y:=gS b;have x:=gS c
 match j with
 | 0=>simp[outs]
 | 1=>simp only[outs];omega
 | 2=>simp only[outs,aE];omega
 | n+3=>simp only[outs,aE];omega
def Ic(a b c:Int)(v:Value)(w:World)(q:jf .u64 w v [a,b,c])(E:0<=a)(D:a<18446744073709551616)(C:0<=b)(B:b<18446744073709551616)(V:0<=c)(l:c<18446744073709551616) :
 ar Oe 195 #[.string ⟨#[118,118,118]⟩,v] w λe N=>∃v,e=.returned (.tuple #[v,.int .i64 0])/\OwnB w.heap.size N v (outs a b c 3)/\aq w N:=by
 obtain⟨A,cn,rfl,k,hc,z⟩:=q.form;obtain⟨U,S,rfl,T,y⟩:=z.at_ (j:=0) (by simp)
 obtain⟨m,o',u,_,x⟩:=z.at_ (j:=1) (by simp)
 simp only[aW,bY,and_true] at u;obtain⟨rfl,rfl⟩:=u;obtain⟨m,o',u,_,t⟩:=z.at_ (j:=2) (by simp)
 simp only[aW,bY,and_true] at u;obtain⟨rfl,rfl⟩:=u;simp only[aJ,aV,bn,bZ,bP] at k y x t |-;have K:=ay y;have J:=ay x;have I:=ay t;have r:=λw=>ay (jZ 7 118 w Gp)
 have d:=ay (λ(g:Nat) (n:Int) (bs:List Int) (W:World) h p f s=>lL g w.heap.size n 0 bs W h p f s)
 have h:∀s w,(callFunc 405 s).run prog w=.ok (.enter 405 s) w:=λ_ _=>rfl
 have H:Hid (outs a b c 0++hZ a=outs a b c 1):=ay rfl;have G:Hid (outs a b c 1++hZ b=outs a b c 2):=ay rfl;have F:Hid (outs a b c 2++hZ c=outs a b c 3):=ay rfl;have Y:=ay (vx a b c);have s:mY 7=405:=rfl;rw[s] at r;clear q z y x t s
 go_in
 go_wp2_with fail;refine(Bn w).mono ?_
 rintro e f ⟨rfl,o⟩;have W:=o.size
 go_wp2_with fail;obtain⟨g,z⟩:=au (f.heap.size);have R:=ay (Wr.new 373 f w.heap.size W);have n:aq w (f.alloc (.cells #[.slice none 0 0] 373)):=bw;rw[z] at R |-;generalize f.alloc (.cells #[.slice none 0 0] 373)=w2 at *;clear z
 go_loopg [25] 3 (λq i wr=>∃j:Nat,q=3 - j/\j<=3/\i=.int .i64 j/\Hid (Wr 373 w.heap.size wr g (outs a b c j))/\aq w wr)
 exact⟨0,rfl,aa,rfl,R,n⟩
 case round=>
  obtain⟨j,z,i,rfl,q,t⟩:=hrel;have X:=ay z;have hz:=t.size;clear z
  rcases(show j=0\/j=1\/j=2\/j=3 by omega) with rfl|rfl|rfl|rfl
  ·have Q:=(t.cell (p:=⟨U,S,none⟩) T).trans K.o
   go_wp2_with (first
    | (go_at_call 276;refine((r _).o).mono ?_;rintro e M ⟨rfl,y⟩;have P:=y.size)
    | (go_at_fn 405;refine((d.o g a (outs a b c 0) _ ((q.o.keep y).keep ((aC _ _).alloc (aD _) _)) E D (by have:=Y.o 0;omega)).mono ?_);rintro e L ⟨rfl,z,s⟩;have O:=s.size;rw[H.o] at z;have x:=ay z;clear z))
   go_roundg 2
   exact⟨1,rfl,aa,ag,x,bw⟩
   have:=X.o;omega
  ·have Q:=(t.cell (p:=⟨U,S+1,none⟩) T).trans J.o
   go_wp2_with (first
    | (go_at_call 276;refine((r _).o).mono ?_;rintro e M ⟨rfl,y⟩;have P:=y.size)
    | (go_at_fn 405;refine((d.o g b (outs a b c 1) _ ((q.o.keep y).keep ((aC _ _).alloc (aD _) _)) C B (by have:=Y.o 1;omega)).mono ?_);rintro e L ⟨rfl,z,s⟩;have O:=s.size;rw[G.o] at z;have x:=ay z;clear z))
   go_roundg 1
   exact⟨2,rfl,aa,ag,x,bw⟩
   have:=X.o;omega
  ·have Q:=(t.cell (p:=⟨U,S+2,none⟩) T).trans I.o
   go_wp2_with (first
    | (go_at_call 276;refine((r _).o).mono ?_;rintro e M ⟨rfl,y⟩;have P:=y.size)
    | (go_at_fn 405;refine((d.o g c (outs a b c 2) _ ((q.o.keep y).keep ((aC _ _).alloc (aD _) _)) V l (by have:=Y.o 2;omega)).mono ?_);rintro e L ⟨rfl,z,s⟩;have O:=s.size;rw[F.o] at z;have x:=ay z;clear z))
   go_roundg 0
   exact⟨3,rfl,aa,ag,x,bw⟩
   have:=X.o;omega
  ·obtain⟨s,v,z,y⟩:=q.o
   have V:=z.k0;have x:=ay y;clear z y
   go_wp2
   go_ret2
   exact⟨v,rfl,x.o,t⟩
def vy(q:Value)(x:List Int)(z:Nat)(u p:Value)(bs:List Int)(w:World)(b:z<=w.heap.size)(s:OwnB z w u bs)(T:ao bs<=1000000000000)(S:ao x<=1000)
 (r:ar Oe 195 #[q,p] w λe y=>∃v,e=.returned (.tuple #[v,.int .i64 0])/\OwnB w.heap.size y v x/\aq w y) :
 ar Oe 205 #[u,q,p] w λe y=>∃v,e=.returned v/\OwnB z y v (bs++x)/\Below z w y:=by
 have t:=ay s;have g:=ay r;clear s r
 go_in
 go_wp2_with fail;refine(g.o).mono ?_
 rintro e Q ⟨X,rfl,s,v⟩;have f:=ay s;have R:=v.size;clear s
 go_wp2_with (first
  | (at_builtin
     go_must (refine jO rfl (.tmp 15) (.tmp 16) rfl z u bs rfl (gT.keep t.o v) X x rfl (gT.rd f.o) aa  aa ?_)
     intro V U r s c;have a:Below z w U:=(v.mono b).grown s aa (λk Y=>(gT.lt t.o k Y).1)
     have d:=ay r;clear r s c))
 go_ret;exact⟨V,rfl,d.o,a⟩
def xQ(n:Int)(z:Nat)(x y:Value)(bs:List Int)(w:World)(s:z<=w.heap.size)(t:OwnB z w x bs)(r:ao bs<=1000000000000)(q:jf .u64 w y [n])(p:0<=n)(g:n<18446744073709551616) :
 ar Oe 205 #[x,.string ⟨#[118]⟩,y] w λe u=>∃v,e=.returned v/\OwnB z u v (bs++hZ n)/\Below z w u:=
 vy _ (hZ n) z x y bs w s t r (by have:=gS n;omega) (uB n y w q p g)
def Ie(x:Int)(z:Nat)(u y:Value)(bs:List Int)(w:World)(p:z<=w.heap.size)(q:OwnB z w u bs)(g:ao bs<=1000000000000)(f:jf .u64 w y [ub x])(s:-9223372036854775808<=x)(r:x<=9223372036854775807) :
 ar Oe 205 #[u,.string ⟨#[122]⟩,y] w λe t=>∃v,e=.returned v/\OwnB z t v (bs++zg x)/\Below z w t:=
 vy _ (zg x) z u y bs w p q g (by have:=gS (qs x);unfold zg;omega) (uC x y w f s r)
def Ig(a b c:Int)(z:Nat)(x y:Value)(bs:List Int)(w:World)(d:z<=w.heap.size)(f:OwnB z w x bs)(Y:ao bs<=1000000000000)(X:jf .u64 w y [a,b,c])(t:0<=a)(s:a<18446744073709551616)(r:0<=b)(q:b<18446744073709551616)(p:0<=c)(g:c<18446744073709551616) :
 ar Oe 205 #[x,.string ⟨#[118,118,118]⟩,y] w λe u=>∃v,e=.returned v/\OwnB z u v (bs++outs a b c 3)/\Below z w u:=
 vy _ (outs a b c 3) z x y bs w d f Y (by have:=vx a b c 3;omega) (Ic a b c y w X t s r q p g)
def _root_.Go.Proofs.YtdicblkhpcphfaaGreat.jf.Ld(t:TypeId)(k:IntKind)(w:World)(a b c:Int)(H:Nat)(h:w.heap.size=H):jf k (w.alloc (.cells #[.int k a,.int k b,.int k c] t)) (.slice (some ⟨H,0,none⟩) 3 3) [a,b,c]:=by
 subst h;have h:gT t k w.heap.size (w.alloc (.cells #[.int k a,.int k b,.int k c] t)) (.slice (some ⟨w.heap.size,0,none⟩) 3 3) [a,b,c]:=
  ⟨rfl,.inr ⟨w.heap.size,3,_,rfl,aD _,cm _ _,ad,by unfold maxLen;omega,rfl,ad⟩⟩
 exact h.rd
def kW.lvl(h:∀x∈jJ L,-9223372036854775808<=x/\x<=9223372036854775807)(j:Nat):kW (lvl L j):=λx y=>by
 rcases bg j (ao L) with z|z
 ·rw[jX z] at y
  exact h x (List.mem_flatten.2 ⟨_,aX z,y⟩)
 ·rw[nL z] at y;simp at y
def DL(R v:Value)(bs l:List Int)(z w:World)(y:aq z w)(s:iA ig z v l)(r:mQ l)(t:kW l)(hn:ao l<=1000000000)(u:OwnB z.heap.size w R bs)(hbs:ao bs<=100000000000) :
 ar Oe 207 #[R,v] w λe F=>∃x,e=.returned x/\OwnB z.heap.size F x (bs++K9 l)/\aq z F:=by
 obtain⟨A,c,rfl,hc1,hc2,x⟩:=s.form;have Q:=ay x;have m:=ay r;have P:=ay t;have j:=ay u;have D:=ay y;have hz:=y.size;have q:=gS (ao l:Int);clear s r t u x y
 go_in
 go_wp2_with fail;refine(xQ (ao l:Int) z.heap.size R _ bs _ (by simp only[aI];omega) (gT.alloc j.o _) aa (jf.hJ _ _ _ _ _ rfl) aa  aa).mono ?_
 rintro e h ⟨v4,rfl,x,u⟩;obtain⟨G,y⟩:=au (bs++hZ (ao l:Int));have XZ:ao G<=100000000010:=by rw[<-y,aE];omega
 have B:Hid (bs++K9 l=G++pD none (l.take (ao l))):=ay (by rw[<-y,K9,bN];simp)
 rw[y] at x;have o:=ay x;have C:Hid (aq z h):=ay ((D.o.alloc aa _).trans u)
 clear x u y q
 go_wp2
 go_loopg [0,5,6,15] (ao l) (λq v _ _ i wr=>∃t:Nat,q=ao l - t/\t<=ao l/\i=.int .i64 (t:Int)/\Hid (OwnB z.heap.size wr v (G++pD none (l.take t)))/\Hid (aq z wr))
 exact⟨0,aa,aa,rfl,ay (by simpa[pD] using o.o),C⟩
 case round=>
  obtain⟨t,y,ht,rfl,V,u⟩:=hrel;have O:=ay y;clear y;have hzw:=u.o.size
  by_cases f:t<ao l
  ·obtain⟨N,H,q,M,T⟩:=Q.o.i64 f
   subst q;have Y:=P.o l[t] (aX f);have hgt:ao (G++pD none (l.take t))<=1000000000000:=by
    have:=tJ none (l.take t);have y:ao (l.take t)<=ao l:=by rw[aU];omega
    rw[aE];omega
   have hti:(t:Int)<(ao l:Int):=aa
   have J:=(u.o.cell (p:=⟨N,H+t,none⟩) M).trans T
   rcases bh t with rfl|ht0
   ·have r:=ay (xL f)
    obtain⟨x,d⟩:=au (l[0]);simp only[d,bP] at J Y r;have y:((0:Nat):Int)=0:=rfl;rw[y];clear d T y
    go_wp2_with fail;refine(Ie x z.heap.size u0 _ (G++pD none (l.take 0)) _ (by simp only[aI];omega) (gT.alloc V.o _) aa (by rw[<-show IntKind.u64.wrap x=ub x from g_ x];exact jf.hJ _ _ _ _ _ rfl) Y.1 Y.2).mono ?_
    rintro e a ⟨S,rfl,b,g⟩;have U:Hid (OwnB z.heap.size a S (G++pD none (l.take 1))):=ay (by rw[r.o,<-aO];exact b)
    have X:Hid (aq z a):=ay ((u.o.alloc aa _).trans g)
    clear b g
    go_wp2
    go_roundg (ao l - (0+1))
    exact⟨1,rfl,aa,ag,U,X⟩
    have:=O.o;omega
   ·obtain⟨s,rfl⟩:∃s,t=s+1:=⟨t - 1,aa⟩
    have L:s<ao l:=aa
    have r:=ay (Bj f);obtain⟨ga',X8,q,_,I⟩:=Q.o.i64 L;injection q with q;injection q with KN KO;subst KN;subst KO;have n:=vq m.o f;have i:=P.o l[s] (aX L);have k:=(u.o.cell (p:=⟨N,H+s,none⟩) M).trans I;obtain⟨x,d⟩:=au (l[s+1]);obtain⟨y,K⟩:=au (l[s]);simp only[d,K] at J k r Y i n;have E:=ay (show IntKind.u64.wrap (IntKind.u64.wrap x - IntKind.u64.wrap y)=x - y by simp only[g_];omega)
    have hst:(s:Int)<(ao l:Int):=aa
    have W:IntKind.i64.wrap (s:Int)=(s:Int):=cy _ aa
    clear d K T I
    go_wp2_with fail;rw[E.o];refine(xQ (x - y) z.heap.size u0 _ (G++pD none (l.take (s+1))) _ (by simp only[aI];omega) (gT.alloc V.o _) aa (jf.hJ _ _ _ _ _ rfl) aa  aa).mono ?_
    rintro e a ⟨S,rfl,b,g⟩;have U:Hid (OwnB z.heap.size a S (G++pD none (l.take (s+1+1)))):=ay (by rw[r.o,<-aO];exact b)
    have X:Hid (aq z a):=ay ((u.o.alloc aa _).trans g)
    clear b g W
    go_wp2
    go_roundg (ao l - (s+1+1))
    exact⟨s+1+1,rfl,aa,ag,U,X⟩
    have:=O.o;omega
  ·obtain rfl:t=ao l:=aa
   go_wp2;refine an ?_
   exact⟨_,rfl,by rw[B.o];exact V.o,u.o⟩
def Le(k:Int)(L:LL)(z:Nat):wg k L z=outs k z (ao L) 3++kz (L.take (ao L)):=by
 unfold wg outs;rw[bN];simp
def v_.Ui{base:Nat}{w:World}{A:Option Addr}{c:Nat}(h:v_ base w (.slice A n c) vs L){j:Nat}(u:j<ao L) :
 ∃z y x v,A=some ⟨z,y,none⟩/\z<w.heap.size/\w.cell? ⟨z,y+j,none⟩=some (.slice x (ao (lvl L j)) v)/\iA ig w (.slice x (ao (lvl L j)) v) (lvl L j):=h.PV.at_ u
def vz{F:Nat->Prop}{g k led a:Nat}{lv:Value}(w:World)(y:oy F w g k n led lv vs L)(z:jn (L,led,a))(x:∀j,kW (lvl L j))(h:k<=1000000) :
 ar Oe 127 #[.pointer (some ⟨g,0,none⟩)] w λe c=>∃v,e=.returned (.tuple #[v,.int .i64 0])/\OwnB w.heap.size c v (wg k L led)/\aq w c:=by
 have hlenL:=z.qj;have o:=z.DD;have yT:led<=4611686018427387904:=z.led;have u:=ay (qX w y aa  aa)
 have s:=ay (λW (t:aq w W)=>y.keep t)
 have R:=ay (λj=>(z.iJ j:mQ (lvl L j)))
 have V:=ay x;have P:=ay (λj=>qw L j)
 have U:=ay (λj=>hD L j)
 have t:=ay (Le k L led);have G:=vx k led (ao L) 3;clear y z x
 go_in
 go_wp2_with fail;refine(u.o).mono ?_
 rintro e z ⟨v1,vs1,rfl,x,y⟩;obtain⟨B,A,K,l,m⟩:=x.PV.form;subst K;have T:=ay x;have b:=ay y;have r:=ay (s.o z y);have f:=y.size;clear x y u s
 go_wp2_with fail;refine(size_any z r.o).mono ?_
 rintro e D ⟨rfl,u⟩;subst u
 go_wp2_with fail;refine(DA z r.o).mono ?_
 rintro e D ⟨rfl,u⟩;subst u
 go_wp2_with fail;refine(Ig k led (ao L) z.heap.size _ _ [] _ ad (gT.nil_ _ _ _ _) ad (jf.Ld _ _ _ _ _ _ _ rfl) aa  aa  aa  aa  aa  aa).mono ?_
 rintro e C ⟨v3,rfl,x,s⟩;obtain⟨H,y⟩:=au (outs (k:Int) led (ao L) 3);rw[cZ,y] at x;rw[y] at t G;have O:=ay x;have Y:Hid (aq z C):=ay (((aC _ _).alloc aa _).trans s)
 clear x s y
 go_wp2
 go_loopg [5,7,24] (ao L) (λq v _ i wr=>∃j:Nat,q=ao L - j/\j<=ao L/\i=.int .i64 (j:Int)/\Hid (OwnB z.heap.size wr v (H++kz (L.take j)))/\Hid (aq z wr))
 exact⟨0,aa,aa,rfl,ay (by simpa[kz] using O.o),Y⟩
 case round=>
  obtain⟨j,v,W,rfl,x,y⟩:=hrel;have S:=ay v;clear v;have htl:=P.o j
  by_cases q:j<ao L
  ·obtain⟨J,E,sA,sc,M,I,s,d⟩:=T.o.Ui q
   subst M;have Q:=ay (xM q);have hlc:=U.o j;have k1:=(y.o.cell (p:=⟨J,E+j,none⟩) I).trans s;have v:=ay (DL u5 _ (H++kz (L.take j)) (lvl L j) z wr y.o d (R.o j) (V.o j) aa x.o (by rw[aE];omega))
   rw[aO,<-Q.o] at v;have i:(j:Int)<(ao L:Int):=aa
   clear d s
   go_wp2_with fail;refine(v.o).mono ?_
   rintro e w4 ⟨v4,rfl,d,s⟩;have N:=ay d;have X:=ay s;clear d s
   go_wp2
   go_roundg (ao L - (j+1))
   exact⟨j+1,rfl,aa,ag,N,X⟩
   have:=S.o;omega
  ·obtain rfl:j=ao L:=aa
   go_wp2;refine an ?_
   exact⟨_,rfl,by rw[t.o];exact gT.lift x.o (λk e=>bf f (gT.lt x.o k e).1),b.o.trans (y.o.mono f)⟩
end
end K
end Go.Proofs.YtdicblkhpcphfaaGreat
