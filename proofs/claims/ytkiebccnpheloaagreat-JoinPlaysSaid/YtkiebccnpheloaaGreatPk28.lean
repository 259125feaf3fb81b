/- Parts of a proof: what its theorem reaches, words cut short. No condition of its own. -/
import Derived.Test.YtkiebccnpheloaaGreatPk14
set_option maxRecDepth 100000
set_option maxHeartbeats 16000000
set_option linter.unusedVariables false
set_option linter.unusedSimpArgs false
namespace Go.Proofs.YtkiebccnpheloaaGreat.K
def ins(v:Int):List Int->List Int
 | []=>[v]
 | y::l=>if v<y then v::y::l else y::ins v l
def insL(l vs:List Int):List Int:=vs.foldl (fun l v=>ins v l) l
abbrev qA(l:List Int):Prop:=l.Pairwise (fun a b=>a<=b)
theorem xU(v:Int):∀l,(ins v l).Perm (v::l)
 | []=>.refl _
 | y::l=>by
  unfold ins
  split
  ·exact .refl _
  ·exact((xU v l).cons y).trans (List.Perm.swap v y l)
theorem ad3{v x:Int}{l:List Int}:x∈ins v l<->x=v\/x∈l:=by rw[(xU v l).mem_iff,a_]
theorem vJ(v:Int)(l:List Int):(ins v l).length=l.length+1:=(xU v l).length_eq
theorem Q_(v:Int):∀{l:List Int},qA l->qA (ins v l)
 | [],_=>by simp[ins]
 | y::l,h=>by
  have h1:=aZ.1 h;unfold ins
  split
  ·rename_i hv
   exact aZ.2 ⟨fun z hz=>by
    rcases a_.1 hz with rfl|hz
    ·omega
    ·have:=h1.1 z hz;omega,h⟩
  ·rename_i hv
   refine aZ.2 ⟨fun z hz=>?_,Q_ v h1.2⟩
   rcases ad3.1 hz with rfl|hz
   ·omega
   ·exact h1.1 z hz
theorem XL(l:List Int):insL l []=l:=rfl
theorem Um(l:List Int)(v:Int)(vs:List Int):insL l (v::vs)=insL (ins v l) vs:=rfl
theorem KP(l a b:List Int):insL l (a++b)=insL (insL l a) b:=List.foldl_append
theorem uG:∀(vs l:List Int),(insL l vs).Perm (l++vs)
 | [],l=>by rw[List.append_nil];exact .refl _
 | v::vs,l=>by
  rw[Um];refine(uG vs (ins v l)).trans (((xU v l).append_right vs).trans ?_)
  exact List.perm_middle.symm
theorem tH(l vs:List Int):(insL l vs).length=l.length+vs.length:=by rw[(uG vs l).length_eq,aI]
theorem XM{l vs:List Int}{x:Int}:x∈insL l vs<->x∈l\/x∈vs:=by rw[(uG vs l).mem_iff,cO]
theorem DI{l:List Int}(h:qA l):∀(vs:List Int),qA (insL l vs):=by
 intro vs
 induction vs generalizing l with
 | nil=>exact h
 | cons v vs ih=>exact ih (Q_ v h)
theorem DJ:∀{a b:List Int},a.Perm b->qA a->qA b->a=b
 | [],b,p,_,_=>(List.nil_perm.1 p).symm
 | x::a,b,p,ha,hb=>by
  cases b with
  | nil=>exact absurd p.length_eq ag
  | cons y b=>
   have h1:=aZ.1 ha;have h2:=aZ.1 hb;have e:x=y:=by
    have hx:x∈y::b:=p.subset (aQ ..);have hy:y∈x::a:=p.symm.subset (aQ ..)
    rcases a_.1 hx with h|h
    ·exact h
    ·rcases a_.1 hy with h'|h'
     ·exact h'.symm
     ·have:=h1.1 y h'
      have:=h2.1 x h;omega
   subst e;rw[DJ ((List.perm_cons x).1 p) h1.2 h2.2]
theorem XN(l:List Int):qA (l.mergeSort fun x y=>decide (x<=y)):=by
 have h:=List.pairwise_mergeSort (le:=fun x y:Int=>decide (x<=y)) (fun a b c h1 h2=>by simp only[decide_eq_true_eq] at *;omega) (fun a b=>by simp only[Bool.or_eq_true,decide_eq_true_eq];omega) l
 exact h.imp (fun h=>by simpa using h)
theorem XO{l:List Int}(h:qA l)(vs:List Int):((l++vs).mergeSort fun x y=>decide (x<=y))=insL l vs:=
 DJ ((List.mergeSort_perm _ _).trans (uG vs l).symm) (XN _) (DI h vs)
abbrev LL:=List (List Int)
def ext(L:LL)(h:Nat):LL:=L++List.replicate (h+1 - L.length) []
def lvl(L:LL)(h:Nat):List Int:=L.getD h []
def jP(L:LL)(h:Nat)(vs:List Int):LL:=(ext L h).set h (insL (lvl L h) vs)
theorem lJ(L:LL)(h:Nat):(ext L h).length=max L.length (h+1):=by
 unfold ext;rw[aI,List.length_replicate];omega
theorem xW(L:LL)(h j:Nat):lvl (ext L h) j=lvl L j:=by
 unfold lvl ext;simp only[List.getD]
 rcases bJ j L.length with h1|h1
 ·rw[List.getElem?_append_left h1]
 ·rw[List.getElem?_append_right h1,List.getElem?_replicate,List.getElem?_eq_none h1]
  split<;>rfl
theorem qB{L:LL}{j:Nat}(h:L.length<=j):lvl L j=[]:=by
 unfold lvl;rw[List.getD,List.getElem?_eq_none h];rfl
theorem jV{L:LL}{j:Nat}(h:j<L.length):lvl L j=L[j]:=by
 unfold lvl;rw[List.getD,aY h];rfl
theorem nI(L:LL)(h j:Nat)(l:List Int)(hh:h<L.length):lvl (L.set h l) j=if j=h then l else lvl L j:=by
 unfold lvl;simp only[List.getD];rw[List.getElem?_set]
 by_cases e:h=j
 ·subst e;rw[if_pos rfl,if_pos rfl,if_pos hh];rfl
 ·rw[if_neg e,if_neg (fun e'=>e e'.symm)]
theorem fV(L:LL)(h:Nat)(vs:List Int):(jP L h vs).length=max L.length (h+1):=by
 unfold jP;rw[bU,lJ]
theorem kK(L:LL)(h j:Nat)(vs:List Int):lvl (jP L h vs) j=if j=h then insL (lvl L h) vs else lvl L j:=by
 unfold jP;rw[nI _ _ _ _ (by rw[lJ];omega),xW]
theorem XP{A B:LL}(hl:A.length=B.length)(h:∀j,j<A.length->lvl A j=lvl B j):A=B:=
 List.ext_getElem hl fun i h1 h2=>by rw[<-jV h1,<-jV h2];exact h i h1
theorem Gw(L:LL)(h:Nat)(a b:List Int):jP (jP L h a) h b=jP L h (a++b):=by
 refine XP (by rw[fV,fV,fV];omega) fun j _=>?_
 rw[kK,kK,kK,kK]
 by_cases e:j=h
 ·rw[if_pos e,if_pos e,if_pos rfl,KP]
 ·rw[if_neg e,if_neg e,if_neg e]
def cnt(L:LL):Nat:=(L.map List.length).sum
def qO:Nat->LL->Nat
 | _,[]=>0
 | w,l::L=>l.length * w+qO (2 * w) L
def wt(L:LL):Nat:=qO 1 L
theorem oG(A B:LL):cnt (A++B)=cnt A+cnt B:=by simp[cnt]
theorem mi(l:List Int)(L:LL):cnt (l::L)=l.length+cnt L:=by simp[cnt]
theorem ad4(n:Nat):cnt (List.replicate n [])=0:=by simp[cnt]
theorem ad5(L:LL)(h:Nat):cnt (ext L h)=cnt L:=by rw[ext,oG,ad4];rfl
theorem AY:∀(L:LL) (h:Nat) (_:h<L.length) (l:List Int),cnt (L.set h l)+(lvl L h).length=cnt L+l.length
 | x::L,0,_,l=>by rw[List.set_cons_zero,mi,mi];simp only[lvl,List.getD_cons_zero];omega
 | x::L,h+1,hh,l=>by
  have:=AY L h (by simpa using hh) l
  rw[List.set_cons_succ,mi,mi];simp only[lvl,List.getD_cons_succ] at this |-;omega
theorem nJ(L:LL)(h:Nat)(vs:List Int):cnt (jP L h vs)=cnt L+vs.length:=by
 have h1:=AY (ext L h) h (by rw[lJ];omega) (insL (lvl L h) vs)
 rw[xW,tH,ad5] at h1;unfold jP;omega
theorem fB:∀(L:LL) (h:Nat),(lvl L h).length<=cnt L
 | [],h=>by simp[lvl]
 | x::L,0=>by rw[mi];simp only[lvl,List.getD_cons_zero];omega
 | x::L,h+1=>by
  have:=fB L h;rw[mi];simp only[lvl,List.getD_cons_succ] at this |-;omega
theorem oH:∀(w:Nat) (A B:LL),qO w (A++B)=qO w A+qO (2 ^ A.length * w) B
 | w,[],B=>by simp[qO]
 | w,a::A,B=>by
  rw[List.cons_append,qO,oH (2 * w) A B,qO,aP,Nat.pow_succ,Nat.mul_assoc,Nat.add_assoc]
theorem Rf:∀(n w:Nat),qO w (List.replicate n [])=0
 | 0,_=>rfl
 | n+1,w=>by rw[List.replicate_succ,qO,Rf n];simp
theorem ao1(L:LL)(h:Nat):wt (ext L h)=wt L:=by unfold wt;rw[ext,oH,Rf];rfl
theorem IG:∀(L:LL) (w h:Nat) (_:h<L.length) (l:List Int),qO w (L.set h l)+(lvl L h).length * (2 ^ h * w)=qO w L+l.length * (2 ^ h * w)
 | x::L,w,0,_,l=>by
  rw[List.set_cons_zero,qO,qO];simp only[lvl,List.getD_cons_zero,Nat.pow_zero,Nat.one_mul];omega
 | x::L,w,h+1,hh,l=>by
  have:=IG L (2 * w) h (by simpa using hh) l
  rw[List.set_cons_succ,qO,qO,Nat.pow_succ,Nat.mul_assoc (2 ^ h) 2 w];simp only[lvl,List.getD_cons_succ] at this |-;omega
theorem O_(L:LL)(h:Nat)(vs:List Int):wt (jP L h vs)=wt L+vs.length * 2 ^ h:=by
 have h1:=IG (ext L h) 1 h (by rw[lJ];omega) (insL (lvl L h) vs)
 rw[xW,tH,Nat.mul_one,Nat.add_mul] at h1;have h2:=ao1 L h;unfold wt at h2 |-;unfold jP;omega
theorem ao2(L:LL)(h:Nat)(hh:h<L.length)(l:List Int):wt (L.set h l)+(lvl L h).length * 2 ^ h=wt L+l.length * 2 ^ h:=by
 have:=IG L 1 h hh l;rw[Nat.mul_one] at this;exact this
theorem Pe:∀(L:LL) (w h:Nat),(lvl L h).length * (2 ^ h * w)<=qO w L
 | [],w,h=>by simp[lvl,qO]
 | x::L,w,0=>by rw[qO];simp only[lvl,List.getD_cons_zero,Nat.pow_zero,Nat.one_mul];omega
 | x::L,w,h+1=>by
  have:=Pe L (2 * w) h;rw[qO,Nat.pow_succ,Nat.mul_assoc (2 ^ h) 2 w];simp only[lvl,List.getD_cons_succ] at this |-;omega
def thin(c:Nat):Nat:=(2 * c+2) / 3
def mY:Nat->Nat->Nat
 | 0,c=>c
 | j+1,c=>mY j (thin c)
def room(k len h:Nat):Nat:=if h<len then max (mY (len - 1 - h) k) 2 else 0
theorem xX:∀(j c:Nat),2<=c->mY j c<=c/\2<=mY j c
 | 0,c,h=>⟨aK _,h⟩
 | j+1,c,h=>by
  have h1:thin c<=c:=by unfold thin;omega
  have h2:2<=thin c:=by unfold thin;omega
  have:=xX j (thin c) h2;rw[mY];omega
theorem room_le{k len h:Nat}(hk:2<=k):room k len h<=k:=by
 unfold room;have:=xX (len - 1 - h) k hk
 split<;>omega
theorem AZ{k len h:Nat}(hh:h<len):2<=room k len h:=by
 unfold room;rw[if_pos hh];omega
def II(k:Nat)(L:LL)(h:Nat):Bool:=decide (room k L.length h<(lvl L h).length)
def gZ(k:Nat)(L:LL):Option Nat:=(List.range L.length).find? (II k L)
def XQ(l:List Int)(Un:Nat):List Int:=(List.range (l.length / 2)).map fun i=>l.getD (2 * i+Un) 0
def mr(l:List Int):List Int:=l.drop (2 * (l.length / 2))
def kZ(L:LL)(h Un:Nat):LL:=jP (L.set h (mr (lvl L h))) (h+1) (XQ (lvl L h) Un)
theorem rC(l:List Int)(c:Nat):(XQ l c).length=l.length / 2:=by simp[XQ]
theorem tJ(l:List Int):(mr l).length=l.length % 2:=by unfold mr;rw[bn];omega
theorem jW{k:Nat}{L:LL}{h:Nat}(e:gZ k L=some h):h<L.length/\room k L.length h<(lvl L h).length/\∀j,j<h->(lvl L j).length<=room k L.length j:=by
 unfold gZ at e;obtain⟨h1,xa,xb,h2,h3⟩:=List.find?_eq_some_iff_append.1 e;have hm:h∈List.range L.length:=by rw[h2];simp
 have hlen:xa.length=h:=by
  have hlt:xa.length<(List.range L.length).length:=by rw[h2];simp
  have:(List.range L.length)[xa.length]'hlt=h:=by simp[h2]
  rw[List.getElem_range] at this;exact this
 refine⟨List.mem_range.1 hm,by simpa[II] using h1,fun j hj=>?_⟩
 have hja:j∈xa:=by
  have hlt:j<xa.length:=ae
  have:xa[j]=j:=by
   have e1:(xa++h::xb)[j]' ah =xa[j]:=di hlt
   rw[<-e1];have hl2:j<(List.range L.length).length:=by rw[h2];simp;omega
   have:(List.range L.length)[j]'hl2=j:=ag
   simpa[h2] using this
  rw[<-this];exact bu hlt
 have:=h3 j hja
 simpa[II] using this
theorem wF{k:Nat}{L:LL}(e:gZ k L=none):∀j,j<L.length->(lvl L j).length<=room k L.length j:=by
 intro j hj;have:=List.find?_eq_none.1 e j (List.mem_range.2 hj)
 simpa[II] using this
theorem KQ{k:Nat}{L:LL}{h:Nat}(h1:h<L.length)(h2:room k L.length h<(lvl L h).length)(h3:∀j,j<h->(lvl L j).length<=room k L.length j):gZ k L=some h:=by
 cases e:gZ k L with
 | none=>have:=wF e h h1;omega
 | some h'=>
  obtain⟨g1,g2,g3⟩:=jW e
  rcases Nat.lt_trichotomy h h' with c|c|c
  ·have:=g3 h c;omega
  ·rw[c]
  ·have:=h3 h' c;omega
theorem pW{k:Nat}{L:LL}(h:∀j,j<L.length->(lvl L j).length<=room k L.length j):gZ k L=none:=by
 cases e:gZ k L with
 | none=>rfl
 | some h'=>
  obtain⟨g1,g2,_⟩:=jW e;have:=h h' g1;omega
theorem Gx{L:LL}{h:Nat}(hh:h<L.length)(c:Nat):cnt (kZ L h c)+(lvl L h).length / 2=cnt L:=by
 have h1:=AY L h hh (mr (lvl L h));rw[tJ] at h1;unfold kZ;rw[nJ,rC];omega
theorem KR{L:LL}{h:Nat}(hh:h<L.length)(c:Nat):wt (kZ L h c)=wt L:=by
 have h1:=ao2 L h hh (mr (lvl L h));rw[tJ] at h1;unfold kZ;rw[O_,rC,Nat.pow_succ];have h2:(lvl L h).length * 2 ^ h=(lvl L h).length % 2 * 2 ^ h+(lvl L h).length / 2 * (2 ^ h * 2):=by
  conv=>lhs;rw[<-Nat.mod_add_div (lvl L h).length 2]
  rw[Nat.add_mul,cZ 2,Nat.mul_assoc,cZ 2]
 omega
theorem IJ(L:LL)(h c:Nat):(kZ L h c).length=max L.length (h+2):=by unfold kZ;rw[fV,bU]
def fP(B:List Int)(a:Nat):Nat:=if a<8 * B.length then(B.getD (a / 8) 0 / 2 ^ (a % 8) % 2).toNat else 0
def iJ(B:List Int)(a:Nat):Nat:=if a<8 * B.length then a+1 else a
theorem uH(B:List Int)(a:Nat):fP B a<=1:=by
 unfold fP
 split
 ·have:=Int.emod_lt_of_pos (B.getD (a / 8) 0 / 2 ^ (a % 8)) (show(0:Int)<2 by decide)
  omega
 ·omega
abbrev KS:=LL × Nat × Nat
def jD(B:List Int)(h:Nat)(s:KS):KS:=(kZ s.1 h (fP B s.2.2),min (s.2.1+2 ^ h) 4611686018427387904,iJ B s.2.2)
def xY(k:Nat)(B:List Int):Nat->KS->KS
 | 0,s=>s
 | f+1,s=>match gZ k s.1 with
  | none=>s
  | some h=>xY k B f (jD B h s)
def gB(k:Nat)(B:List Int)(s:KS):KS:=xY k B (cnt s.1) s
theorem nT{k:Nat}{B:List Int}{s:KS}{h:Nat}(e:gZ k s.1=some h):cnt (jD B h s).1+1<=cnt s.1:=by
 obtain⟨h1,h2,_⟩:=jW e;have:=AZ (k:=k) h1;have:=Gx h1 (fP B s.2.2);show cnt (kZ s.1 h (fP B s.2.2))+1<=_
 omega
theorem DK(k:Nat)(B:List Int):∀(f g:Nat) (s:KS),cnt s.1<=f->f<=g->xY k B g s=xY k B f s
 | 0,g,s,h1,_=>by
  have e:gZ k s.1=none:=by
   cases e:gZ k s.1 with
   | none=>rfl
   | some h=>have:=nT (B:=B) e;omega
  cases g with
  | zero=>rfl
  | succ g=>simp only[xY,e]
 | f+1,g,s,h1,h2=>by
  obtain⟨g,rfl⟩:∃g',g=g'+1:=⟨g - 1,ae⟩
  simp only[xY]
  cases e:gZ k s.1 with
  | none=>rfl
  | some h=>
   have:=nT (B:=B) e;exact DK k B f g _ ae  ae
theorem rD{k:Nat}{B:List Int}{s:KS}(e:gZ k s.1=none):gB k B s=s:=by
 unfold gB
 cases h:cnt s.1 with
 | zero=>rfl
 | succ f=>simp only[xY,e]
theorem wG{k:Nat}{B:List Int}{s:KS}{h:Nat}(e:gZ k s.1=some h):gB k B s=gB k B (jD B h s):=by
 have h1:=nT (B:=B) e;have h2:gB k B s=xY k B (cnt s.1 - 1) (jD B h s):=by
  unfold gB;obtain⟨f,hf⟩:∃f,cnt s.1=f+1:=⟨cnt s.1 - 1,ae⟩
  rw[hf];simp only[xY,e];rfl
 rw[h2];exact DK k B _ _ _ (aK _) ae
theorem yX{k:Nat}{B:List Int}{P:KS->Prop}(step:∀s h,P s->gZ k s.1=some h->P (jD B h s)):∀(n:Nat) (s:KS),cnt s.1<=n->P s->P (gB k B s)/\gZ k (gB k B s).1=none
 | n,s,hn,hs=>by
  cases e:gZ k s.1 with
  | none=>rw[rD e];exact⟨hs,e⟩
  | some h=>
   have h1:=nT (B:=B) e;rw[wG e]
   match n,hn with
   | 0,hn=>omega
   | n+1,hn=>exact yX step n _ ae (step s h hs e)
theorem wH{k:Nat}{B:List Int}{P:KS->Prop}(step:∀s h,P s->gZ k s.1=some h->P (jD B h s)){s:KS}(hs:P s):P (gB k B s):=(yX step _ s (aK _) hs).1
theorem Pg(k:Nat)(B:List Int)(s:KS):gZ k (gB k B s).1=none:=(yX (P:=fun _=>True) (fun _ _ _ _=>trivial) _ s (aK _) trivial).2
def nM:Nat->Nat->Nat->LL->Int->LL
 | 0,_,_,L,_=>L
 | f+1,h,m,L,v=>if m=0 then L else nM f (h+1) (m / 2) (if m % 2=1 then jP L h [v] else L) v
def gW(L:LL)(v:Int)(n:Nat):LL:=nM 64 0 n L v
theorem yY:∀(f h:Nat) (L:LL) (v:Int),nM f h 0 L v=L
 | 0,_,_,_=>rfl
 | f+1,_,_,_=>by rw[nM,if_pos rfl]
theorem Rh:∀(f h m:Nat) (L:LL) (v:Int),m<2 ^ f->wt (nM f h m L v)=wt L+m * 2 ^ h
 | 0,h,m,L,v,hm=>by
  obtain rfl:m=0:=ae
  simp[nM]
 | f+1,h,m,L,v,hm=>by
  rw[nM]
  by_cases h0:m=0
  ·rw[if_pos h0,h0];simp
  ·rw[if_neg h0,Rh f (h+1) (m / 2) _ v (by rw[Nat.pow_succ] at hm;omega)]
   have e:m * 2 ^ h=m % 2 * 2 ^ h+m / 2 * 2 ^ (h+1):=by
    conv=>lhs;rw[<-Nat.mod_add_div m 2]
    rw[Nat.add_mul,Nat.pow_succ,cZ 2 (m / 2),Nat.mul_assoc,cZ 2]
   split
   ·rename_i h1
    rw[O_,e,h1];simp only[bK];omega
   ·have:m % 2=0:=ae
    rw[e,this];omega
theorem IK{n:Nat}(L:LL)(v:Int)(hn:n<18446744073709551616):wt (gW L v n)=wt L+n:=by
 unfold gW;rw[Rh 64 0 n L v ae];simp
theorem KT:∀(f h m:Nat) (L:LL) (v:Int),cnt (nM f h m L v)<=cnt L+f
 | 0,h,m,L,v=>aK _
 | f+1,h,m,L,v=>by
  rw[nM]
  split
  ·omega
  ·refine bG (KT f _ _ _ v) ?_
   split
   ·rw[nJ];simp only[bK];omega
   ·omega
theorem XU(L:LL)(v:Int)(n:Nat):cnt (gW L v n)<=cnt L+64:=KT 64 0 n L v
theorem yZ{P:LL->Prop}{v:Int}(step:∀L h,P L->P (jP L h [v])):∀(f h m:Nat) (L:LL),P L->P (nM f h m L v)
 | 0,_,_,_,hp=>hp
 | f+1,h,m,L,hp=>by
  rw[nM]
  split
  ·exact hp
  ·refine yZ step f _ _ _ ?_
   split
   ·exact step L h hp
   ·exact hp
def KU(L:LL):Prop:=0<L.length->lvl L (L.length - 1)≠[]
theorem A_{l vs:List Int}(h:vs≠[]\/l≠[]):insL l vs≠[]:=by
 intro e;have:=congrArg List.length e;rw[tH,bf] at this
 rcases h with h|h
 ·exact h (aW ae)
 ·exact h (aW ae)
theorem KU.put{L:LL}(ht:KU L)(h:Nat){vs:List Int}(hv:vs≠[]):KU (jP L h vs):=by
 intro h0;rw[fV,kK]
 split
 ·exact A_ (.inl hv)
 ·rename_i hne
  have:max L.length (h+1)=L.length:=ae
  rw[this];exact ht ae
theorem KU.pack{L:LL}(ht:KU L){h:Nat}(hh:h<L.length)(h2:2<=(lvl L h).length)(c:Nat):KU (kZ L h c):=by
 intro h0;rw[IJ];unfold kZ;rw[kK]
 split
 ·refine A_ (.inl fun e=>?_)
  have:=congrArg List.length e;rw[rC,bf] at this;omega
 ·rename_i hne
  rw[nI _ _ _ _ hh,if_neg ae,show max L.length (h+2)=L.length by omega]
  exact ht ae
theorem KU.add{L:LL}(ht:KU L)(v:Int)(n:Nat):KU (gW L v n):=yZ (fun _ h hp=>hp.put h ag) 64 0 n L ht
theorem ad6{L:LL}(ht:KU L)(hw:wt L<=281474976710656):L.length<=49:=by
 rcases bT L.length with h0|h0
 ·omega
 ·have h1:=Pe L 1 (L.length - 1)
  have h2:1<=(lvl L (L.length - 1)).length:=List.length_pos_iff.2 (ht h0)
  rcases bJ 49 L.length with h3|h3
  ·exfalso
   have h4:2 ^ 49<=2 ^ (L.length - 1):=Nat.pow_le_pow_right af ae
   have h5:1 * (2 ^ (L.length - 1) * 1)<=(lvl L (L.length - 1)).length * (2 ^ (L.length - 1) * 1):=Nat.mul_le_mul_right _ h2;unfold wt at hw;omega
  ·exact h3
def takeN(M:LL):Nat->LL->LL
 | 0,L=>L
 | j+1,L=>jP (takeN M j L) j (lvl M j)
def jq(L M:LL):LL:=takeN M M.length L
theorem KW(M L:LL):∀j,j<=M.length->wt (takeN M j L)=wt L+qO 1 (M.take j)
 | 0,_=>by simp[takeN,qO]
 | j+1,hj=>by
  rw[takeN,O_,KW M L j ae,aT ae,oH,bg,Nat.min_eq_left ae,jV ae]
  simp[qO,Nat.add_assoc]
theorem xZ(L M:LL):wt (jq L M)=wt L+wt M:=by
 unfold jq;rw[KW M L M.length (aK _),List.take_length];rfl
theorem uI(M L:LL):∀j,j<=M.length->cnt (takeN M j L)=cnt L+cnt (M.take j)
 | 0,_=>by simp[takeN,cnt]
 | j+1,hj=>by
  rw[takeN,nJ,uI M L j ae,aT ae,oG,jV ae]
  simp[cnt,Nat.add_assoc]
theorem Uo(L M:LL):cnt (jq L M)=cnt L+cnt M:=by
 unfold jq;rw[uI M L M.length (aK _),List.take_length]
theorem kL(M L:LL):∀j,(takeN M j L).length=max L.length j
 | 0=>by simp[takeN]
 | j+1=>by rw[takeN,fV,kL M L j];omega
theorem uJ(M L:LL):∀j i,lvl (takeN M j L) i=if i<j then insL (lvl L i) (lvl M i) else lvl L i
 | 0,i=>by simp[takeN]
 | j+1,i=>by
  rw[takeN,kK,uJ M L j i,uJ M L j j]
  by_cases e:i=j
  ·subst e;rw[if_pos rfl,if_neg ae,if_pos ae]
  ·rw[if_neg e]
   by_cases h:i<j
   ·rw[if_pos h,if_pos ae]
   ·rw[if_neg h,if_neg ae]
theorem KU.take{L M:LL}(hl:KU L)(hm:KU M):KU (jq L M):=by
 intro h0;have e1:=kL M L M.length;unfold jq at h0 |-;rw[e1,uJ]
 rcases bJ (L.length - 1) M.length with h1|h1
 ·rcases bT M.length with h2|h2
  ·omega
  ·rw[if_pos ae]
   rcases bJ M.length L.length with h3|h3
   ·have:max L.length M.length - 1=L.length - 1:=ae
    rw[this];exact A_ (.inr (hl ae))
   ·have:max L.length M.length - 1=M.length - 1:=ae
    rw[this];exact A_ (.inl (hm h2))
 ·have h3:max L.length M.length - 1=L.length - 1:=ae
  rw[h3,if_neg ae]
  exact hl ae
open Go.RowKit
def fZ:Io Int where
 k:=1
 t:=2
 enc x:=[.int .i64 x]
 len _:=rfl
 one x u hu:=by
  simp only[a_,List.not_mem_nil,or_false] at hu;subst hu;rfl
abbrev Sv:=Option Addr × Nat × Nat
def gX(s:Sv):Value:=.slice s.1 s.2.1 s.2.2
def wI:Io Sv where
 k:=1
 t:=236
 enc s:=[gX s]
 len _:=rfl
 one x u hu:=by
  simp only[a_,List.not_mem_nil,or_false] at hu;subst hu;rfl
theorem _root_.Go.Proofs.YtkiebccnpheloaaGreat.jl.i64{w:World}{A:Option Addr}{l:List Int}(h:jl fZ w A l){j:Nat}(hj:j<l.length) :
 ∃g off,A=some ⟨g,off,none⟩/\g<w.heap.size/\w.cell? ⟨g,off+j,none⟩=some (.int .i64 l[j]):=by
 obtain⟨g,off,hA,hg,hc⟩:=h ae
 refine⟨g,off,hA,hg,?_⟩
 have:=hc j hj 0 af
 rw[show off+j * fZ.k+0=off+j by show off+j * 1+0=_;omega] at this
 exact this
theorem _root_.Go.Proofs.YtkiebccnpheloaaGreat.jl.sl{w:World}{A:Option Addr}{l:List Sv}(h:jl wI w A l){j:Nat}(hj:j<l.length) :
 ∃g off,A=some ⟨g,off,none⟩/\g<w.heap.size/\w.cell? ⟨g,off+j,none⟩=some (gX l[j]):=by
 obtain⟨g,off,hA,hg,hc⟩:=h ae
 refine⟨g,off,hA,hg,?_⟩
 have:=hc j hj 0 af
 rw[show off+j * wI.k+0=off+j by show off+j * 1+0=_;omega] at this
 exact this
theorem qC:∀l:List Int,cellsE fZ l=l.map (Value.int .i64)
 | []=>rfl
 | x::l=>by rw[iC,qC l];rfl
structure IL(F:Nat->Prop)(w:World)(lv:Value)(vs:List Sv)(L:LL):Prop where
 row:dI wI 0 w lv vs
 len:vs.length=L.length
 each:∀i (h:i<vs.length),dI fZ 0 w (gX vs[i]) (lvl L i)
 apart:∀i (h:i<vs.length) k,(gX vs[i]).ownBlock=some k->lv.ownBlock≠some k
 diff:∀i j (hi:i<vs.length) (hj:j<vs.length),i≠j->∀k,(gX vs[i]).ownBlock=some k->(gX vs[j]).ownBlock≠some k
 fl:∀k,lv.ownBlock=some k->F k
 fv:∀i (h:i<vs.length) k,(gX vs[i]).ownBlock=some k->F k
section
variable {F : Nat -> Prop} {w w' : World} {lv : Value} {vs : List Sv} {L : LL}
theorem IL.stay(h:IL F w lv vs L)(hk:∀k,F k->w'.heap[k]?=w.heap[k]?):IL F w' lv vs L:=
 ⟨h.row.stay fun k e=>hk k (h.fl k e),h.len,fun i hi=>(h.each i hi).stay fun k e=>hk k (h.fv i hi k e),h.apart,h.diff,h.fl,h.fv⟩
theorem IL.lt(h:IL F w lv vs L){i:Nat}(hi:i<vs.length):∀k,(gX vs[i]).ownBlock=some k->k<w.heap.size:=fun k e=>((h.each i hi).lt k e).2
theorem IL.mono{G:Nat->Prop}(h:IL F w lv vs L)(hG:∀k,F k->G k):IL G w lv vs L:=⟨h.row,h.len,h.each,h.apart,h.diff,fun k e=>hG k (h.fl k e),fun i hi k e=>hG k (h.fv i hi k e)⟩
end
structure mZ(t:TypeId)(a:Value)(rest:List Value)(F:Nat->Prop)(w:World)(g:Nat)(lv:Value)(vs:List Sv)(L:LL):Prop where
 blk:dH w g t (a::lv::rest).toArray
 fJ:IL F w lv vs L
 fg:F g
 g1:lv.ownBlock≠some g
 g2:∀i (h:i<vs.length),(gX vs[i]).ownBlock≠some g
 low:∀k,F k->k<w.heap.size
section
variable {t : TypeId} {a : Value} {rest : List Value} {F : Nat -> Prop} {w w' : World} {g : Nat} {lv : Value} {vs : List Sv} {L : LL}
theorem mZ.stay(h:mZ t a rest F w g lv vs L)(hk:∀k,F k->w'.heap[k]?=w.heap[k]?)(hz:w.heap.size<=w'.heap.size):mZ t a rest F w' g lv vs L:=
 ⟨(hk g h.fg).trans h.blk,h.fJ.stay hk,h.fg,h.g1,h.g2,fun k hf=>aU (h.low k hf) hz⟩
theorem mZ.keep(h:mZ t a rest F w g lv vs L)(hb:Below w.heap.size w w'):mZ t a rest F w' g lv vs L:=h.stay (fun k hk=>hb.block k (h.low k hk)) hb.size
theorem mZ.cell0(h:mZ t a rest F w g lv vs L):w.cell? ⟨g,0,none⟩=some a:=by rw[h.blk.cell 0];simp
theorem mZ.cell1(h:mZ t a rest F w g lv vs L):w.cell? ⟨g,1,none⟩=some lv:=by rw[h.blk.cell 1];simp
theorem mZ.cell2{b:Value}{r:List Value}(h:mZ t a (b::r) F w g lv vs L):w.cell? ⟨g,2,none⟩=some b:=by rw[h.blk.cell 2];simp
theorem mZ.zN{b c:Value}{r:List Value}(h:mZ t a (b::c::r) F w g lv vs L):w.cell? ⟨g,3,none⟩=some c:=by rw[h.blk.cell 3];simp
theorem mZ.form(h:mZ t a rest F w g lv vs L):∃A c,lv=.slice A L.length c/\L.length<=c/\c<=9223372036854775807/\jl wI w A vs:=by
 obtain⟨A,c,e,h1,h2,h3⟩:=h.fJ.row.form;rw[h.fJ.len] at e h1;exact⟨A,c,e,h1,h2,h3⟩
theorem mZ.Ph{b:Value}{r:List Value}(h:mZ t a (b::r) F w g lv vs L)(u:Value):mZ t a (u::r) F (w.setCell ⟨g,2,none⟩ u) g lv vs L:=by
 have hk:∀k,k≠g->(w.setCell ⟨g,2,none⟩ u).heap[k]?=w.heap[k]?:=fun k hk=>bF w ⟨g,2,none⟩ u k hk
 refine⟨?_,⟨h.fJ.row.stay fun k e=>hk k (fun e2=>h.g1 (by rw[e,e2])),h.fJ.len,fun i hi=>(h.fJ.each i hi).stay fun k e=>hk k (fun e2=>h.g2 i hi (by rw[e,e2])),h.fJ.apart,h.fJ.diff,h.fJ.fl,h.fJ.fv⟩,h.fg,h.g1,h.g2,fun k hf=>by have:=h.low k hf;simpa using this⟩
 have:=h.blk.dP 2 u
 simpa using this
theorem mZ.ao3{b c:Value}{r:List Value}(h:mZ t a (b::c::r) F w g lv vs L)(u:Value):mZ t a (b::u::r) F (w.setCell ⟨g,3,none⟩ u) g lv vs L:=by
 have hk:∀k,k≠g->(w.setCell ⟨g,3,none⟩ u).heap[k]?=w.heap[k]?:=fun k hk=>bF w ⟨g,3,none⟩ u k hk
 refine⟨?_,⟨h.fJ.row.stay fun k e=>hk k (fun e2=>h.g1 (by rw[e,e2])),h.fJ.len,fun i hi=>(h.fJ.each i hi).stay fun k e=>hk k (fun e2=>h.g2 i hi (by rw[e,e2])),h.fJ.apart,h.fJ.diff,h.fJ.fl,h.fJ.fv⟩,h.fg,h.g1,h.g2,fun k hf=>by have:=h.low k hf;simpa using this⟩
 have:=h.blk.dP 3 u
 simpa using this
theorem mZ.more{pX:Value}{w1:World}(h:mZ t a rest F w g lv vs L)(ho:dI wI 0 w1 pX (vs++[(none,0,0)]))(hg:w.grownBy w1 lv.ownBlock)(hn:pX.ownBlock=lv.ownBlock\/pX.ownBlock=some w.heap.size) :
 mZ t a rest (fun k=>F k\/pX.ownBlock=some k) (w1.setCell ⟨g,1,none⟩ pX) g pX (vs++[(none,0,0)]) (L++[[]]):=by
 have hgl:=h.blk.lt;have hz:w.heap.size<=w1.heap.size:=hg.size;have hg':pX.ownBlock≠some g:=by
  rcases hn with e|e
  ·rw[e];exact h.g1
  ·rw[e];intro e2;injection e2 with e2;omega
 have hblk:∀k,k<w.heap.size->lv.ownBlock≠some k->k≠g->(w1.setCell ⟨g,1,none⟩ pX).heap[k]?=w.heap[k]?:=fun k h1 h2 h3=>
  (bF w1 ⟨g,1,none⟩ pX k h3).trans (hg.block k h1 (fun e=>h2 e.symm))
 have hone:∀i (hi:i<(vs++[((none,0,0):Sv)]).length),∀k,(gX ((vs++[((none,0,0):Sv)])[i])).ownBlock=some k->∃hi':i<vs.length,(gX vs[i]).ownBlock=some k:=fun i hi k e=>by
  rcases bJ i vs.length with h1|h1
  ·rw[di h1] at e;exact⟨h1,e⟩
  ·rw[List.getElem_append_right h1] at e
   simp[gX,Value.ownBlock] at e
 have Pj:∀i (hi:i<vs.length) k,(gX vs[i]).ownBlock=some k->pX.ownBlock≠some k:=fun i hi k e=>by
  rcases hn with e2|e2
  ·rw[e2];exact h.fJ.apart i hi k e
  ·rw[e2];intro e3;injection e3 with e3;have:=h.fJ.lt hi k e;omega
 refine⟨?_,⟨?_,by rw[aI,aI,h.fJ.len];rfl,fun i hi=>?_,fun i hi k e=>?_,fun i j hi hj hij k e e2=>?_,fun k e=>.inr e,fun i hi k e=>?_⟩,.inl h.fg,hg',fun i hi e=>?_,fun k hk=>?_⟩
 ·have h1:dH w1 g t (a::lv::rest).toArray:=(hg.block g hgl (fun e=>h.g1 e.symm)).trans h.blk
  have:=h1.dP 1 pX
  simpa using this
 ·exact ho.far hg' pX
 ·rcases bJ i vs.length with h1|h1
  ·rw[di h1]
   have e:lvl (L++[[]]) i=lvl L i:=by
    unfold lvl;simp only[List.getD];rw[List.getElem?_append_left (by rw[<-h.fJ.len];exact h1)]
   rw[e];exact(h.fJ.each i h1).stay fun k e=>hblk k (h.fJ.lt h1 k e) (h.fJ.apart i h1 k e) (fun e2=>h.g2 i h1 (by rw[e,e2]))
  ·have hi':i=vs.length:=by rw[aI] at hi;simp only[bK] at hi;omega
   subst hi';have e:lvl (L++[[]]) vs.length=[]:=by
    unfold lvl;simp only[List.getD];rw[h.fJ.len,List.getElem?_append_right (aK _)];simp
   rw[e];simp only[List.getElem_append_right (aK _),Nat.sub_self,List.getElem_cons_zero];exact dI.nil_ _ _
 ·obtain⟨h1,h2⟩:=hone i hi k e
  exact Pj i h1 k h2
 ·obtain⟨h1,h2⟩:=hone i hi k e
  obtain⟨h3,h4⟩:=hone j hj k e2;exact h.fJ.diff i j h1 h3 hij k h2 h4
 ·obtain⟨h1,h2⟩:=hone i hi k e
  exact .inl (h.fJ.fv i h1 k h2)
 ·obtain⟨h1,h2⟩:=hone i hi g e
  exact h.g2 i h1 h2
 ·rcases hk with hk|hk
  ·have:=h.low k hk;simp;omega
  ·have:=(ho.lt k hk).2;simpa using this
theorem mZ.level{w1:World}{s':Sv}{l':List Int}{j:Nat}(h:mZ t a rest F w g lv vs L)(hj:j<L.length){gl cl n:Nat}(hlv:lv=.slice (some ⟨gl,0,none⟩) n cl)
 (ho:dI fZ 0 w1 (gX s') l') (hk:∀k,k<w.heap.size->(gX (vs[j]'(by rw[h.fJ.len];exact hj))).ownBlock≠some k->w1.heap[k]?=w.heap[k]?) (hz:w.heap.size<=w1.heap.size)
 (hn:(gX s').ownBlock=(gX (vs[j]'(by rw[h.fJ.len];exact hj))).ownBlock\/∀k,(gX s').ownBlock=some k->w.heap.size<=k) :
 mZ t a rest (fun k=>F k\/(gX s').ownBlock=some k) (w1.setCell ⟨gl,j,none⟩ (gX s')) g lv (vs.set j s') (L.set j l'):=by
 have hj':j<vs.length:=by rw[h.fJ.len];exact hj
 have Pm:lv.ownBlock=some gl:=by rw[hlv];rfl
 have hgl:gl<w.heap.size:=(h.fJ.row.lt gl Pm).2;have hfj:∀k,(gX vs[j]).ownBlock=some k->k≠gl:=fun k e e2=>h.fJ.apart j hj' k e (by rw[Pm,e2])
 have hs':∀k,(gX s').ownBlock=some k->(k<w.heap.size->(gX vs[j]).ownBlock=some k):=fun k e hlt=>by
  rcases hn with e2|e2
  ·rw[<-e2];exact e
  ·have:=e2 k e;omega
 have hs1:(gX s').ownBlock≠some gl:=fun e=>h.fJ.apart j hj' gl (hs' gl e hgl) Pm
 have hs2:(gX s').ownBlock≠some g:=fun e=>h.g2 j hj' (hs' g e h.blk.lt)
 have hblk:∀k,k<w.heap.size->(gX vs[j]).ownBlock≠some k->k≠gl->(w1.setCell ⟨gl,j,none⟩ (gX s')).heap[k]?=w.heap[k]?:=fun k h1 h2 h3=>
  (bF w1 ⟨gl,j,none⟩ _ k h3).trans (hk k h1 h2)
 have hother:∀i (hi:i<vs.length),i≠j->dI fZ 0 (w1.setCell ⟨gl,j,none⟩ (gX s')) (gX vs[i]) (lvl L i):=fun i hi hij=>
  (h.fJ.each i hi).stay fun k e=>hblk k (h.fJ.lt hi k e) (h.fJ.diff i j hi hj' hij k e) (fun e2=>h.fJ.apart i hi k e (by rw[Pm,e2]))
 have hrow:dI wI 0 (w1.setCell ⟨gl,j,none⟩ (gX s')) lv (vs.set j s'):=by
  have h1:dI wI 0 w1 lv vs:=h.fJ.row.stay fun k e=>by
   rw[Pm] at e;injection e with e;subst e;exact hk _ hgl (fun e2=>hfj _ e2 rfl)
  have:=h1;rw[hlv] at this |-;have:=this.dP j hj' s';rw[show j * wI.k=j by show j * 1=j;omega] at this
  exact this
 have hget:∀i (hi:i<(vs.set j s').length),(vs.set j s')[i]=if i=j then s' else vs[i]'(by rw[bU] at hi;exact hi):=fun i hi=>by
  rw[List.getElem_set]
  by_cases e:j=i
  ·subst e;simp
  ·rw[if_neg e,if_neg (fun e'=>e e'.symm)]
 refine⟨?_,⟨hrow,by rw[bU,bU,h.fJ.len],fun i hi=>?_,fun i hi k e=>?_,fun i i2 hi hi2 hne k e e2=>?_,fun k e=>.inl (h.fJ.fl k e),fun i hi k e=>?_⟩,.inl h.fg,h.g1,fun i hi e=>?_,fun k hk'=>?_⟩
 ·exact(hblk g h.blk.lt (h.g2 j hj') (fun e=>h.g1 (by rw[Pm,e]))).trans h.blk
 ·have hi':i<vs.length:=by rw[bU] at hi;exact hi
  rw[hget i hi,nI _ _ _ _ hj]
  by_cases e:i=j
  ·rw[if_pos e,if_pos e]
   exact ho.far hs1 _
  ·rw[if_neg e,if_neg e]
   exact hother i hi' e
 ·have hi':i<vs.length:=by rw[bU] at hi;exact hi
  rw[hget i hi] at e
  by_cases ei:i=j
  ·rw[if_pos ei] at e
   intro e2;rw[Pm] at e2;injection e2 with e2;subst e2;exact hs1 e
  ·rw[if_neg ei] at e;exact h.fJ.apart i hi' k e
 ·have hi':i<vs.length:=by rw[bU] at hi;exact hi
  have ao4:i2<vs.length:=by rw[bU] at hi2;exact hi2
  rw[hget i hi] at e;rw[hget i2 hi2] at e2
  by_cases ei:i=j
  ·rw[if_pos ei] at e
   rw[if_neg (fun e'=>hne ae)] at e2
   have hlt:=h.fJ.lt ao4 k e2;exact h.fJ.diff j i2 hj' ao4 ae k (hs' k e hlt) e2
  ·rw[if_neg ei] at e
   by_cases ei2:i2=j
   ·rw[if_pos ei2] at e2
    have hlt:=h.fJ.lt hi' k e;exact h.fJ.diff i j hi' hj' ei k e (hs' k e2 hlt)
   ·rw[if_neg ei2] at e2
    exact h.fJ.diff i i2 hi' ao4 hne k e e2
 ·have hi':i<vs.length:=by rw[bU] at hi;exact hi
  rw[hget i hi] at e
  by_cases ei:i=j
  ·rw[if_pos ei] at e;exact .inr e
  ·rw[if_neg ei] at e;exact .inl (h.fJ.fv i hi' k e)
 ·have hi':i<vs.length:=by rw[bU] at hi;exact hi
  rw[hget i hi] at e
  by_cases ei:i=j
  ·rw[if_pos ei] at e;exact hs2 e
  ·rw[if_neg ei] at e;exact h.g2 i hi' e
 ·rcases hk' with hk'|hk'
  ·have:=h.low k hk';simp;omega
  ·have:=(ho.lt k hk').2;simpa using this
theorem mZ.turn{l':List Int}{j:Nat}(h:mZ t a rest F w g lv vs L)(hj:j<L.length)(ho:dI fZ 0 w' (gX (vs[j]'(by rw[h.fJ.len];exact hj))) l')
 (hk:∀k,k<w.heap.size->(gX (vs[j]'(by rw[h.fJ.len];exact hj))).ownBlock≠some k->w'.heap[k]?=w.heap[k]?) (hz:w.heap.size<=w'.heap.size):mZ t a rest F w' g lv vs (L.set j l'):=by
 have hj':j<vs.length:=by rw[h.fJ.len];exact hj
 refine⟨(hk g h.blk.lt (h.g2 j hj')).trans h.blk,⟨h.fJ.row.stay fun k e=>hk k (h.fJ.row.lt k e).2 (fun e2=>h.fJ.apart j hj' k e2 e),by rw[bU];exact h.fJ.len,fun i hi=>?_,h.fJ.apart,h.fJ.diff,h.fJ.fl,h.fJ.fv⟩,h.fg,h.g1,h.g2,fun k hf=>aU (h.low k hf) hz⟩
 rw[nI _ _ _ _ hj]
 by_cases e:i=j
 ·subst e;rw[if_pos rfl];exact ho
 ·rw[if_neg e]
  exact(h.fJ.each i hi).stay fun k e2=>hk k (h.fJ.lt hi k e2) (h.fJ.diff i j hi hj' e k e2)
end
end Go.Proofs.YtkiebccnpheloaaGreat.K
