/- Parts of a proof. No condition. -/
import Derived.Test.YtilcnjbpmoijmaaGreatPw27
import Derived.Shelf.SlSortCmp.NoneTotal
set_option maxRecDepth 100000
set_option maxHeartbeats 16000000
set_option linter.unusedVariables false
set_option linter.unusedSimpArgs false
namespace Go.Proofs.YtilcnjbpmoijmaaGreat.K
open Tryz
variable{h k:Nat}{B vs:List Int}{L:LL}
def iW(B:List Int)(a:Nat):Nat:=if a<8 * B.length then(B.getD (a / 8) 0 / 2 ^ (a % 8) % 2).toNat else 0
def qc(B:List Int)(a:Nat):Nat:=if a<8 * B.length then a+1 else a
theorem Bj(B:List Int)(a:Nat):iW B a<=1:=by
 unfold iW
 split
 ·have:=Int.emod_lt_of_pos (B.getD (a / 8) 0 / 2 ^ (a % 8)) (show(0:Int)<2 by decide)
  omega
 ·omega
abbrev KS:=LL × Nat × Nat
def uo(B:List Int)(h:Nat)(s:KS):KS:=(mM s.1 h (iW B s.2.2),min (s.2.1+2 ^ h) 4611686018427387904,qc B s.2.2)
def zI(k:Nat)(B:List Int):Nat->KS->KS
 | 0,s=>s
 | f+1,s=>match iH k s.1 with
  | none=>s
  | some h=>zI k B f (uo B h s)
def jo(k:Nat)(B:List Int)(s:KS):KS:=zI k B (cnt s.1) s
theorem rG{s:KS}(e:iH k s.1=some h):cnt (uo B h s).1+1<=cnt s.1:=by
 obtain⟨h1,h2,_⟩:=kR e;have:=Ll (k:=k) h1;have:=Jt h1 (iW B s.2.2);show cnt (mM s.1 h (iW B s.2.2))+1<=_
 omega
theorem GN(k:Nat)(B:List Int):∀(f g:Nat) (s:KS),cnt s.1<=f->f<=g->zI k B g s=zI k B f s
 | 0,g,s,h1,_=>by
  have e:iH k s.1=none:=by
   cases e:iH k s.1 with
   | none=>rfl
   | some h=>have:=rG (B:=B) e;omega
  cases g with
  | zero=>rfl
  | succ g=>simp only[zI,e]
 | f+1,g,s,h1,h2=>by
  obtain⟨g,rfl⟩:∃g',g=g'+1:=⟨g - 1,ae⟩
  simp only[zI]
  cases e:iH k s.1 with
  | none=>rfl
  | some h=>
   have:=rG (B:=B) e;exact GN k B f g _ ae  ae
theorem qf{s:KS}(e:iH k s.1=none):jo k B s=s:=by
 unfold jo
 cases h:cnt s.1 with
 | zero=>rfl
 | succ f=>simp only[zI,e]
theorem GR{s:KS}(e:iH k s.1=some h):jo k B s=jo k B (uo B h s):=by
 have h1:=rG (B:=B) e;have h2:jo k B s=zI k B (cnt s.1 - 1) (uo B h s):=by
  unfold jo;obtain⟨f,hf⟩:∃f,cnt s.1=f+1:=⟨cnt s.1 - 1,ae⟩
  rw[hf];simp only[zI,e];rfl
 rw[h2];exact GN k B _ _ _ (aS _) ae
theorem Bl{k:Nat}{B:List Int}{P:KS->Prop}(step:∀s h,P s->iH k s.1=some h->P (uo B h s)):∀(n:Nat) (s:KS),cnt s.1<=n->P s->P (jo k B s)/\iH k (jo k B s).1=none
 | n,s,hn,hs=>by
  cases e:iH k s.1 with
  | none=>rw[qf e];exact⟨hs,e⟩
  | some h=>
   have h1:=rG (B:=B) e;rw[GR e]
   match n,hn with
   | 0,hn=>omega
   | n+1,hn=>exact Bl step n _ ae (step s h hs e)
theorem yt{P:KS->Prop}(step:∀s h,P s->iH k s.1=some h->P (uo B h s)){s:KS}(hs:P s):P (jo k B s):=(Bl step _ s (aS _) hs).1
theorem S9(k:Nat)(B:List Int)(s:KS):iH k (jo k B s).1=none:=(Bl (P:=fun _=>True) (fun _ _ _ _=>trivial) _ s (aS _) trivial).2
def GU:Nat->Nat->Nat->LL->Int->LL
 | 0,_,_,L,_=>L
 | f+1,h,m,L,v=>if m=0 then L else GU f (h+1) (m / 2) (if m % 2=1 then vJ L h [v] else L) v
def nT(L:LL)(v:Int)(n:Nat):LL:=GU 64 0 n L v
theorem Vr:∀(f h m:Nat) (L:LL) (v:Int),m<2 ^ f->wt (GU f h m L v)=wt L+m * 2 ^ h
 | 0,h,m,L,v,hm=>by
  obtain rfl:m=0:=ae
  simp[GU]
 | f+1,h,m,L,v,hm=>by
  rw[GU]
  by_cases h0:m=0
  ·rw[if_pos h0,h0];simp
  ·rw[if_neg h0,Vr f (h+1) (m / 2) _ v (by rw[Nat.pow_succ] at hm;omega)]
   have e:m * 2 ^ h=m % 2 * 2 ^ h+m / 2 * 2 ^ (h+1):=by
    conv=>lhs;rw[<-Nat.mod_add_div m 2]
    rw[Nat.add_mul,Nat.pow_succ,dC 2 (m / 2),Nat.mul_assoc,dC 2]
   split
   ·rename_i h1
    rw[SN,e,h1];simp only[bW];omega
   ·have:m % 2=0:=ae
    rw[e,this];omega
theorem Vs{n:Nat}(L:LL)(v:Int)(hn:n<18446744073709551616):wt (nT L v n)=wt L+n:=by
 unfold nT;rw[Vr 64 0 n L v ae];simp
theorem Ox:∀(f h m:Nat) (L:LL) (v:Int),cnt (GU f h m L v)<=cnt L+f
 | 0,h,m,L,v=>aS _
 | f+1,h,m,L,v=>by
  rw[GU]
  split
  ·omega
  ·refine bJ (Ox f _ _ _ v) ?_
   split
   ·rw[Lh];simp only[bW];omega
   ·omega
theorem ac8(L:LL)(v:Int)(n:Nat):cnt (nT L v n)<=cnt L+64:=Ox 64 0 n L v
theorem Bo{P:LL->Prop}{v:Int}(step:∀L h,P L->P (vJ L h [v])):∀(f h m:Nat) (L:LL),P L->P (GU f h m L v)
 | 0,_,_,_,hp=>hp
 | f+1,h,m,L,hp=>by
  rw[GU]
  split
  ·exact hp
  ·refine Bo step f _ _ _ ?_
   split
   ·exact step L h hp
   ·exact hp
def QD(L:LL):Prop:=0<L.length->lvl L (L.length - 1)≠[]
theorem Es{l:List Int}(h:vs≠[]\/l≠[]):insL l vs≠[]:=by
 intro e;have:=congrArg List.length e;rw[vI,bC] at this
 rcases h with h|h
 ·exact h (bz ae)
 ·exact h (bz ae)
theorem QD.put(ht:QD L)(h:Nat)(hv:vs≠[]):QD (vJ L h vs):=by
 intro h0;rw[vK,wS]
 split
 ·exact Es (.inl hv)
 ·rename_i hne
  have:max L.length (h+1)=L.length:=ae
  rw[this];exact ht ae
theorem QD.pack(ht:QD L)(hh:h<L.length)(h2:2<=(lvl L h).length)(c:Nat):QD (mM L h c):=by
 intro h0;rw[Lp];unfold mM;rw[wS]
 split
 ·refine Es (.inl fun e=>?_)
  have:=congrArg List.length e;rw[sZ,bC] at this;omega
 ·rename_i hne
  rw[oK _ _ _ _ hh,if_neg ae,show max L.length (h+2)=L.length by omega]
  exact ht ae
theorem QD.add(ht:QD L)(v:Int)(n:Nat):QD (nT L v n):=Bo (fun _ h hp=>hp.put h ag) 64 0 n L ht
theorem aq2(ht:QD L)(hw:wt L<=281474976710656):L.length<=49:=by
 rcases bQ L.length with h0|h0
 ·omega
 ·have h1:=SQ L 1 (L.length - 1)
  have h2:1<=(lvl L (L.length - 1)).length:=List.length_pos_iff.2 (ht h0)
  rcases bV 49 L.length with h3|h3
  ·exfalso
   have h4:2 ^ 49<=2 ^ (L.length - 1):=Nat.pow_le_pow_right af ae
   have h5:1 * (2 ^ (L.length - 1) * 1)<=(lvl L (L.length - 1)).length * (2 ^ (L.length - 1) * 1):=Nat.mul_le_mul_right _ h2;unfold wt at hw;omega
  ·exact h3
def takeN(M:LL):Nat->LL->LL
 | 0,L=>L
 | j+1,L=>vJ (takeN M j L) j (lvl M j)
def lH(L M:LL):LL:=takeN M M.length L
theorem Oz(M L:LL):∀j,j<=M.length->wt (takeN M j L)=wt L+su 1 (M.take j)
 | 0,_=>by simp[takeN,su]
 | j+1,hj=>by
  rw[takeN,SN,Oz M L j ae,bg ae,p_,bG,Nat.min_eq_left ae,nZ ae]
  simp[su,Nat.add_assoc]
theorem zJ(L M:LL):wt (lH L M)=wt L+wt M:=by
 unfold lH;rw[Oz M L M.length (aS _),List.take_length];rfl
theorem wU(M L:LL):∀j,j<=M.length->cnt (takeN M j L)=cnt L+cnt (M.take j)
 | 0,_=>by simp[takeN,cnt]
 | j+1,hj=>by
  rw[takeN,Lh,wU M L j ae,bg ae,sW,nZ ae]
  simp[cnt,Nat.add_assoc]
theorem XA(L M:LL):cnt (lH L M)=cnt L+cnt M:=by
 unfold lH;rw[wU M L M.length (aS _),List.take_length]
theorem oM(M L:LL):∀j,(takeN M j L).length=max L.length j
 | 0=>by simp[takeN]
 | j+1=>by rw[takeN,vK,oM M L j];omega
theorem Bq(M L:LL):∀j i,lvl (takeN M j L) i=if i<j then insL (lvl L i) (lvl M i) else lvl L i
 | 0,i=>by simp[takeN]
 | j+1,i=>by
  rw[takeN,wS,Bq M L j i,Bq M L j j]
  by_cases e:i=j
  ·subst e;rw[if_pos rfl,if_neg ae,if_pos ae]
  ·rw[if_neg e]
   by_cases h:i<j
   ·rw[if_pos h,if_pos ae]
   ·rw[if_neg h,if_neg ae]
theorem QD.take{M:LL}(hl:QD L)(hm:QD M):QD (lH L M):=by
 intro h0;have e1:=oM M L M.length;unfold lH at h0 |-;rw[e1,Bq]
 rcases bV (L.length - 1) M.length with h1|h1
 ·rcases bQ M.length with h2|h2
  ·omega
  ·rw[if_pos ae]
   rcases bV M.length L.length with h3|h3
   ·have:max L.length M.length - 1=L.length - 1:=ae
    rw[this];exact Es (.inr (hl ae))
   ·have:max L.length M.length - 1=M.length - 1:=ae
    rw[this];exact Es (.inl (hm h2))
 ·have h3:max L.length M.length - 1=L.length - 1:=ae
  rw[h3,if_neg ae]
  exact hl ae
open Tryz
open Go.RowKit
def jq:DN Int where
 k:=1
 t:=2
 enc x:=[.int .i64 x]
 len _:=rfl
 one x u hu:=by
  simp only[bn,List.not_mem_nil,or_false] at hu;subst hu;rfl
abbrev Sv:=Option Addr × Nat × Nat
def jr(s:Sv):Value:=.slice s.1 s.2.1 s.2.2
def Dk:DN Sv where
 k:=1
 t:=182
 enc s:=[jr s]
 len _:=rfl
 one x u hu:=by
  simp only[bn,List.not_mem_nil,or_false] at hu;subst hu;rfl
theorem _root_.Go.Proofs.YtilcnjbpmoijmaaGreat.kG.i64{w:World}{A:Option Addr}{l:List Int}(h:kG jq w A l){j:Nat}(hj:j<l.length) :
 ∃g off,A=some ⟨g,off,none⟩/\g<w.heap.size/\w.cell? ⟨g,off+j,none⟩=some (.int .i64 l[j]):=by
 obtain⟨g,off,hA,hg,hc⟩:=h ae
 refine⟨g,off,hA,hg,?_⟩
 have:=hc j hj 0 af
 rw[show off+j * jq.k+0=off+j by show off+j * 1+0=_;omega] at this
 exact this
theorem _root_.Go.Proofs.YtilcnjbpmoijmaaGreat.kG.sl{w:World}{A:Option Addr}{l:List Sv}(h:kG Dk w A l){j:Nat}(hj:j<l.length) :
 ∃g off,A=some ⟨g,off,none⟩/\g<w.heap.size/\w.cell? ⟨g,off+j,none⟩=some (jr l[j]):=by
 obtain⟨g,off,hA,hg,hc⟩:=h ae
 refine⟨g,off,hA,hg,?_⟩
 have:=hc j hj 0 af
 rw[show off+j * Dk.k+0=off+j by show off+j * 1+0=_;omega] at this
 exact this
theorem rH:∀l:List Int,cellsE jq l=l.map (Value.int .i64)
 | []=>rfl
 | x::l=>by rw[gJ,rH l];rfl
structure Lr(F:Nat->Prop)(w:World)(lv:Value)(vs:List Sv)(L:LL):Prop where
 row:dL Dk 0 w lv vs
 len:vs.length=L.length
 each:∀i (h:i<vs.length),dL jq 0 w (jr vs[i]) (lvl L i)
 apart:∀i (h:i<vs.length) k,(jr vs[i]).ownBlock=some k->lv.ownBlock≠some k
 diff:∀i j (hi:i<vs.length) (hj:j<vs.length),i≠j->∀k,(jr vs[i]).ownBlock=some k->(jr vs[j]).ownBlock≠some k
 fl:∀k,lv.ownBlock=some k->F k
 fv:∀i (h:i<vs.length) k,(jr vs[i]).ownBlock=some k->F k
section
variable {F : Nat -> Prop} {w w' : World} {lv : Value} {vs : List Sv} {L : LL}
theorem Lr.stay(h:Lr F w lv vs L)(hk:∀k,F k->w'.heap[k]?=w.heap[k]?):Lr F w' lv vs L:=
 ⟨h.row.stay fun k e=>hk k (h.fl k e),h.len,fun i hi=>(h.each i hi).stay fun k e=>hk k (h.fv i hi k e),h.apart,h.diff,h.fl,h.fv⟩
theorem Lr.lt(h:Lr F w lv vs L){i:Nat}(hi:i<vs.length):∀k,(jr vs[i]).ownBlock=some k->k<w.heap.size:=fun k e=>((h.each i hi).lt k e).2
theorem Lr.mono{G:Nat->Prop}(h:Lr F w lv vs L)(hG:∀k,F k->G k):Lr G w lv vs L:=⟨h.row,h.len,h.each,h.apart,h.diff,fun k e=>hG k (h.fl k e),fun i hi k e=>hG k (h.fv i hi k e)⟩
end
structure qQ(t:TypeId)(a:Value)(rest:List Value)(F:Nat->Prop)(w:World)(g:Nat)(lv:Value)(vs:List Sv)(L:LL):Prop where
 blk:dK w g t (a::lv::rest).toArray
 gW:Lr F w lv vs L
 fg:F g
 g1:lv.ownBlock≠some g
 g2:∀i (h:i<vs.length),(jr vs[i]).ownBlock≠some g
 low:∀k,F k->k<w.heap.size
section
variable {t : TypeId} {a : Value} {rest : List Value} {F : Nat -> Prop} {w w' : World} {g : Nat} {lv : Value} {vs : List Sv} {L : LL}
variable{b c:Value}{r:List Value}{w1:World}{l':List Int}{j:Nat}
theorem qQ.stay(h:qQ t a rest F w g lv vs L)(hk:∀k,F k->w'.heap[k]?=w.heap[k]?)(hz:w.heap.size<=w'.heap.size):qQ t a rest F w' g lv vs L:=
 ⟨(hk g h.fg).trans h.blk,h.gW.stay hk,h.fg,h.g1,h.g2,fun k hf=>bF (h.low k hf) hz⟩
theorem qQ.keep(h:qQ t a rest F w g lv vs L)(hb:Below w.heap.size w w'):qQ t a rest F w' g lv vs L:=h.stay (fun k hk=>hb.block k (h.low k hk)) hb.size
theorem qQ.cell0(h:qQ t a rest F w g lv vs L):w.cell? ⟨g,0,none⟩=some a:=by rw[h.blk.cell 0];simp
theorem qQ.cell1(h:qQ t a rest F w g lv vs L):w.cell? ⟨g,1,none⟩=some lv:=by rw[h.blk.cell 1];simp
theorem qQ.cell2(h:qQ t a (b::r) F w g lv vs L):w.cell? ⟨g,2,none⟩=some b:=by rw[h.blk.cell 2];simp
theorem qQ.Dl(h:qQ t a (b::c::r) F w g lv vs L):w.cell? ⟨g,3,none⟩=some c:=by rw[h.blk.cell 3];simp
theorem qQ.form(h:qQ t a rest F w g lv vs L):∃A c,lv=.slice A L.length c/\L.length<=c/\c<=9223372036854775807/\kG Dk w A vs:=by
 obtain⟨A,c,e,h1,h2,h3⟩:=h.gW.row.form;rw[h.gW.len] at e h1;exact⟨A,c,e,h1,h2,h3⟩
theorem qQ.be1(h:qQ t a (b::r) F w g lv vs L)(u:Value):qQ t a (u::r) F (w.setCell ⟨g,2,none⟩ u) g lv vs L:=by
 have hk:∀k,k≠g->(w.setCell ⟨g,2,none⟩ u).heap[k]?=w.heap[k]?:=fun k hk=>bM w ⟨g,2,none⟩ u k hk
 refine⟨?_,⟨h.gW.row.stay fun k e=>hk k (fun e2=>h.g1 (by rw[e,e2])),h.gW.len,fun i hi=>(h.gW.each i hi).stay fun k e=>hk k (fun e2=>h.g2 i hi (by rw[e,e2])),h.gW.apart,h.gW.diff,h.gW.fl,h.gW.fv⟩,h.fg,h.g1,h.g2,fun k hf=>by have:=h.low k hf;simpa using this⟩
 have:=h.blk.dQ 2 u
 simpa using this
theorem qQ.be3(h:qQ t a (b::c::r) F w g lv vs L)(u:Value):qQ t a (b::u::r) F (w.setCell ⟨g,3,none⟩ u) g lv vs L:=by
 have hk:∀k,k≠g->(w.setCell ⟨g,3,none⟩ u).heap[k]?=w.heap[k]?:=fun k hk=>bM w ⟨g,3,none⟩ u k hk
 refine⟨?_,⟨h.gW.row.stay fun k e=>hk k (fun e2=>h.g1 (by rw[e,e2])),h.gW.len,fun i hi=>(h.gW.each i hi).stay fun k e=>hk k (fun e2=>h.g2 i hi (by rw[e,e2])),h.gW.apart,h.gW.diff,h.gW.fl,h.gW.fv⟩,h.fg,h.g1,h.g2,fun k hf=>by have:=h.low k hf;simpa using this⟩
 have:=h.blk.dQ 3 u
 simpa using this
theorem qQ.more{GV:Value}(h:qQ t a rest F w g lv vs L)(ho:dL Dk 0 w1 GV (vs++[(none,0,0)]))(hg:w.grownBy w1 lv.ownBlock)(hn:GV.ownBlock=lv.ownBlock\/GV.ownBlock=some w.heap.size) :
 qQ t a rest (fun k=>F k\/GV.ownBlock=some k) (w1.setCell ⟨g,1,none⟩ GV) g GV (vs++[(none,0,0)]) (L++[[]]):=by
 have hgl:=h.blk.lt;have hz:w.heap.size<=w1.heap.size:=hg.size;have hg':GV.ownBlock≠some g:=by
  rcases hn with e|e
  ·rw[e];exact h.g1
  ·rw[e];intro e2;injection e2 with e2;omega
 have hblk:∀k,k<w.heap.size->lv.ownBlock≠some k->k≠g->(w1.setCell ⟨g,1,none⟩ GV).heap[k]?=w.heap[k]?:=fun k h1 h2 h3=>
  (bM w1 ⟨g,1,none⟩ GV k h3).trans (hg.block k h1 (fun e=>h2 e.symm))
 have hone:∀i (hi:i<(vs++[((none,0,0):Sv)]).length),∀k,(jr ((vs++[((none,0,0):Sv)])[i])).ownBlock=some k->∃hi':i<vs.length,(jr vs[i]).ownBlock=some k:=fun i hi k e=>by
  rcases bV i vs.length with h1|h1
  ·rw[dE h1] at e;exact⟨h1,e⟩
  ·rw[List.getElem_append_right h1] at e
   simp[jr,Value.ownBlock] at e
 have zK:∀i (hi:i<vs.length) k,(jr vs[i]).ownBlock=some k->GV.ownBlock≠some k:=fun i hi k e=>by
  rcases hn with e2|e2
  ·rw[e2];exact h.gW.apart i hi k e
  ·rw[e2];intro e3;injection e3 with e3;have:=h.gW.lt hi k e;omega
 refine⟨?_,⟨?_,by rw[aQ,aQ,h.gW.len];rfl,fun i hi=>?_,fun i hi k e=>?_,fun i j hi hj hij k e e2=>?_,fun k e=>.inr e,fun i hi k e=>?_⟩,.inl h.fg,hg',fun i hi e=>?_,fun k hk=>?_⟩
 ·have h1:dK w1 g t (a::lv::rest).toArray:=(hg.block g hgl (fun e=>h.g1 e.symm)).trans h.blk
  have:=h1.dQ 1 GV
  simpa using this
 ·exact ho.far hg' GV
 ·rcases bV i vs.length with h1|h1
  ·rw[dE h1]
   have e:lvl (L++[[]]) i=lvl L i:=by
    unfold lvl;simp only[List.getD];rw[List.getElem?_append_left (by rw[<-h.gW.len];exact h1)]
   rw[e];exact(h.gW.each i h1).stay fun k e=>hblk k (h.gW.lt h1 k e) (h.gW.apart i h1 k e) (fun e2=>h.g2 i h1 (by rw[e,e2]))
  ·have hi':i=vs.length:=by rw[aQ] at hi;simp only[bW] at hi;omega
   subst hi';have e:lvl (L++[[]]) vs.length=[]:=by
    unfold lvl;simp only[List.getD];rw[h.gW.len,List.getElem?_append_right (aS _)];simp
   rw[e];simp only[List.getElem_append_right (aS _),Nat.sub_self,List.getElem_cons_zero];exact dL.nil_ _ _
 ·obtain⟨h1,h2⟩:=hone i hi k e
  exact zK i h1 k h2
 ·obtain⟨h1,h2⟩:=hone i hi k e
  obtain⟨h3,h4⟩:=hone j hj k e2;exact h.gW.diff i j h1 h3 hij k h2 h4
 ·obtain⟨h1,h2⟩:=hone i hi k e
  exact .inl (h.gW.fv i h1 k h2)
 ·obtain⟨h1,h2⟩:=hone i hi g e
  exact h.g2 i h1 h2
 ·rcases hk with hk|hk
  ·have:=h.low k hk;simp;omega
  ·have:=(ho.lt k hk).2;simpa using this
theorem qQ.level{s':Sv}(h:qQ t a rest F w g lv vs L)(hj:j<L.length){gl cl n:Nat}(hlv:lv=.slice (some ⟨gl,0,none⟩) n cl)
 (ho:dL jq 0 w1 (jr s') l') (hk:∀k,k<w.heap.size->(jr (vs[j]'(by rw[h.gW.len];exact hj))).ownBlock≠some k->w1.heap[k]?=w.heap[k]?) (hz:w.heap.size<=w1.heap.size)
 (hn:(jr s').ownBlock=(jr (vs[j]'(by rw[h.gW.len];exact hj))).ownBlock\/∀k,(jr s').ownBlock=some k->w.heap.size<=k) :
 qQ t a rest (fun k=>F k\/(jr s').ownBlock=some k) (w1.setCell ⟨gl,j,none⟩ (jr s')) g lv (vs.set j s') (L.set j l'):=by
 have hj':j<vs.length:=by rw[h.gW.len];exact hj
 have S_:lv.ownBlock=some gl:=by rw[hlv];rfl
 have hgl:gl<w.heap.size:=(h.gW.row.lt gl S_).2;have hfj:∀k,(jr vs[j]).ownBlock=some k->k≠gl:=fun k e e2=>h.gW.apart j hj' k e (by rw[S_,e2])
 have hs':∀k,(jr s').ownBlock=some k->(k<w.heap.size->(jr vs[j]).ownBlock=some k):=fun k e hlt=>by
  rcases hn with e2|e2
  ·rw[<-e2];exact e
  ·have:=e2 k e;omega
 have hs1:(jr s').ownBlock≠some gl:=fun e=>h.gW.apart j hj' gl (hs' gl e hgl) S_
 have hs2:(jr s').ownBlock≠some g:=fun e=>h.g2 j hj' (hs' g e h.blk.lt)
 have hblk:∀k,k<w.heap.size->(jr vs[j]).ownBlock≠some k->k≠gl->(w1.setCell ⟨gl,j,none⟩ (jr s')).heap[k]?=w.heap[k]?:=fun k h1 h2 h3=>
  (bM w1 ⟨gl,j,none⟩ _ k h3).trans (hk k h1 h2)
 have hother:∀i (hi:i<vs.length),i≠j->dL jq 0 (w1.setCell ⟨gl,j,none⟩ (jr s')) (jr vs[i]) (lvl L i):=fun i hi hij=>
  (h.gW.each i hi).stay fun k e=>hblk k (h.gW.lt hi k e) (h.gW.diff i j hi hj' hij k e) (fun e2=>h.gW.apart i hi k e (by rw[S_,e2]))
 have hrow:dL Dk 0 (w1.setCell ⟨gl,j,none⟩ (jr s')) lv (vs.set j s'):=by
  have h1:dL Dk 0 w1 lv vs:=h.gW.row.stay fun k e=>by
   rw[S_] at e;injection e with e;subst e;exact hk _ hgl (fun e2=>hfj _ e2 rfl)
  have:=h1;rw[hlv] at this |-;have:=this.dQ j hj' s';rw[show j * Dk.k=j by show j * 1=j;omega] at this
  exact this
 have hget:∀i (hi:i<(vs.set j s').length),(vs.set j s')[i]=if i=j then s' else vs[i]'(by rw[bK] at hi;exact hi):=fun i hi=>by
  rw[List.getElem_set]
  by_cases e:j=i
  ·subst e;simp
  ·rw[if_neg e,if_neg (fun e'=>e e'.symm)]
 refine⟨?_,⟨hrow,by rw[bK,bK,h.gW.len],fun i hi=>?_,fun i hi k e=>?_,fun i i2 hi hi2 hne k e e2=>?_,fun k e=>.inl (h.gW.fl k e),fun i hi k e=>?_⟩,.inl h.fg,h.g1,fun i hi e=>?_,fun k hk'=>?_⟩
 ·exact(hblk g h.blk.lt (h.g2 j hj') (fun e=>h.g1 (by rw[S_,e]))).trans h.blk
 ·have hi':i<vs.length:=by rw[bK] at hi;exact hi
  rw[hget i hi,oK _ _ _ _ hj]
  by_cases e:i=j
  ·rw[if_pos e,if_pos e]
   exact ho.far hs1 _
  ·rw[if_neg e,if_neg e]
   exact hother i hi' e
 ·have hi':i<vs.length:=by rw[bK] at hi;exact hi
  rw[hget i hi] at e
  by_cases ei:i=j
  ·rw[if_pos ei] at e
   intro e2;rw[S_] at e2;injection e2 with e2;subst e2;exact hs1 e
  ·rw[if_neg ei] at e;exact h.gW.apart i hi' k e
 ·have hi':i<vs.length:=by rw[bK] at hi;exact hi
  have be5:i2<vs.length:=by rw[bK] at hi2;exact hi2
  rw[hget i hi] at e;rw[hget i2 hi2] at e2
  by_cases ei:i=j
  ·rw[if_pos ei] at e
   rw[if_neg (fun e'=>hne ae)] at e2
   have hlt:=h.gW.lt be5 k e2;exact h.gW.diff j i2 hj' be5 ae k (hs' k e hlt) e2
  ·rw[if_neg ei] at e
   by_cases ei2:i2=j
   ·rw[if_pos ei2] at e2
    have hlt:=h.gW.lt hi' k e;exact h.gW.diff i j hi' hj' ei k e (hs' k e2 hlt)
   ·rw[if_neg ei2] at e2
    exact h.gW.diff i i2 hi' be5 hne k e e2
 ·have hi':i<vs.length:=by rw[bK] at hi;exact hi
  rw[hget i hi] at e
  by_cases ei:i=j
  ·rw[if_pos ei] at e;exact .inr e
  ·rw[if_neg ei] at e;exact .inl (h.gW.fv i hi' k e)
 ·have hi':i<vs.length:=by rw[bK] at hi;exact hi
  rw[hget i hi] at e
  by_cases ei:i=j
  ·rw[if_pos ei] at e;exact hs2 e
  ·rw[if_neg ei] at e;exact h.g2 i hi' e
 ·rcases hk' with hk'|hk'
  ·have:=h.low k hk';simp;omega
  ·have:=(ho.lt k hk').2;simpa using this
theorem qQ.turn(h:qQ t a rest F w g lv vs L)(hj:j<L.length)(ho:dL jq 0 w' (jr (vs[j]'(by rw[h.gW.len];exact hj))) l')
 (hk:∀k,k<w.heap.size->(jr (vs[j]'(by rw[h.gW.len];exact hj))).ownBlock≠some k->w'.heap[k]?=w.heap[k]?) (hz:w.heap.size<=w'.heap.size):qQ t a rest F w' g lv vs (L.set j l'):=by
 have hj':j<vs.length:=by rw[h.gW.len];exact hj
 refine⟨(hk g h.blk.lt (h.g2 j hj')).trans h.blk,⟨h.gW.row.stay fun k e=>hk k (h.gW.row.lt k e).2 (fun e2=>h.gW.apart j hj' k e2 e),by rw[bK];exact h.gW.len,fun i hi=>?_,h.gW.apart,h.gW.diff,h.gW.fl,h.gW.fv⟩,h.fg,h.g1,h.g2,fun k hf=>bF (h.low k hf) hz⟩
 rw[oK _ _ _ _ hj]
 by_cases e:i=j
 ·subst e;rw[if_pos rfl];exact ho
 ·rw[if_neg e]
  exact(h.gW.each i hi).stay fun k e2=>hk k (h.gW.lt hi k e2) (h.gW.diff i j hi hj' e k e2)
end
open Tryz
open Go.RowKit Go.Sort
theorem DT(w:World)(blk off k:Nat)(d:Array Int)(h:k≠blk):(putRow (Value.int .i64) w blk off d).heap[k]?=w.heap[k]?:=by
 unfold putRow mapBlock;rw[Array.getElem?_modify,if_neg (fun e=>h e.symm)]
theorem GX(w:World)(blk off:Nat)(d:Array Int)(cur:Array Value)(t:TypeId)(f:Nat × Nat)(h:w.heap[blk]?=some (.cells cur t f)):(putRow (Value.int .i64) w blk off d).heap[blk]?=some (.cells (putCells (Value.int .i64) off d cur) t f):=by
 unfold putRow mapBlock;rw[Array.getElem?_modify,if_pos rfl,h];rfl
theorem Iz(d:List Int)(cur:Array Value)(h:d.length<=cur.size):(putCells (Value.int .i64) 0 d.toArray cur).toList.take d.length=d.map (Value.int .i64):=by
 refine List.ext_getElem? fun i=>?_
 rw[List.getElem?_take]
 rcases bV i d.length with h1|h1
 ·rw[if_pos h1,List.getElem?_map,a_ h1,Array.getElem?_toList]
  have h2:i<(putCells (Value.int .i64) 0 d.toArray cur).size:=by unfold putCells;rw[Array.size_mapIdx];omega
  rw[Array.getElem?_eq_getElem h2];simp[putCells,h1]
 ·rw[if_neg ae,List.getElem?_eq_none (by simpa using h1)]
theorem ac9(v:Value)(base:Nat)(l:List Int)(w:World)(h:dL jq base w v l)(hl:l.length<=1099511627776) :
 aH 221 #[v] w fun e w'=>e=.returned (.tuple #[])/\dL jq base w' v (l.mergeSort fun x y=>decide (x<=y))/\Touch (fun k=>v.ownBlock=some k) w w':=by
 obtain⟨hxs,h⟩:=h;rw[rH] at hxs h
 rcases h with⟨rfl,h0⟩|⟨g,cap,cur,rfl,hbg,hg,hnc,hcm,hcs,htk⟩
 ·have e:l=[]:=bz h0
  subst e;refine(AnyM.slices_Sort_int_none Tryz.sortM none 0 w).mono ?_
  rintro e w' ⟨rfl,rfl⟩;exact⟨rfl,by rw[List.mergeSort_nil];exact dL.nil_ _ _,Touch.refl _ _⟩
 ·have hk:jq.k=1:=rfl
  rw[hk,Nat.mul_one] at hcs htk;have hgl:g<w.heap.size:=by
   rcases bV g w.heap.size with hlt|hge
   ·exact hlt
   ·rw[Array.getElem?_eq_none hge] at hg;cases hg
  have hH:Holds (Value.int .i64) w g 0 l.toArray:=fun j hj=>by
   have hj':j<l.length:=by simpa using hj
   refine⟨?_,?_⟩
   ·rw[Nat.zero_add,cell_of_row w g j cur _ (0,0) hg]
    have e:=congrArg (fun x=>x[j]?) htk
    simp only[List.getElem?_take,if_pos hj',List.getElem?_map,a_ hj',Option.map_some] at e;rw[show cur[j]?=cur.toList[j]? by simp,e]
    simp[hj']
   ·simp[World.frozen?,hg]
  refine(AnyM.slices_Sort_int Tryz.sortM g 0 cap l w hH hgl ae).mono ?_
  rintro e w' ⟨rfl,n,os,rfl⟩;have hlen:(l.mergeSort fun x y=>decide (x<=y)).length=l.length:=(List.mergeSort_perm _ _).length_eq
  refine⟨rfl,⟨by rw[rH,dH,hk,Nat.mul_one],.inr ⟨g,cap,putCells (Value.int .i64) 0 (l.mergeSort fun x y=>decide (x<=y)).toArray cur,by rw[hlen],hbg,?_,by rw[hlen];exact hnc,hcm,?_,?_⟩⟩,rfl,rfl,rfl,?_,fun k hk' hne=>?_⟩
  ·rw[heap_grow_old _ _ (by unfold putRow mapBlock;simpa using hgl)]
   exact GX _ g 0 _ cur _ _ hg
  ·unfold putCells;rw[Array.size_mapIdx,hk,Nat.mul_one];exact hcs
  ·rw[hk,Nat.mul_one,rH]
   refine Iz _ cur (by rw[hlen];omega)
  ·rw[size_grow];unfold putRow mapBlock;simp
  ·have hkg:k≠g:=fun e=>hne (by rw[e];rfl)
   rw[heap_grow_old _ _ (by unfold putRow mapBlock;simpa using hk')]
   exact DT _ g 0 k _ hkg
theorem be6:(prog.info? 2).map (fun i=>(i.zero,i.size,i.bytes))=some (some (.int .i64 0),1,8):=by kernel_rfl
theorem slI:(prog.info? 182).map (fun i=>(i.zero,i.size,i.bytes))=some (some (.slice none 0 0),1,24):=by kernel_rfl
theorem Bv(v:Value)(l:List Int)(w:World)(h:iM jq w v l)(hlen:l.length<=1000000000000) :
 aH 220 #[v] w fun e w'=>∃s:Sv,e=.returned (jr s)/\dL jq w.heap.size w' (jr s) l/\Below w.heap.size w w':=by
 obtain⟨i0,hi0,hiz,his,hib⟩:=info_parts be6;have HI:=aI hi0;have HZ:=aI hiz;have HSZ:=aI his;have HBY:=aI hib;clear hi0 hiz his hib;obtain⟨A,c,rfl,hn,hc,hp⟩:=h.form;have HR:=aI h;clear h
 by_cases hnil:A=none
 ·subst hnil
  have h0:l=[]:=by
   rcases bQ l.length with h0|h0
   ·exact bz h0
   ·obtain⟨g,off,e,_⟩:=hp h0;cases e
  subst h0;clear hp;have he:(binOp .eql 182 (.slice none 0 c) (.slice none 0 0)).run prog w=.ok (.bool true) w:=Lib.run_eql_slice_nil w _ _ _ _ _ _ _ underlying182
  go_enter func220,ntmps220
  go_wp2_with fail
  go_ret;exact⟨(none,0,0),rfl,dL.nil_ _ _,bw⟩
 ·obtain⟨a,rfl⟩:∃a,A=some a:=by
   cases A with
   | none=>exact absurd rfl hnil
   | some a=>exact⟨a,rfl⟩
  clear hnil hp;have he:(binOp .eql 182 (.slice (some a) l.length c) (.slice none 0 0)).run prog w=.ok (.bool false) w:=Lib.run_eql_slice_nil w _ _ _ _ _ _ _ underlying182
  go_enter func220,ntmps220
  go_wp2_with (at_builtin;refine jJ jq (ts:=182) i0 _ 8 underlying182 HI.o HZ.o HSZ.o HBY.o rfl af  af rfl (.tmp 5) (.tmp 6) rfl w.heap.size _ [] rfl (dL.lit (E:=jq) w [] _ rfl _ rfl af) _ l rfl (HR.o.keep (bw)) ah ag ?_;intro v1 w7 o1 g1 a1)
  have AZ:Below w.heap.size w w7:=(dG (aO _ _) (aS _) _).grown g1 ag (fun k hk=>by have:=Option.some.inj (show some w.heap.size=some k from hk);omega)
  simp only[List.nil_append] at o1;obtain⟨A1,c1,rfl,_,_,_⟩:=o1.form
  go_wp2_with fail
  go_ret;exact⟨(A1,_,c1),rfl,o1,AZ⟩
theorem Dn:∀(j c:Nat),vM (j+1) c=thin (vM j c)
 | 0,_=>rfl
 | j+1,c=>by rw[vM,Dn j (thin c)];rfl
abbrev xB(F:Nat->Prop)(w:World)(g k n led:Nat)(lv:Value)(vs:List Sv)(L:LL):Prop:=qQ 201 (.int .i64 k) [.int .u64 n,.int .u64 led] F w g lv vs L
abbrev Rst(F:Nat->Prop)(w:World)(g k led:Nat)(lv:Value)(vs:List Sv)(L:LL):Prop:=qQ 116 (.int .i64 k) [.int .u64 led] F w g lv vs L
theorem OD{F:Nat->Prop}{g k n led:Nat}{lv:Value}{vs:List Sv}{L:LL}(h:Nat)(w:World)(hs:xB F w g k n led lv vs L)(h2:2<=k)(hk:k<=1000000)(hl:L.length<=1000000000)(hh:h<=1000000000) :
 aH 298 #[.pointer (some ⟨g,0,none⟩),.int .i64 h] w fun e w'=>e=.returned (.int .i64 (room k L.length h:Nat))/\w=w':=by
 obtain⟨A,c,rfl,_,_,_⟩:=hs.form;have c0:=hs.cell0;have c1:=hs.cell1;clear hs;generalize L.length=len at *
 by_cases hlt:h<len
 ·have HRO:Hid (room k len h=max (vM (len - 1 - h) k) 2):=aI (by unfold room;rw[if_pos hlt])
  have HLE:=aI (fun j=>GL j k h2)
  have hlt2:¬len<=h:=ae
  have hlt3:¬(h:Int)<0:=ae
  go_enter func298,ntmps298
  go_wp2_with fail
  go_loopg [5,29] (len - 1 - h) (fun q c i wr=>(∃j:Nat,q=len - 1 - h - j/\j<=len - 1 - h/\i=.int .i64 (j:Int)/\c=.int .i64 ((vM j k:Nat):Int))/\w=wr)
  case atStart=>exact⟨⟨0,ae,ae,rfl,rfl⟩,rfl⟩
  case round=>
   obtain⟨⟨j,hq,hj,rfl,rfl⟩,rfl⟩:=hrel;have HQ:=aI hq;have hb:=HLE.o j;have HS:=aI (Dn j k);obtain⟨c,hc⟩:=aF (vM j k);rw[hc] at hb HS;rw[hc];have HC:=aI hc;clear hq hc
   by_cases hjl:j<len - 1 - h
   ·have HT:Hid (thin c=(2 * c+2) / 3):=aI rfl
    go_wp2_with fail
    go_roundg (len - 1 - h - (j+1))
    case measure=>have:=HQ.o;omega
    case rel=>exact⟨⟨j+1,rfl,ae,ai,by rw[HS.o,HT.o];go_num⟩,rfl⟩
   ·have HE:Hid (room k len h=c):=aI (by
     have e:j=len - 1 - h:=ae
     rw[HRO.o,<-e,HC.o];omega)
    have hc2:¬(c:Int)<2:=ae
    go_wp2_with fail;refine bodyPost_ret (by simp[results,Tryz.results298,go_sem, *];try rfl) rfl ?_
    exact⟨by rw[HE.o];simp;omega,rfl⟩
 ·have HRO:Hid (room k len h=0):=aI (by unfold room;rw[if_neg hlt])
  go_enter func298,ntmps298
  go_wp2_with fail
  go_ret;exact⟨by rw[HRO.o];rfl,rfl⟩
end Go.Proofs.YtilcnjbpmoijmaaGreat.K
namespace Go.Proofs.YtilcnjbpmoijmaaGreat.D
open Tryz
open Go.RowKit Go.Sort Go.Shelf
abbrev Tf:={p:Pr // 0<=p.1/\p.1<=16777216}
instance:Inhabited Tf:=⟨⟨(0,0),af⟩⟩
def kpE(x:Tf):List Value:=[.int .i64 x.1.1,.int .u64 x.1.2]
def kpC(x y:Tf):Int:=x.1.1 - y.1.1
theorem Vt(x y:Tf):ltOf kpC x y=decide (x.1.1<y.1.1):=by unfold ltOf kpC;congr 1;exact propext ⟨fun h=>by omega,fun h=>by omega⟩
theorem kpO:SWO (ltOf kpC):=⟨fun x=>by rw[Vt];simp,fun x y z=>by simp only[Vt,decide_eq_true_eq];omega,fun x y z=>by simp only[Vt,decide_eq_false_iff_not];omega⟩
theorem Vu(d:List Tf):flatK kpE 2 d.toArray=(cellsE fZ (d.map Subtype.val)).toArray:=by
 have hl:(cellsE fZ (d.map Subtype.val)).length=d.length * 2:=by rw[fC,dH];rfl
 refine ext_get! (by simp[hl]) fun t ht=>?_
 have ht':t<d.length * 2:=by simpa using ht
 rw[get_flatK _ _ _ t (by simpa using ht')]
 have hj:t / 2<d.length:=ae
 have e:=mZ fZ (d.map Subtype.val) (t / 2) (by simpa using hj) (t % 2) (Nat.mod_lt _ af)
 rw[show t / 2 * fZ.k+t % 2=t by show t / 2 * 2+t % 2=t;omega] at e
 have e2:(d.toArray)[t / 2]! = d[t / 2]:=by rw[getElem!_pos _ _ (by simpa using hj)];simp
 have ht2:t<(cellsE fZ (d.map Subtype.val)).toArray.size:=by simpa[hl] using ht'
 rw[e2,getElem!_pos (cellsE fZ (d.map Subtype.val)).toArray t ht2];rw[a_ (by rw[hl];exact ht')] at e
 have hm:t % 2<(kpE d[t / 2]).length:=Nat.mod_lt _ af
 rw[getElem!_pos (kpE d[t / 2]) (t % 2) hm];simp only[List.getElem_map] at e;have e3:(fZ.enc d[t / 2].1)[t % 2]?=some ((kpE d[t / 2])[t % 2]):=a_ hm;rw[e3] at e
 simpa using (Option.some.inj e).symm
theorem Ti(x y:Tf)(w:World):aH 212 #[.agg (kpE x).toArray,.agg (kpE y).toArray] w fun e w'=>e=.returned (.int .i64 (kpC x y))/\∃q os,w'=grow (w.drewN q) os:=by
 obtain⟨⟨a,n⟩,ha,ha2⟩:=x;obtain⟨⟨b,k⟩,hb,hb2⟩:=y;simp only at ha ha2 hb hb2;show aH 212 #[.agg #[.int .i64 a,.int .u64 n],.agg #[.int .i64 b,.int .u64 k]] w fun e w'=>e=.returned (.int .i64 (a - b))/\∃q os,w'=grow (w.drewN q) os
 go_enter func212,ntmps212
 go_wp2_with fail
 go_ret;exact⟨rfl,0,_,by rw[alloc_eq_grow,alloc_eq_grow,grow_grow];rfl⟩
theorem GY(w:World)(blk off k:Nat)(d:Array Value)(h:k≠blk):(putRow id w blk off d).heap[k]?=w.heap[k]?:=by
 unfold putRow mapBlock;rw[Array.getElem?_modify,if_neg (fun e=>h e.symm)]
theorem IA(w:World)(blk off:Nat)(d:Array Value)(cur:Array Value)(t:TypeId)(f:Nat × Nat)(h:w.heap[blk]?=some (.cells cur t f)):(putRow id w blk off d).heap[blk]?=some (.cells (putCells id off d cur) t f):=by
 unfold putRow mapBlock;rw[Array.getElem?_modify,if_pos rfl,h];rfl
theorem Tj(d:List Value)(cur:Array Value)(h:d.length<=cur.size):(putCells id 0 d.toArray cur).toList.take d.length=d:=by
 refine List.ext_getElem? fun i=>?_
 rw[List.getElem?_take]
 rcases bV i d.length with h1|h1
 ·rw[if_pos h1,a_ h1,Array.getElem?_toList]
  have h2:i<(putCells id 0 d.toArray cur).size:=by unfold putCells;rw[Array.size_mapIdx];omega
  rw[Array.getElem?_eq_getElem h2];simp[putCells,h1]
 ·rw[if_neg ae,List.getElem?_eq_none (by simpa using h1)]
theorem XC(v:Value)(base:Nat)(out l:List Pr)(w:World)(h:dL fZ base w v out)(hs:gU l)(hp:gK l)(hperm:out.Perm l)(hb:∀p∈l,0<=p.1/\p.1<=16777216)(hl:l.length<=1099511627776) :
 aH 211 #[v,.func (.func 212) #[] #[]] w fun e w'=>e=.returned (.tuple #[])/\dL fZ base w' v l/\Touch (fun k=>v.ownBlock=some k) w w':=by
 have hlen:=hperm.length_eq;obtain⟨hxs,h⟩:=h
 rcases h with⟨rfl,h0⟩|⟨g,cap,cur,rfl,hbg,hg,hnc,hcm,hcs,htk⟩
 ·have e:l=[]:=bz ae
  subst e;have e:out=[]:=bz h0;subst e;refine(AnyF.slices_SortFunc_none Tryz.sortF none 0 _ w).mono ?_
  rintro e w' ⟨rfl,rfl⟩;exact⟨rfl,dL.nil_ _ _,Touch.refl _ _⟩
 ·have hk:fZ.k=2:=rfl
  rw[hk] at hcs htk;have hgl:g<w.heap.size:=by
   rcases bV g w.heap.size with hlt|hge
   ·exact hlt
   ·rw[Array.getElem?_eq_none hge] at hg;cases hg
  have hbo:∀p∈out,0<=p.1/\p.1<=16777216:=fun p hp=>hb p (hperm.mem_iff.1 hp)
  obtain⟨d,hd⟩:∃d:List Tf,d.map Subtype.val=out:=⟨out.attach.map (fun x=>⟨x.1,hbo x.1 x.2⟩),by rw[List.map_map];exact List.attach_map_subtype_val out⟩
  have hdl:d.length=out.length:=by rw[<-hd,dH]
  have hH:HoldsK kpE 2 w g 0 d.toArray:=fun j hj=>by
   rw[Vu,hd] at hj |-;have hj':j<(cellsE fZ out).length:=by simpa using hj
   have hj2:j<out.length * 2:=by rw[fC] at hj';exact hj'
   refine⟨?_,?_⟩
   ·rw[Nat.zero_add,cell_of_row w g j cur _ (0,0) hg]
    have e:=congrArg (fun x=>x[j]?) htk
    simp only[List.getElem?_take,if_pos hj2] at e;rw[show cur[j]?=cur.toList[j]? by simp,e,a_ hj']
    simp[hj']
   ·simp[World.frozen?,hg]
  have hsz:d.toArray.size=out.length:=by simpa using hdl
  have C:=AnyQ.slices_SortFunc Tryz.sortF 2 (by intro w;kernel_rfl) (by intro w;kernel_rfl) kpE (fun x=>rfl) (fun x v hv=>by simp[kpE] at hv;rcases hv with rfl|rfl<;>rfl) kpC kpO 212 #[] g 0 cap d.toArray w (fun args w=>rfl) (fun m os dk _ x y=>by simpa using Ti x y _) hH hgl (by rw[hsz];omega)
  rw[hsz] at C;refine C.mono ?_
  rintro e w' ⟨rfl,d',n,os,hpm,hst,rfl⟩;have hpd:d'.toList.Perm d:=by
   have h3:=hpm.2.2;rw[Array.extract_eq_self_of_le (by rw[hpm.1];simp[hdl]),Array.extract_eq_self_of_le (by simp[hdl])] at h3
   simpa using h3
  have hl2:d'.toList.map Subtype.val=l:=by
   refine Xo hs hp ((hpd.map _).trans (by rw[hd];exact hperm)) ?_
   rw[List.pairwise_map,List.pairwise_iff_getElem];intro i j hi hj hij;have hj2:j<out.length:=by have:=hpd.length_eq;omega
   have:=hst i j (df _) hij hj2;rw[Vt] at this;rw[getElem!_pos d' i (by simpa using hi),getElem!_pos d' j (by simpa using hj)] at this
   simp at this
   simpa using this
  have hfl:flatK kpE 2 d'=(cellsE fZ l).toArray:=by rw[<-hl2,<-Vu]
  have hcl:(cellsE fZ l).length=l.length * 2:=by rw[fC];rfl
  have hsw:∀k,k<w.heap.size->(sortWorldK kpE 2 w g 0 n d' os).heap[k]?=(putRow id w g 0 (cellsE fZ l).toArray).heap[k]?:=fun k hk'=>by
   unfold sortWorldK putRowK;rw[hfl,heap_grow_old _ _ (by unfold putRow mapBlock;simpa using hk')]
   rfl
  refine⟨rfl,⟨by rw[hcl,hk],.inr ⟨g,cap,putCells id 0 (cellsE fZ l).toArray cur,by rw[hlen],hbg,?_,ae,hcm,?_,?_⟩⟩,rfl,rfl,rfl,?_,fun k hk' hne=>?_⟩
  ·rw[hsw g hgl]
   exact IA w g 0 _ cur _ _ hg
  ·unfold putCells;rw[Array.size_mapIdx,hk];exact hcs
  ·rw[hk,<-hcl]
   refine Tj _ cur (by rw[hcl];omega)
  ·unfold sortWorldK
   rw[size_grow];unfold putRowK putRow mapBlock;simp
  ·have hkg:k≠g:=fun e=>hne (by rw[e];rfl)
   rw[hsw k hk'];exact GY _ g 0 k _ hkg
end Go.Proofs.YtilcnjbpmoijmaaGreat.D
