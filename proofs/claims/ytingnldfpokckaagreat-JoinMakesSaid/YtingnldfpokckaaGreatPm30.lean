/- Parts of a proof: what its theorem reaches, words cut short. No condition of its own. -/
import Derived.Test.YtingnldfpokckaaGreatPm15
set_option maxRecDepth 100000
set_option maxHeartbeats 16000000
set_option linter.unusedVariables false
set_option linter.unusedSimpArgs false
namespace Go.Proofs.YtingnldfpokckaaGreat.K
def ins(v:Int):List Int->List Int
 | []=>[v]
 | y::l=>if v<y then v::y::l else y::ins v l
def insL(l vs:List Int):List Int:=vs.foldl (fun l v=>ins v l) l
abbrev Srt(l:List Int):Prop:=l.Pairwise (fun a b=>a<=b)
theorem ins_perm(v:Int):∀l,(ins v l).Perm (v::l)
 | []=>.refl _
 | y::l=>by
  unfold ins
  split
  ·exact .refl _
  ·exact((ins_perm v l).cons y).trans (List.Perm.swap v y l)
theorem ins_mem{v x:Int}{l:List Int}:x∈ins v l<->x=v\/x∈l:=by rw[(ins_perm v l).mem_iff,List.mem_cons]
theorem ins_srt(v:Int):∀{l:List Int},Srt l->Srt (ins v l)
 | [],_=>by simp[ins]
 | y::l,h=>by
  have h1:=List.pairwise_cons.1 h
  unfold ins
  split
  ·rename_i hv
   exact List.pairwise_cons.2 ⟨fun z hz=>by
    rcases List.mem_cons.1 hz with rfl|hz
    ·omega
    ·have:=h1.1 z hz;omega,h⟩
  ·rename_i hv
   refine List.pairwise_cons.2 ⟨fun z hz=>?_,ins_srt v h1.2⟩
   rcases ins_mem.1 hz with rfl|hz
   ·omega
   ·exact h1.1 z hz
theorem insL_cons(l:List Int)(v:Int)(vs:List Int):insL l (v::vs)=insL (ins v l) vs:=rfl
theorem insL_perm:∀(vs l:List Int),(insL l vs).Perm (l++vs)
 | [],l=>by rw[List.append_nil];exact .refl _
 | v::vs,l=>by
  rw[insL_cons]
  refine(insL_perm vs (ins v l)).trans (((ins_perm v l).append_right vs).trans ?_)
  exact List.perm_middle.symm
theorem insL_length(l vs:List Int):(insL l vs).length=l.length+vs.length:=by rw[(insL_perm vs l).length_eq,List.length_append]
theorem insL_srt{l:List Int}(h:Srt l):∀(vs:List Int),Srt (insL l vs):=by
 intro vs
 induction vs generalizing l with
 | nil=>exact h
 | cons v vs ih=>exact ih (ins_srt v h)
theorem srt_unique:∀{a b:List Int},a.Perm b->Srt a->Srt b->a=b
 | [],b,p,_,_=>(List.nil_perm.1 p).symm
 | x::a,b,p,ha,hb=>by
  cases b with
  | nil=>exact absurd p.length_eq (by simp)
  | cons y b=>
   have h1:=List.pairwise_cons.1 ha
   have h2:=List.pairwise_cons.1 hb
   have e:x=y:=by
    have hx:x∈y::b:=p.subset (List.mem_cons_self ..)
    have hy:y∈x::a:=p.symm.subset (List.mem_cons_self ..)
    rcases List.mem_cons.1 hx with h|h
    ·exact h
    ·rcases List.mem_cons.1 hy with h'|h'
     ·exact h'.symm
     ·have:=h1.1 y h'
      have:=h2.1 x h
      omega
   subst e
   rw[srt_unique ((List.perm_cons x).1 p) h1.2 h2.2]
theorem sort_srt(l:List Int):Srt (l.mergeSort fun x y=>decide (x<=y)):=by
 have h:=List.pairwise_mergeSort (le:=fun x y:Int=>decide (x<=y)) (fun a b c h1 h2=>by simp only[decide_eq_true_eq] at *;omega) (fun a b=>by simp only[Bool.or_eq_true,decide_eq_true_eq];omega) l
 exact h.imp (fun h=>by simpa using h)
theorem sort_ins{l:List Int}(h:Srt l)(vs:List Int):((l++vs).mergeSort fun x y=>decide (x<=y))=insL l vs:=
 srt_unique ((List.mergeSort_perm _ _).trans (insL_perm vs l).symm) (sort_srt _) (insL_srt h vs)
abbrev LL:=List (List Int)
def ext(L:LL)(h:Nat):LL:=L++List.replicate (h+1 - L.length) []
def lvl(L:LL)(h:Nat):List Int:=L.getD h []
def putL(L:LL)(h:Nat)(vs:List Int):LL:=(ext L h).set h (insL (lvl L h) vs)
theorem ext_length(L:LL)(h:Nat):(ext L h).length=max L.length (h+1):=by
 unfold ext
 rw[List.length_append,List.length_replicate];omega
theorem lvl_ext(L:LL)(h j:Nat):lvl (ext L h) j=lvl L j:=by
 unfold lvl ext
 simp only[List.getD]
 rcases Nat.lt_or_ge j L.length with h1|h1
 ·rw[List.getElem?_append_left h1]
 ·rw[List.getElem?_append_right h1,List.getElem?_replicate,List.getElem?_eq_none h1]
  split<;>rfl
theorem lvl_of_ge{L:LL}{j:Nat}(h:L.length<=j):lvl L j=[]:=by
 unfold lvl
 rw[List.getD,List.getElem?_eq_none h];rfl
theorem lvl_at{L:LL}{j:Nat}(h:j<L.length):lvl L j=L[j]:=by
 unfold lvl
 rw[List.getD,List.getElem?_eq_getElem h];rfl
theorem lvl_set(L:LL)(h j:Nat)(l:List Int)(hh:h<L.length):lvl (L.set h l) j=if j=h then l else lvl L j:=by
 unfold lvl
 simp only[List.getD]
 rw[List.getElem?_set]
 by_cases e:h=j
 ·subst e;rw[if_pos rfl,if_pos rfl,if_pos hh];rfl
 ·rw[if_neg e,if_neg (fun e'=>e e'.symm)]
theorem putL_length(L:LL)(h:Nat)(vs:List Int):(putL L h vs).length=max L.length (h+1):=by
 unfold putL
 rw[List.length_set,ext_length]
theorem lvl_put(L:LL)(h j:Nat)(vs:List Int):lvl (putL L h vs) j=if j=h then insL (lvl L h) vs else lvl L j:=by
 unfold putL
 rw[lvl_set _ _ _ _ (by rw[ext_length];omega),lvl_ext]
def cnt(L:LL):Nat:=(L.map List.length).sum
def wtF:Nat->LL->Nat
 | _,[]=>0
 | w,l::L=>l.length * w+wtF (2 * w) L
def wt(L:LL):Nat:=wtF 1 L
theorem cnt_append(A B:LL):cnt (A++B)=cnt A+cnt B:=by simp[cnt]
theorem cnt_cons(l:List Int)(L:LL):cnt (l::L)=l.length+cnt L:=by simp[cnt]
theorem cnt_rep(n:Nat):cnt (List.replicate n [])=0:=by simp[cnt]
theorem cnt_ext(L:LL)(h:Nat):cnt (ext L h)=cnt L:=by rw[ext,cnt_append,cnt_rep];rfl
theorem cnt_set:∀(L:LL) (h:Nat) (_:h<L.length) (l:List Int),cnt (L.set h l)+(lvl L h).length=cnt L+l.length
 | x::L,0,_,l=>by rw[List.set_cons_zero,cnt_cons,cnt_cons];simp only[lvl,List.getD_cons_zero];omega
 | x::L,h+1,hh,l=>by
  have:=cnt_set L h (by simpa using hh) l
  rw[List.set_cons_succ,cnt_cons,cnt_cons]
  simp only[lvl,List.getD_cons_succ] at this |-
  omega
theorem cnt_put(L:LL)(h:Nat)(vs:List Int):cnt (putL L h vs)=cnt L+vs.length:=by
 have h1:=cnt_set (ext L h) h (by rw[ext_length];omega) (insL (lvl L h) vs)
 rw[lvl_ext,insL_length,cnt_ext] at h1
 unfold putL
 omega
theorem lvl_le_cnt:∀(L:LL) (h:Nat),(lvl L h).length<=cnt L
 | [],h=>by simp[lvl]
 | x::L,0=>by rw[cnt_cons];simp only[lvl,List.getD_cons_zero];omega
 | x::L,h+1=>by
  have:=lvl_le_cnt L h
  rw[cnt_cons];simp only[lvl,List.getD_cons_succ] at this |-;omega
theorem wtF_append:∀(w:Nat) (A B:LL),wtF w (A++B)=wtF w A+wtF (2 ^ A.length * w) B
 | w,[],B=>by simp[wtF]
 | w,a::A,B=>by
  rw[List.cons_append,wtF,wtF_append (2 * w) A B,wtF,List.length_cons,Nat.pow_succ,Nat.mul_assoc,Nat.add_assoc]
theorem wtF_rep:∀(n w:Nat),wtF w (List.replicate n [])=0
 | 0,_=>rfl
 | n+1,w=>by rw[List.replicate_succ,wtF,wtF_rep n];simp
theorem wt_ext(L:LL)(h:Nat):wt (ext L h)=wt L:=by unfold wt;rw[ext,wtF_append,wtF_rep];rfl
theorem wtF_set:∀(L:LL) (w h:Nat) (_:h<L.length) (l:List Int),wtF w (L.set h l)+(lvl L h).length * (2 ^ h * w)=wtF w L+l.length * (2 ^ h * w)
 | x::L,w,0,_,l=>by
  rw[List.set_cons_zero,wtF,wtF]
  simp only[lvl,List.getD_cons_zero,Nat.pow_zero,Nat.one_mul];omega
 | x::L,w,h+1,hh,l=>by
  have:=wtF_set L (2 * w) h (by simpa using hh) l
  rw[List.set_cons_succ,wtF,wtF,Nat.pow_succ,Nat.mul_assoc (2 ^ h) 2 w]
  simp only[lvl,List.getD_cons_succ] at this |-
  omega
theorem wt_put(L:LL)(h:Nat)(vs:List Int):wt (putL L h vs)=wt L+vs.length * 2 ^ h:=by
 have h1:=wtF_set (ext L h) 1 h (by rw[ext_length];omega) (insL (lvl L h) vs)
 rw[lvl_ext,insL_length,Nat.mul_one,Nat.add_mul] at h1
 have h2:=wt_ext L h
 unfold wt at h2 |-
 unfold putL
 omega
theorem wt_set(L:LL)(h:Nat)(hh:h<L.length)(l:List Int):wt (L.set h l)+(lvl L h).length * 2 ^ h=wt L+l.length * 2 ^ h:=by
 have:=wtF_set L 1 h hh l
 rw[Nat.mul_one] at this
 exact this
theorem lvl_wt:∀(L:LL) (w h:Nat),(lvl L h).length * (2 ^ h * w)<=wtF w L
 | [],w,h=>by simp[lvl,wtF]
 | x::L,w,0=>by rw[wtF];simp only[lvl,List.getD_cons_zero,Nat.pow_zero,Nat.one_mul];omega
 | x::L,w,h+1=>by
  have:=lvl_wt L (2 * w) h
  rw[wtF,Nat.pow_succ,Nat.mul_assoc (2 ^ h) 2 w];simp only[lvl,List.getD_cons_succ] at this |-;omega
def thin(c:Nat):Nat:=(2 * c+2) / 3
def roomN:Nat->Nat->Nat
 | 0,c=>c
 | j+1,c=>roomN j (thin c)
def room(k len h:Nat):Nat:=if h<len then max (roomN (len - 1 - h) k) 2 else 0
theorem roomN_le:∀(j c:Nat),2<=c->roomN j c<=c/\2<=roomN j c
 | 0,c,h=>⟨Nat.le_refl _,h⟩
 | j+1,c,h=>by
  have h1:thin c<=c:=by unfold thin;omega
  have h2:2<=thin c:=by unfold thin;omega
  have:=roomN_le j (thin c) h2
  rw[roomN];omega
theorem room_le{k len h:Nat}(hk:2<=k):room k len h<=k:=by
 unfold room
 have:=roomN_le (len - 1 - h) k hk
 split<;>omega
theorem room_ge{k len h:Nat}(hh:h<len):2<=room k len h:=by
 unfold room
 rw[if_pos hh];omega
def fullAt(k:Nat)(L:LL)(h:Nat):Bool:=decide (room k L.length h<(lvl L h).length)
def fullN(k:Nat)(L:LL):Option Nat:=(List.range L.length).find? (fullAt k L)
def upV(l:List Int)(coin:Nat):List Int:=(List.range (l.length / 2)).map fun i=>l.getD (2 * i+coin) 0
def oddV(l:List Int):List Int:=l.drop (2 * (l.length / 2))
def packS(L:LL)(h coin:Nat):LL:=putL (L.set h (oddV (lvl L h))) (h+1) (upV (lvl L h) coin)
theorem upV_length(l:List Int)(c:Nat):(upV l c).length=l.length / 2:=by simp[upV]
theorem oddV_length(l:List Int):(oddV l).length=l.length % 2:=by unfold oddV;rw[List.length_drop];omega
theorem fullN_some{k:Nat}{L:LL}{h:Nat}(e:fullN k L=some h):h<L.length/\room k L.length h<(lvl L h).length/\∀j,j<h->(lvl L j).length<=room k L.length j:=by
 unfold fullN at e
 obtain⟨h1,xa,xb,h2,h3⟩:=List.find?_eq_some_iff_append.1 e
 have hm:h∈List.range L.length:=by rw[h2];simp
 have hlen:xa.length=h:=by
  have hlt:xa.length<(List.range L.length).length:=by rw[h2];simp
  have:(List.range L.length)[xa.length]'hlt=h:=by simp[h2]
  rw[List.getElem_range] at this;exact this
 refine⟨List.mem_range.1 hm,by simpa[fullAt] using h1,fun j hj=>?_⟩
 have hja:j∈xa:=by
  have hlt:j<xa.length:=by omega
  have:xa[j]=j:=by
   have e1:(xa++h::xb)[j]'(by simp;omega)=xa[j]:=List.getElem_append_left hlt
   rw[<-e1]
   have hl2:j<(List.range L.length).length:=by rw[h2];simp;omega
   have:(List.range L.length)[j]'hl2=j:=by simp
   simpa[h2] using this
  rw[<-this];exact List.getElem_mem hlt
 have:=h3 j hja
 simpa[fullAt] using this
theorem fullN_none{k:Nat}{L:LL}(e:fullN k L=none):∀j,j<L.length->(lvl L j).length<=room k L.length j:=by
 intro j hj
 have:=List.find?_eq_none.1 e j (List.mem_range.2 hj)
 simpa[fullAt] using this
theorem fullN_is{k:Nat}{L:LL}{h:Nat}(h1:h<L.length)(h2:room k L.length h<(lvl L h).length)(h3:∀j,j<h->(lvl L j).length<=room k L.length j):fullN k L=some h:=by
 cases e:fullN k L with
 | none=>have:=fullN_none e h h1;omega
 | some h'=>
  obtain⟨g1,g2,g3⟩:=fullN_some e
  rcases Nat.lt_trichotomy h h' with c|c|c
  ·have:=g3 h c;omega
  ·rw[c]
  ·have:=h3 h' c;omega
theorem fullN_is_none{k:Nat}{L:LL}(h:∀j,j<L.length->(lvl L j).length<=room k L.length j):fullN k L=none:=by
 cases e:fullN k L with
 | none=>rfl
 | some h'=>
  obtain⟨g1,g2,_⟩:=fullN_some e
  have:=h h' g1
  omega
theorem packS_cnt{L:LL}{h:Nat}(hh:h<L.length)(c:Nat):cnt (packS L h c)+(lvl L h).length / 2=cnt L:=by
 have h1:=cnt_set L h hh (oddV (lvl L h))
 rw[oddV_length] at h1
 unfold packS
 rw[cnt_put,upV_length]
 omega
theorem packS_wt{L:LL}{h:Nat}(hh:h<L.length)(c:Nat):wt (packS L h c)=wt L:=by
 have h1:=wt_set L h hh (oddV (lvl L h))
 rw[oddV_length] at h1
 unfold packS
 rw[wt_put,upV_length,Nat.pow_succ]
 have h2:(lvl L h).length * 2 ^ h=(lvl L h).length % 2 * 2 ^ h+(lvl L h).length / 2 * (2 ^ h * 2):=by
  conv=>lhs;rw[<-Nat.mod_add_div (lvl L h).length 2]
  rw[Nat.add_mul,Nat.mul_comm 2,Nat.mul_assoc,Nat.mul_comm 2]
 omega
theorem packS_length(L:LL)(h c:Nat):(packS L h c).length=max L.length (h+2):=by unfold packS;rw[putL_length,List.length_set]
def coinAt(B:List Int)(a:Nat):Nat:=if a<8 * B.length then(B.getD (a / 8) 0 / 2 ^ (a % 8) % 2).toNat else 0
def coinNx(B:List Int)(a:Nat):Nat:=if a<8 * B.length then a+1 else a
theorem coinAt_le(B:List Int)(a:Nat):coinAt B a<=1:=by
 unfold coinAt
 split
 ·have:=Int.emod_lt_of_pos (B.getD (a / 8) 0 / 2 ^ (a % 8)) (show(0:Int)<2 by decide)
  omega
 ·omega
abbrev KS:=LL × Nat × Nat
def packN(B:List Int)(h:Nat)(s:KS):KS:=(packS s.1 h (coinAt B s.2.2),min (s.2.1+2 ^ h) 4611686018427387904,coinNx B s.2.2)
def packF(k:Nat)(B:List Int):Nat->KS->KS
 | 0,s=>s
 | f+1,s=>match fullN k s.1 with
  | none=>s
  | some h=>packF k B f (packN B h s)
def packA(k:Nat)(B:List Int)(s:KS):KS:=packF k B (cnt s.1) s
theorem packN_cnt{k:Nat}{B:List Int}{s:KS}{h:Nat}(e:fullN k s.1=some h):cnt (packN B h s).1+1<=cnt s.1:=by
 obtain⟨h1,h2,_⟩:=fullN_some e
 have:=room_ge (k:=k) h1
 have:=packS_cnt h1 (coinAt B s.2.2)
 show cnt (packS s.1 h (coinAt B s.2.2))+1<=_
 omega
theorem packF_more(k:Nat)(B:List Int):∀(f g:Nat) (s:KS),cnt s.1<=f->f<=g->packF k B g s=packF k B f s
 | 0,g,s,h1,_=>by
  have e:fullN k s.1=none:=by
   cases e:fullN k s.1 with
   | none=>rfl
   | some h=>have:=packN_cnt (B:=B) e;omega
  cases g with
  | zero=>rfl
  | succ g=>simp only[packF,e]
 | f+1,g,s,h1,h2=>by
  obtain⟨g,rfl⟩:∃g',g=g'+1:=⟨g - 1,by omega⟩
  simp only[packF]
  cases e:fullN k s.1 with
  | none=>rfl
  | some h=>
   have:=packN_cnt (B:=B) e
   exact packF_more k B f g _ (by omega) (by omega)
theorem packA_none{k:Nat}{B:List Int}{s:KS}(e:fullN k s.1=none):packA k B s=s:=by
 unfold packA
 cases h:cnt s.1 with
 | zero=>rfl
 | succ f=>simp only[packF,e]
theorem packA_some{k:Nat}{B:List Int}{s:KS}{h:Nat}(e:fullN k s.1=some h):packA k B s=packA k B (packN B h s):=by
 have h1:=packN_cnt (B:=B) e
 have h2:packA k B s=packF k B (cnt s.1 - 1) (packN B h s):=by
  unfold packA
  obtain⟨f,hf⟩:∃f,cnt s.1=f+1:=⟨cnt s.1 - 1,by omega⟩
  rw[hf]
  simp only[packF,e];rfl
 rw[h2]
 exact packF_more k B _ _ _ (Nat.le_refl _) (by omega)
theorem packA_inv{k:Nat}{B:List Int}{P:KS->Prop}(step:∀s h,P s->fullN k s.1=some h->P (packN B h s)):∀(n:Nat) (s:KS),cnt s.1<=n->P s->P (packA k B s)/\fullN k (packA k B s).1=none
 | n,s,hn,hs=>by
  cases e:fullN k s.1 with
  | none=>rw[packA_none e];exact⟨hs,e⟩
  | some h=>
   have h1:=packN_cnt (B:=B) e
   rw[packA_some e]
   match n,hn with
   | 0,hn=>omega
   | n+1,hn=>exact packA_inv step n _ (by omega) (step s h hs e)
theorem packA_keep{k:Nat}{B:List Int}{P:KS->Prop}(step:∀s h,P s->fullN k s.1=some h->P (packN B h s)){s:KS}(hs:P s):P (packA k B s):=(packA_inv step _ s (Nat.le_refl _) hs).1
def putB:Nat->Nat->Nat->LL->Int->LL
 | 0,_,_,L,_=>L
 | f+1,h,m,L,v=>if m=0 then L else putB f (h+1) (m / 2) (if m % 2=1 then putL L h [v] else L) v
def addL(L:LL)(v:Int)(n:Nat):LL:=putB 64 0 n L v
theorem putB_zero:∀(f h:Nat) (L:LL) (v:Int),putB f h 0 L v=L
 | 0,_,_,_=>rfl
 | f+1,_,_,_=>by rw[putB,if_pos rfl]
theorem putB_wt:∀(f h m:Nat) (L:LL) (v:Int),m<2 ^ f->wt (putB f h m L v)=wt L+m * 2 ^ h
 | 0,h,m,L,v,hm=>by
  obtain rfl:m=0:=by omega
  simp[putB]
 | f+1,h,m,L,v,hm=>by
  rw[putB]
  by_cases h0:m=0
  ·rw[if_pos h0,h0];simp
  ·rw[if_neg h0,putB_wt f (h+1) (m / 2) _ v (by rw[Nat.pow_succ] at hm;omega)]
   have e:m * 2 ^ h=m % 2 * 2 ^ h+m / 2 * 2 ^ (h+1):=by
    conv=>lhs;rw[<-Nat.mod_add_div m 2]
    rw[Nat.add_mul,Nat.pow_succ,Nat.mul_comm 2 (m / 2),Nat.mul_assoc,Nat.mul_comm 2]
   split
   ·rename_i h1
    rw[wt_put,e,h1]
    simp only[List.length_singleton];omega
   ·have:m % 2=0:=by omega
    rw[e,this];omega
theorem addL_wt{n:Nat}(L:LL)(v:Int)(hn:n<18446744073709551616):wt (addL L v n)=wt L+n:=by
 unfold addL
 rw[putB_wt 64 0 n L v (by omega)];simp
theorem putB_cnt:∀(f h m:Nat) (L:LL) (v:Int),cnt (putB f h m L v)<=cnt L+f
 | 0,h,m,L,v=>Nat.le_refl _
 | f+1,h,m,L,v=>by
  rw[putB]
  split
  ·omega
  ·refine Nat.le_trans (putB_cnt f _ _ _ v) ?_
   split
   ·rw[cnt_put];simp only[List.length_singleton];omega
   ·omega
theorem addL_cnt(L:LL)(v:Int)(n:Nat):cnt (addL L v n)<=cnt L+64:=putB_cnt 64 0 n L v
theorem putB_keep{P:LL->Prop}{v:Int}(step:∀L h,P L->P (putL L h [v])):∀(f h m:Nat) (L:LL),P L->P (putB f h m L v)
 | 0,_,_,_,hp=>hp
 | f+1,h,m,L,hp=>by
  rw[putB]
  split
  ·exact hp
  ·refine putB_keep step f _ _ _ ?_
   split
   ·exact step L h hp
   ·exact hp
def Top(L:LL):Prop:=0<L.length->lvl L (L.length - 1)≠[]
theorem insL_ne{l vs:List Int}(h:vs≠[]\/l≠[]):insL l vs≠[]:=by
 intro e
 have:=congrArg List.length e
 rw[insL_length,List.length_nil] at this
 rcases h with h|h
 ·exact h (List.eq_nil_of_length_eq_zero (by omega))
 ·exact h (List.eq_nil_of_length_eq_zero (by omega))
theorem Top.put{L:LL}(ht:Top L)(h:Nat){vs:List Int}(hv:vs≠[]):Top (putL L h vs):=by
 intro h0
 rw[putL_length,lvl_put]
 split
 ·exact insL_ne (.inl hv)
 ·rename_i hne
  have:max L.length (h+1)=L.length:=by omega
  rw[this]
  exact ht (by omega)
theorem Top.pack{L:LL}(ht:Top L){h:Nat}(hh:h<L.length)(h2:2<=(lvl L h).length)(c:Nat):Top (packS L h c):=by
 intro h0
 rw[packS_length]
 unfold packS
 rw[lvl_put]
 split
 ·refine insL_ne (.inl fun e=>?_)
  have:=congrArg List.length e
  rw[upV_length,List.length_nil] at this
  omega
 ·rename_i hne
  rw[lvl_set _ _ _ _ hh,if_neg (by omega),show max L.length (h+2)=L.length by omega]
  exact ht (by omega)
theorem Top.add{L:LL}(ht:Top L)(v:Int)(n:Nat):Top (addL L v n):=putB_keep (fun _ h hp=>hp.put h (by simp)) 64 0 n L ht
theorem top_len{L:LL}(ht:Top L)(hw:wt L<=281474976710656):L.length<=49:=by
 rcases Nat.eq_zero_or_pos L.length with h0|h0
 ·omega
 ·have h1:=lvl_wt L 1 (L.length - 1)
  have h2:1<=(lvl L (L.length - 1)).length:=List.length_pos_iff.2 (ht h0)
  rcases Nat.lt_or_ge 49 L.length with h3|h3
  ·exfalso
   have h4:2 ^ 49<=2 ^ (L.length - 1):=Nat.pow_le_pow_right (by decide) (by omega)
   have h5:1 * (2 ^ (L.length - 1) * 1)<=(lvl L (L.length - 1)).length * (2 ^ (L.length - 1) * 1):=Nat.mul_le_mul_right _ h2
   unfold wt at hw
   omega
  ·exact h3
def takeN(M:LL):Nat->LL->LL
 | 0,L=>L
 | j+1,L=>putL (takeN M j L) j (lvl M j)
def takeL(L M:LL):LL:=takeN M M.length L
theorem takeN_wt(M L:LL):∀j,j<=M.length->wt (takeN M j L)=wt L+wtF 1 (M.take j)
 | 0,_=>by simp[takeN,wtF]
 | j+1,hj=>by
  rw[takeN,wt_put,takeN_wt M L j (by omega),List.take_succ_eq_append_getElem (by omega),wtF_append,List.length_take,Nat.min_eq_left (by omega),lvl_at (by omega)]
  simp[wtF,Nat.add_assoc]
theorem takeL_wt(L M:LL):wt (takeL L M)=wt L+wt M:=by
 unfold takeL
 rw[takeN_wt M L M.length (Nat.le_refl _),List.take_length];rfl
theorem takeN_cnt(M L:LL):∀j,j<=M.length->cnt (takeN M j L)=cnt L+cnt (M.take j)
 | 0,_=>by simp[takeN,cnt]
 | j+1,hj=>by
  rw[takeN,cnt_put,takeN_cnt M L j (by omega),List.take_succ_eq_append_getElem (by omega),cnt_append,lvl_at (by omega)]
  simp[cnt,Nat.add_assoc]
theorem takeL_cnt(L M:LL):cnt (takeL L M)=cnt L+cnt M:=by
 unfold takeL
 rw[takeN_cnt M L M.length (Nat.le_refl _),List.take_length]
theorem takeN_length(M L:LL):∀j,(takeN M j L).length=max L.length j
 | 0=>by simp[takeN]
 | j+1=>by rw[takeN,putL_length,takeN_length M L j];omega
theorem lvl_takeN(M L:LL):∀j i,lvl (takeN M j L) i=if i<j then insL (lvl L i) (lvl M i) else lvl L i
 | 0,i=>by simp[takeN]
 | j+1,i=>by
  rw[takeN,lvl_put,lvl_takeN M L j i,lvl_takeN M L j j]
  by_cases e:i=j
  ·subst e;rw[if_pos rfl,if_neg (by omega),if_pos (by omega)]
  ·rw[if_neg e]
   by_cases h:i<j
   ·rw[if_pos h,if_pos (by omega)]
   ·rw[if_neg h,if_neg (by omega)]
theorem Top.take{L M:LL}(hl:Top L)(hm:Top M):Top (takeL L M):=by
 intro h0
 have e1:=takeN_length M L M.length
 unfold takeL at h0 |-
 rw[e1,lvl_takeN]
 rcases Nat.lt_or_ge (L.length - 1) M.length with h1|h1
 ·rcases Nat.eq_zero_or_pos M.length with h2|h2
  ·omega
  ·rw[if_pos (by omega)]
   rcases Nat.lt_or_ge M.length L.length with h3|h3
   ·have:max L.length M.length - 1=L.length - 1:=by omega
    rw[this]
    exact insL_ne (.inr (hl (by omega)))
   ·have:max L.length M.length - 1=M.length - 1:=by omega
    rw[this]
    exact insL_ne (.inl (hm h2))
 ·have h3:max L.length M.length - 1=L.length - 1:=by omega
  rw[h3,if_neg (by omega)]
  exact hl (by omega)
end Go.Proofs.YtingnldfpokckaaGreat.K
