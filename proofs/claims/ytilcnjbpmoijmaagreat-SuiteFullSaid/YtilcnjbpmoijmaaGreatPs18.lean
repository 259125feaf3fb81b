/- Parts of a proof: what its theorem reaches, words cut short. No condition of its own. -/
import Derived.Test.YtilcnjbpmoijmaaGreatPs03
set_option maxRecDepth 100000
set_option maxHeartbeats 16000000
set_option linter.unusedVariables false
set_option linter.unusedSimpArgs false
namespace Go.Proofs.YtilcnjbpmoijmaaGreat.K
def ins(v:Int):List Int->List Int
 | []=>[v]
 | y::l=>if v<y then v::y::l else y::ins v l
def insL(l vs:List Int):List Int:=vs.foldl (fun l v=>ins v l) l
abbrev Srt(l:List Int):Prop:=l.Pairwise (fun a b=>a<=b)
theorem ins_perm(v:Int):∀l,(ins v l).Perm (v::l)
 | []=>.refl _
 | y::l=>by
  unfold ins
  split
  ·exact .refl _
  ·exact((ins_perm v l).cons y).trans (List.Perm.swap v y l)
theorem ins_mem{v x:Int}{l:List Int}:x∈ins v l<->x=v\/x∈l:=by rw[(ins_perm v l).mem_iff,List.mem_cons]
theorem ins_srt(v:Int):∀{l:List Int},Srt l->Srt (ins v l)
 | [],_=>by simp[ins]
 | y::l,h=>by
  have h1:=List.pairwise_cons.1 h
  unfold ins
  split
  ·rename_i hv
   exact List.pairwise_cons.2 ⟨fun z hz=>by
    rcases List.mem_cons.1 hz with rfl|hz
    ·omega
    ·have:=h1.1 z hz;omega,h⟩
  ·rename_i hv
   refine List.pairwise_cons.2 ⟨fun z hz=>?_,ins_srt v h1.2⟩
   rcases ins_mem.1 hz with rfl|hz
   ·omega
   ·exact h1.1 z hz
theorem insL_cons(l:List Int)(v:Int)(vs:List Int):insL l (v::vs)=insL (ins v l) vs:=rfl
theorem insL_perm:∀(vs l:List Int),(insL l vs).Perm (l++vs)
 | [],l=>by rw[List.append_nil];exact .refl _
 | v::vs,l=>by
  rw[insL_cons]
  refine(insL_perm vs (ins v l)).trans (((ins_perm v l).append_right vs).trans ?_)
  exact List.perm_middle.symm
theorem insL_length(l vs:List Int):(insL l vs).length=l.length+vs.length:=by rw[(insL_perm vs l).length_eq,List.length_append]
theorem insL_srt{l:List Int}(h:Srt l):∀(vs:List Int),Srt (insL l vs):=by
 intro vs
 induction vs generalizing l with
 | nil=>exact h
 | cons v vs ih=>exact ih (ins_srt v h)
theorem srt_unique:∀{a b:List Int},a.Perm b->Srt a->Srt b->a=b
 | [],b,p,_,_=>(List.nil_perm.1 p).symm
 | x::a,b,p,ha,hb=>by
  cases b with
  | nil=>exact absurd p.length_eq (by simp)
  | cons y b=>
   have h1:=List.pairwise_cons.1 ha
   have h2:=List.pairwise_cons.1 hb
   have e:x=y:=by
    have hx:x∈y::b:=p.subset (List.mem_cons_self ..)
    have hy:y∈x::a:=p.symm.subset (List.mem_cons_self ..)
    rcases List.mem_cons.1 hx with h|h
    ·exact h
    ·rcases List.mem_cons.1 hy with h'|h'
     ·exact h'.symm
     ·have:=h1.1 y h'
      have:=h2.1 x h
      omega
   subst e
   rw[srt_unique ((List.perm_cons x).1 p) h1.2 h2.2]
theorem sort_srt(l:List Int):Srt (l.mergeSort fun x y=>decide (x<=y)):=by
 have h:=List.pairwise_mergeSort (le:=fun x y:Int=>decide (x<=y)) (fun a b c h1 h2=>by simp only[decide_eq_true_eq] at *;omega) (fun a b=>by simp only[Bool.or_eq_true,decide_eq_true_eq];omega) l
 exact h.imp (fun h=>by simpa using h)
theorem sort_ins{l:List Int}(h:Srt l)(vs:List Int):((l++vs).mergeSort fun x y=>decide (x<=y))=insL l vs:=
 srt_unique ((List.mergeSort_perm _ _).trans (insL_perm vs l).symm) (sort_srt _) (insL_srt h vs)
abbrev LL:=List (List Int)
def ext(L:LL)(h:Nat):LL:=L++List.replicate (h+1 - L.length) []
def lvl(L:LL)(h:Nat):List Int:=L.getD h []
def putL(L:LL)(h:Nat)(vs:List Int):LL:=(ext L h).set h (insL (lvl L h) vs)
theorem ext_length(L:LL)(h:Nat):(ext L h).length=max L.length (h+1):=by
 unfold ext
 rw[List.length_append,List.length_replicate];omega
theorem lvl_ext(L:LL)(h j:Nat):lvl (ext L h) j=lvl L j:=by
 unfold lvl ext
 simp only[List.getD]
 rcases Nat.lt_or_ge j L.length with h1|h1
 ·rw[List.getElem?_append_left h1]
 ·rw[List.getElem?_append_right h1,List.getElem?_replicate,List.getElem?_eq_none h1]
  split<;>rfl
theorem lvl_at{L:LL}{j:Nat}(h:j<L.length):lvl L j=L[j]:=by
 unfold lvl
 rw[List.getD,List.getElem?_eq_getElem h];rfl
theorem lvl_set(L:LL)(h j:Nat)(l:List Int)(hh:h<L.length):lvl (L.set h l) j=if j=h then l else lvl L j:=by
 unfold lvl
 simp only[List.getD]
 rw[List.getElem?_set]
 by_cases e:h=j
 ·subst e;rw[if_pos rfl,if_pos rfl,if_pos hh];rfl
 ·rw[if_neg e,if_neg (fun e'=>e e'.symm)]
theorem putL_length(L:LL)(h:Nat)(vs:List Int):(putL L h vs).length=max L.length (h+1):=by
 unfold putL
 rw[List.length_set,ext_length]
theorem lvl_put(L:LL)(h j:Nat)(vs:List Int):lvl (putL L h vs) j=if j=h then insL (lvl L h) vs else lvl L j:=by
 unfold putL
 rw[lvl_set _ _ _ _ (by rw[ext_length];omega),lvl_ext]
def cnt(L:LL):Nat:=(L.map List.length).sum
def wtF:Nat->LL->Nat
 | _,[]=>0
 | w,l::L=>l.length * w+wtF (2 * w) L
def wt(L:LL):Nat:=wtF 1 L
theorem cnt_append(A B:LL):cnt (A++B)=cnt A+cnt B:=by simp[cnt]
theorem cnt_cons(l:List Int)(L:LL):cnt (l::L)=l.length+cnt L:=by simp[cnt]
theorem cnt_rep(n:Nat):cnt (List.replicate n [])=0:=by simp[cnt]
theorem cnt_ext(L:LL)(h:Nat):cnt (ext L h)=cnt L:=by rw[ext,cnt_append,cnt_rep];rfl
theorem cnt_set:∀(L:LL) (h:Nat) (_:h<L.length) (l:List Int),cnt (L.set h l)+(lvl L h).length=cnt L+l.length
 | x::L,0,_,l=>by rw[List.set_cons_zero,cnt_cons,cnt_cons];simp only[lvl,List.getD_cons_zero];omega
 | x::L,h+1,hh,l=>by
  have:=cnt_set L h (by simpa using hh) l
  rw[List.set_cons_succ,cnt_cons,cnt_cons]
  simp only[lvl,List.getD_cons_succ] at this |-
  omega
theorem cnt_put(L:LL)(h:Nat)(vs:List Int):cnt (putL L h vs)=cnt L+vs.length:=by
 have h1:=cnt_set (ext L h) h (by rw[ext_length];omega) (insL (lvl L h) vs)
 rw[lvl_ext,insL_length,cnt_ext] at h1
 unfold putL
 omega
theorem lvl_le_cnt:∀(L:LL) (h:Nat),(lvl L h).length<=cnt L
 | [],h=>by simp[lvl]
 | x::L,0=>by rw[cnt_cons];simp only[lvl,List.getD_cons_zero];omega
 | x::L,h+1=>by
  have:=lvl_le_cnt L h
  rw[cnt_cons];simp only[lvl,List.getD_cons_succ] at this |-;omega
theorem wtF_append:∀(w:Nat) (A B:LL),wtF w (A++B)=wtF w A+wtF (2 ^ A.length * w) B
 | w,[],B=>by simp[wtF]
 | w,a::A,B=>by
  rw[List.cons_append,wtF,wtF_append (2 * w) A B,wtF,List.length_cons,Nat.pow_succ,Nat.mul_assoc,Nat.add_assoc]
theorem wtF_rep:∀(n w:Nat),wtF w (List.replicate n [])=0
 | 0,_=>rfl
 | n+1,w=>by rw[List.replicate_succ,wtF,wtF_rep n];simp
theorem wt_ext(L:LL)(h:Nat):wt (ext L h)=wt L:=by unfold wt;rw[ext,wtF_append,wtF_rep];rfl
theorem wtF_set:∀(L:LL) (w h:Nat) (_:h<L.length) (l:List Int),wtF w (L.set h l)+(lvl L h).length * (2 ^ h * w)=wtF w L+l.length * (2 ^ h * w)
 | x::L,w,0,_,l=>by
  rw[List.set_cons_zero,wtF,wtF]
  simp only[lvl,List.getD_cons_zero,Nat.pow_zero,Nat.one_mul];omega
 | x::L,w,h+1,hh,l=>by
  have:=wtF_set L (2 * w) h (by simpa using hh) l
  rw[List.set_cons_succ,wtF,wtF,Nat.pow_succ,Nat.mul_assoc (2 ^ h) 2 w]
  simp only[lvl,List.getD_cons_succ] at this |-
  omega
theorem wt_put(L:LL)(h:Nat)(vs:List Int):wt (putL L h vs)=wt L+vs.length * 2 ^ h:=by
 have h1:=wtF_set (ext L h) 1 h (by rw[ext_length];omega) (insL (lvl L h) vs)
 rw[lvl_ext,insL_length,Nat.mul_one,Nat.add_mul] at h1
 have h2:=wt_ext L h
 unfold wt at h2 |-
 unfold putL
 omega
theorem lvl_wt:∀(L:LL) (w h:Nat),(lvl L h).length * (2 ^ h * w)<=wtF w L
 | [],w,h=>by simp[lvl,wtF]
 | x::L,w,0=>by rw[wtF];simp only[lvl,List.getD_cons_zero,Nat.pow_zero,Nat.one_mul];omega
 | x::L,w,h+1=>by
  have:=lvl_wt L (2 * w) h
  rw[wtF,Nat.pow_succ,Nat.mul_assoc (2 ^ h) 2 w];simp only[lvl,List.getD_cons_succ] at this |-;omega
def thin(c:Nat):Nat:=(2 * c+2) / 3
def roomN:Nat->Nat->Nat
 | 0,c=>c
 | j+1,c=>roomN j (thin c)
def room(k len h:Nat):Nat:=if h<len then max (roomN (len - 1 - h) k) 2 else 0
theorem roomN_le:∀(j c:Nat),2<=c->roomN j c<=c/\2<=roomN j c
 | 0,c,h=>⟨Nat.le_refl _,h⟩
 | j+1,c,h=>by
  have h1:thin c<=c:=by unfold thin;omega
  have h2:2<=thin c:=by unfold thin;omega
  have:=roomN_le j (thin c) h2
  rw[roomN];omega
theorem room_le{k len h:Nat}(hk:2<=k):room k len h<=k:=by
 unfold room
 have:=roomN_le (len - 1 - h) k hk
 split<;>omega
def fullAt(k:Nat)(L:LL)(h:Nat):Bool:=decide (room k L.length h<(lvl L h).length)
def fullN(k:Nat)(L:LL):Option Nat:=(List.range L.length).find? (fullAt k L)
theorem fullN_some{k:Nat}{L:LL}{h:Nat}(e:fullN k L=some h):h<L.length/\room k L.length h<(lvl L h).length/\∀j,j<h->(lvl L j).length<=room k L.length j:=by
 unfold fullN at e
 obtain⟨h1,xa,xb,h2,h3⟩:=List.find?_eq_some_iff_append.1 e
 have hm:h∈List.range L.length:=by rw[h2];simp
 have hlen:xa.length=h:=by
  have hlt:xa.length<(List.range L.length).length:=by rw[h2];simp
  have:(List.range L.length)[xa.length]'hlt=h:=by simp[h2]
  rw[List.getElem_range] at this;exact this
 refine⟨List.mem_range.1 hm,by simpa[fullAt] using h1,fun j hj=>?_⟩
 have hja:j∈xa:=by
  have hlt:j<xa.length:=by omega
  have:xa[j]=j:=by
   have e1:(xa++h::xb)[j]'(by simp;omega)=xa[j]:=List.getElem_append_left hlt
   rw[<-e1]
   have hl2:j<(List.range L.length).length:=by rw[h2];simp;omega
   have:(List.range L.length)[j]'hl2=j:=by simp
   simpa[h2] using this
  rw[<-this];exact List.getElem_mem hlt
 have:=h3 j hja
 simpa[fullAt] using this
theorem fullN_none{k:Nat}{L:LL}(e:fullN k L=none):∀j,j<L.length->(lvl L j).length<=room k L.length j:=by
 intro j hj
 have:=List.find?_eq_none.1 e j (List.mem_range.2 hj)
 simpa[fullAt] using this
theorem fullN_is{k:Nat}{L:LL}{h:Nat}(h1:h<L.length)(h2:room k L.length h<(lvl L h).length)(h3:∀j,j<h->(lvl L j).length<=room k L.length j):fullN k L=some h:=by
 cases e:fullN k L with
 | none=>have:=fullN_none e h h1;omega
 | some h'=>
  obtain⟨g1,g2,g3⟩:=fullN_some e
  rcases Nat.lt_trichotomy h h' with c|c|c
  ·have:=g3 h c;omega
  ·rw[c]
  ·have:=h3 h' c;omega
theorem fullN_is_none{k:Nat}{L:LL}(h:∀j,j<L.length->(lvl L j).length<=room k L.length j):fullN k L=none:=by
 cases e:fullN k L with
 | none=>rfl
 | some h'=>
  obtain⟨g1,g2,_⟩:=fullN_some e
  have:=h h' g1
  omega
end Go.Proofs.YtilcnjbpmoijmaaGreat.K
