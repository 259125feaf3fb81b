/- Parts of a proof: what its theorem reaches, words cut short. No condition of its own. -/
import Derived.Test.YtkiebccnpheloaaGreatPv02
set_option maxRecDepth 100000
set_option maxHeartbeats 16000000
set_option linter.unusedVariables false
set_option linter.unusedSimpArgs false
namespace Go.Proofs.YtkiebccnpheloaaGreat
open Go.RowKit
theorem snocRec{α:Type}{motive:List α->Prop}(nil:motive [])(snoc:∀l x,motive l->motive (l++[x]))(l:List α):motive l:=by
 have h:∀n (l:List α),l.length=n->motive l:=by
  intro n
  induction n with
  | zero=>intro l hl;rw[List.eq_nil_of_length_eq_zero hl];exact nil
  | succ n ih=>
   intro l hl
   have hne:l≠[]:=by rintro rfl;simp at hl
   rw[<-List.dropLast_concat_getLast hne]
   exact snoc _ _ (ih _ (by simp[hl]))
 exact h _ l rfl
abbrev Mn:=Int × Int
def encM(m:Mn):List Value:=[.int .i64 m.1,.int .u64 m.2]
def cellsM(l:List Mn):List Value:=l.flatMap encM
theorem cellsM_length(l:List Mn):(cellsM l).length=l.length * 2:=by
 induction l with
 | nil=>rfl
 | cons m l ih=>simp only[cellsM,List.flatMap_cons,List.length_append,List.length_cons] at *;rw[ih];simp[encM];omega
theorem cellsM_append(a b:List Mn):cellsM (a++b)=cellsM a++cellsM b:=by simp[cellsM]
theorem cellsM_get0:∀(l:List Mn) (i:Nat) (h:i<l.length),(cellsM l)[i * 2]?=some (.int .i64 l[i].1)
 | m::l,0,_=>rfl
 | m::l,i+1,h=>by
  have:=cellsM_get0 l i (by simpa using h)
  rw[show(i+1) * 2=i * 2+2 by omega]
  simpa[cellsM,encM] using this
theorem cellsM_get1:∀(l:List Mn) (i:Nat) (h:i<l.length),(cellsM l)[i * 2+1]?=some (.int .u64 l[i].2)
 | m::l,0,_=>rfl
 | m::l,i+1,h=>by
  have:=cellsM_get1 l i (by simpa using h)
  rw[show(i+1) * 2+1=i * 2+1+2 by omega]
  simpa[cellsM,encM] using this
theorem cellsM_one(l:List Mn):∀u∈cellsM l,u.oneCell'=true:=by
 intro u hu
 obtain⟨m,_,hm⟩:=List.mem_flatMap.1 hu
 simp[encM] at hm
 rcases hm with rfl|rfl<;>rfl
theorem cellsM_drop(l:List Mn)(k:Nat):(cellsM l).drop (k * 2)=cellsM (l.drop k):=by
 induction k generalizing l with
 | zero=>simp
 | succ k ih=>
  cases l with
  | nil=>simp[cellsM]
  | cons m l=>
   rw[show(k+1) * 2=k * 2+2 by omega]
   have:=ih l
   simpa[cellsM,encM] using this
theorem cellsM_take(l:List Mn)(k:Nat):(cellsM l).take (k * 2)=cellsM (l.take k):=by
 induction k generalizing l with
 | zero=>simp[cellsM]
 | succ k ih=>
  cases l with
  | nil=>simp[cellsM]
  | cons m l=>
   rw[show(k+1) * 2=k * 2+2 by omega]
   have:=ih l
   simpa[cellsM,encM] using this
def RdM(w:World)(v:Value)(l:List Mn):Prop:=Rd 2 w v l.length (cellsM l)
theorem RdM.keep{w w':World}{v:Value}{l:List Mn}(h:RdM w v l)(hb:Below w.heap.size w w'):RdM w' v l:=Rd.keep h hb
def MForm(w:World)(A:Option Addr)(l:List Mn):Prop:=0<l.length->∃g off,A=some ⟨g,off,none⟩/\g<w.heap.size/\∀j,j<l.length * 2->w.cell? ⟨g,off+j,none⟩=(cellsM l)[j]?
theorem RdM.form{w:World}{v:Value}{l:List Mn}(h:RdM w v l):∃A c,v=.slice A l.length c/\l.length<=c/\c<=9223372036854775807/\MForm w A l:=by
 obtain⟨_,A,c,hv,h1,h2,h3⟩:=h
 exact⟨A,c,hv,h1,by unfold maxLen at h2;omega,h3⟩
theorem RdM.of_form{w:World}{A:Option Addr}{l:List Mn}{c:Nat}(h1:l.length<=c)(h2:c<=9223372036854775807)(h:MForm w A l):RdM w (.slice A l.length c) l:=
 ⟨cellsM_length l,A,c,rfl,h1,by unfold maxLen;omega,h⟩
theorem MForm.keep{w w':World}{A:Option Addr}{l:List Mn}(h:MForm w A l)(hb:Below w.heap.size w w'):MForm w' A l:=fun h0=>by
 obtain⟨g,off,hA,hg,hj⟩:=h h0
 exact⟨g,off,hA,Nat.lt_of_lt_of_le hg hb.size,fun j hj'=>(hb.cell (p:=⟨g,off+j,none⟩) hg).trans (hj j hj')⟩
theorem MForm.at_{w:World}{A:Option Addr}{l:List Mn}(h:MForm w A l){j:Nat}(hj:j<l.length) :
 ∃g off,A=some ⟨g,off,none⟩/\g<w.heap.size/\w.cell? ⟨g,off+j * 2,none⟩=some (.int .i64 l[j].1)/\w.cell? ⟨g,off+j * 2+1,none⟩=some (.int .u64 l[j].2):=by
 obtain⟨g,off,hA,hg,hc⟩:=h (by omega)
 refine⟨g,off,hA,hg,?_,?_⟩
 ·rw[hc (j * 2) (by omega),cellsM_get0 l j hj]
 ·rw[Nat.add_assoc,hc (j * 2+1) (by omega),cellsM_get1 l j hj]
theorem MForm.tail{w:World}{A:Option Addr}{l:List Mn}(h:MForm w A l){g off:Nat}(hA:A=some ⟨g,off,none⟩)(k:Nat):MForm w (some ⟨g,off+k * 2,none⟩) (l.drop k):=fun h0=>by
 rw[List.length_drop] at h0
 obtain⟨g',off',hA',hg,hc⟩:=h (by omega)
 rw[hA] at hA'
 injection hA' with hA'
 injection hA' with e1 e2
 subst e1;subst e2
 refine⟨g,_,rfl,hg,fun j hj=>?_⟩
 rw[List.length_drop] at hj
 rw[Nat.add_assoc,hc _ (by omega),<-cellsM_drop,List.getElem?_drop]
theorem MForm.head{w:World}{A:Option Addr}{l:List Mn}(h:MForm w A l)(k:Nat):MForm w A (l.take k):=fun h0=>by
 have hl:=List.length_take_le k l
 have hl':=List.length_take_le' k l
 obtain⟨g,off,hA,hg,hc⟩:=h (by omega)
 refine⟨g,off,hA,hg,fun j hj=>?_⟩
 rw[hc j (by omega),<-cellsM_take,List.getElem?_take,if_pos (by omega)]
theorem MForm.nil{w:World}{A:Option Addr}:MForm w A []:=fun h=>absurd h (by simp)
def OwnM(base:Nat)(w:World)(v:Value)(l:List Mn):Prop:=w.ownsRow base 231 2 v l.length (cellsM l)
theorem OwnM.rd{base:Nat}{w:World}{v:Value}{l:List Mn}(h:OwnM base w v l):RdM w v l:=Rd.of_own h
theorem OwnM.nil_(base:Nat)(w:World):OwnM base w (.slice none 0 0) []:=World.ownsRow_nil w base _ _
theorem OwnM.more{base base':Nat}{w:World}{v:Value}{l:List Mn}(h:OwnM base w v l)(hb:base'<=base):OwnM base' w v l:=by
 obtain⟨h1,h2⟩:=h
 refine⟨h1,?_⟩
 rcases h2 with h2|⟨g,cap,cur,e1,e2,r⟩
 ·exact .inl h2
 ·exact .inr ⟨g,cap,cur,e1,by omega,r⟩
theorem OwnM.stay{base:Nat}{w w':World}{v:Value}{l:List Mn}(h:OwnM base w v l)(hk:∀g,v.ownBlock=some g->w'.heap[g]?=w.heap[g]?):OwnM base w' v l:=by
 obtain⟨h1,h2⟩:=h
 refine⟨h1,?_⟩
 rcases h2 with h2|⟨g,cap,cur,rfl,e2,e3,r⟩
 ·exact .inl h2
 ·exact .inr ⟨g,cap,cur,rfl,e2,by rw[hk g rfl];exact e3,r⟩
theorem OwnM.lt{base:Nat}{w:World}{v:Value}{l:List Mn}(h:OwnM base w v l):∀g,v.ownBlock=some g->base<=g/\g<w.heap.size:=World.ownsRow.lt h
theorem OwnM.keep{base:Nat}{w w':World}{v:Value}{l:List Mn}(h:OwnM base w v l)(hb:Below w.heap.size w w'):OwnM base w' v l:=h.stay fun g hg=>hb.block g (h.lt g hg).2
theorem OwnM.drewN{base:Nat}{w:World}{v:Value}{l:List Mn}(h:OwnM base w v l)(n:Nat):OwnM base (w.drewN n) v l:=h
theorem OwnM.drew{base:Nat}{w:World}{v:Value}{l:List Mn}(h:OwnM base w v l):OwnM base w.drew v l:=h
theorem OwnM.alloc{base:Nat}{w:World}{v:Value}{l:List Mn}(h:OwnM base w v l)(o:Obj):OwnM base (w.alloc o) v l:=World.ownsRow.alloc h o
theorem OwnM.far{base:Nat}{w:World}{v:Value}{l:List Mn}(h:OwnM base w v l){p:Addr}(hp:v.ownBlock≠some p.block)(u:Value):OwnM base (w.setCell p u) v l:=
 h.stay fun g hg=>Below.heap_setCell w p u g (fun e=>hp (by rw[hg,e]))
theorem OwnM.form{base:Nat}{w:World}{v:Value}{l:List Mn}(h:OwnM base w v l):∃A c,v=.slice A l.length c/\l.length<=c/\c<=9223372036854775807/\MForm w A l:=h.rd.form
theorem OwnM.pos{base:Nat}{w:World}{v:Value}{l:List Mn}(h:OwnM base w v l)(h0:0<l.length):∃g c,v=.slice (some ⟨g,0,none⟩) l.length c/\base<=g/\g<w.heap.size/\l.length<=c/\c<=9223372036854775807:=by
 rcases h.2 with⟨_,h2⟩|⟨g,cap,cur,rfl,e2,e3,e4,e5,_⟩
 ·omega
 ·exact⟨g,cap,rfl,e2,(h.lt g rfl).2,e4,by unfold maxLen at e5;omega⟩
theorem OwnM.at_{base g c:Nat}{w:World}{l:List Mn}(h:OwnM base w (.slice (some ⟨g,0,none⟩) l.length c) l){j:Nat}(hj:j<l.length) :
 w.cell? ⟨g,j * 2,none⟩=some (.int .i64 l[j].1)/\w.cell? ⟨g,j * 2+1,none⟩=some (.int .u64 l[j].2)/\w.frozen? ⟨g,j * 2,none⟩=false/\w.frozen? ⟨g,j * 2+1,none⟩=false:=by
 refine⟨?_,?_,World.ownsRow.frozenAt h _,World.ownsRow.frozenAt h _⟩
 ·rw[World.ownsRow.cellAt h _ (by omega),cellsM_get0 l j hj]
 ·rw[World.ownsRow.cellAt h _ (by omega),cellsM_get1 l j hj]
theorem cellsM_set:∀(l:List Mn) (j:Nat) (m:Mn),((cellsM l).set (j * 2) (.int .i64 m.1)).set (j * 2+1) (.int .u64 m.2)=cellsM (l.set j m)
 | [],_,_=>rfl
 | x::l,0,m=>by simp[cellsM,encM]
 | x::l,j+1,m=>by
  have:=cellsM_set l j m
  rw[show(j+1) * 2=j * 2+2 by omega,show j * 2+2+1=j * 2+1+2 by omega]
  simp only[cellsM,encM,List.flatMap_cons,List.cons_append,List.nil_append,List.set_cons_succ] at this |-
  rw[this]
theorem OwnM.set_{base g c:Nat}{w:World}{l:List Mn}(h:OwnM base w (.slice (some ⟨g,0,none⟩) l.length c) l)(j:Nat)(m:Mn) :
 OwnM base ((w.setCell ⟨g,j * 2,none⟩ (.int .i64 m.1)).setCell ⟨g,j * 2+1,none⟩ (.int .u64 m.2)) (.slice (some ⟨g,0,none⟩) (l.set j m).length c) (l.set j m):=by
 have h1:=(World.ownsRow.stored h (j * 2) (.int .i64 m.1)).1
 have h2:=(World.ownsRow.stored h1 (j * 2+1) (.int .u64 m.2)).1
 unfold OwnM
 rw[<-cellsM_set,List.length_set]
 exact h2
theorem OwnM.setLast{base g c N m:Nat}{w:World}{acc:List Mn}{now:Mn}(x:Mn)(h:OwnM base w (.slice (some ⟨g,0,none⟩) N c) (acc++[now]))(hm:acc.length=m)(hN:(acc++[now]).length=N) :
 OwnM base ((w.setCell ⟨g,m * 2,none⟩ (.int .i64 x.1)).setCell ⟨g,m * 2+1,none⟩ (.int .u64 x.2)) (.slice (some ⟨g,0,none⟩) N c) (acc++[x]):=by
 subst hm hN
 have h1:=h.set_ acc.length x
 rw[List.length_set] at h1
 rw[show(acc++[now]).set acc.length x=acc++[x] by simp] at h1
 exact h1
theorem RdM.one(w:World)(m:Mn):RdM (w.alloc (.cells #[.int .i64 m.1,.int .u64 m.2] 231)) (.slice (some ⟨w.heap.size,0,none⟩) 1 1) [m]:=by
 refine RdM.of_form (by simp) (by omega) (fun _=>⟨w.heap.size,0,rfl,by simp,fun j hj=>?_⟩)
 simp only[List.length_singleton] at hj
 have:j=0\/j=1:=by omega
 rcases this with rfl|rfl<;>simp[cellsM,encM,World.cell?_alloc_new]
theorem RdM.cut1{w:World}{g off c:Nat}{l:List Mn}(h1:0<l.length)(h2:l.length<=c)(h3:c<=9223372036854775807)(h:MForm w (some ⟨g,off,none⟩) l) :
 RdM w (.slice (if c=1 then some ⟨g,off,none⟩ else some ⟨g,off+2,none⟩) (l.length - 1) (c - 1)) (l.drop 1):=by
 by_cases hc:c=1
 ·rw[if_pos hc]
  have h0:l.drop 1=[]:=List.eq_nil_of_length_eq_zero (by rw[List.length_drop];omega)
  rw[h0,show l.length - 1=0 by omega]
  exact RdM.of_form (l:=[]) (by simp) (by omega) MForm.nil
 ·rw[if_neg hc]
  have:=RdM.of_form (c:=c - 1) (l:=l.drop 1) (by rw[List.length_drop];omega) (by omega) (h.tail rfl 1)
  rwa [List.length_drop] at this
def ins(x:Mn):List Mn->List Mn
 | []=>[x]
 | y::l=>if y.1<=x.1 then y::ins x l else x::y::l
def srt(l:List Mn):List Mn:=l.foldl (fun o x=>ins x o) []
def mrg:List Mn->List Mn->List Mn
 | [],b=>b
 | a,[]=>a
 | x::a,y::b=>if y.1<x.1 then y::mrg (x::a) b else x::mrg a (y::b)
theorem mrg_nil_right(a:List Mn):mrg a []=a:=by cases a<;>simp[mrg]
theorem mrg_nil_left(b:List Mn):mrg [] b=b:=by cases b<;>simp[mrg]
theorem mrg_step_b{xs ys:List Mn}(ha:0<xs.length)(hb:0<ys.length)(h:ys[0].1<xs[0].1):mrg xs ys=ys[0]::mrg xs (ys.drop 1):=by
 match xs,ys,ha,hb,h with
 | x::xs,y::ys,_,_,h=>simp only[List.getElem_cons_zero] at h;rw[mrg,if_pos h];rfl
theorem mrg_step_a{xs ys:List Mn}(ha:0<xs.length)(hb:0<ys.length)(h:¬ys[0].1<xs[0].1):mrg xs ys=xs[0]::mrg (xs.drop 1) ys:=by
 match xs,ys,ha,hb,h with
 | x::xs,y::ys,_,_,h=>simp only[List.getElem_cons_zero] at h;rw[mrg,if_neg h];rfl
theorem mrg_ins(x:Mn):∀s t:List Mn,mrg s (ins x t)=ins x (mrg s t)
 | [],t=>by simp[mrg]
 | y::s,[]=>by
  simp only[ins,mrg_nil_right]
  unfold mrg
  by_cases h:x.1<y.1
  ·rw[if_pos h,mrg_nil_right,if_neg (by omega)]
  ·rw[if_neg h,if_pos (by omega)]
   have:=mrg_ins x s []
   simp only[ins,mrg_nil_right] at this
   rw[this]
 | y::s,z::t=>by
  by_cases hz:z.1<=x.1
  ·have e:ins x (z::t)=z::ins x t:=by simp[ins,hz]
   rw[e]
   unfold mrg
   by_cases h:z.1<y.1
   ·rw[if_pos h,if_pos h,mrg_ins x (y::s) t]
    simp[ins,hz]
   ·rw[if_neg h,if_neg h]
    have:=mrg_ins x s (z::t)
    rw[e] at this
    rw[this]
    simp only[ins]
    rw[if_pos (show y.1<=x.1 by omega)]
  ·have e:ins x (z::t)=x::z::t:=by simp[ins,hz]
   rw[e]
   by_cases hx:x.1<y.1
   ·rw[mrg,if_pos hx]
    unfold mrg
    by_cases h:z.1<y.1
    ·rw[if_pos h];simp only[ins];rw[if_neg hz]
    ·rw[if_neg h];simp only[ins];rw[if_neg (by omega)]
   ·rw[mrg,if_neg hx]
    have:=mrg_ins x s (z::t)
    rw[e] at this
    rw[this]
    conv=>rhs;rw[mrg,if_neg (by omega)]
    simp only[ins]
    rw[if_pos (show y.1<=x.1 by omega)]
 termination_by s t=>s.length+t.length
theorem ins_at(x:Mn):∀(l:List Mn) (k:Nat),k<=l.length->(∀j (h:j<l.length),j<k->l[j].1<=x.1)->(∀h:k<l.length,x.1<l[k].1)->ins x l=l.take k++x::l.drop k
 | [],k,_,_,_=>by simp[ins]
 | y::l,0,_,_,h2=>by
  have:=h2 (by simp)
  simp only[List.getElem_cons_zero] at this
  simp only[ins,List.take_zero,List.nil_append,List.drop_zero]
  rw[if_neg (by omega)]
 | y::l,k+1,h0,h1,h2=>by
  have hy:=h1 0 (by simp) (by omega)
  simp only[List.getElem_cons_zero] at hy
  simp only[ins,List.take_succ_cons,List.cons_append,List.drop_succ_cons]
  rw[if_pos hy,ins_at x l k (by simpa using h0) (fun j h hj=>h1 (j+1) (Nat.succ_lt_succ h) (by omega)) (fun h=>h2 (Nat.succ_lt_succ h))]
theorem ins_tail{x:Mn}{S T:List Mn}{q:Nat}(h:T=S.take q++x::S.drop q)(hq:q<=S.length) :
 T.length=S.length+1/\T.take (q+1)=S.take q++[x]/\∀k (hk:k<S.length),q<=k->T.take (k+1+1)=T.take (k+1)++[S[k]]:=by
 subst h
 have hl:(S.take q).length=q:=by rw[List.length_take];omega
 refine⟨by simp;omega,?_,fun k hk hqk=>?_⟩
 ·rw[List.take_append,hl,List.take_of_length_le (by omega),show q+1 - q=1 by omega];rfl
 ·have hT:k+1<(S.take q++x::S.drop q).length:=by simp;omega
  rw[List.take_succ_eq_append_getElem hT]
  congr 2
  rw[List.getElem_append_right (by omega)]
  simp only[hl]
  have:k+1 - q=(k - q)+1:=by omega
  simp only[this,List.getElem_cons_succ,List.getElem_drop]
  congr 1
  omega
theorem srt_snoc(l:List Mn)(x:Mn):srt (l++[x])=ins x (srt l):=by simp[srt]
theorem srt_take_succ(l:List Mn)(i:Nat)(h:i<l.length):srt (l.take (i+1))=ins l[i] (srt (l.take i)):=by
 rw[List.take_succ_eq_append_getElem h,srt_snoc]
theorem mrg_foldl(s:List Mn):∀b:List Mn,mrg s (srt b)=b.foldl (fun o x=>ins x o) s:=by
 intro b
 induction b using snocRec with
 | nil=>simp[srt,mrg_nil_right]
 | snoc b x ih=>rw[srt_snoc,mrg_ins,ih,List.foldl_append];rfl
theorem mrg_srt(a b:List Mn):mrg (srt a) (srt b)=srt (a++b):=by
 rw[mrg_foldl,srt,srt,List.foldl_append]
theorem ins_length(x:Mn)(l:List Mn):(ins x l).length=l.length+1:=by
 induction l with
 | nil=>rfl
 | cons y l ih=>simp only[ins];split<;>simp[ih]
theorem srt_length(l:List Mn):(srt l).length=l.length:=by
 induction l using snocRec with
 | nil=>rfl
 | snoc l x ih=>rw[srt_snoc,ins_length,ih];simp
theorem mem_ins(x:Mn)(l:List Mn)(m:Mn):m∈ins x l<->m=x\/m∈l:=by
 induction l with
 | nil=>simp[ins]
 | cons y l ih=>
  simp only[ins]
  split
  ·simp only[List.mem_cons,ih];constructor
   ·rintro (h|h|h)<;>simp[h]
   ·rintro (h|h|h)<;>simp[h]
  ·simp
theorem mem_srt(l:List Mn)(m:Mn):m∈srt l<->m∈l:=by
 induction l using snocRec with
 | nil=>simp[srt]
 | snoc l x ih=>rw[srt_snoc,mem_ins,ih];simp[or_comm]
def Rises(l:List Mn):Prop:=l.Pairwise (fun a b=>a.1<=b.1)
theorem rises_ins(x:Mn):∀l:List Mn,Rises l->Rises (ins x l)
 | [],_=>by simp[ins,Rises]
 | y::l,h=>by
  have h':=List.pairwise_cons.1 h
  simp only[ins]
  split
  ·rename_i hy
   refine List.pairwise_cons.2 ⟨fun m hm=>?_,rises_ins x l h'.2⟩
   rcases(mem_ins x l m).1 hm with rfl|hm
   ·exact hy
   ·exact h'.1 m hm
  ·rename_i hy
   refine List.pairwise_cons.2 ⟨fun m hm=>?_,h⟩
   rcases List.mem_cons.1 hm with rfl|hm
   ·omega
   ·have:=h'.1 m hm;omega
theorem rises_srt(l:List Mn):Rises (srt l):=by
 induction l using snocRec with
 | nil=>simp[srt,Rises]
 | snoc l x ih=>rw[srt_snoc];exact rises_ins x _ ih
def tot:List Mn->Int
 | []=>0
 | m::l=>m.2+tot l
theorem tot_append(a b:List Mn):tot (a++b)=tot a+tot b:=by
 induction a with
 | nil=>simp[tot]
 | cons m a ih=>simp only[List.cons_append,tot,ih];omega
theorem tot_ins(x:Mn)(l:List Mn):tot (ins x l)=x.2+tot l:=by
 induction l with
 | nil=>rfl
 | cons y l ih=>simp only[ins];split<;>simp only[tot,ih];omega
theorem tot_srt(l:List Mn):tot (srt l)=tot l:=by
 induction l using snocRec with
 | nil=>rfl
 | snoc l x ih=>rw[srt_snoc,tot_ins,ih,tot_append];simp only[tot];omega
theorem tot_take_succ(l:List Mn)(j:Nat)(h:j<l.length):tot (l.take (j+1))=tot (l.take j)+l[j].2:=by
 rw[List.take_succ_eq_append_getElem h,tot_append];simp[tot]
def okM(m:Mn):Prop:=-9223372036854775808<=m.1/\m.1<=9223372036854775807/\0<m.2
def okL(l:List Mn):Prop:=∀m∈l,okM m
theorem okL.tot_nonneg:∀{l:List Mn},okL l->0<=tot l
 | [],_=>by simp[tot]
 | m::l,h=>by
  have h1:=okL.tot_nonneg (l:=l) (fun x hx=>h x (List.mem_cons_of_mem _ hx))
  have h2:=(h m (List.mem_cons_self ..)).2.2
  simp only[tot];omega
theorem okL.tail{m:Mn}{l:List Mn}(h:okL (m::l)):okL l:=fun x hx=>h x (List.mem_cons_of_mem _ hx)
theorem okL.append{a b:List Mn}(h:okL a)(k:okL b):okL (a++b):=fun m hm=>by
 rcases List.mem_append.1 hm with h1|h1
 ·exact h m h1
 ·exact k m h1
theorem okL.srt{l:List Mn}(h:okL l):okL (srt l):=fun m hm=>h m ((mem_srt l m).1 hm)
theorem okL.take{l:List Mn}(h:okL l)(j:Nat):okL (l.take j):=fun m hm=>h m (List.mem_of_mem_take hm)
theorem okL.drop{l:List Mn}(h:okL l)(j:Nat):okL (l.drop j):=fun m hm=>h m (List.mem_of_mem_drop hm)
theorem okL.get{l:List Mn}(h:okL l){j:Nat}(hj:j<l.length):okM l[j]:=h _ (List.getElem_mem hj)
theorem okL.tot_take{l:List Mn}(h:okL l)(j:Nat):0<=tot (l.take j)/\tot (l.take j)<=tot l:=by
 have h1:=(h.take j).tot_nonneg
 have h2:=(h.drop j).tot_nonneg
 have h3:=tot_append (l.take j) (l.drop j)
 rw[List.take_append_drop] at h3
 omega
theorem okL.tot_get{l:List Mn}(h:okL l){j:Nat}(hj:j<l.length):tot (l.take j)+l[j].2<=tot l:=by
 rw[<-tot_take_succ l j hj];exact(h.tot_take _).2
def mayI(d n done weight:Int):Bool:=decide (weight * d * n<=(2 * done+weight) * (2 * n - 2 * done - weight))
def pressL(d n:Int):List Mn->Int->Mn->List Mn
 | [],_,now=>[now]
 | m::l,done,now=>if mayI d n done (now.2+m.2) then pressL d n l done (lerpI now.1 m.1 m.2 (now.2+m.2),now.2+m.2) else now::pressL d n l (done+now.2) m
def press(d n:Int):List Mn->List Mn
 | []=>[]
 | m::l=>pressL d n l 0 m
def prs(d:Int)(l:List Mn):List Mn:=press d (tot l) (srt l)
theorem pressL_tot(d n:Int):∀(l:List Mn) (done:Int) (now:Mn),tot (pressL d n l done now)=now.2+tot l
 | [],_,now=>by simp[pressL,tot]
 | m::l,done,now=>by
  unfold pressL
  split
  ·rw[pressL_tot];simp only[tot];omega
  ·simp only[tot];rw[pressL_tot]
theorem press_tot(d n:Int)(l:List Mn):tot (press d n l)=tot l:=by
 cases l with
 | nil=>rfl
 | cons m l=>simp only[press,pressL_tot,tot]
theorem prs_tot(d:Int)(l:List Mn):tot (prs d l)=tot l:=by rw[prs,press_tot,tot_srt]
theorem pressL_length(d n:Int):∀(l:List Mn) (done:Int) (now:Mn),1<=(pressL d n l done now).length/\(pressL d n l done now).length<=l.length+1
 | [],_,now=>by simp[pressL]
 | m::l,done,now=>by
  unfold pressL
  split
  ·have:=pressL_length d n l done (lerpI now.1 m.1 m.2 (now.2+m.2),now.2+m.2);simp only[List.length_cons];omega
  ·have:=pressL_length d n l (done+now.2) m;simp only[List.length_cons];omega
theorem prs_length(d:Int)(l:List Mn):(prs d l).length<=l.length:=by
 unfold prs
 have h:=srt_length l
 cases hs:srt l with
 | nil=>simp[press]
 | cons m s=>rw[hs] at h;have:=(pressL_length d (tot l) s 0 m).2;simp only[press,List.length_cons] at *;omega
theorem prs_pos(d:Int){l:List Mn}(hl:l≠[]):prs d l≠[]:=by
 unfold prs
 have h:=srt_length l
 cases hs:srt l with
 | nil=>rw[hs] at h;simp at h;exact absurd h.symm (by simpa using hl)
 | cons m s=>intro h2;have:=(pressL_length d (tot l) s 0 m).1;simp only[press] at h2;rw[h2] at this;simp at this
theorem pressL_ok(d n lo hi:Int):∀(l:List Mn) (done:Int) (now:Mn),okL (now::l)->Rises (now::l)->(∀m∈now::l,lo<=m.1/\m.1<=hi) ->
 okL (pressL d n l done now)/\Rises (pressL d n l done now)/\(∀m∈pressL d n l done now,now.1<=m.1/\m.1<=hi)
 | [],_,now,h1,h2,h3=>⟨h1,h2,fun m hm=>by
  have:=h3 m hm
  simp only[pressL,List.mem_singleton] at hm
  subst hm
  exact⟨Int.le_refl _,this.2⟩⟩
 | m::l,done,now,h1,h2,h3=>by
  have hp:=List.pairwise_cons.1 h2
  have hp2:=List.pairwise_cons.1 hp.2
  have hle:now.1<=m.1:=hp.1 m (List.mem_cons_self ..)
  have o1:=h1 now (List.mem_cons_self ..)
  have o2:=h1 m (List.mem_cons_of_mem _ (List.mem_cons_self ..))
  have o1':=o1.2.2
  have o2':=o2.2.2
  unfold pressL
  split
  ·have hl:=lerpI_bd hle (x:=m.2) (y:=now.2+m.2) (by omega) (by omega) (by omega)
   have ob:okM (lerpI now.1 m.1 m.2 (now.2+m.2),now.2+m.2):=by
    unfold okM at *
    refine⟨?_,?_,?_⟩<;>simp only<;>omega
   obtain⟨a,b,c⟩:=pressL_ok d n lo hi l done (lerpI now.1 m.1 m.2 (now.2+m.2),now.2+m.2)
    (by intro x hx;rcases List.mem_cons.1 hx with rfl|hx;exact ob;exact h1 x (by simp[hx]))
    (by refine List.pairwise_cons.2 ⟨fun x hx=>?_,hp2.2⟩;have:=hp2.1 x hx;simp only;omega)
    (by
     have b1:=h3 now (List.mem_cons_self ..)
     have b2:=h3 m (by simp)
     intro x hx;rcases List.mem_cons.1 hx with rfl|hx
     ·simp only;omega
     ·exact h3 x (by simp[hx]))
   refine⟨a,b,fun x hx=>?_⟩
   have:=c x hx
   simp only at this
   omega
  ·obtain⟨a,b,c⟩:=pressL_ok d n lo hi l (done+now.2) m h1.tail hp.2 (fun x hx=>h3 x (List.mem_cons_of_mem _ hx))
   refine⟨?_,List.pairwise_cons.2 ⟨fun x hx=>?_,b⟩,fun x hx=>?_⟩
   ·intro x hx;rcases List.mem_cons.1 hx with rfl|hx;exact o1;exact a x hx
   ·have:=c x hx;omega
   ·rcases List.mem_cons.1 hx with rfl|hx
    ·exact⟨Int.le_refl _,(h3 x (List.mem_cons_self ..)).2⟩
    ·have:=c x hx;omega
theorem prs_ok(d lo hi:Int){l:List Mn}(h:okL l)(hb:∀m∈l,lo<=m.1/\m.1<=hi):okL (prs d l)/\Rises (prs d l)/\(∀m∈prs d l,lo<=m.1/\m.1<=hi):=by
 unfold prs
 have h1:=h.srt
 have h2:=rises_srt l
 have h3:∀m∈srt l,lo<=m.1/\m.1<=hi:=fun m hm=>hb m ((mem_srt l m).1 hm)
 cases hs:srt l with
 | nil=>exact⟨(fun m hm=>by simp[press] at hm),by simp[press,Rises],(fun m hm=>by simp[press] at hm)⟩
 | cons m s=>
  rw[hs] at h1 h2 h3
  obtain⟨a,b,c⟩:=pressL_ok d (tot l) lo hi s 0 m h1 h2 h3
  refine⟨a,b,fun x hx=>?_⟩
  have:=c x hx
  have:=h3 m (List.mem_cons_self ..)
  omega
structure PrAt(d n:Int)(l:List Mn)(j:Nat)(acc:List Mn)(now:Mn):Prop where
 e:press d n l=acc++pressL d n (l.drop j) (tot acc) now
 t:tot acc+now.2+tot (l.drop j)=n
 ok:okL (now::l.drop j)
 oka:okL acc
 rise:Rises (now::l.drop j)
 len:acc.length+1<=j
theorem PrAt.start(d:Int){l:List Mn}(h0:0<l.length)(ho:okL l)(hr:Rises l):PrAt d (tot l) l 1 [] l[0]:=by
 match l,h0 with
 | m::l,_=>
  refine⟨by simp[press,tot],by simp[tot],ho,(fun m hm=>by simp at hm),hr,by simp⟩
theorem drop_cons{l:List Mn}{j:Nat}(h:j<l.length):l.drop j=l[j]::l.drop (j+1):=List.drop_eq_getElem_cons h
theorem PrAt.facts{d n:Int}{l:List Mn}{j:Nat}{acc:List Mn}{now:Mn}(h:PrAt d n l j acc now)(hj:j<l.length) :
 0<=tot acc/\okM now/\okM l[j]/\now.1<=l[j].1/\tot acc+(now.2+l[j].2)<=n:=by
 have h1:=h.oka.tot_nonneg
 have h2:=h.ok
 have h3:=h.rise
 have h4:=h.t
 rw[drop_cons hj] at h2 h3 h4
 have h5:=h2.tail.tail.tot_nonneg
 simp only[tot] at h4
 refine⟨h1,h2 _ (List.mem_cons_self ..),h2 l[j] (List.mem_cons_of_mem _ (List.mem_cons_self ..)),(List.pairwise_cons.1 h3).1 _ (List.mem_cons_self ..),by omega⟩
theorem PrAt.merge{d n:Int}{l:List Mn}{j:Nat}{acc:List Mn}{now:Mn}(h:PrAt d n l j acc now)(hj:j<l.length)(hm:mayI d n (tot acc) (now.2+l[j].2)=true) :
 PrAt d n l (j+1) acc (lerpI now.1 l[j].1 l[j].2 (now.2+l[j].2),now.2+l[j].2):=by
 obtain⟨f1,f2,f3,f4,f5⟩:=h.facts hj
 obtain⟨e,t,ok,oka,rise,len⟩:=h
 rw[drop_cons hj] at e t ok rise
 have o1:=f2.2.2
 have o2:=f3.2.2
 have hl:=lerpI_bd f4 (x:=l[j].2) (y:=now.2+l[j].2) (by omega) (by omega) (by omega)
 have hp:=List.pairwise_cons.1 rise
 have hp2:=List.pairwise_cons.1 hp.2
 refine⟨?_,?_,?_,oka,?_,by omega⟩
 ·rw[e];conv=>lhs;rw[pressL,if_pos hm]
 ·simp only[tot] at t |-;omega
 ·intro x hx
  rcases List.mem_cons.1 hx with rfl|hx
  ·unfold okM at *;refine⟨?_,?_,?_⟩<;>simp only<;>omega
  ·exact ok x (List.mem_cons_of_mem _ (List.mem_cons_of_mem _ hx))
 ·refine List.pairwise_cons.2 ⟨fun x hx=>?_,hp2.2⟩
  have:=hp2.1 x hx
  simp only
  omega
theorem PrAt.push{d n:Int}{l:List Mn}{j:Nat}{acc:List Mn}{now:Mn}(h:PrAt d n l j acc now)(hj:j<l.length)(hm:mayI d n (tot acc) (now.2+l[j].2)=false) :
 PrAt d n l (j+1) (acc++[now]) l[j]:=by
 obtain⟨e,t,ok,oka,rise,len⟩:=h
 rw[drop_cons hj] at e t ok rise
 have hp:=List.pairwise_cons.1 rise
 have ht:tot (acc++[now])=tot acc+now.2:=by rw[tot_append];simp[tot]
 refine⟨?_,?_,ok.tail,?_,hp.2,by simp;omega⟩
 ·rw[e,ht,List.append_assoc];conv=>lhs;rw[pressL,if_neg (by rw[hm];simp)]
  rfl
 ·rw[ht];simp only[tot] at t;omega
 ·exact oka.append (fun m hm=>by simp only[List.mem_singleton] at hm;subst hm;exact ok m (List.mem_cons_self ..))
theorem PrAt.fin{d n:Int}{l:List Mn}{acc:List Mn}{now:Mn}(h:PrAt d n l l.length acc now):press d n l=acc++[now]:=by
 have e:=h.e
 rw[List.drop_length] at e
 exact e
def addL(d:Int)(L W:List Mn)(m:Mn):List Mn:=if d<=(W.length:Int)+1 then prs d (L++(W++[m])) else L
def addW(d:Int)(W:List Mn)(m:Mn):List Mn:=if d<=(W.length:Int)+1 then [] else W++[m]
theorem add_all_tot(d:Int)(L W:List Mn)(m:Mn):tot (addL d L W m++addW d W m)=tot (L++W)+m.2:=by
 unfold addL addW
 split
 ·rw[List.append_nil,prs_tot];simp only[tot_append,tot];omega
 ·simp only[tot_append,tot];omega
theorem add_all_len(d:Int)(L W:List Mn)(m:Mn):(addL d L W m).length+(addW d W m).length<=L.length+W.length+1:=by
 unfold addL addW
 split
 ·have:=prs_length d (L++(W++[m]));simp only[List.length_append,List.length_cons,List.length_nil] at this |-;omega
 ·simp only[List.length_append,List.length_cons,List.length_nil];omega
theorem add_all_ne(d:Int)(L W:List Mn)(m:Mn):addL d L W m++addW d W m≠[]:=by
 unfold addL addW
 split
 ·rw[List.append_nil];exact prs_pos d (by simp)
 ·simp
theorem addW_len(d:Int)(W:List Mn)(m:Mn)(hd:0<d):((addW d W m).length:Int)<d:=by
 unfold addW
 split
 ·simpa using hd
 ·simp only[List.length_append,List.length_cons,List.length_nil];omega
structure St where
 L:List Mn
 W:List Mn
 lo:Int
 hi:Int
namespace St
def zero:St:=⟨[],[],0,0⟩
def add(d:Int)(s:St)(a k:Int):St:=⟨addL d s.L s.W (a,k),addW d s.W (a,k),if tot (s.L++s.W)=0 then a else min s.lo a,if tot (s.L++s.W)=0 then a else max s.hi a⟩
structure Ok(d:Int)(s:St)(k:Nat):Prop where
 ok:okL (s.L++s.W)
 bd:∀m∈s.L++s.W,s.lo<=m.1/\m.1<=s.hi
 lo0:-9223372036854775808<=s.lo
 lo1:s.lo<=9223372036854775807
 hi0:-9223372036854775808<=s.hi
 hi1:s.hi<=9223372036854775807
 emp:s.L++s.W=[]->s.lo=0/\s.hi=0
 len:s.L.length+s.W.length<=k
 wl:(s.W.length:Int)<d
 rise:Rises s.L
theorem zero_ok(d:Int)(h:0<d):zero.Ok d 0:=⟨fun m hm=>by simp[zero] at hm,fun m hm=>by simp[zero] at hm,by simp[zero],by simp[zero],by simp[zero],by simp[zero],fun _=>⟨rfl,rfl⟩,by simp[zero],by simpa[zero] using h,by simp[zero,Rises]⟩
theorem Ok.more{d:Int}{s:St}{k j:Nat}(h:s.Ok d k)(hk:k<=j):s.Ok d j:=⟨h.ok,h.bd,h.lo0,h.lo1,h.hi0,h.hi1,h.emp,Nat.le_trans h.len hk,h.wl,h.rise⟩
theorem okL_pos{l:List Mn}(h:okL l)(hne:l≠[]):0<tot l:=by
 match l,hne with
 | m::l,_=>
  have h1:=(h m (List.mem_cons_self ..)).2.2
  have h2:=h.tail.tot_nonneg
  simp only[tot];omega
theorem Ok.n_zero{d:Int}{s:St}{k:Nat}(h:s.Ok d k):tot (s.L++s.W)=0<->s.L++s.W=[]:=by
 constructor
 ·intro h0
  by_cases hne:s.L++s.W=[]
  ·exact hne
  ·have:=okL_pos h.ok hne;omega
 ·intro h0;rw[h0];rfl
theorem Ok.n_nonneg{d:Int}{s:St}{k:Nat}(h:s.Ok d k):0<=tot (s.L++s.W):=h.ok.tot_nonneg
theorem add_n(d:Int)(s:St)(a k:Int):tot ((s.add d a k).L++(s.add d a k).W)=tot (s.L++s.W)+k:=add_all_tot d s.L s.W (a,k)
theorem Ok.add{d:Int}{s:St}{k:Nat}(h:s.Ok d k)(hd:0<d){a n:Int}(a0:-9223372036854775808<=a)(a1:a<=9223372036854775807)(n0:0<n):(s.add d a n).Ok d (k+1):=by
 have hlo:(if tot (s.L++s.W)=0 then a else min s.lo a)<=a/\(tot (s.L++s.W)≠0->(if tot (s.L++s.W)=0 then a else min s.lo a)<=s.lo)/\-9223372036854775808<=(if tot (s.L++s.W)=0 then a else min s.lo a):=by
  have:=h.lo0
  split<;>refine⟨by omega,by omega,by omega⟩
 have hhi:a<=(if tot (s.L++s.W)=0 then a else max s.hi a)/\(tot (s.L++s.W)≠0->s.hi<=(if tot (s.L++s.W)=0 then a else max s.hi a))/\(if tot (s.L++s.W)=0 then a else max s.hi a)<=9223372036854775807:=by
  have:=h.hi1
  split<;>refine⟨by omega,by omega,by omega⟩
 have hall:okL (s.L++(s.W++[(a,n)])):=by
  rw[<-List.append_assoc]
  exact h.ok.append (fun m hm=>by simp only[List.mem_singleton] at hm;subst hm;exact⟨a0,a1,n0⟩)
 have hbd:∀m∈s.L++(s.W++[(a,n)]),(if tot (s.L++s.W)=0 then a else min s.lo a)<=m.1/\m.1<=(if tot (s.L++s.W)=0 then a else max s.hi a):=by
  intro m hm
  rw[<-List.append_assoc] at hm
  rcases List.mem_append.1 hm with h1|h1
  ·have h2:=h.bd m h1
   have h3:tot (s.L++s.W)≠0:=fun e=>by rw[h.n_zero.1 e] at h1;cases h1
   have:=hlo.2.1 h3
   have:=hhi.2.1 h3
   omega
  ·simp only[List.mem_singleton] at h1
   subst h1
   exact⟨hlo.1,hhi.1⟩
 refine⟨?_,?_,hlo.2.2,by show(if _ then _ else _)<=_;omega,by show _<=(if _ then _ else _);omega,hhi.2.2,fun e=>absurd e (add_all_ne d s.L s.W (a,n)),?_,addW_len d s.W (a,n) hd,?_⟩
 ·show okL (addL d s.L s.W (a,n)++addW d s.W (a,n))
  unfold addL addW
  split
  ·rw[List.append_nil]
   exact(prs_ok d _ _ hall hbd).1
  ·exact hall
 ·show ∀m∈addL d s.L s.W (a,n)++addW d s.W (a,n),(if tot (s.L++s.W)=0 then a else min s.lo a)<=m.1/\m.1<=(if tot (s.L++s.W)=0 then a else max s.hi a)
  generalize (if tot (s.L++s.W)=0 then a else min s.lo a)=lo at *
  generalize (if tot (s.L++s.W)=0 then a else max s.hi a)=hi at *
  unfold addL addW
  split
  ·rw[List.append_nil]
   exact(prs_ok d _ _ hall hbd).2.2
  ·exact hbd
 ·have:=add_all_len d s.L s.W (a,n)
  have:=h.len
  show(addL d s.L s.W (a,n)).length+(addW d s.W (a,n)).length<=k+1
  omega
 ·show Rises (addL d s.L s.W (a,n))
  unfold addL
  split
  ·exact(prs_ok d _ _ hall hbd).2.1
  ·exact h.rise
end St
def rawL(l:List Mn):Prop:=∀m∈l,-9223372036854775808<=m.1/\m.1<=9223372036854775807/\0<=m.2/\m.2<=18446744073709551615
open Go.RowKit Go.Lib
def OwnI(t:TypeId)(k:IntKind)(base:Nat)(w:World)(v:Value)(l:List Int):Prop:=w.ownsRow base t 1 v l.length (l.map (Value.int k))
section
variable {t : TypeId} {k : IntKind} {base : Nat} {w w' : World} {v : Value} {l : List Int}
theorem OwnI.rd(h:OwnI t k base w v l):RdI k w v l:=Rd.of_own h
theorem OwnI.alloc(h:OwnI t k base w v l)(o:Obj):OwnI t k base (w.alloc o) v l:=World.ownsRow.alloc h o
theorem OwnI.drew(h:OwnI t k base w v l):OwnI t k base w.drew v l:=h
theorem OwnI.lt(h:OwnI t k base w v l):∀g,v.ownBlock=some g->base<=g/\g<w.heap.size:=World.ownsRow.lt h
theorem OwnI.stay(h:OwnI t k base w v l)(hk:∀g,v.ownBlock=some g->w'.heap[g]?=w.heap[g]?):OwnI t k base w' v l:=by
 obtain⟨h1,h2⟩:=h
 refine⟨h1,?_⟩
 rcases h2 with h2|⟨g,cap,cur,rfl,e2,e3,r⟩
 ·exact .inl h2
 ·exact .inr ⟨g,cap,cur,rfl,e2,(hk g rfl).trans e3,r⟩
theorem OwnI.keep(h:OwnI t k base w v l)(hb:Below w.heap.size w w'):OwnI t k base w' v l:=h.stay fun g hg=>hb.block g (h.lt g hg).2
theorem OwnI.nil_(t:TypeId)(k:IntKind)(base:Nat)(w:World):OwnI t k base w (.slice none 0 0) []:=⟨rfl,.inl ⟨rfl,rfl⟩⟩
theorem OwnI.one(t:TypeId)(k:IntKind)(w:World)(x:Int):OwnI t k w.heap.size (w.alloc (.cells #[.int k x] t)) (.slice (some ⟨w.heap.size,0,none⟩) 1 1) [x]:=
 ⟨rfl,.inr ⟨w.heap.size,1,_,rfl,Nat.le_refl _,heap_alloc_new _ _,by simp,by unfold maxLen;omega,rfl,by simp⟩⟩
theorem RdI.one_at(t:TypeId)(k:IntKind)(w:World)(x:Int)(H:Nat)(h:w.heap.size=H):RdI k (w.alloc (.cells #[.int k x] t)) (.slice (some ⟨H,0,none⟩) 1 1) [x]:=by
 subst h;exact(OwnI.one t k w x).rd
end
theorem int_one(k:IntKind)(l:List Int):∀u∈l.map (Value.int k),u.oneCell'=true:=fun u hu=>by
 obtain⟨x,_,rfl⟩:=List.mem_map.1 hu
 rfl
end Go.Proofs.YtkiebccnpheloaaGreat
