/- Parts of a proof: what its theorem reaches, words cut short. No condition of its own. -/
import Derived.Test.YtkiebccnpheloaaGreatPv40
set_option maxRecDepth 100000
set_option maxHeartbeats 16000000
set_option linter.unusedVariables false
set_option linter.unusedSimpArgs false
namespace Go.Proofs.YtkiebccnpheloaaGreat.D
open Go.RowKit Go.Lib Go.Shelf
theorem tickN_get{sp:Spk}{L:List Js}(h0:0<L.length):∀k,k<=L.length->tickN sp L k=List.replicate k sp.new++L.take (L.length - k)
 | 0,_=>by simp[tickN]
 | k+1,hk=>by
  rw[tickN,tick1,tickN_get h0 k (by omega),List.replicate_succ,List.cons_append]
  congr 1
  rw[List.dropLast_eq_take,List.length_append,List.length_replicate,List.length_take,List.take_append,List.length_replicate]
  rw[List.take_of_length_le (by rw[List.length_replicate];omega),List.take_take]
  congr 2
  omega
theorem tickN_all{sp:Spk}{L:List Js}(h0:0<L.length):tickN sp L L.length=List.replicate L.length sp.new:=by
 rw[tickN_get h0 _ (Nat.le_refl _)];simp
theorem tickN_new{sp:Spk}{n:Nat}(h0:0<n){k:Nat}(hk:k<=n):tickN sp (List.replicate n sp.new) k=List.replicate n sp.new:=by
 rw[tickN_get (by rw[List.length_replicate];exact h0) k (by rw[List.length_replicate];exact hk),List.length_replicate,List.take_replicate,List.replicate_append_replicate]
 congr 1
 omega
theorem forgets{sp:Spk}{n:Nat}{s:Wn}(h:WnOk sp n s)(h0:0<n)(hn:n<=60)(hw:s.now<=1000000):wtick sp n s=wtick sp (s.now+n) (wnew sp n):=by
 have e1:tkA n s=n:=by unfold tkA;omega
 have e2:tkA (s.now+n) (wnew sp n)=s.now+n:=by unfold tkA wnew;show min _ (9223372036854775807 - 0)=_;omega
 have hl:=h.len
 unfold wtick
 rw[e1,e2]
 have l2:(wnew sp n).L.length=n:=by simp[wnew]
 rw[l2,hl,Nat.min_self,Nat.min_eq_right (by omega:n<=s.now+n)]
 have a1:tickN sp s.L n=List.replicate n sp.new:=by
  have:=tickN_all (sp:=sp) (L:=s.L) (by omega)
  rw[hl] at this;exact this
 rw[a1,show(wnew sp n).L=List.replicate n sp.new from rfl,tickN_new h0 (Nat.le_refl n)]
 congr 1
 show s.now+n=0+(s.now+n)
 omega
open Go.RowKit Go.Lib Go.Shelf
theorem cells_u8:∀l:List Int,cellsE K.u8E l=l.map (Value.int .u8)
 | []=>rfl
 | x::l=>by rw[cellsE_cons,cells_u8 l];rfl
theorem rdE_u8{w:World}{v:Value}{l:List Int}(h:RdI .u8 w v l):RdE K.u8E w v l:=by
 unfold RdE
 rw[cells_u8];exact h
structure CIn(o0:Nat)(w:World)(cv:Value)(B:List Int):Prop where
 rd:RdE K.u8E w cv B
 own:∀k,B≠[]->cv.ownBlock=some k->k<o0
theorem CIn.keep{o0:Nat}{w w':World}{cv:Value}{B:List Int}(h:CIn o0 w cv B)(hz:o0<=w.heap.size)(hb:Below o0 w w'):CIn o0 w' cv B:=by
 refine⟨?_,h.own⟩
 by_cases hB:B=[]
 ·subst hB
  obtain⟨A,c,rfl,h1,h2,_⟩:=h.rd.form
  exact RdE.of_form h1 h2 fun h0=>absurd h0 (by simp)
 ·exact h.rd.stay (fun k e=>hb.block k (h.own k hB e)) hb.size
theorem coins_new(v:Value)(B:List Int)(w:World)(h:RdE K.u8E w v B)(hb:K.Byt B) :
 Calls Tryz.prog 34 #[v] w fun e w'=>∃g,e=.returned (.pointer (some ⟨g,0,none⟩))/\(∃H,CnAt (.pointer (some ⟨g,0,none⟩)) B 0 H w'/\∀k,H k->w.heap.size<=k)/\Below w.heap.size w w':=by
 refine(K.knew_any v B w h hb).mono ?_
 rintro e w' ⟨g,r,v',rfl,hg,hr,hk,ho,hw⟩
 exact⟨g,rfl,⟨fun k=>k=g\/k=r\/v'.ownBlock=some k,.inr ⟨g,r,v',rfl,hk,.inl rfl,.inr (.inl rfl),fun k e=>.inr (.inr e),fun k e=>e.elim (fun e=>by rw[e];exact hk.blk.lt) (fun e=>e.elim (fun e=>by rw[e];exact hk.rd.blk.lt) (fun e=>(ho k e).2))⟩,fun k e=>e.elim (fun e=>by rw[e];exact hg) (fun e=>e.elim (fun e=>by rw[e];exact hr) (fun e=>(ho k e).1))⟩,hw⟩
theorem rcoins_new{o:Nat}{v:Value}{B:List Int}{w:World}(h:RdE K.u8E w v B)(hb:K.Byt B)(hz:o<=w.heap.size)(ho:∀k,B≠[]->v.ownBlock=some k->k<o) :
 RCnAt o (.pointer (some ⟨w.heap.size,0,none⟩)) B 0 (fun k=>k=w.heap.size) (w.alloc (.cells #[v,.int .i64 0] 69)):=by
 by_cases hB:B=[]
 ·subst hB
  obtain⟨A,c,rfl,h1,h2,_⟩:=h.form
  exact⟨w.heap.size,.slice none 0 0,rfl,.inr ⟨rfl,rfl,rfl,A,c,h2,Blk.new w _ _⟩,rfl,fun k e=>by simp[Value.ownBlock] at e,fun k e=>by rw[show k=w.heap.size from e];simp⟩
 ·exact⟨w.heap.size,v,rfl,.inl ⟨Blk.new w _ _,h.keep ((Below.refl _ _).alloc (Nat.le_refl _) _),fun e=>by have:=ho _ hB e;omega,Nat.zero_le _,hb⟩,rfl,fun k e=>.inl (ho k hB e),fun k e=>by rw[show k=w.heap.size from e];simp⟩
section
open Go.ChangeShapes Go.WideShapes Go.Deep
variable {H : Type} {enc : TypeId × Value -> H} {w : World} {base : Nat} {held : Bool}
theorem open_cin{cs:List Value}{x:DataW H × List MemPlace}{fuel:Nat}(h:DataW.trod enc Tryz.prog w base (fun _=>true) held fuel 22 cs=some x) :
 ∃cv B,cs=[cv]/\CIn w.heap.size w cv B/\∀y∈B,0<=y/\y<=255:=by
 rcases open_ints (k:=.u8) Tryz.underlying22 Tryz.underlying5 (by kernel_rfl) h with⟨hcs,_⟩|⟨a1,l1,c1,zs,hcs,_,hl1,hm1,hz,_,hcc,hw⟩
 ·subst hcs
  exact⟨_,[],rfl,⟨RdE.nil_ w,fun k h0=>absurd rfl h0⟩,fun y hy=>by cases hy⟩
 ·subst hcs
  simp only[if_true] at hz
  have hll:(zs.take l1).length=l1:=by rw[List.length_take];omega
  have hrd:RdI .u8 w (.slice (some a1) l1 c1) (zs.take l1):=by
   unfold RdI
   rw[hll]
   refine⟨by rw[List.length_map,hll];omega,some a1,c1,rfl,hl1,hm1,fun h0=>?_⟩
   obtain⟨b,off,rfl,hcc⟩:=ints_at hcc (by omega)
   refine⟨b,off,rfl,World.block_lt_of_cell? _ _ (hcc 0 (by omega)),fun j hj=>?_⟩
   have h9:=hcc j (by omega)
   rw[add_plain] at h9
   rw[h9]
   have hj':j<zs.length:=by omega
   simp[List.getElem?_eq_getElem hj',show j<l1 by omega,List.getD]
  refine⟨_,zs.take l1,rfl,⟨rdE_u8 hrd,fun k h0 e=>?_⟩,fun y hy=>bounds_u8 (hw y (List.mem_of_mem_take hy))⟩
  have hp:0<l1:=by
   rcases Nat.eq_zero_or_pos l1 with e0|e0
   ·exact absurd (by rw[e0];rfl) h0
   ·exact e0
  obtain⟨b,off,rfl,hcc⟩:=ints_at hcc (by omega)
  have:=World.block_lt_of_cell? _ _ (hcc 0 (by omega))
  rw[<-Option.some.inj (show some b=some k from e)];exact this
end
open Go.RowKit Go.Lib Go.Shelf
def ptE(t:TypeId):Lie Nat where
 k:=1
 t:=t
 enc p:=[ptrV p]
 len _:=rfl
 one p u hu:=by
  simp only[List.mem_cons,List.not_mem_nil,or_false] at hu
  subst hu;rfl
theorem pt_cell{t:TypeId}{base:Nat}{w:World}{g c n:Nat}{ps:List Nat}(h:OwnE (ptE t) base w (.slice (some ⟨g,0,none⟩) n c) ps){j:Nat}(hj:j<ps.length):w.cell? ⟨g,j,none⟩=some (ptrV ps[j]):=by
 have:=h.cellAt hj 0 (by show 0<1;omega)
 rwa [show j * (ptE t).k+0=j by show j * 1+0=j;omega] at this
theorem pt_set{t:TypeId}{base:Nat}{w:World}{g c n:Nat}{ps:List Nat}(h:OwnE (ptE t) base w (.slice (some ⟨g,0,none⟩) n c) ps){j:Nat}(hj:j<ps.length)(y:Nat):OwnE (ptE t) base (w.setCell ⟨g,j,none⟩ (ptrV y)) (.slice (some ⟨g,0,none⟩) n c) (ps.set j y):=by
 have:=h.set_ j hj y
 rwa [show j * (ptE t).k=j by show j * 1=j;omega] at this
def updF(Ow:Nat->Ft)(i:Nat)(F:Ft):Nat->Ft:=fun j k=>if j=i then F k else Ow j k
theorem updF_at{Ow:Nat->Ft}{i:Nat}{F:Ft}:updF Ow i F i=F:=by funext k;unfold updF;rw[if_pos rfl]
theorem updF_ne{Ow:Nat->Ft}{i j:Nat}{F:Ft}(h:j≠i):updF Ow i F j=Ow j:=by funext k;unfold updF;rw[if_neg h]
structure RingAt(t:TypeId)(P:Js->Nat->Ft->World->Prop)(C:List Js)(v:Value)(ps:List Nat)(Ow:Nat->Ft)(G:Ft)(w:World):Prop where
 row:OwnE (ptE t) 0 w v ps
 len:ps.length=C.length
 each:∀i (h:i<C.length),P C[i] (ps.getD i 0) (Ow i) w
 apart:∀i j k,Ow i k->Ow j k->i=j
 rowF:∀k,v.ownBlock=some k->G k/\∀i,¬Ow i k
 inn:∀i k,Ow i k->G k
 low:∀k,G k->k<w.heap.size
section
variable {t : TypeId} {P : Js -> Nat -> Ft -> World -> Prop} {C : List Js} {v : Value} {ps : List Nat} {Ow : Nat -> Ft} {G H : Ft} {w w' w0 : World}
theorem RingAt.stay(hP:∀c p,Stay (P c p))(h:RingAt t P C v ps Ow G w)(hk:∀k,G k->w'.heap[k]?=w.heap[k]?)(hz:w.heap.size<=w'.heap.size):RingAt t P C v ps Ow G w':=
 ⟨h.row.stay fun k e=>hk k (h.rowF k e).1,h.len,fun i hi=>(hP _ _).stay (h.each i hi) (fun k e=>hk k (h.inn i k e)) hz,h.apart,h.rowF,h.inn,fun k e=>Nat.lt_of_lt_of_le (h.low k e) hz⟩
theorem RingAt.keep(hP:∀c p,Stay (P c p))(h:RingAt t P C v ps Ow G w)(hb:Below w.heap.size w w'):RingAt t P C v ps Ow G w':=h.stay hP (fun k hk=>hb.block k (h.low k hk)) hb.size
theorem RingAt.far(hP:∀c p,Stay (P c p))(h:RingAt t P C v ps Ow G w)(ht:Touch H w w')(hd:∀k,G k->¬H k):RingAt t P C v ps Ow G w':=h.stay hP (fun k hk=>ht.block k (h.low k hk) (hd k hk)) ht.size
theorem RingAt.pos(h:RingAt t P C v ps Ow G w)(h0:0<C.length):∃g c,v=.slice (some ⟨g,0,none⟩) C.length c/\g<w.heap.size/\C.length<=c/\c<=9223372036854775807/\G g/\(∀i,¬Ow i g)/\∀j,j<C.length->w.cell? ⟨g,j,none⟩=some (ptrV (ps.getD j 0)):=by
 obtain⟨g,c,rfl,_,h2,h3,h4⟩:=h.row.pos (by have:=h.len;omega)
 have hr:=h.rowF g rfl
 have hl:=h.len
 refine⟨g,c,by rw[hl],h2,by omega,h4,hr.1,hr.2,fun j hj=>?_⟩
 rw[List.getD_eq_getElem?_getD,List.getElem?_eq_getElem (by omega),Option.getD_some]
 exact pt_cell h.row (by omega)
theorem RingAt.turn(hP:∀c p,Stay (P c p))(h:RingAt t P C v ps Ow G w){i:Nat}{c':Js}(hi:i<C.length)(hn:P c' (ps.getD i 0) (Gr (Ow i) w w') w')(ht:Touch (fun k=>Ow i k\/H k) w w')(hd:∀k,H k->¬G k) :
 RingAt t P (C.set i c') v ps (updF Ow i (Gr (Ow i) w w')) (Gr G w w') w':=by
 have old:∀j k,Ow j k->j≠i->w'.heap[k]?=w.heap[k]?:=fun j k hj hne=>ht.block k (h.low k (h.inn j k hj)) (fun e=>e.elim (fun e=>hne (h.apart j i k hj e)) (fun e=>hd k e (h.inn j k hj)))
 refine⟨h.row.stay fun k e=>ht.block k (h.low k (h.rowF k e).1) (fun e2=>e2.elim ((h.rowF k e).2 i) (fun e2=>hd k e2 (h.rowF k e).1)),by rw[List.length_set];exact h.len,fun j hj=>?_,fun a b k ha hb=>?_,fun k e=>⟨.inl (h.rowF k e).1,fun j hj=>?_⟩,fun j k hj=>?_,gr_lt h.low ht.size⟩
 ·have hj':j<C.length:=by rw[List.length_set] at hj;exact hj
  by_cases e:j=i
  ·subst e
   rw[updF_at,List.getElem_set_self];exact hn
  ·rw[updF_ne e,List.getElem_set_ne (by omega)]
   exact(hP _ _).stay (h.each j hj') (fun k hk=>old j k hk e) ht.size
 ·by_cases ea:a=i
  ·by_cases eb:b=i
   ·omega
   ·rw[ea,updF_at] at ha;rw[updF_ne eb] at hb
    rcases ha with ha|ha
    ·exact absurd (h.apart _ _ k ha hb) (by omega)
    ·have:=h.low k (h.inn b k hb);omega
  ·rw[updF_ne ea] at ha
   by_cases eb:b=i
   ·rw[eb,updF_at] at hb
    rcases hb with hb|hb
    ·exact absurd (h.apart _ _ k ha hb) (by omega)
    ·have:=h.low k (h.inn a k ha);omega
   ·rw[updF_ne eb] at hb
    exact h.apart a b k ha hb
 ·by_cases ej:j=i
  ·rw[ej,updF_at] at hj
   rcases hj with hj|hj
   ·exact(h.rowF k e).2 i hj
   ·have:=h.low k (h.rowF k e).1;omega
  ·rw[updF_ne ej] at hj
   exact(h.rowF k e).2 j hj
 ·by_cases ej:j=i
  ·rw[ej,updF_at] at hj
   exact hj.imp (h.inn i k) id
  ·rw[updF_ne ej] at hj
   exact .inl (h.inn j k hj)
theorem RingAt.put(hP:∀c p,Stay (P c p))(h:RingAt t P C v ps Ow G w){i y:Nat}{c':Js}{Fy:Ft}(hi:i<C.length)(hn:P c' y Fy w)(hf:∀k,Fy k->¬G k){g n c:Nat}(hv:v=.slice (some ⟨g,0,none⟩) n c) :
 RingAt t P (C.set i c') v (ps.set i y) (updF Ow i Fy) (fun k=>G k\/Fy k) (w.setCell ⟨g,i,none⟩ (ptrV y)):=by
 subst hv
 have hg:=h.rowF g rfl
 have ht:Touch (fun k=>k=g) w (w.setCell ⟨g,i,none⟩ (ptrV y)):=Touch.setCell (F:=fun k=>k=g) (Touch.refl _ w) (p:=⟨g,i,none⟩) (.inl rfl) _
 refine⟨pt_set h.row (by rw[h.len];exact hi) y,by rw[List.length_set,List.length_set];exact h.len,fun j hj=>?_,fun a b k ha hb=>?_,fun k e=>⟨.inl (h.rowF k e).1,fun j hj=>?_⟩,fun j k hj=>?_,fun k hk=>?_⟩
 ·have hj':j<C.length:=by rw[List.length_set] at hj;exact hj
  by_cases e:j=i
  ·subst e
   rw[updF_at,List.getElem_set_self,List.getD_eq_getElem?_getD,List.getElem?_set_self (by rw[h.len];exact hj'),Option.getD_some]
   exact(hP _ _).far hn ht (fun k hk e=>hf k hk (by rw[show k=g from e];exact hg.1))
  ·rw[updF_ne e,List.getElem_set_ne (by omega),List.getD_eq_getElem?_getD,List.getElem?_set_ne (by omega),<-List.getD_eq_getElem?_getD]
   exact(hP _ _).far (h.each j hj') ht (fun k hk e=>hg.2 j (by rw[<-show k=g from e];exact hk))
 ·by_cases ea:a=i
  ·by_cases eb:b=i
   ·omega
   ·rw[ea,updF_at] at ha;rw[updF_ne eb] at hb
    exact absurd (h.inn b k hb) (hf k ha)
  ·rw[updF_ne ea] at ha
   by_cases eb:b=i
   ·rw[eb,updF_at] at hb
    exact absurd (h.inn a k ha) (hf k hb)
   ·rw[updF_ne eb] at hb
    exact h.apart a b k ha hb
 ·by_cases ej:j=i
  ·rw[ej,updF_at] at hj
   exact hf k hj (h.rowF k e).1
  ·rw[updF_ne ej] at hj
   exact(h.rowF k e).2 j hj
 ·by_cases ej:j=i
  ·rw[ej,updF_at] at hj;exact .inr hj
  ·rw[updF_ne ej] at hj;exact .inl (h.inn j k hj)
 ·rw[World.size_setCell]
  exact hk.elim (h.low k) ((hP _ _).low hn k)
theorem RingAt.push(hP:∀c p,Stay (P c p))(h:RingAt t P C v ps Ow G w0){y:Nat}{c':Js}{Fy:Ft}{v':Value}(hn:P c' y Fy w0)(hf:∀k,Fy k->¬G k)(ho:OwnE (ptE t) 0 w v' (ps++[y]))(hg:w0.grownBy w v.ownBlock)(hw:v'.ownBlock=v.ownBlock\/v'.ownBlock=some w0.heap.size) :
 RingAt t P (C++[c']) v' (ps++[y]) (updF Ow C.length Fy) (fun k=>G k\/Fy k\/v'.ownBlock=some k) w:=by
 have keep:∀k,k<w0.heap.size->v.ownBlock≠some k->w.heap[k]?=w0.heap[k]?:=fun k h1 h2=>hg.block k h1 (fun e=>h2 e.symm)
 have hz:w0.heap.size<=w.heap.size:=hg.size
 have vF:∀k,v.ownBlock=some k->¬Fy k:=fun k e hy=>hf k hy (h.rowF k e).1
 have lowY:=(hP _ _).low hn
 refine⟨ho,by rw[List.length_append,List.length_append,h.len];rfl,fun j hj=>?_,fun a b k ha hb=>?_,fun k e=>⟨.inr (.inr e),fun j hj=>?_⟩,fun j k hj=>?_,fun k hk=>?_⟩
 ·have hj0:j<C.length+1:=by rw[List.length_append,List.length_singleton] at hj;exact hj
  by_cases e:j=C.length
  ·subst e
   rw[updF_at,List.getElem_append_right (Nat.le_refl _),List.getD_eq_getElem?_getD,List.getElem?_append_right (by rw[h.len];omega)]
   simp only[h.len,Nat.sub_self,List.getElem_cons_zero,List.getElem?_cons_zero,Option.getD_some]
   exact(hP _ _).stay hn (fun k hk=>keep k (lowY k hk) (fun e=>vF k e hk)) hz
  ·have hj':j<C.length:=by omega
   rw[updF_ne e,List.getElem_append_left hj',List.getD_eq_getElem?_getD,List.getElem?_append_left (by rw[h.len];exact hj'),<-List.getD_eq_getElem?_getD]
   exact(hP _ _).stay (h.each j hj') (fun k hk=>keep k (h.low k (h.inn j k hk)) (fun e=>(h.rowF k e).2 j hk)) hz
 ·by_cases ea:a=C.length
  ·by_cases eb:b=C.length
   ·omega
   ·rw[ea,updF_at] at ha;rw[updF_ne eb] at hb
    exact absurd (h.inn b k hb) (hf k ha)
  ·rw[updF_ne ea] at ha
   by_cases eb:b=C.length
   ·rw[eb,updF_at] at hb
    exact absurd (h.inn a k ha) (hf k hb)
   ·rw[updF_ne eb] at hb
    exact h.apart a b k ha hb
 ·have hk:v.ownBlock=some k\/k=w0.heap.size:=by
   rcases hw with hw|hw
   ·exact .inl (by rw[<-hw];exact e)
   ·exact .inr (by rw[hw] at e;injection e with e;omega)
  by_cases ej:j=C.length
  ·rw[ej,updF_at] at hj
   rcases hk with hk|hk
   ·exact vF k hk hj
   ·have:=lowY k hj;omega
  ·rw[updF_ne ej] at hj
   rcases hk with hk|hk
   ·exact(h.rowF k hk).2 j hj
   ·have:=h.low k (h.inn j k hj);omega
 ·by_cases ej:j=C.length
  ·rw[ej,updF_at] at hj;exact .inr (.inl hj)
  ·rw[updF_ne ej] at hj;exact .inl (h.inn j k hj)
 ·rcases hk with hk|hk|hk
  ·exact Nat.lt_of_lt_of_le (h.low k hk) hz
  ·exact Nat.lt_of_lt_of_le (lowY k hk) hz
  ·exact(ho.lt k hk).2
end
def plc(a0 n a:Nat):Nat:=(a0+n - a) % n
theorem plc_lt{a0 n a:Nat}(h:0<n):plc a0 n a<n:=Nat.mod_lt _ h
theorem plc_eq{a0 n a:Nat}(h:a0<n)(ha:a<n):plc a0 n a=if a<=a0 then a0 - a else a0+n - a:=by
 unfold plc
 split
 ·rw[show a0+n - a=(a0 - a)+n by omega,Nat.add_mod_right,Nat.mod_eq_of_lt (by omega)]
 ·rw[Nat.mod_eq_of_lt (by omega)]
theorem plc_inj{a0 n a b:Nat}(h:a0<n)(ha:a<n)(hb:b<n)(e:plc a0 n a=plc a0 n b):a=b:=by
 rw[plc_eq h ha,plc_eq h hb] at e
 split at e<;>split at e<;>omega
def rot(d:Js)(a0:Nat)(C:List Js):List Js:=(List.range C.length).map fun a=>C.getD (plc a0 C.length a) d
theorem rot_length(d:Js)(a0:Nat)(C:List Js):(rot d a0 C).length=C.length:=by unfold rot;simp
theorem rot_get{d:Js}{a0:Nat}{C:List Js}{a:Nat}(h:a<(rot d a0 C).length):(rot d a0 C)[a]=C.getD (plc a0 C.length a) d:=by unfold rot;simp
theorem rot_getD{d e:Js}{a0:Nat}{C:List Js}{a:Nat}(h:a<C.length):(rot d a0 C).getD a e=C[plc a0 C.length a]'(plc_lt (by omega)):=by
 rw[List.getD_eq_getElem?_getD,List.getElem?_eq_getElem (by rw[rot_length];exact h),Option.getD_some,rot_get,List.getD_eq_getElem?_getD,List.getElem?_eq_getElem (plc_lt (by omega)),Option.getD_some]
theorem rot_set{d c:Js}{a0:Nat}{C:List Js}{a:Nat}(h0:a0<C.length)(h:a<C.length):rot d a0 (C.set (plc a0 C.length a) c)=(rot d a0 C).set a c:=by
 refine List.ext_getElem (by rw[rot_length,List.length_set,List.length_set,rot_length]) fun i h1 h2=>?_
 have hi:i<C.length:=by rw[rot_length,List.length_set] at h1;exact h1
 rw[rot_get,List.getElem_set,rot_get,List.length_set]
 by_cases e:a=i
 ·subst e
  rw[if_pos rfl,List.getD_eq_getElem?_getD,List.getElem?_set_self (plc_lt (by omega)),Option.getD_some]
 ·rw[if_neg e,List.getD_eq_getElem?_getD,List.getElem?_set_ne (fun e2=>e (plc_inj h0 h hi e2)),<-List.getD_eq_getElem?_getD]
theorem plc_next{a0 n a:Nat}(h:a0<n)(ha:a+1<n):plc ((a0+1) % n) n (a+1)=plc a0 n a:=by
 have h1:(a0+1) % n<n:=Nat.mod_lt _ (by omega)
 rw[plc_eq h1 ha,plc_eq h (by omega)]
 by_cases e:a0+1=n
 ·rw[e,Nat.mod_self]
  split<;>split<;>omega
 ·rw[Nat.mod_eq_of_lt (by omega)]
  split<;>split<;>omega
theorem plc_zero{a0 n:Nat}(h:a0<n):plc a0 n 0=a0:=by rw[plc_eq h (by omega),if_pos (Nat.zero_le _)];omega
theorem rot_tick{sp:Spk}{a0:Nat}{C:List Js}(h0:a0<C.length):rot sp.new ((a0+1) % C.length) (C.set ((a0+1) % C.length) sp.new)=tick1 sp (rot sp.new a0 C):=by
 have h1:(a0+1) % C.length<C.length:=Nat.mod_lt _ (by omega)
 show _=sp.new::(rot sp.new a0 C).dropLast
 refine List.ext_getElem (by rw[rot_length,List.length_set,List.length_cons,List.length_dropLast,rot_length];omega) fun i h2 h3=>?_
 have hi:i<C.length:=by rw[rot_length,List.length_set] at h2;exact h2
 rw[rot_get,List.length_set]
 cases i with
 | zero=>rw[plc_zero h1,List.getElem_cons_zero,List.getD_eq_getElem?_getD,List.getElem?_set_self h1,Option.getD_some]
 | succ a=>
  rw[List.getElem_cons_succ,List.getElem_dropLast,rot_get,plc_next h0 hi,List.getD_eq_getElem?_getD,List.getElem?_set_ne,<-List.getD_eq_getElem?_getD]
  intro e
  have e2:plc ((a0+1) % C.length) C.length (a+1)=plc ((a0+1) % C.length) C.length 0:=by rw[plc_next h0 hi,plc_zero h1];omega
  have:=plc_inj h1 hi (by omega) e2
  omega
end Go.Proofs.YtkiebccnpheloaaGreat.D
namespace Go.Proofs.YtkiebccnpheloaaGreat
open Go.RowKit Go.Lib
section
open Go.RowKit Go.Lib
theorem conv_B{w:World}{v:Value}{l:List Int}(h:RdI .u8 w v l):(convert 22 9 v).run Tryz.prog w=.ok (.string (strOfNums l)) w:=by
 obtain⟨A,c,rfl,_,_,f⟩:=h.form
 cases A with
 | none=>
  have h0:l=[]:=by
   rcases Nat.eq_zero_or_pos l.length with h0|h0
   ·exact List.eq_nil_of_length_eq_zero h0
   ·obtain⟨g,off,e,_⟩:=f h0;cases e
  subst h0
  exact run_convert_bytes_nil w 22 5 Tryz.underlying22 Tryz.underlying5 _ _ _ Tryz.underlying9
 | some a=>
  rcases Nat.eq_zero_or_pos l.length with h0|h0
  ·have h1:l=[]:=List.eq_nil_of_length_eq_zero h0
   subst h1
   obtain⟨b,off,spot⟩:=a
   cases spot with
   | none=>exact run_convert_bytes_arg w 22 5 Tryz.underlying22 Tryz.underlying5 b off 0 c [] rfl (fun i hi=>absurd hi (by omega)) _ Tryz.underlying9
   | some s=>rw[run_convert_bytes_string w 22 9 5 _ _ _ Tryz.underlying22 Tryz.underlying5 Tryz.underlying9,run_bytesToString w _ _ c [] (by simp[loadCells,loadCellsFrom])];rfl
  ·obtain⟨g,off,hA,_,hc⟩:=f h0
   cases hA
   exact run_convert_bytes_arg w 22 5 Tryz.underlying22 Tryz.underlying5 g off l.length c l rfl (fun i hi=>by
    rw[hc i hi];simp[List.getD,List.getElem?_eq_getElem hi]) _ Tryz.underlying9
theorem okL.raw{l:List Mn}(h:okL l)(ht:tot l<=18446744073709551615):rawL l:=fun m hm=>by
 obtain⟨j,hj,rfl⟩:=List.getElem_of_mem hm
 have h1:=h _ (List.getElem_mem hj)
 have h2:=h.tot_get hj
 have h3:=(h.tot_take j).1
 have h4:=h1.2.2
 exact⟨h1.1,h1.2.1,by omega,by omega⟩
end
open Go.RowKit Go.Lib
open Go.RowKit Go.Lib
open Go.RowKit Go.Lib
end Go.Proofs.YtkiebccnpheloaaGreat
namespace Go.Proofs.YtkiebccnpheloaaGreat.D
open Go.RowKit Go.Lib Go.Shelf
theorem mutc_after{P C:Ft->World->Prop}(S:Stay P){F H:Ft}{er:Int}{w w1 w':World}{e:Ending}(hb:Below w.heap.size w w1)(h0:∀k,F k->k<w.heap.size)(hm:MutC P C F H er w1 e w'):MutC P C F H er w e w':=
 ⟨hm.1,S.more hm.2.1 (fun _ h=>h.imp id fun h=>⟨Nat.le_trans hb.size h.1,h.2⟩) (gr_lt h0 (Nat.le_trans hb.size hm.2.2.2.size)),hm.2.2.1,btl hb hm.2.2.2⟩
section
variable {sp : Spk} {c t : Js} {x y a : Nat} {F Fy H : Ft} {cq : Value} {B : List Int}
theorem js_add(v n:Int)(w:World)(h:JsAt sp c x F w)(ok:JsOk sp c)(hc:CnAt cq B a H w)(hq:(∃q,sp=.k q)->cq≠.pointer none)(hd:∀k,H k->¬F k)(v0:-9223372036854775808<=v)(v1:v<=9223372036854775807)(n0:0<=n)(n1:n<18446744073709551616) :
 Calls Tryz.prog 56 #[.pointer (some ⟨x,0,none⟩),.int .i64 v,.int .u64 n,cq] w (MutC (JsAt sp (jadS sp B v n c a).1 x) (CnAt cq B (jadS sp B v n c a).2) F H (jadE sp c v n) w):=by
 obtain⟨p,G,hB,hI,hFx,hGx,hGF,hF⟩:=h
 have hdG:∀k,H k->¬G k:=fun k h1 h2=>hd k h1 (hGF k h2)
 have fin:∀c' a' er e w',MutC (InAt sp c' p) (CnAt cq B a') G H er w e w'->MutC (JsAt sp c' x) (CnAt cq B a') F H er w e w':=fun c' a' er e w' hm=>by
  obtain⟨h1,h2⟩:=js_turn hB hFx hGx hGF hF hm.2.1 hm.2.2.2 hd
  exact⟨hm.1,h1,hm.2.2.1,h2⟩
 have low:=(in_stay sp c p).low hI
 cases sp with
 | h lo hi dg u m gr=>
  refine(jadd1_any (Q:=fun v' w'=>MutC (JsAt (.h lo hi dg u m gr) (jadS (.h lo hi dg u m gr) B v n c a).1 x) (CnAt cq B (jadS (.h lo hi dg u m gr) B v n c a).2) F H (jadE (.h lo hi dg u m gr) c v n) w (.returned v') w') hB ?_).mono ?_
  ·refine(hs_record v n w hI ok v0 v1 n0 n1).mono ?_
   rintro e w' ⟨rfl,h2,h3⟩
   exact⟨_,rfl,fin _ _ _ _ _ (mutc_of ⟨rfl,h2,h3⟩ (hc.far h3 hdG))⟩
  ·rintro e w' ⟨v',rfl,hm⟩;exact hm
 | d ac m=>
  refine(jadd2_any (Q:=fun v' w'=>MutC (JsAt (.d ac m) (jadS (.d ac m) B v n c a).1 x) (CnAt cq B (jadS (.d ac m) B v n c a).2) F H (jadE (.d ac m) c v n) w (.returned v') w') hB ?_).mono ?_
  ·refine(dd_add v n w hI ok v0 v1 n0 n1).mono ?_
   rintro e w' ⟨rfl,h2,h3⟩
   exact⟨_,rfl,fin _ _ _ _ _ (mutc_of ⟨rfl,h2,h3⟩ (hc.far h3 hdG))⟩
  ·rintro e w' ⟨v',rfl,hm⟩;exact hm
 | t d=>
  have ft:=TOk.fit ok
  have hd1:=ft.d1
  refine(jadd3_any (Q:=fun v' w'=>MutC (JsAt (.t d) (jadS (.t d) B v n c a).1 x) (CnAt cq B (jadS (.t d) B v n c a).2) F H (jadE (.t d) c v n) w (.returned v') w') hB ?_).mono ?_
  ·by_cases hn:n=0\/281474976710656 - Go.Proofs.YtkiebccnpheloaaGreat.tot (c.s.L++c.s.W)<n
   ·refine(addS_no v n w hI ft (by omega) v0 v1 n0 (by omega) hn).mono ?_
    rintro e w' ⟨rfl,hb⟩
    have e1:jadE (.t d) c v n=if n=0 then 4 else 6:=by
     simp only[jadE]
     by_cases h0:n=0
     ·rw[if_pos h0,if_pos h0]
     ·rw[if_neg h0,if_neg h0,if_pos (hn.resolve_left h0)]
    have e2:jadS (.t d) B v n c a=(c,a):=by
     simp only[jadS]
     rw[if_neg (by rw[e1];split<;>decide)]
    rw[e1,e2]
    exact⟨_,rfl,fin c a _ _ _ (mutc_same (in_stay (.t d) c p) hI rfl hb (hc.keep hb))⟩
   ·have h0:¬n=0:=fun e=>hn (.inl e)
    have h6:¬281474976710656 - Go.Proofs.YtkiebccnpheloaaGreat.tot (c.s.L++c.s.W)<n:=fun e=>hn (.inr e)
    refine(addS_any v n w hI ft (by omega) v0 v1 (by omega) (by omega)).mono ?_
    rintro e w' ⟨rfl,F',h2,h3,h4⟩
    have e1:jadE (.t d) c v n=0:=by simp only[jadE];rw[if_neg h0,if_neg h6]
    have e2:jadS (.t d) B v n c a=({c with s:=c.s.add d v n},a):=by simp only[jadS];rw[if_pos e1]
    rw[e1,e2]
    refine⟨_,rfl,fin _ _ _ _ _ ⟨rfl,?_,hc.far h4 hdG,h4.mono fun _ h=>.inl h⟩⟩
    exact(in_stay (.t d) {c with s:=c.s.add d v n} p).gr (F':=F') h3 h2 low h4.size
  ·rintro e w' ⟨v',rfl,hm⟩;exact hm
 | k q=>
  refine(jadd4_any (Q:=fun v' w'=>MutC (JsAt (.k q) (jadS (.k q) B v n c a).1 x) (CnAt cq B (jadS (.k q) B v n c a).2) F H (jadE (.k q) c v n) w (.returned v') w') hB ?_).mono ?_
  ·have hnn:((n.toNat:Nat):Int)=n:=by omega
   have C:=k_add v n.toNat hI (KOk.fit ok) hc (hq ⟨q,rfl⟩) hdG (KOk.q0 ok) (KOk.q1 ok) (by omega)
   rw[hnn] at C
   refine C.mono ?_
   rintro e w' hm
   obtain⟨rfl,h2,h3,h4⟩:=hm
   exact⟨_,rfl,fin _ _ _ _ _ ⟨rfl,h2,h3,h4⟩⟩
  ·rintro e w' ⟨v',rfl,hm⟩;exact hm
theorem js_total(w:World)(h:JsAt sp c x F w)(ok:JsOk sp c):Calls Tryz.prog 52 #[.pointer (some ⟨x,0,none⟩)] w fun e w'=>e=.returned (.int .u64 (jtot sp c))/\w=w':=by
 obtain⟨p,G,hB,hI,hFx,hGx,hGF,hF⟩:=h
 cases sp with
 | h lo hi dg u m gr=>
  refine(jtotal1_any (Q:=fun v' w'=>v'=.int .u64 (jtot (.h lo hi dg u m gr) c)/\w=w') hB ?_).mono ?_
  ·refine(hs_total w hI).mono ?_
   rintro e w' ⟨rfl,rfl⟩;exact⟨_,rfl,rfl,rfl⟩
  ·rintro e w' ⟨v',rfl,rfl,rfl⟩;exact⟨rfl,rfl⟩
 | d ac m=>
  refine(jtotal2_any (Q:=fun v' w'=>v'=.int .u64 (jtot (.d ac m) c)/\w=w') hB ?_).mono ?_
  ·refine(dd_total w hI ok).mono ?_
   rintro e w' ⟨rfl,rfl⟩;exact⟨_,rfl,rfl,rfl⟩
  ·rintro e w' ⟨v',rfl,rfl,rfl⟩;exact⟨rfl,rfl⟩
 | t d=>
  refine(jtotal3_any (Q:=fun v' w'=>v'=.int .u64 (jtot (.t d) c)/\w=w') hB ?_).mono ?_
  ·refine(total_any w hI).mono ?_
   rintro e w' ⟨rfl,rfl⟩;exact⟨_,rfl,rfl,rfl⟩
  ·rintro e w' ⟨v',rfl,rfl,rfl⟩;exact⟨rfl,rfl⟩
 | k q=>
  obtain⟨lv,vs,hs⟩:=hI
  refine(jtotal4_any (Q:=fun v' w'=>v'=.int .u64 (jtot (.k q) c)/\w=w') hB ?_).mono ?_
  ·refine(K.total_any w hs).mono ?_
   rintro e w' ⟨rfl,rfl⟩;exact⟨_,rfl,rfl,rfl⟩
  ·rintro e w' ⟨v',rfl,rfl,rfl⟩;exact⟨rfl,rfl⟩
theorem js_text(w:World)(h:JsAt sp c x F w)(ok:JsOk sp c):Calls Tryz.prog 18 #[.pointer (some ⟨x,0,none⟩)] w fun e w'=>∃v,e=.returned v/\OwnB w.heap.size w' v (jtxt sp c)/\Below w.heap.size w w':=by
 obtain⟨p,G,hB,hI,hFx,hGx,hGF,hF⟩:=h
 cases sp with
 | h lo hi dg u m gr=>
  refine jtext1_any (Q:=fun v' w'=>OwnB w.heap.size w' v' (jtxt (.h lo hi dg u m gr) c)/\Below w.heap.size w w') hB ?_
  exact hdrText_any w hB hI ok
 | d ac m=>
  refine jtext2_any (Q:=fun v' w'=>OwnB w.heap.size w' v' (jtxt (.d ac m) c)/\Below w.heap.size w w') hB ?_
  exact dwrite_any w hI ok
 | t d=>
  refine jtext3_any (Q:=fun v' w'=>OwnB w.heap.size w' v' (jtxt (.t d) c)/\Below w.heap.size w w') hB ?_
  exact twrite_any p G d c.s _ w hI (TOk.fit ok)
 | k q=>
  refine jtext4_any (Q:=fun v' w'=>OwnB w.heap.size w' v' (jtxt (.k q) c)/\Below w.heap.size w w') hB ?_
  obtain⟨lv,vs,hs⟩:=hI
  exact K.kwrite_any w hs ((KOk.fit ok).pk (a:=0)) (KOk.bd ok) (by have:=KOk.q1 ok;omega)
theorem js_spec(w:World)(h:JsAt sp c x F w)(ok:JsOk sp c):Calls Tryz.prog 19 #[.pointer (some ⟨x,0,none⟩)] w fun e w'=>e=.returned sp.v/\Below w.heap.size w w':=by
 obtain⟨p,G,hB,hI,hFx,hGx,hGF,hF⟩:=h
 cases sp with
 | h lo hi dg u m gr=>exact jspec1_any hB (fun w1 hb=>hs_shape w1 ((in_stay (.h lo hi dg u m gr) c p).keep hI hb)) (fun w1 hb=>hs_grows w1 ((in_stay (.h lo hi dg u m gr) c p).keep hI hb))
 | d ac m=>exact jspec2_any hB (fun w1 hb=>dd_acc w1 ((in_stay (.d ac m) c p).keep hI hb)) (fun w1 hb=>dd_budget w1 ((in_stay (.d ac m) c p).keep hI hb))
 | t d=>exact jspec3_any hB (fun w1 hb=>fineness_any w1 ((in_stay (.t d) c p).keep hI hb))
 | k q=>exact jspec4_any hB (fun w1 hb=>by
  obtain⟨lv,vs,hs⟩:=(in_stay (.k q) c p).keep hI hb
  exact K.size_any w1 hs)
end
end Go.Proofs.YtkiebccnpheloaaGreat.D
