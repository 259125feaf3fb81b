/- Parts of a proof: what its theorem reaches, words cut short. No condition of its own. -/
import Derived.Test.YtilcnjbpmoijmaaGreatPs02
set_option maxRecDepth 100000
set_option maxHeartbeats 16000000
set_option linter.unusedVariables false
set_option linter.unusedSimpArgs false
namespace Go.Proofs.YtilcnjbpmoijmaaGreat
open Go.RowKit
structure Lie(α:Type) where
 k:Nat
 t:TypeId
 enc:α->List Value
 len:∀x,(enc x).length=k
 one:∀x,∀u∈enc x,u.oneCell'=true
section
variable {α : Type} (E : Lie α)
def cellsE(l:List α):List Value:=l.flatMap E.enc
@[simp] theorem cellsE_nil:cellsE E []=[]:=rfl
theorem cellsE_cons(x:α)(l:List α):cellsE E (x::l)=E.enc x++cellsE E l:=rfl
theorem cellsE_append(a b:List α):cellsE E (a++b)=cellsE E a++cellsE E b:=List.flatMap_append
theorem cellsE_length:∀l:List α,(cellsE E l).length=l.length * E.k
 | []=>by simp
 | x::l=>by rw[cellsE_cons,List.length_append,E.len,cellsE_length l,List.length_cons,Nat.succ_mul,Nat.add_comm]
theorem cellsE_get:∀(l:List α) (j:Nat) (hj:j<l.length) (i:Nat),i<E.k->(cellsE E l)[j * E.k+i]?=(E.enc l[j])[i]?
 | x::l,0,_,i,hi=>by
  rw[cellsE_cons,List.getElem?_append_left (by rw[E.len];omega)]
  simp
 | x::l,j+1,hj,i,hi=>by
  have hj':j<l.length:=by simpa using hj
  rw[cellsE_cons,List.getElem?_append_right (by rw[E.len,Nat.succ_mul];omega),E.len]
  rw[show(j+1) * E.k+i - E.k=j * E.k+i by rw[Nat.succ_mul];omega]
  exact cellsE_get l j hj' i hi
theorem cellsE_take(l:List α)(n:Nat):(cellsE E l).take (n * E.k)=cellsE E (l.take n):=by
 rcases Nat.le_total l.length n with h|h
 ·rw[List.take_of_length_le h,List.take_of_length_le (by rw[cellsE_length];exact Nat.mul_le_mul_right _ h)]
 ·conv=>lhs;rw[<-List.take_append_drop n l,cellsE_append]
  have hl:(cellsE E (l.take n)).length=n * E.k:=by rw[cellsE_length,List.length_take,Nat.min_eq_left h]
  rw[<-hl,List.take_left]
theorem cellsE_drop(l:List α)(n:Nat):(cellsE E l).drop (n * E.k)=cellsE E (l.drop n):=by
 rcases Nat.le_total l.length n with h|h
 ·rw[List.drop_of_length_le h,List.drop_of_length_le (by rw[cellsE_length];exact Nat.mul_le_mul_right _ h)];rfl
 ·conv=>lhs;rw[<-List.take_append_drop n l,cellsE_append]
  have hl:(cellsE E (l.take n)).length=n * E.k:=by rw[cellsE_length,List.length_take,Nat.min_eq_left h]
  rw[<-hl,List.drop_left]
theorem cellsE_one(l:List α):∀u∈cellsE E l,u.oneCell'=true:=fun u hu=>by
 obtain⟨x,_,h⟩:=List.mem_flatMap.1 hu
 exact E.one x u h
def setL:List Value->Nat->List Value->List Value
 | xs,_,[]=>xs
 | xs,p,u::us=>setL (xs.set p u) (p+1) us
theorem setL_eq:∀(us xs:List Value) (p:Nat),p+us.length<=xs.length->setL xs p us=xs.take p++us++xs.drop (p+us.length)
 | [],xs,p,_=>by simp[setL]
 | u::us,xs,p,h=>by
  rw[List.length_cons] at h
  rw[setL,setL_eq us (xs.set p u) (p+1) (by rw[List.length_set];omega)]
  rw[List.drop_set,if_pos (by omega),List.length_cons,show p+1+us.length=p+(us.length+1) by omega]
  congr 1
  have hp:p<(xs.set p u).length:=by rw[List.length_set];omega
  rw[List.take_succ_eq_append_getElem hp,List.getElem_set_self,List.take_set,List.set_eq_of_length_le (by rw[List.length_take];omega)]
  simp
theorem cellsE_set(l:List α)(j:Nat)(hj:j<l.length)(x:α):setL (cellsE E l) (j * E.k) (E.enc x)=cellsE E (l.set j x):=by
 have h1:(j+1) * E.k<=l.length * E.k:=Nat.mul_le_mul_right _ hj
 rw[Nat.succ_mul] at h1
 rw[setL_eq _ _ _ (by rw[E.len,cellsE_length];exact h1),E.len,cellsE_take,show j * E.k+E.k=(j+1) * E.k by rw[Nat.succ_mul],cellsE_drop,List.set_eq_take_append_cons_drop,if_pos hj,cellsE_append,cellsE_cons,List.append_assoc]
def stores(w:World)(g:Nat):Nat->List Value->World
 | _,[]=>w
 | p,u::us=>stores (w.setCell ⟨g,p,none⟩ u) g (p+1) us
def RdE(w:World)(v:Value)(l:List α):Prop:=Rd E.k w v l.length (cellsE E l)
def EForm(w:World)(A:Option Addr)(l:List α):Prop:=0<l.length->∃g off,A=some ⟨g,off,none⟩/\g<w.heap.size/\∀j (h:j<l.length) i,i<E.k->w.cell? ⟨g,off+j * E.k+i,none⟩=(E.enc l[j])[i]?
def OwnE(base:Nat)(w:World)(v:Value)(l:List α):Prop:=w.ownsRow base E.t E.k v l.length (cellsE E l)
end
section
variable {α : Type} {E : Lie α} {w w' : World} {v : Value} {l : List α} {base : Nat}
theorem RdE.keep(h:RdE E w v l)(hb:Below w.heap.size w w'):RdE E w' v l:=Rd.keep h hb
theorem RdE.form(h:RdE E w v l):∃A c,v=.slice A l.length c/\l.length<=c/\c<=9223372036854775807/\EForm E w A l:=by
 obtain⟨_,A,c,hv,h1,h2,h3⟩:=h
 refine⟨A,c,hv,h1,by unfold maxLen at h2;omega,fun h0=>?_⟩
 obtain⟨g,off,hA,hg,hj⟩:=h3 h0
 refine⟨g,off,hA,hg,fun j h i hi=>?_⟩
 have h4:(j+1) * E.k<=l.length * E.k:=Nat.mul_le_mul_right _ h
 rw[Nat.succ_mul] at h4
 rw[Nat.add_assoc,hj (j * E.k+i) (by omega),cellsE_get E l j h i hi]
theorem RdE.of_form{A:Option Addr}{c:Nat}(h1:l.length<=c)(h2:c<=9223372036854775807)(h:EForm E w A l):RdE E w (.slice A l.length c) l:=by
 refine⟨cellsE_length E l,A,c,rfl,h1,by unfold maxLen;omega,fun h0=>?_⟩
 obtain⟨g,off,hA,hg,hj⟩:=h h0
 refine⟨g,off,hA,hg,fun j hlt=>?_⟩
 have hk:0<E.k:=Nat.pos_of_ne_zero fun e=>by rw[e] at hlt;omega
 have e:=Nat.div_add_mod j E.k
 rw[Nat.mul_comm] at e
 have h3:j / E.k<l.length:=(Nat.div_lt_iff_lt_mul hk).2 hlt
 have h4:=Nat.mod_lt j hk
 rw[<-e,<-Nat.add_assoc,hj _ h3 _ h4,cellsE_get E l _ h3 _ h4]
theorem RdE.nil_(w:World):RdE E w (.slice none 0 0) []:=Rd.nil_ w E.k
theorem OwnE.rd(h:OwnE E base w v l):RdE E w v l:=Rd.of_own h
theorem OwnE.nil_(base:Nat)(w:World):OwnE E base w (.slice none 0 0) []:=World.ownsRow_nil w base _ _
theorem OwnE.more{base':Nat}(h:OwnE E base w v l)(hb:base'<=base):OwnE E base' w v l:=by
 obtain⟨h1,h2⟩:=h
 refine⟨h1,?_⟩
 rcases h2 with h2|⟨g,cap,cur,e1,e2,r⟩
 ·exact .inl h2
 ·exact .inr ⟨g,cap,cur,e1,by omega,r⟩
theorem OwnE.stay(h:OwnE E base w v l)(hk:∀g,v.ownBlock=some g->w'.heap[g]?=w.heap[g]?):OwnE E base w' v l:=by
 obtain⟨h1,h2⟩:=h
 refine⟨h1,?_⟩
 rcases h2 with h2|⟨g,cap,cur,rfl,e2,e3,r⟩
 ·exact .inl h2
 ·exact .inr ⟨g,cap,cur,rfl,e2,by rw[hk g rfl];exact e3,r⟩
theorem OwnE.lt(h:OwnE E base w v l):∀g,v.ownBlock=some g->base<=g/\g<w.heap.size:=World.ownsRow.lt h
theorem OwnE.keep(h:OwnE E base w v l)(hb:Below w.heap.size w w'):OwnE E base w' v l:=h.stay fun g hg=>hb.block g (h.lt g hg).2
theorem OwnE.drew(h:OwnE E base w v l):OwnE E base w.drew v l:=h
theorem OwnE.alloc(h:OwnE E base w v l)(o:Obj):OwnE E base (w.alloc o) v l:=World.ownsRow.alloc h o
theorem OwnE.far(h:OwnE E base w v l){p:Addr}(hp:v.ownBlock≠some p.block)(u:Value):OwnE E base (w.setCell p u) v l:=
 h.stay fun g hg=>Below.heap_setCell w p u g (fun e=>hp (by rw[hg,e]))
theorem OwnE.grown{row:Option Nat}(h:OwnE E base w v l)(hg:w.grownBy w' row)(hne:v.ownBlock=none\/v.ownBlock≠row):OwnE E base w' v l:=World.ownsRow.kept h hg hne
theorem OwnE.form(h:OwnE E base w v l):∃A c,v=.slice A l.length c/\l.length<=c/\c<=9223372036854775807/\EForm E w A l:=h.rd.form
theorem OwnE.pos(h:OwnE E base w v l)(h0:0<l.length):∃g c,v=.slice (some ⟨g,0,none⟩) l.length c/\base<=g/\g<w.heap.size/\l.length<=c/\c<=9223372036854775807:=by
 rcases h.2 with⟨_,h2⟩|⟨g,cap,cur,rfl,e2,e3,e4,e5,_⟩
 ·omega
 ·exact⟨g,cap,rfl,e2,(h.lt g rfl).2,e4,by unfold maxLen at e5;omega⟩
theorem OwnE.cellAt{g c n:Nat}(h:OwnE E base w (.slice (some ⟨g,0,none⟩) n c) l){j:Nat}(hj:j<l.length)(i:Nat)(hi:i<E.k):w.cell? ⟨g,j * E.k+i,none⟩=(E.enc l[j])[i]?:=by
 have hn:n=l.length:=by
  obtain⟨A,c',hv,_⟩:=h.form
  injection hv
 subst hn
 have h1:(j+1) * E.k<=l.length * E.k:=Nat.mul_le_mul_right _ hj
 rw[Nat.succ_mul] at h1
 rw[World.ownsRow.cellAt h _ (by omega),cellsE_get E l j hj i hi]
theorem OwnE.frozenAt{g c n:Nat}(h:OwnE E base w (.slice (some ⟨g,0,none⟩) n c) l)(j:Nat):w.frozen? ⟨g,j,none⟩=false:=by
 have hn:n=l.length:=by
  obtain⟨A,c',hv,_⟩:=h.form
  injection hv
 subst hn
 exact World.ownsRow.frozenAt h _
theorem owns_stores{t:TypeId}{k g c n:Nat}:∀(us xs:List Value) (w:World) (p:Nat),w.ownsRow base t k (.slice (some ⟨g,0,none⟩) n c) n xs->(stores w g p us).ownsRow base t k (.slice (some ⟨g,0,none⟩) n c) n (setL xs p us)
 | [],_,_,_,h=>h
 | u::us,_xs,_w,p,h=>owns_stores us _ _ _ (World.ownsRow.stored h p u).1
theorem OwnE.set_{g c n:Nat}(h:OwnE E base w (.slice (some ⟨g,0,none⟩) n c) l)(j:Nat)(hj:j<l.length)(x:α):OwnE E base (stores w g (j * E.k) (E.enc x)) (.slice (some ⟨g,0,none⟩) n c) (l.set j x):=by
 have hn:n=l.length:=by
  obtain⟨A,c',hv,_⟩:=h.form
  injection hv
 subst hn
 have:=owns_stores (E.enc x) (cellsE E l) w (j * E.k) h
 rw[cellsE_set E l j hj x] at this
 unfold OwnE
 rw[List.length_set]
 exact this
theorem OwnE.one(w:World)(x:α)(T:TypeId)(hT:T=E.t)(cs:Array Value)(hc:cs=(E.enc x).toArray):OwnE E w.heap.size (w.alloc (.cells cs T)) (.slice (some ⟨w.heap.size,0,none⟩) 1 1) [x]:=by
 subst hT;subst hc
 have h:=World.ownsRow_lit (e:=E.t) (size:=E.k) w (E.enc x).toArray 1 (Nat.le_refl w.heap.size) (by unfold maxLen;omega) (by simp[E.len])
 unfold OwnE
 rw[show cellsE E [x]=(E.enc x) by rw[cellsE_cons];simp]
 exact h
theorem RdE.one_at(w:World)(x:α)(T:TypeId)(hT:T=E.t)(cs:Array Value)(hc:cs=(E.enc x).toArray)(H:Nat)(h:w.heap.size=H):RdE E (w.alloc (.cells cs T)) (.slice (some ⟨H,0,none⟩) 1 1) [x]:=by
 subst h;exact(OwnE.one w x T hT cs hc).rd
theorem OwnE.lit(w:World)(l:List α)(T:TypeId)(hT:T=E.t)(cs:Array Value)(hc:cs=(cellsE E l).toArray)(hl:l.length<=1099511627776):OwnE E w.heap.size (w.alloc (.cells cs T)) (.slice (some ⟨w.heap.size,0,none⟩) l.length l.length) l:=by
 subst hT;subst hc
 have h:=World.ownsRow_lit (e:=E.t) (size:=E.k) w (cellsE E l).toArray l.length (Nat.le_refl w.heap.size) (by unfold maxLen;omega) (by simp[cellsE_length])
 unfold OwnE
 exact h
end
section
variable {P : Program} {α : Type} (E : Lie α)
theorem wpList_append_E{ts:TypeId}(i0:TypeInfo)(z:Value)(bytes:Nat)(ht:P.underlying ts=some (.slice E.t))(hi:P.info? E.t=some i0)(hz:i0.zero=some z)(hsz:i0.size=E.k)(hby:i0.bytes=bytes)(hzs:z.cells.size=E.k)(hk:0<E.k)(hb:bytes<=128)
 {w:World} {ops:Array Oper} {rest:List Oper} {o:Oper} {a:Act} {Q:Exit->Act->World->Prop} (hgd:o.guard=none) (s x:Operand)
 (ho:o.op=.call {callee:=.builtin .append,args:=#[s,x],argTypes:=#[ts,ts]})
 (base:Nat) (v:Value) (xs:List α) (hs:a.eval s=v) (hown:OwnE E base w v xs) (u:Value) (news:List α) (hx:a.eval x=u) (hr:RdE E w u news) (hlen:xs.length+news.length<=1099511627776) (hbase:base<=w.heap.size)
 (h:∀v' w',OwnE E base w' v' (xs++news)->w.grownBy w' v.ownBlock->(v'.ownBlock=v.ownBlock\/v'.ownBlock=some w.heap.size)->wpList P ops Q rest (a.put o.dst v') w'):wpList P ops Q (o::rest) a w:=by
 obtain⟨A,c,rfl,_,_,_⟩:=hr.form
 have h1:(xs.length+news.length) * bytes<=1099511627776 * 128:=Nat.mul_le_mul hlen hb
 refine wpList_append_rd w hgd s x ts ho base E.t i0 z E.k bytes ht hi hz hsz hby hzs hk v xs.length (cellsE E xs) hs hown A news.length c (cellsE E news) hx hr (cellsE_one E news) (by unfold maxLen;omega) (by omega) hbase fun v' w' h2 h3 h4=>h v' w' ?_ h3 h4
 unfold OwnE
 rw[List.length_append,cellsE_append]
 exact h2
end
end Go.Proofs.YtilcnjbpmoijmaaGreat
