/- Parts of a proof. No condition. -/
import Derived.Test.YtilcnjbpmoijmaaGreatPw06
set_option maxRecDepth 100000
set_option maxHeartbeats 16000000
set_option linter.unusedVariables false
set_option linter.unusedSimpArgs false
namespace Go.Proofs.YtilcnjbpmoijmaaGreat
open Tryz
open Go.RowKit
structure DN(α:Type) where
 k:Nat
 t:TypeId
 enc:α->List Value
 len:∀x,(enc x).length=k
 one:∀x,∀u∈enc x,u.oneCell'=true
section
variable {α : Type} (E : DN α)
def cellsE(l:List α):List Value:=l.flatMap E.enc
@[simp] theorem ba1:cellsE E []=[]:=rfl
theorem gJ(x:α)(l:List α):cellsE E (x::l)=E.enc x++cellsE E l:=rfl
theorem jd(a b:List α):cellsE E (a++b)=cellsE E a++cellsE E b:=List.flatMap_append
theorem fC:∀l:List α,(cellsE E l).length=l.length * E.k
 | []=>by simp
 | x::l=>by rw[gJ,aQ,E.len,fC l,aU,Nat.succ_mul,Nat.add_comm]
theorem mZ:∀(l:List α) (j:Nat) (hj:j<l.length) (i:Nat),i<E.k->(cellsE E l)[j * E.k+i]?=(E.enc l[j])[i]?
 | x::l,0,_,i,hi=>by
  rw[gJ,List.getElem?_append_left (by rw[E.len];omega)]
  simp
 | x::l,j+1,hj,i,hi=>by
  have hj':j<l.length:=by simpa using hj
  rw[gJ,List.getElem?_append_right (by rw[E.len,Nat.succ_mul];omega),E.len]
  rw[show(j+1) * E.k+i - E.k=j * E.k+i by rw[Nat.succ_mul];omega]
  exact mZ l j hj' i hi
theorem Ci(l:List α)(n:Nat):(cellsE E l).take (n * E.k)=cellsE E (l.take n):=by
 rcases Nat.le_total l.length n with h|h
 ·rw[bP h,bP (by rw[fC];exact Nat.mul_le_mul_right _ h)]
 ·conv=>lhs;rw[<-List.take_append_drop n l,jd]
  have hl:(cellsE E (l.take n)).length=n * E.k:=by rw[fC,bG,Nat.min_eq_left h]
  rw[<-hl,List.take_left]
theorem Cj(l:List α)(n:Nat):(cellsE E l).drop (n * E.k)=cellsE E (l.drop n):=by
 rcases Nat.le_total l.length n with h|h
 ·rw[List.drop_of_length_le h,List.drop_of_length_le (by rw[fC];exact Nat.mul_le_mul_right _ h)];rfl
 ·conv=>lhs;rw[<-List.take_append_drop n l,jd]
  have hl:(cellsE E (l.take n)).length=n * E.k:=by rw[fC,bG,Nat.min_eq_left h]
  rw[<-hl,List.drop_left]
theorem pO(l:List α):∀u∈cellsE E l,u.oneCell'=true:=fun u hu=>by
 obtain⟨x,_,h⟩:=List.mem_flatMap.1 hu;exact E.one x u h
def Ri:List Value->Nat->List Value->List Value
 | xs,_,[]=>xs
 | xs,p,u::us=>Ri (xs.set p u) (p+1) us
theorem KE:∀(us xs:List Value) (p:Nat),p+us.length<=xs.length->Ri xs p us=xs.take p++us++xs.drop (p+us.length)
 | [],xs,p,_=>by simp[Ri]
 | u::us,xs,p,h=>by
  rw[aU] at h;rw[Ri,KE us (xs.set p u) (p+1) (by rw[bK];omega)]
  rw[List.drop_set,if_pos ae,aU,show p+1+us.length=p+(us.length+1) by omega]
  congr 1
  have hp:p<(xs.set p u).length:=by rw[bK];omega
  rw[bg hp,List.getElem_set_self,List.take_set,List.set_eq_of_length_le (by rw[bG];omega)]
  simp
theorem FQ(l:List α)(j:Nat)(hj:j<l.length)(x:α):Ri (cellsE E l) (j * E.k) (E.enc x)=cellsE E (l.set j x):=by
 have h1:(j+1) * E.k<=l.length * E.k:=Nat.mul_le_mul_right _ hj;rw[Nat.succ_mul] at h1;rw[KE _ _ _ (by rw[E.len,fC];exact h1),E.len,Ci,show j * E.k+E.k=(j+1) * E.k by rw[Nat.succ_mul],Cj,List.set_eq_take_append_cons_drop,if_pos hj,jd,gJ,aX]
def stores(w:World)(g:Nat):Nat->List Value->World
 | _,[]=>w
 | p,u::us=>stores (w.setCell ⟨g,p,none⟩ u) g (p+1) us
def iM(w:World)(v:Value)(l:List α):Prop:=Rd E.k w v l.length (cellsE E l)
def kG(w:World)(A:Option Addr)(l:List α):Prop:=0<l.length->∃g off,A=some ⟨g,off,none⟩/\g<w.heap.size/\∀j (h:j<l.length) i,i<E.k->w.cell? ⟨g,off+j * E.k+i,none⟩=(E.enc l[j])[i]?
def dL(base:Nat)(w:World)(v:Value)(l:List α):Prop:=w.ownsRow base E.t E.k v l.length (cellsE E l)
end
section
variable {α : Type} {E : DN α} {w w' : World} {v : Value} {l : List α} {base : Nat}
variable{A:Option Addr}{c:Nat}
theorem iM.keep(h:iM E w v l)(hb:Below w.heap.size w w'):iM E w' v l:=Rd.keep h hb
theorem iM.form(h:iM E w v l):∃A c,v=.slice A l.length c/\l.length<=c/\c<=9223372036854775807/\kG E w A l:=by
 obtain⟨_,A,c,hv,h1,h2,h3⟩:=h;refine⟨A,c,hv,h1,by unfold maxLen at h2;omega,fun h0=>?_⟩
 obtain⟨g,off,hA,hg,hj⟩:=h3 h0;refine⟨g,off,hA,hg,fun j h i hi=>?_⟩
 have h4:(j+1) * E.k<=l.length * E.k:=Nat.mul_le_mul_right _ h;rw[Nat.succ_mul] at h4;rw[Nat.add_assoc,hj (j * E.k+i) ae,mZ E l j h i hi]
theorem iM.jY(h1:l.length<=c)(h2:c<=9223372036854775807)(h:kG E w A l):iM E w (.slice A l.length c) l:=by
 refine⟨fC E l,A,c,rfl,h1,by unfold maxLen;omega,fun h0=>?_⟩
 obtain⟨g,off,hA,hg,hj⟩:=h h0;refine⟨g,off,hA,hg,fun j hlt=>?_⟩
 have hk:0<E.k:=Nat.pos_of_ne_zero fun e=>by rw[e] at hlt;omega
 have e:=Nat.div_add_mod j E.k;rw[dC] at e;have h3:j / E.k<l.length:=(Nat.div_lt_iff_lt_mul hk).2 hlt;have h4:=Nat.mod_lt j hk;rw[<-e,<-Nat.add_assoc,hj _ h3 _ h4,mZ E l _ h3 _ h4]
theorem kG.keep(h:kG E w A l)(hb:Below w.heap.size w w'):kG E w' A l:=fun h0=>by
 obtain⟨g,off,hA,hg,hj⟩:=h h0;exact⟨g,off,hA,bF hg hb.size,fun j hj' i hi=>(hb.cell (p:=⟨g,off+j * E.k+i,none⟩) hg).trans (hj j hj' i hi)⟩
theorem kG.drop{A:Option Addr}(h:kG E w A l){g off:Nat}(hA:A=some ⟨g,off,none⟩)(k:Nat):kG E w (some ⟨g,off+k * E.k,none⟩) (l.drop k):=fun h0=>by
 rw[bu] at h0;obtain⟨g',off',hA',hg,hc⟩:=h ae
 rw[hA] at hA';injection hA' with hA';injection hA' with e1 e2;subst e1;subst e2;refine⟨g,_,rfl,hg,fun j hj i hi=>?_⟩
 rw[bu] at hj;rw[Nat.add_assoc off,<-Nat.add_mul,hc (k+j) ae i hi,List.getElem_drop]
theorem kG.nil:kG E w A []:=fun h=>absurd h ag
theorem dL.rd(h:dL E base w v l):iM E w v l:=Rd.uK h
theorem dL.nil_(base:Nat)(w:World):dL E base w (.slice none 0 0) []:=World.ownsRow_nil w base _ _
theorem dL.more{base':Nat}(h:dL E base w v l)(hb:base'<=base):dL E base' w v l:=by
 obtain⟨h1,h2⟩:=h;refine⟨h1,?_⟩
 rcases h2 with h2|⟨g,cap,cur,e1,e2,r⟩
 ·exact .inl h2
 ·exact .inr ⟨g,cap,cur,e1,ae,r⟩
theorem dL.stay(h:dL E base w v l)(hk:∀g,v.ownBlock=some g->w'.heap[g]?=w.heap[g]?):dL E base w' v l:=by
 obtain⟨h1,h2⟩:=h;refine⟨h1,?_⟩
 rcases h2 with h2|⟨g,cap,cur,rfl,e2,e3,r⟩
 ·exact .inl h2
 ·exact .inr ⟨g,cap,cur,rfl,e2,by rw[hk g rfl];exact e3,r⟩
theorem dL.lt(h:dL E base w v l):∀g,v.ownBlock=some g->base<=g/\g<w.heap.size:=World.ownsRow.lt h
theorem dL.keep(h:dL E base w v l)(hb:Below w.heap.size w w'):dL E base w' v l:=h.stay fun g hg=>hb.block g (h.lt g hg).2
theorem dL.drewN(h:dL E base w v l)(n:Nat):dL E base (w.drewN n) v l:=h
theorem dL.drew(h:dL E base w v l):dL E base w.drew v l:=h
theorem dL.alloc(h:dL E base w v l)(o:Obj):dL E base (w.alloc o) v l:=World.ownsRow.alloc h o
theorem dL.far(h:dL E base w v l){p:Addr}(hp:v.ownBlock≠some p.block)(u:Value):dL E base (w.setCell p u) v l:=
 h.stay fun g hg=>bM w p u g (fun e=>hp (by rw[hg,e]))
theorem dL.grown{row:Option Nat}(h:dL E base w v l)(hg:w.grownBy w' row)(hne:v.ownBlock=none\/v.ownBlock≠row):dL E base w' v l:=World.ownsRow.kept h hg hne
theorem dL.form(h:dL E base w v l):∃A c,v=.slice A l.length c/\l.length<=c/\c<=9223372036854775807/\kG E w A l:=h.rd.form
theorem dL.pos(h:dL E base w v l)(h0:0<l.length):∃g c,v=.slice (some ⟨g,0,none⟩) l.length c/\base<=g/\g<w.heap.size/\l.length<=c/\c<=9223372036854775807:=by
 rcases h.2 with⟨_,h2⟩|⟨g,cap,cur,rfl,e2,e3,e4,e5,_⟩
 ·omega
 ·exact⟨g,cap,rfl,e2,(h.lt g rfl).2,e4,by unfold maxLen at e5;omega⟩
theorem dL.cellAt{g c n:Nat}(h:dL E base w (.slice (some ⟨g,0,none⟩) n c) l){j:Nat}(hj:j<l.length)(i:Nat)(hi:i<E.k):w.cell? ⟨g,j * E.k+i,none⟩=(E.enc l[j])[i]?:=by
 have hn:n=l.length:=by
  obtain⟨A,c',hv,_⟩:=h.form;injection hv
 subst hn;have h1:(j+1) * E.k<=l.length * E.k:=Nat.mul_le_mul_right _ hj;rw[Nat.succ_mul] at h1;rw[World.ownsRow.cellAt h _ ae,mZ E l j hj i hi]
theorem dL.frozenAt{g c n:Nat}(h:dL E base w (.slice (some ⟨g,0,none⟩) n c) l)(j:Nat):w.frozen? ⟨g,j,none⟩=false:=by
 have hn:n=l.length:=by
  obtain⟨A,c',hv,_⟩:=h.form;injection hv
 subst hn;exact World.ownsRow.frozenAt h _
theorem Cm{t:TypeId}{k g c n:Nat}:∀(us xs:List Value) (w:World) (p:Nat),w.ownsRow base t k (.slice (some ⟨g,0,none⟩) n c) n xs->(stores w g p us).ownsRow base t k (.slice (some ⟨g,0,none⟩) n c) n (Ri xs p us)
 | [],_,_,_,h=>h
 | u::us,_xs,_w,p,h=>Cm us _ _ _ (World.ownsRow.stored h p u).1
theorem dL.dQ{g n:Nat}(h:dL E base w (.slice (some ⟨g,0,none⟩) n c) l)(j:Nat)(hj:j<l.length)(x:α):dL E base (stores w g (j * E.k) (E.enc x)) (.slice (some ⟨g,0,none⟩) n c) (l.set j x):=by
 have hn:n=l.length:=by
  obtain⟨A,c',hv,_⟩:=h.form;injection hv
 subst hn;have:=Cm (E.enc x) (cellsE E l) w (j * E.k) h;rw[FQ E l j hj x] at this;unfold dL;rw[bK];exact this
theorem dL.one(w:World)(x:α)(T:TypeId)(hT:T=E.t)(cs:Array Value)(hc:cs=(E.enc x).toArray):dL E w.heap.size (w.alloc (.cells cs T)) (.slice (some ⟨w.heap.size,0,none⟩) 1 1) [x]:=by
 subst hT;subst hc;have h:=World.ownsRow_lit (e:=E.t) (size:=E.k) w (E.enc x).toArray 1 (aS w.heap.size) (by unfold maxLen;omega) (by simp[E.len])
 unfold dL;rw[show cellsE E [x]=(E.enc x) by rw[gJ];simp]
 exact h
theorem iM.fK(w:World)(x:α)(T:TypeId)(hT:T=E.t)(cs:Array Value)(hc:cs=(E.enc x).toArray)(H:Nat)(h:w.heap.size=H):iM E (w.alloc (.cells cs T)) (.slice (some ⟨H,0,none⟩) 1 1) [x]:=by
 subst h;exact(dL.one w x T hT cs hc).rd
theorem dL.lit(w:World)(l:List α)(T:TypeId)(hT:T=E.t)(cs:Array Value)(hc:cs=(cellsE E l).toArray)(hl:l.length<=1099511627776):dL E w.heap.size (w.alloc (.cells cs T)) (.slice (some ⟨w.heap.size,0,none⟩) l.length l.length) l:=by
 subst hT;subst hc;have h:=World.ownsRow_lit (e:=E.t) (size:=E.k) w (cellsE E l).toArray l.length (aS w.heap.size) (by unfold maxLen;omega) (by simp[fC])
 unfold dL;exact h
end
section
variable {P : Program} {α : Type} (E : DN α)
theorem jJ{ts:TypeId}(i0:TypeInfo)(z:Value)(bytes:Nat)(ht:P.underlying ts=some (.slice E.t))(hi:P.info? E.t=some i0)(hz:i0.zero=some z)(hsz:i0.size=E.k)(hby:i0.bytes=bytes)(hzs:z.cells.size=E.k)(hk:0<E.k)(hb:bytes<=128)
 {w:World} {ops:Array Oper} {rest:List Oper} {o:Oper} {a:Act} {Q:Exit->Act->World->Prop} (hgd:o.guard=none) (s x:Operand)
 (ho:o.op=.call {callee:=.builtin .append,args:=#[s,x],argTypes:=#[ts,ts]})
 (base:Nat) (v:Value) (xs:List α) (hs:a.eval s=v) (hown:dL E base w v xs) (u:Value) (news:List α) (hx:a.eval x=u) (hr:iM E w u news) (hlen:xs.length+news.length<=1099511627776) (hbase:base<=w.heap.size)
 (h:∀v' w',dL E base w' v' (xs++news)->w.grownBy w' v.ownBlock->(v'.ownBlock=v.ownBlock\/v'.ownBlock=some w.heap.size)->wpList P ops Q rest (a.put o.dst v') w'):wpList P ops Q (o::rest) a w:=by
 obtain⟨A,c,rfl,_,_,_⟩:=hr.form;have h1:(xs.length+news.length) * bytes<=1099511627776 * 128:=Nat.mul_le_mul hlen hb;refine jX w hgd s x ts ho base E.t i0 z E.k bytes ht hi hz hsz hby hzs hk v xs.length (cellsE E xs) hs hown A news.length c (cellsE E news) hx hr (pO E news) (by unfold maxLen;omega) ae hbase fun v' w' h2 h3 h4=>h v' w' ?_ h3 h4
 unfold dL;rw[aQ,jd];exact h2
end
open Tryz
open Go.RowKit
section
variable {P : Program} {ops : Array Oper} {md : Region.Mode} {S : World -> Prop} {Q : Exit -> Act -> World -> Prop} {t : Nat}
variable{i id:Nat}{v:Value}{a a':Act}{w:World}{d:Bool}{r:List (Nat × Nat)}{o:Oper}
def wpAnyS(P:Program)(md:Region.Mode)(ops:Array Oper)(Q:Exit->Act->World->Prop)(S:World->Prop)(t:Nat):Nat->Array Bool->Act->World->Prop
 | 0,listed,a,w=>Region.ready md ops listed=[]/\Q .normal a w
 | f+1,listed,a,w=>
  (Region.ready md ops listed=[]->Q .normal a w) /\
  ∀i∈Region.ready md ops listed,wpOp P ops Q i (fun a' w'=>((listed.setIfInBounds i true).getD t true=false->S w')/\wpAnyS P md ops Q S t f (listed.setIfInBounds i true) a' w') a w
theorem xY:∀(f:Nat) (listed:Array Bool) (a:Act) (w:World),wpAnyS P md ops Q S t f listed a w->wpAny P md ops Q f listed a w
 | 0,_,_,_,h=>h
 | f+1,_,_,_,h=>⟨h.1,fun i hi=>wpOp_mono (fun a' w' h'=>xY f _ a' w' h'.2) (h.2 i hi)⟩
def ax0(md:Region.Mode)(ops:Array Oper)(t i:Nat):Prop:=∃o,ops[t]?=some o/\∃e∈o.after,Region.binds md e=true/\e.on=i
theorem wpAnyS_first{oi:Oper}{S0:World->Prop}(hit:i≠t)(hi:ops[i]?=some oi)(hsel:∀(j:Nat) (o:Oper) cs b,ops[j]?=some o->o.op≠.select cs b)
 (hQ:∀c a w,Q (.panic c) (a.put oi.dst v) w->Q (.panic c) a w) :
 ∀(fuel:Nat) (listed:Array Bool) (a:Act) (w:World),
  (∀j oj,ops[j]?=some oj->j≠i->listed.getD j true=false->(∀e∈oj.after,Region.binds md e=true->e.on≠i)->oi.apart ops oj=true) ->
  i∈Region.ready md ops listed->YieldsIf P ops S0 oi v a->(listed.getD t true=false->S w) ->
  ((∀w,S0 w)\/((∀w,S w->S0 w)/\listed.getD t true=false/\ax0 md ops t i)) ->
  wpAnyS P md ops Q S t fuel (listed.setIfInBounds i true) (a.put oi.dst v) w->wpAnyS P md ops Q S t (fuel+1) listed a w:=by
 intro fuel
 induction fuel with
 | zero=>
  intro listed a w _ hr hy hS hk H;have h0:S0 w:=by
   rcases hk with hk|⟨h1,h2,_⟩
   ·exact hk w
   ·exact h1 w (hS h2)
  refine⟨fun h=>(by rw[h] at hr;cases hr),fun j hj=>?_⟩
  by_cases hji:j=i
  ·subst hji;exact hy.wpOp hi h0 ⟨fun h=>hS (by rwa [getD_set_ne true hit] at h),H⟩
  ·have:=ready_mono hj hji
   rw[H.1] at this
   cases this
 | succ fuel ih=>
  intro listed a w hfree hr hy hS hk H;have h0:S0 w:=by
   rcases hk with hk|⟨h1,h2,_⟩
   ·exact hk w
   ·exact h1 w (hS h2)
  refine⟨fun h=>(by rw[h] at hr;cases hr),fun j hj=>?_⟩
  by_cases hji:j=i
  ·subst hji;exact hy.wpOp hi h0 ⟨fun h=>hS (by rwa [getD_set_ne true hit] at h),H⟩
  ·have h1:=H.2 j (ready_mono hj hji)
   obtain⟨hjun,oj,hoj,hall⟩:=mem_ready.1 hj;have hnot:∀e∈oj.after,Region.binds md e=true->e.on≠i:=fun e he hb heq=>by
    have h1:=hall e he hb;have h0:=(mem_ready.1 hr).1;rw[heq] at h1
    rcases bV i listed.size with h'|h'
    ·simp[h'] at h0 h1;rw[h0] at h1;cases h1
    ·simp[Array.getElem?_eq_none h'] at h1
   have h2:=wpOp_putIf hoj (hfree j oj hoj hji hjun hnot) (fun cs b=>hsel i oi cs b hi) (fun cs b=>hsel j oj cs b hoj) hQ hy h1
   have hfree':∀k ok,ops[k]?=some ok->k≠i->(listed.setIfInBounds j true).getD k true=false ->
    (∀e∈ok.after,Region.binds md e=true->e.on≠i)->oi.apart ops ok=true:=fun k ok hk hki hun hno=>by
    refine hfree k ok hk hki ?_ hno
    by_cases hjk:j=k
    ·subst hjk;exact hjun
    ·rw[getD_set_ne true hjk] at hun;exact hun
   have hk':(∀w,S0 w)\/((∀w,S w->S0 w)/\(listed.setIfInBounds j true).getD t true=false/\ax0 md ops t i):=by
    rcases hk with hk|⟨k1,k2,k3⟩
    ·exact .inl hk
    ·refine .inr ⟨k1,?_,k3⟩
     have hjt:j≠t:=by
      rintro rfl;obtain⟨o,ho,e,he,hb,hon⟩:=k3;rw[hoj] at ho;injection ho with ho;subst ho;exact hnot e he hb hon
     rw[getD_set_ne true hjt];exact k2
   refine wpOp_mono (fun a' w' h3=>?_) h2
   have hS':(listed.setIfInBounds j true).getD t true=false->S w':=fun h=>h3.2.1 (by rw[Array.setIfInBounds_comm _ _ (Ne.symm hji),getD_set_ne true hit];exact h)
   refine⟨hS',ih (listed.setIfInBounds j true) a' w' hfree' (ready_mono hr (Ne.symm hji)) h3.1 hS' hk' ?_⟩
   rw[Array.setIfInBounds_comm _ _ hji];exact h3.2.2
def qL(md:Region.Mode)(ops:Array Oper)(t:Nat):List (Nat × Nat)->Array Bool->Bool
 | [],listed=>(Region.ready md ops listed).isEmpty
 | (i,0)::r,listed=>decide (Region.ready md ops listed=[i]) && qL md ops t r (listed.setIfInBounds i true)
 | (i,1)::r,listed=>(Region.ready md ops listed).contains i && Region.free md ops listed i && decide (i≠t) && (listed.getD t true == false) && Region.waitsFor md ops t i && qL md ops t r (listed.setIfInBounds i true)
 | (i,_+2)::r,listed=>(Region.ready md ops listed).contains i && Region.free md ops listed i && decide (i≠t) && qL md ops t r (listed.setIfInBounds i true)
def fV(P:Program)(ops:Array Oper)(Q:Exit->Act->World->Prop)(S:World->Prop)(t:Nat):Bool->List (Nat × Nat)->Act->World->Prop
 | _,[],a,w=>Q .normal a w
 | d,(i,0)::r,a,w=>wpOp P ops Q i (fun a' w'=>((d || i == t)=false->S w')/\fV P ops Q S t (d || i == t) r a' w') a w
 | d,(i,1)::r,a,w=>∃o v,ops[i]?=some o/\YieldsIf P ops S o v a/\fV P ops Q S t d r (a.put o.dst v) w
 | d,(i,_+2)::r,a,w=>∃o v,ops[i]?=some o/\YieldsIf P ops (fun _=>True) o v a/\fV P ops Q S t d r (a.put o.dst v) w
theorem qG(hsel:Region.noSelect ops=true)(hQ:∀c a w,¬Q (.panic c) a w):∀(l:List (Nat × Nat)) (d:Bool) (listed:Array Bool) (a:Act) (w:World),qL md ops t l listed=true->listed.getD t true=d->(d=false->S w) ->
 fV P ops Q S t d l a w->wpAnyS P md ops Q S t l.length listed a w
 | [],d,listed,a,w,hB,_,_,h=>⟨by simpa[qL] using hB,h⟩
 | (i,1)::r,d,listed,a,w,hB,hd,hS,h=>by
  simp only[qL,Bool.and_eq_true,decide_eq_true_eq,beq_iff_eq] at hB;obtain⟨⟨⟨⟨⟨h1,h2⟩,h3⟩,h4⟩,h5⟩,h6⟩:=hB;obtain⟨o,v,ho,hy,hn⟩:=h;exact wpAnyS_first h3 ho (Region.noSelect_spec hsel) (fun c a w hp=>absurd hp (hQ c _ w)) _ listed a w (Region.free_spec ho h2) (by simpa using h1) hy (fun h=>hS (by rw[<-hd];exact h))
   (.inr ⟨fun _ h=>h,h4,Region.waitsFor_spec h5⟩) (qG hsel hQ r d _ _ w h6 (by rw[getD_set_ne true h3];exact hd) hS hn)
 | (i,_+2)::r,d,listed,a,w,hB,hd,hS,h=>by
  simp only[qL,Bool.and_eq_true,decide_eq_true_eq] at hB;obtain⟨⟨⟨h1,h2⟩,h3⟩,h6⟩:=hB;obtain⟨o,v,ho,hy,hn⟩:=h;exact wpAnyS_first h3 ho (Region.noSelect_spec hsel) (fun c a w hp=>absurd hp (hQ c _ w)) _ listed a w (Region.free_spec ho h2) (by simpa using h1) hy (fun h=>hS (by rw[<-hd];exact h))
   (.inl fun _=>trivial) (qG hsel hQ r d _ _ w h6 (by rw[getD_set_ne true h3];exact hd) hS hn)
 | (i,0)::r,d,listed,a,w,hB,hd,hS,h=>by
  simp only[qL,Bool.and_eq_true,decide_eq_true_eq] at hB;refine⟨fun h0=>(by rw[hB.1] at h0;cases h0),fun j hj=>?_⟩
  have hin:=mem_ready.1 hj;rw[hB.1] at hj;have hji:j=i:=by simpa using hj
  subst hji;have hd':(listed.setIfInBounds j true).getD t true=(d || j == t):=by
   by_cases hjt:j=t
   ·subst hjt
    have hlt:j<listed.size:=by
     rcases bV j listed.size with h'|h'
     ·exact h'
     ·have:=hin.1;simp[Array.getElem?_eq_none h'] at this
    simp[hlt]
   ·rw[getD_set_ne true hjt,hd];simp[hjt]
  exact wpOp_mono (fun a' w' h'=>⟨fun h0=>h'.1 (by rw[<-hd'];exact h0),qG hsel hQ r _ _ a' w' hB.2 hd' h'.1 h'.2⟩) h
theorem DR(S:World->Prop)(t:Nat)(l:List (Nat × Nat))(hm:P.follows .mixedOrders=true)
 (hB:(Region.noSelect ops && decide (l.length=ops.size) && decide (t<ops.size) && qL .any ops t l (Array.replicate ops.size false))=true)
 (hS:S w.drew) (h:fV P ops (Calm Q) S t false l a w.drew):(Code.region id ops true).wp P Q a w:=by
 simp only[Bool.and_eq_true,decide_eq_true_eq] at hB;obtain⟨⟨⟨h1,h2⟩,h3⟩,h4⟩:=hB;have H:=qG (Q:=Calm Q) h1 (fun _ _ _ h=>h) l false _ a _ h4 (by simp[h3]) (fun _=>hS) h
 rw[h2] at H;exact Code.wp_mono Calm.imp (wp_region_any hm (xY _ _ _ _ H))
theorem KG(ho:ops[i]?=some o)(hw:Region.wanted o (yielded ops a.tmps)=true)
 (h:∀R:Act->Prop,(∀a',fV P ops Q S t d r a' w->R a')->∃v,(∀w',S w'->uj v w' ((execOp a.eval o).run P w'))/\R (a.put o.dst v)):fV P ops Q S t d ((i,1)::r) a w:=by
 obtain⟨v,h1,h2⟩:=h _ (fun _ h=>h)
 refine⟨o,v,ho,.inl ⟨hw,fun w' hS=>?_⟩,h2⟩
 have h3:=h1 w' hS;generalize (execOp a.eval o).run P w'=x at *
 cases x with
 | ok n w''=>obtain⟨rfl,rfl⟩:=h3;rfl
 | halt x w''=>exact h3.elim
theorem KH(ho:ops[i]?=some o)(hw:Region.wanted o (yielded ops a.tmps)=true)
 (h:∀R:Act->Prop,(∀a',fV P ops Q S t d r a' w->R a')->∃v,(∀w',uj v w' ((execOp a.eval o).run P w'))/\R (a.put o.dst v)):fV P ops Q S t d ((i,2)::r) a w:=by
 obtain⟨v,h1,h2⟩:=h _ (fun _ h=>h)
 refine⟨o,v,ho,.inl ⟨hw,fun w' _=>?_⟩,h2⟩
 have h3:=h1 w';generalize (execOp a.eval o).run P w'=x at *
 cases x with
 | ok n w''=>obtain⟨rfl,rfl⟩:=h3;rfl
 | halt x w''=>exact h3.elim
theorem Rj(hit:(i == t)=false)(ho:ops[i]?=some o)(hw:Region.wanted o (yielded ops a.tmps)=true)
 (h:∀K:Act->World->Prop,(∀a' w',S w'->fV P ops Q S t d r a' w'->K a' w')->o.wp P a w K Q):fV P ops Q S t d ((i,0)::r) a w:=by
 unfold fV wpOp;simp only[ho,hw,if_true,hit,Bool.or_false];exact .inl (h _ fun _ _ h1 h2=>⟨fun _=>h1,h2⟩)
theorem NQ(hd:(d || i == t)=true)(ho:ops[i]?=some o)(hw:Region.wanted o (yielded ops a.tmps)=true)
 (h:∀K:Act->World->Prop,(∀a' w',fV P ops Q S t true r a' w'->K a' w')->o.wp P a w K Q):fV P ops Q S t d ((i,0)::r) a w:=by
 unfold fV wpOp;simp only[ho,hw,if_true,hd];exact .inl (h _ fun _ _ h2=>⟨fun h=>(by cases h),h2⟩)
theorem ja(h:Q .normal a w):fV P ops (Calm Q) S t d [] a w:=h
def KI:Nat->Nat->List (Nat × Nat)->List (Nat × Nat)
 | _,0,r=>r
 | i,n+1,r=>(i,1)::KI (i+1) n r
def plp:Nat->Nat->List (Nat × Nat)->List (Nat × Nat)
 | _,0,r=>r
 | i,n+1,r=>(i,2)::plp (i+1) n r
def KJ(i:Nat)(r:List (Nat × Nat)):List (Nat × Nat):=(i,0)::r
theorem uF(k:fV P ops Q S t d r a' w)(ho:ops[i]?=some o:=by rfl)(hw:Region.wanted o (yielded ops a.tmps)=true:=by rfl)
 (h:∀w',S w'->uj v w' ((execOp a.eval o).run P w'):=by
  intro w' hS'
  first
  | (have q:=mW.o w' hS';(repeat ((with_reducible have q1:=And.left q);(with_reducible replace q:=And.right q)));go_simp;exact⟨rfl,rfl⟩)
  | (go_simp;exact⟨rfl,rfl⟩))
 (he:∀R:Act->Prop,R a'->R (a.put o.dst v):=by intro R hR;go_simp;exact hR):fV P ops Q S t d ((i,1)::r) a w:=
 KG ho hw fun R hR=>⟨v,h,he R (hR _ k)⟩
theorem Rl(k:fV P ops Q S t d r a' w)(ho:ops[i]?=some o:=by rfl)(hw:Region.wanted o (yielded ops a.tmps)=true:=by rfl)
 (h:∀w',uj v w' ((execOp a.eval o).run P w'):=by intro w';go_simp;exact⟨rfl,rfl⟩)
 (he:∀R:Act->Prop,R a'->R (a.put o.dst v):=by intro R hR;go_simp;exact hR):fV P ops Q S t d ((i,2)::r) a w:=
 KH ho hw fun R hR=>⟨v,h,he R (hR _ k)⟩
theorem Iq(h:∀K:Act->World->Prop,(∀a' w',S w'->fV P ops Q S t d r a' w'->K a' w')->o.wp P a w K Q)(hit:(i == t)=false:=by rfl)(ho:ops[i]?=some o:=by rfl)(hw:Region.wanted o (yielded ops a.tmps)=true:=by rfl):fV P ops Q S t d ((i,0)::r) a w:=Rj hit ho hw h
theorem KN(h:∀K:Act->World->Prop,(∀a' w',fV P ops Q S t true r a' w'->K a' w')->o.wp P a w K Q)(hd:(d || i == t)=true:=by rfl)(ho:ops[i]?=some o:=by rfl)(hw:Region.wanted o (yielded ops a.tmps)=true:=by rfl):fV P ops Q S t d ((i,0)::r) a w:=NQ hd ho hw h
theorem KO(S:World->Prop)(t:Nat)(l:List (Nat × Nat))(hS:S w.drew)(h:fV P ops (Calm Q) S t false l a w.drew)(hm:P.follows .mixedOrders=true:=by kernel_rfl)
 (hB:(Region.noSelect ops && decide (l.length=ops.size) && decide (t<ops.size) && qL .any ops t l (Array.replicate ops.size false))=true:=by kernel_rfl):(Code.region id ops true).wp P Q a w:=DR S t l hm hB hS h
end
end Go.Proofs.YtilcnjbpmoijmaaGreat
namespace Go.Proofs.YtilcnjbpmoijmaaGreat.D
open Tryz
open Go.RowKit
structure Ty(P:Program){α:Type}(E:DN α)(ts:TypeId):Prop where
 sl:P.underlying ts=some (.slice E.t)
 inf:∃i z b,P.info? E.t=some i/\i.zero=some z/\i.size=E.k/\i.bytes=b/\z.cells.size=E.k/\0<E.k/\b<=128
theorem CQ{P:Program}{α:Type}{E:DN α}{ts:TypeId}{z:Value}{b:Nat}(h:(P.info? E.t).map (fun i=>(i.zero,i.size,i.bytes))=some (some z,E.k,b))(sl:P.underlying ts=some (.slice E.t))(hz:z.cells.size=E.k)(hk:0<E.k)(hb:b<=128):Ty P E ts:=by
 obtain⟨i0,hi0,hiz,his,hib⟩:=info_parts h;exact⟨sl,i0,z,b,hi0,hiz,his,hib,hz,hk,hb⟩
section
variable {P : Program} {α : Type} {E : DN α} {ts : TypeId} {w : World} {base : Nat} {v : Value} {xs : List α}
variable{o:Oper}{a:Act}{Q:Exit->Act->World->Prop}{g:Nat}{T:TypeId}{cs:Array Value}{w':World}
theorem uk(T:Ty P E ts){ops:Array Oper}{rest:List Oper}(hgd:o.guard=none)(s x:Operand)
 (ho:o.op=.call {callee:=.builtin .append,args:=#[s,x],argTypes:=#[ts,ts]}) (hown:dL E base w v xs) (hs:a.eval s=v) (u:Value) (news:List α) (hx:a.eval x=u) (hr:iM E w u news) (hlen:xs.length+news.length<=1099511627776) (hbase:base<=w.heap.size)
 (h:∀v' w',dL E base w' v' (xs++news)->w.grownBy w' v.ownBlock->(v'.ownBlock=v.ownBlock\/v'.ownBlock=some w.heap.size)->wpList P ops Q rest (a.put o.dst v') w'):wpList P ops Q (o::rest) a w:=by
 obtain⟨sl,i,z,b,h1,h2,h3,h4,h5,h6,h7⟩:=T;exact jJ E i z b sl h1 h2 h3 h4 h5 h6 h7 hgd s x ho base v xs hs hown u news hx hr hlen hbase h
theorem Rn(T:Ty P E ts){K:Act->World->Prop}(s x:Operand)
 (ho:o.op=.call {callee:=.builtin .append,args:=#[s,x],argTypes:=#[ts,ts]}) (hown:dL E base w v xs) (hs:a.eval s=v) (u:Value) (news:List α) (hx:a.eval x=u) (hr:iM E w u news) (hlen:xs.length+news.length<=1099511627776) (hbase:base<=w.heap.size)
 (h:∀v' w',dL E base w' v' (xs++news)->w.grownBy w' v.ownBlock->(v'.ownBlock=v.ownBlock\/v'.ownBlock=some w.heap.size)->K (a.put o.dst v') w'):o.wp P a w K Q:=by
 obtain⟨sl,i,z,b,h1,h2,h3,h4,h5,h6,h7⟩:=T;obtain⟨A,c,rfl,_,_,_⟩:=hr.form;have h8:(xs.length+news.length) * b<=1099511627776 * 128:=Nat.mul_le_mul hlen h7;refine oq w s x ts ho base E.t i z E.k b sl h1 h2 h3 h4 h5 h6 v xs.length (cellsE E xs) hs hown A news.length c (cellsE E news) hx hr (pO E news) (by unfold maxLen;omega) ae hbase fun v' w' h2 h3 h4=>h v' w' ?_ h3 h4
 unfold dL;rw[aQ,jd];exact h2
theorem own_ne(hB:dK w g T cs)(hO:dL E base w v xs)(ht:T≠E.t):v.ownBlock≠some g:=by
 intro e
 rcases hO.2 with h2|⟨g',cap,cur,rfl,e2,e3,r⟩
 ·rw[h2.1] at e;cases e
 ·cases e
  unfold dK at hB;rw[hB] at e3
  cases e3
  exact ht rfl
theorem fH(hB:dK w g T cs)(hO:dL E base w v xs)(ht:T≠E.t)(hg:w.grownBy w' v.ownBlock):dK w' g T cs:=
 (hg.block g hB.lt (fun e=>own_ne hB hO ht e.symm)).trans hB
theorem ve{i:Nat}{v':Value}{ys:List α}(hB:dK w g T cs)(hO:dL E base w v xs)(ht:T≠E.t)(hg:w.grownBy w' v.ownBlock)(hO':dL E base w' v' ys) :
 dK (w'.setCell ⟨g,i,none⟩ v') g T (cs.setIfInBounds i v')/\dL E base (w'.setCell ⟨g,i,none⟩ v') v' ys:=
 have hB':=fH hB hO ht hg
 ⟨hB'.dQ i v',hO'.far (own_ne hB' hO' ht) _⟩
end
variable{v:Value}{F:Nat->Prop}{w w':World}{k:Nat}
theorem AY{v':Value}{z:Nat}(h:v'.ownBlock=v.ownBlock\/v'.ownBlock=some z)(k:Nat)(e:v'.ownBlock=some k):v.ownBlock=some k\/z<=k:=by
 rcases h with h|h
 ·exact .inl (h▸e)
 ·rw[h] at e;injection e with e;exact .inr ae
theorem dO(h:Touch F w w')(o:Nat)(hk:k<w.heap.size)(hF:¬F k):w'.cell? ⟨k,o,none⟩=w.cell? ⟨k,o,none⟩:=cZ (a:=⟨k,o,none⟩) (h.block k hk hF)
theorem qZ(h:Touch F w w')(o:Nat)(hk:k<w.heap.size)(hF:¬F k):w'.frozen? ⟨k,o,none⟩=w.frozen? ⟨k,o,none⟩:=World.frozen?_of_block (a:=⟨k,o,none⟩) (h.block k hk hF)
theorem KP{α:Type}{E:DN α}{base g:Nat}{xs:List α}(h:dL E base w v xs)(hg:w.heap.size<=g):v.ownBlock≠some g:=fun e=>by have:=(h.lt g e).2;omega
end Go.Proofs.YtilcnjbpmoijmaaGreat.D
