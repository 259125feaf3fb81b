/- Parts of a proof: what its theorem reaches, words cut short. No condition of its own. -/
import Derived.Test.YtilcnjbpmoijmaaGreatPs01
set_option maxRecDepth 100000
set_option maxHeartbeats 16000000
set_option linter.unusedVariables false
set_option linter.unusedSimpArgs false
namespace Go.Proofs.YtilcnjbpmoijmaaGreat
open Go.RowKit
def Rd(sz:Nat)(w:World)(v:Value)(n:Nat)(xs:List Value):Prop:=
 xs.length=n * sz/\∃A c,v=.slice A n c/\n<=c/\c<=maxLen/\(0<n->∃g off,A=some ⟨g,off,none⟩/\g<w.heap.size/\∀j,j<n * sz->w.cell? ⟨g,off+j,none⟩=xs[j]?)
section
variable {w w' : World} {sz n : Nat} {v : Value} {xs : List Value}
theorem Rd.keep(h:Rd sz w v n xs)(hb:Below w.heap.size w w'):Rd sz w' v n xs:=by
 obtain⟨hl,A,c,hv,hn,hc,hd⟩:=h
 refine⟨hl,A,c,hv,hn,hc,fun h0=>?_⟩
 obtain⟨g,off,hA,hg,hj⟩:=hd h0
 exact⟨g,off,hA,Nat.lt_of_lt_of_le hg hb.size,fun j h=>(hb.cell (p:=⟨g,off+j,none⟩) hg).trans (hj j h)⟩
theorem Rd.pos(h:Rd sz w v n xs)(h0:0<n):∃g off c,v=.slice (some ⟨g,off,none⟩) n c/\n<=c/\c<=maxLen/\g<w.heap.size/\∀j,j<n * sz->w.cell? ⟨g,off+j,none⟩=xs[j]?:=by
 obtain⟨hl,A,c,hv,hn,hc,hd⟩:=h
 obtain⟨g,off,rfl,hg,hj⟩:=hd h0
 exact⟨g,off,c,hv,hn,hc,hg,hj⟩
theorem Rd.nil_(w:World)(sz:Nat):Rd sz w (.slice none 0 0) 0 []:=⟨by simp,none,0,rfl,Nat.le_refl _,by unfold maxLen;omega,fun h=>absurd h (by omega)⟩
theorem Rd.of_own{base:Nat}{e:TypeId}(h:w.ownsRow base e sz v n xs):Rd sz w v n xs:=by
 refine⟨h.1,?_⟩
 rcases h.2 with⟨rfl,rfl⟩|⟨g,cap,cur,rfl,hb,hh,hn,hc,_,_⟩
 ·exact⟨none,0,rfl,Nat.le_refl _,by unfold maxLen;omega,fun h=>absurd h (by omega)⟩
 ·refine⟨_,cap,rfl,hn,hc,fun _=>⟨g,0,rfl,?_,fun j hj=>?_⟩⟩
  ·exact(h.lt g rfl).2
  ·rw[Nat.zero_add];exact h.cellAt j hj
end
theorem size_drewN(w:World)(n:Nat):(w.drewN n).heap.size=w.heap.size:=rfl
structure Touch(F:Nat->Prop)(w w':World):Prop where
 os:w'.os=w.os
 tape:w'.tape=w.tape
 output:w'.output=w.output
 size:w.heap.size<=w'.heap.size
 block:∀k,k<w.heap.size->¬F k->w'.heap[k]?=w.heap[k]?
section
variable {F G : Nat -> Prop} {a b c w w' : World}
theorem Touch.refl(F:Nat->Prop)(w:World):Touch F w w:=⟨rfl,rfl,rfl,Nat.le_refl _,fun _ _ _=>rfl⟩
theorem Touch.trans(h:Touch F a b)(k:Touch G b c)(hG:∀i,G i->F i\/a.heap.size<=i):Touch F a c:=
 ⟨k.os.trans h.os,k.tape.trans h.tape,k.output.trans h.output,Nat.le_trans h.size k.size,fun i hi hf=>
  (k.block i (Nat.lt_of_lt_of_le hi h.size) (fun hg=>by rcases hG i hg with h1|h1;exact hf h1;omega)).trans (h.block i hi hf)⟩
theorem Touch.mono(h:Touch F w w')(hG:∀i,F i->G i):Touch G w w':=⟨h.os,h.tape,h.output,h.size,fun i hi hg=>h.block i hi (fun hf=>hg (hG i hf))⟩
theorem Touch.of_below{B:Nat}(h:Below B w w')(hB:w.heap.size<=B):Touch F w w':=⟨h.os,h.tape,h.output,h.size,fun i hi _=>h.block i (by omega)⟩
theorem Touch.below{B:Nat}(h:Touch F w w')(hF:∀i,F i->B<=i)(hB:B<=w.heap.size):Below B w w':=⟨h.os,h.tape,h.output,h.size,fun i hi=>h.block i (by omega) (fun hf=>by have:=hF i hf;omega)⟩
theorem Touch.alloc(h:Touch F a w)(o:Obj):Touch F a (w.alloc o):=h.trans (Touch.of_below (F:=fun _=>False) ((Below.refl _ _).alloc (Nat.le_refl _) o) (Nat.le_refl _)) (fun _ hf=>hf.elim)
theorem Touch.drew(h:Touch F a w):Touch F a w.drew:=⟨h.os,h.tape,h.output,h.size,h.block⟩
theorem Touch.drewN(h:Touch F a w)(n:Nat):Touch F a (w.drewN n):=⟨h.os,h.tape,h.output,h.size,h.block⟩
theorem Touch.setCell(h:Touch F a w){p:Addr}(hp:F p.block\/a.heap.size<=p.block)(u:Value):Touch F a (w.setCell p u):=
 ⟨h.os,h.tape,h.output,by simpa using h.size,fun i hi hf=>(Below.heap_setCell w p u i (by rintro rfl;rcases hp with hp|hp;exact hf hp;omega)).trans (h.block i hi hf)⟩
theorem Touch.grown(h:Touch F a w){row:Option Nat}(hg:w.grownBy w' row)(hr:∀k,row=some k->F k\/a.heap.size<=k):Touch F a w':=
 ⟨hg.os.trans h.os,hg.tape.trans h.tape,hg.output.trans h.output,Nat.le_trans h.size hg.size,fun i hi hf=>(hg.block i (Nat.lt_of_lt_of_le hi h.size) (fun e=>by rcases hr i e.symm with h1|h1;exact hf h1;omega)).trans (h.block i hi hf)⟩
end
section
variable {P : Program} (w : World)
theorem run_append_of_nil(base:Nat)(t ty e:TypeId)(i:TypeInfo)(size:Nat)(ht:P.underlying t=some (.slice e))(hi:P.info? e=some i)
 (v:Value) (n:Nat) (xs:List Value) (hown:w.ownsRow base e size v n xs) (c:Nat):(Builtin.append_ #[t,t] ty #[v,.slice none 0 c]).run P w=.ok v w:=by
 rcases hown.2 with⟨rfl,rfl⟩|⟨g,cap,cur,rfl,_,_,hnc,_⟩
 ·simp[Builtin.append_,run_underlying ht,sizeOf,typeInfo,hi,Builtin.lenOf,Builtin.firstCells]
 ·simp[Builtin.append_,run_underlying ht,sizeOf,typeInfo,hi,Builtin.lenOf,Builtin.firstCells,hnc,storeCells]
theorem run_append_rd(base:Nat)(t ty e:TypeId)(i:TypeInfo)(z:Value)(size bytes:Nat)(ht:P.underlying t=some (.slice e))(hi:P.info? e=some i)(hz:i.zero=some z)
 (hsize:i.size=size) (hby:i.bytes=bytes) (hzs:z.cells.size=size) (hsz:0<size)
 (v:Value) (n:Nat) (xs:List Value) (hown:w.ownsRow base e size v n xs)
 (A:Option Addr) (m c:Nat) (news:List Value) (hr:Rd size w (.slice A m c) m news) (h1:∀u∈news,u.oneCell'=true)
 (h63:n+m<=maxLen) (hbytes:(n+m) * bytes<=140737488355328) (hbase:base<=w.heap.size) :
 ∃v' w',(Builtin.append_ #[t,t] ty #[v,.slice A m c]).run P w=.ok v' w'/\w'.ownsRow base e size v' (n+m) (xs++news)/\w.grownBy w' v.ownBlock /\
  (v'.ownBlock=v.ownBlock\/v'.ownBlock=some w.heap.size):=by
 rcases A with _|ad
 ·have hm:m=0:=by
   rcases Nat.eq_zero_or_pos m with h0|h0
   ·exact h0
   ·obtain⟨g,off,c',h,_⟩:=hr.pos h0
    cases h
  subst hm
  have hn:news=[]:=List.eq_nil_of_length_eq_zero (by simpa using hr.1)
  subst hn
  exact⟨v,w,run_append_of_nil w base t ty e i size ht hi v n xs hown c,by simpa using hown,World.grownBy.refl w _,.inl rfl⟩
 ·have hcells:∀j u,news[j]?=some u->w.cell? (ad.add j)=some u:=by
   intro j u hu
   rcases Nat.eq_zero_or_pos m with h0|h0
   ·subst h0
    have hn:news=[]:=List.eq_nil_of_length_eq_zero (by simpa using hr.1)
    subst hn
    simp at hu
   ·obtain⟨g,off,c',h,_,_,_,hc⟩:=hr.pos h0
    injection h with h
    injection h with h
    subst h
    have hj:j<news.length:=by
     rcases Nat.lt_or_ge j news.length with h|h
     ·exact h
     ·rw[List.getElem?_eq_none h] at hu;cases hu
    have:=hc j (by rw[<-hr.1];exact hj)
    rw[hu] at this
    unfold Addr.add
    split
    ·rename_i h0;have h0':j=0:=by simpa using h0
     subst h0';simpa using this
    ·exact this
  obtain⟨v',w',hrun,h2,h3,_,h5⟩:=run_append_own_at (P:=P) w base t ty e i z size bytes ht hi hz hsize hby hzs hsz v n xs hown ad m c news hr.1 hcells h1 h63 hbytes hbase
  exact⟨v',w',hrun,h2,h3,h5⟩
theorem wp_append_rd{o:Oper}{a:Act}{K:Act->World->Prop}{Q:Exit->Act->World->Prop}(s x:Operand)(t:TypeId)
 (ho:o.op=.call {callee:=.builtin .append,args:=#[s,x],argTypes:=#[t,t]})
 (base:Nat) (e:TypeId) (i:TypeInfo) (z:Value) (size bytes:Nat) (ht:P.underlying t=some (.slice e)) (hi:P.info? e=some i) (hz:i.zero=some z)
 (hsize:i.size=size) (hby:i.bytes=bytes) (hzs:z.cells.size=size) (hsz:0<size)
 (v:Value) (n:Nat) (xs:List Value) (hs:a.eval s=v) (hown:w.ownsRow base e size v n xs)
 (A:Option Addr) (m c:Nat) (news:List Value) (hx:a.eval x=.slice A m c) (hr:Rd size w (.slice A m c) m news) (h1:∀u∈news,u.oneCell'=true)
 (h63:n+m<=maxLen) (hbytes:(n+m) * bytes<=140737488355328) (hbase:base<=w.heap.size)
 (h:∀v' w',w'.ownsRow base e size v' (n+m) (xs++news)->w.grownBy w' v.ownBlock->(v'.ownBlock=v.ownBlock\/v'.ownBlock=some w.heap.size)->K (a.put o.dst v') w'):o.wp P a w K Q:=by
 obtain⟨v',w',hrun,h2,h3,h4⟩:=run_append_rd (P:=P) w base t o.type e i z size bytes ht hi hz hsize hby hzs hsz v n xs hown A m c news hr h1 h63 hbytes hbase
 unfold Oper.wp execOp
 simp only[ho,resolve,invoke,builtin,Sem.run_bind,Sem.run_pure,Result.andThen_ok,List.map_toArray,List.map_cons,List.map_nil,hs,hx,hrun]
 exact h v' w' h2 h3 h4
theorem wpList_append_rd{ops:Array Oper}{rest:List Oper}{o:Oper}{a:Act}{Q:Exit->Act->World->Prop}(hgd:o.guard=none)(s x:Operand)(t:TypeId)
 (ho:o.op=.call {callee:=.builtin .append,args:=#[s,x],argTypes:=#[t,t]})
 (base:Nat) (e:TypeId) (i:TypeInfo) (z:Value) (size bytes:Nat) (ht:P.underlying t=some (.slice e)) (hi:P.info? e=some i) (hz:i.zero=some z)
 (hsize:i.size=size) (hby:i.bytes=bytes) (hzs:z.cells.size=size) (hsz:0<size)
 (v:Value) (n:Nat) (xs:List Value) (hs:a.eval s=v) (hown:w.ownsRow base e size v n xs)
 (A:Option Addr) (m c:Nat) (news:List Value) (hx:a.eval x=.slice A m c) (hr:Rd size w (.slice A m c) m news) (h1:∀u∈news,u.oneCell'=true)
 (h63:n+m<=maxLen) (hbytes:(n+m) * bytes<=140737488355328) (hbase:base<=w.heap.size)
 (h:∀v' w',w'.ownsRow base e size v' (n+m) (xs++news)->w.grownBy w' v.ownBlock->(v'.ownBlock=v.ownBlock\/v'.ownBlock=some w.heap.size)->wpList P ops Q rest (a.put o.dst v') w'):wpList P ops Q (o::rest) a w:=
 wpList_plain hgd fun _ hK=>wp_append_rd w s x t ho base e i z size bytes ht hi hz hsize hby hzs hsz v n xs hs hown A m c news hx hr h1 h63 hbytes hbase fun v' w' h2 h3 h4=>hK _ _ (h v' w' h2 h3 h4)
end
end Go.Proofs.YtilcnjbpmoijmaaGreat
