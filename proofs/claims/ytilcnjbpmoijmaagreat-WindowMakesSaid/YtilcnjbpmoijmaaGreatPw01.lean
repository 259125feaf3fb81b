/- Parts of a proof. No condition. -/
import Derived.Test.YtilcnjbpmoijmaaGreatPw00
import Derived.WalkKit
import Derived.WalkSpells
import Derived.WalkLawsBesides
import Derived.Lib.Hide
import Derived.Deep.QuietTactic
import Derived.BigQuiet
import Derived.Deep.RegionHeld3
import Derived.Deep.AppendLies
import Derived.Deep.DeepFit
import Derived.Deep.DeepCutAuto
import Derived.Deep.DeepMust
import Derived.Deep.Light
import Derived.Deep.LoopGhost
import Derived.Deep.CutBlock
import Derived.Deep.RegionLaw
import Derived.StillTailTactics
import Derived.Maps.AppendAt
import Derived.Laws.CopyOwn
import Derived.Laws.ResultCell
import Derived.Deep.Draws
import Derived.Handy
import Derived.Lib.BitFns
import Derived.Laws.BitsAllLaws
set_option maxRecDepth 100000
set_option maxHeartbeats 16000000
set_option linter.unusedVariables false
set_option linter.unusedSimpArgs false
namespace Go.Proofs.YtilcnjbpmoijmaaGreat
open Tryz
open Go.RowKit
variable{a:World}{B:Nat}
theorem IJ{W w1:World}(hb:Below W.heap.size W w1):(∀b o,b<W.heap.size->w1.cell? ⟨b,o,none⟩=W.cell? ⟨b,o,none⟩)/\(∀b o,b<W.heap.size->w1.frozen? ⟨b,o,none⟩=W.frozen? ⟨b,o,none⟩):=
 ⟨fun b o h=>hb.cell (p:=⟨b,o,none⟩) h,fun b o h=>hb.frozen (p:=⟨b,o,none⟩) h⟩
theorem kK{k:IntKind}{a b:Int}(h:a=b):Ending.returned (.int k a)=.returned (.int k b):=by rw[h]
theorem uJ{a b:Bool}(h:a=b):Ending.returned (.bool a)=.returned (.bool b):=by rw[h]
theorem Ey{B':Nat}{b c:World}(h:Below B' b c)(hB:B<=B')(k:Below B a b):Below B a c:=k.trans (h.mono hB)
theorem below_drewN{w:World}(h:Below B a w)(n:Nat):Below B a (w.drewN n):=⟨h.os,h.tape,h.output,h.size,h.block⟩
def dK(w:World)(g:Nat)(t:TypeId)(cs:Array Value):Prop:=w.heap[g]?=some (.cells cs t (0,0))
section
variable {w w' : World} {g : Nat} {t : TypeId} {cs : Array Value}
variable{a0 a1 a2 a3 a4 a5 a6 a7 a8:Value}{r:List Value}
theorem dK.lt(h:dK w g t cs):g<w.heap.size:=by
 rcases bV g w.heap.size with hlt|hge
 ·exact hlt
 ·unfold dK at h;rw[Array.getElem?_eq_none hge] at h;cases h
theorem dK.cell(h:dK w g t cs)(i:Nat):w.cell? ⟨g,i,none⟩=cs[i]?:=cell_of_row w g i cs t (0,0) h
theorem dK.c2(h:dK w g t (a0::a1::r).toArray):w.cell? ⟨g,0,none⟩=some a0/\w.cell? ⟨g,1,none⟩=some a1:=⟨h.cell 0,h.cell 1⟩
theorem dK.c3(h:dK w g t (a0::a1::a2::r).toArray):w.cell? ⟨g,0,none⟩=some a0/\w.cell? ⟨g,1,none⟩=some a1/\w.cell? ⟨g,2,none⟩=some a2:=⟨h.cell 0,h.cell 1,h.cell 2⟩
theorem dK.c4(h:dK w g t (a0::a1::a2::a3::r).toArray):w.cell? ⟨g,0,none⟩=some a0/\w.cell? ⟨g,1,none⟩=some a1/\w.cell? ⟨g,2,none⟩=some a2/\w.cell? ⟨g,3,none⟩=some a3:=⟨h.cell 0,h.cell 1,h.cell 2,h.cell 3⟩
theorem dK.c5(h:dK w g t (a0::a1::a2::a3::a4::r).toArray):w.cell? ⟨g,0,none⟩=some a0/\w.cell? ⟨g,1,none⟩=some a1/\w.cell? ⟨g,2,none⟩=some a2/\w.cell? ⟨g,3,none⟩=some a3/\w.cell? ⟨g,4,none⟩=some a4:=⟨h.cell 0,h.cell 1,h.cell 2,h.cell 3,h.cell 4⟩
theorem dK.c6(h:dK w g t (a0::a1::a2::a3::a4::a5::r).toArray):w.cell? ⟨g,0,none⟩=some a0/\w.cell? ⟨g,1,none⟩=some a1/\w.cell? ⟨g,2,none⟩=some a2/\w.cell? ⟨g,3,none⟩=some a3/\w.cell? ⟨g,4,none⟩=some a4/\w.cell? ⟨g,5,none⟩=some a5:=⟨h.cell 0,h.cell 1,h.cell 2,h.cell 3,h.cell 4,h.cell 5⟩
theorem dK.c7(h:dK w g t (a0::a1::a2::a3::a4::a5::a6::r).toArray):w.cell? ⟨g,0,none⟩=some a0/\w.cell? ⟨g,1,none⟩=some a1/\w.cell? ⟨g,2,none⟩=some a2/\w.cell? ⟨g,3,none⟩=some a3/\w.cell? ⟨g,4,none⟩=some a4/\w.cell? ⟨g,5,none⟩=some a5/\w.cell? ⟨g,6,none⟩=some a6:=⟨h.cell 0,h.cell 1,h.cell 2,h.cell 3,h.cell 4,h.cell 5,h.cell 6⟩
theorem dK.c8(h:dK w g t (a0::a1::a2::a3::a4::a5::a6::a7::r).toArray):w.cell? ⟨g,0,none⟩=some a0/\w.cell? ⟨g,1,none⟩=some a1/\w.cell? ⟨g,2,none⟩=some a2/\w.cell? ⟨g,3,none⟩=some a3/\w.cell? ⟨g,4,none⟩=some a4/\w.cell? ⟨g,5,none⟩=some a5/\w.cell? ⟨g,6,none⟩=some a6/\w.cell? ⟨g,7,none⟩=some a7:=⟨h.cell 0,h.cell 1,h.cell 2,h.cell 3,h.cell 4,h.cell 5,h.cell 6,h.cell 7⟩
theorem dK.c9(h:dK w g t (a0::a1::a2::a3::a4::a5::a6::a7::a8::r).toArray):w.cell? ⟨g,0,none⟩=some a0/\w.cell? ⟨g,1,none⟩=some a1/\w.cell? ⟨g,2,none⟩=some a2/\w.cell? ⟨g,3,none⟩=some a3/\w.cell? ⟨g,4,none⟩=some a4/\w.cell? ⟨g,5,none⟩=some a5/\w.cell? ⟨g,6,none⟩=some a6/\w.cell? ⟨g,7,none⟩=some a7/\w.cell? ⟨g,8,none⟩=some a8:=⟨h.cell 0,h.cell 1,h.cell 2,h.cell 3,h.cell 4,h.cell 5,h.cell 6,h.cell 7,h.cell 8⟩
theorem dK.c10{a9:Value}(h:dK w g t (a0::a1::a2::a3::a4::a5::a6::a7::a8::a9::r).toArray):w.cell? ⟨g,0,none⟩=some a0/\w.cell? ⟨g,1,none⟩=some a1/\w.cell? ⟨g,2,none⟩=some a2/\w.cell? ⟨g,3,none⟩=some a3/\w.cell? ⟨g,4,none⟩=some a4/\w.cell? ⟨g,5,none⟩=some a5/\w.cell? ⟨g,6,none⟩=some a6/\w.cell? ⟨g,7,none⟩=some a7/\w.cell? ⟨g,8,none⟩=some a8/\w.cell? ⟨g,9,none⟩=some a9:=⟨h.cell 0,h.cell 1,h.cell 2,h.cell 3,h.cell 4,h.cell 5,h.cell 6,h.cell 7,h.cell 8,h.cell 9⟩
theorem dK.frozen(h:dK w g t cs)(i:Nat):w.frozen? ⟨g,i,none⟩=false:=by
 unfold dK at h;simp[World.frozen?,h]
theorem dK.new(w:World)(t:TypeId)(cs:Array Value):dK (w.alloc (.cells cs t)) w.heap.size t cs:=heap_alloc_new w _
theorem dK.drew(h:dK w g t cs):dK w.drew g t cs:=h
theorem dK.drewN(h:dK w g t cs)(n:Nat):dK (w.drewN n) g t cs:=h
theorem dK.alloc(h:dK w g t cs)(o:Obj):dK (w.alloc o) g t cs:=(Below.heap_alloc w o g h.lt).trans h
theorem dK.dQ(h:dK w g t cs)(i:Nat)(u:Value):dK (w.setCell ⟨g,i,none⟩ u) g t (cs.setIfInBounds i u):=by
 unfold dK at h |-;simp[World.setCell,Array.getElem?_modify,h]
theorem dK.far(h:dK w g t cs){p:Addr}(hp:g≠p.block)(u:Value):dK (w.setCell p u) g t cs:=(bM w p u g hp).trans h
theorem dK.below{B:Nat}(h:dK w g t cs)(hb:Below B w w')(hg:g<B):dK w' g t cs:=(hb.block g hg).trans h
theorem dK.keep(h:dK w g t cs)(hb:Below w.heap.size w w'):dK w' g t cs:=h.below hb h.lt
end
def oh(w:World)(g:Nat)(t:TypeId)(k:IntKind)(l:List Int):Prop:=dK w g t (l.map (Value.int k)).toArray
section
variable {w w' : World} {g : Nat} {t : TypeId} {k : IntKind} {l : List Int}
theorem oh.lt(h:oh w g t k l):g<w.heap.size:=dK.lt h
theorem oh.cell(h:oh w g t k l){j:Nat}(hj:j<l.length):w.cell? ⟨g,j,none⟩=some (.int k (l[j]?.getD 0)):=by
 rw[dK.cell h j];simp[a_ hj]
theorem oh.frozen(h:oh w g t k l)(j:Nat):w.frozen? ⟨g,j,none⟩=false:=dK.frozen h j
theorem oh.drewN(h:oh w g t k l)(n:Nat):oh (w.drewN n) g t k l:=h
theorem oh.dQ(h:oh w g t k l)(j:Nat)(v:Int):oh (w.setCell ⟨g,j,none⟩ (.int k v)) g t k (l.set j v):=by
 unfold oh;have:=dK.dQ h j (.int k v);rw[bY,<-List.map_set] at this;exact this
theorem oh.below{B:Nat}(h:oh w g t k l)(hb:Below B w w')(hg:g<B):oh w' g t k l:=dK.below h hb hg
theorem oh.keep(h:oh w g t k l)(hb:Below w.heap.size w w'):oh w' g t k l:=dK.keep h hb
end
theorem bw{b:Nat}{w w':World}(h:Below b w w':=by(repeat' (first|(with_reducible exact aO _ _)|(with_reducible refine dG ?_ ?_ _)|(with_reducible refine Below.drew ?_)|(with_reducible refine below_drewN ?_ _)|(with_reducible refine dI ?_ ?_ _)|(with_reducible refine Ey (by assumption) ?_ ?_)|go_size))):Below b w w':=h
open Tryz
open Go.RowKit
def Rd(sz:Nat)(w:World)(v:Value)(n:Nat)(xs:List Value):Prop:=
 xs.length=n * sz/\∃A c,v=.slice A n c/\n<=c/\c<=maxLen/\(0<n->∃g off,A=some ⟨g,off,none⟩/\g<w.heap.size/\∀j,j<n * sz->w.cell? ⟨g,off+j,none⟩=xs[j]?)
section
variable {w w' : World} {sz n : Nat} {v : Value} {xs : List Value}
theorem Rd.keep(h:Rd sz w v n xs)(hb:Below w.heap.size w w'):Rd sz w' v n xs:=by
 obtain⟨hl,A,c,hv,hn,hc,hd⟩:=h;refine⟨hl,A,c,hv,hn,hc,fun h0=>?_⟩
 obtain⟨g,off,hA,hg,hj⟩:=hd h0;exact⟨g,off,hA,bF hg hb.size,fun j h=>(hb.cell (p:=⟨g,off+j,none⟩) hg).trans (hj j h)⟩
theorem Rd.drewN(h:Rd sz w v n xs)(k:Nat):Rd sz (w.drewN k) v n xs:=h
theorem Rd.alloc(h:Rd sz w v n xs)(o:Obj):Rd sz (w.alloc o) v n xs:=h.keep ((aO _ _).alloc (aS _) o)
theorem Rd.pos(h:Rd sz w v n xs)(h0:0<n):∃g off c,v=.slice (some ⟨g,off,none⟩) n c/\n<=c/\c<=maxLen/\g<w.heap.size/\∀j,j<n * sz->w.cell? ⟨g,off+j,none⟩=xs[j]?:=by
 obtain⟨hl,A,c,hv,hn,hc,hd⟩:=h;obtain⟨g,off,rfl,hg,hj⟩:=hd h0;exact⟨g,off,c,hv,hn,hc,hg,hj⟩
theorem Rd.uK{base:Nat}{e:TypeId}(h:w.ownsRow base e sz v n xs):Rd sz w v n xs:=by
 refine⟨h.1,?_⟩
 rcases h.2 with⟨rfl,rfl⟩|⟨g,cap,cur,rfl,hb,hh,hn,hc,_,_⟩
 ·exact⟨none,0,rfl,aS _,by unfold maxLen;omega,fun h=>absurd h ae⟩
 ·refine⟨_,cap,rfl,hn,hc,fun _=>⟨g,0,rfl,?_,fun j hj=>?_⟩⟩
  ·exact(h.lt g rfl).2
  ·rw[Nat.zero_add];exact h.cellAt j hj
end
theorem gB(w:World)(n:Nat):(w.drewN n).heap.size=w.heap.size:=rfl
structure Touch(F:Nat->Prop)(w w':World):Prop where
 os:w'.os=w.os
 tape:w'.tape=w.tape
 output:w'.output=w.output
 size:w.heap.size<=w'.heap.size
 block:∀k,k<w.heap.size->¬F k->w'.heap[k]?=w.heap[k]?
section
variable {F G : Nat -> Prop} {a b c w w' : World}
variable{B:Nat}
theorem Touch.refl(F:Nat->Prop)(w:World):Touch F w w:=⟨rfl,rfl,rfl,aS _,fun _ _ _=>rfl⟩
theorem Touch.trans(h:Touch F a b)(k:Touch G b c)(hG:∀i,G i->F i\/a.heap.size<=i):Touch F a c:=
 ⟨k.os.trans h.os,k.tape.trans h.tape,k.output.trans h.output,bJ h.size k.size,fun i hi hf=>
  (k.block i (bF hi h.size) (fun hg=>by rcases hG i hg with h1|h1;exact hf h1;omega)).trans (h.block i hi hf)⟩
theorem Touch.mono(h:Touch F w w')(hG:∀i,F i->G i):Touch G w w':=⟨h.os,h.tape,h.output,h.size,fun i hi hg=>h.block i hi (fun hf=>hg (hG i hf))⟩
theorem Touch.of_below(h:Below B w w')(hB:w.heap.size<=B):Touch F w w':=⟨h.os,h.tape,h.output,h.size,fun i hi _=>h.block i ae⟩
theorem Touch.below(h:Touch F w w')(hF:∀i,F i->B<=i)(hB:B<=w.heap.size):Below B w w':=⟨h.os,h.tape,h.output,h.size,fun i hi=>h.block i ae (fun hf=>by have:=hF i hf;omega)⟩
theorem Touch.alloc(h:Touch F a w)(o:Obj):Touch F a (w.alloc o):=h.trans (Touch.of_below (F:=fun _=>False) ((aO _ _).alloc (aS _) o) (aS _)) (fun _ hf=>hf.elim)
theorem Touch.drew(h:Touch F a w):Touch F a w.drew:=⟨h.os,h.tape,h.output,h.size,h.block⟩
theorem Touch.drewN(h:Touch F a w)(n:Nat):Touch F a (w.drewN n):=⟨h.os,h.tape,h.output,h.size,h.block⟩
theorem Touch.setCell(h:Touch F a w){p:Addr}(hp:F p.block\/a.heap.size<=p.block)(u:Value):Touch F a (w.setCell p u):=
 ⟨h.os,h.tape,h.output,by simpa using h.size,fun i hi hf=>(bM w p u i (by rintro rfl;rcases hp with hp|hp;exact hf hp;omega)).trans (h.block i hi hf)⟩
theorem Touch.grown(h:Touch F a w){row:Option Nat}(hg:w.grownBy w' row)(hr:∀k,row=some k->F k\/a.heap.size<=k):Touch F a w':=
 ⟨hg.os.trans h.os,hg.tape.trans h.tape,hg.output.trans h.output,bJ h.size hg.size,fun i hi hf=>(hg.block i (bF hi h.size) (fun e=>by rcases hr i e.symm with h1|h1;exact hf h1;omega)).trans (h.block i hi hf)⟩
theorem touch_of(h:Below w.heap.size w w')(k:Touch F a w):Touch F a w':=k.trans (Touch.of_below (F:=fun _=>False) h (aS _)) (fun _ hf=>hf.elim)
end
section
variable {P : Program} (w : World)
variable{o:Oper}{a:Act}{Q:Exit->Act->World->Prop}
theorem yI(base:Nat)(t ty e:TypeId)(i:TypeInfo)(size:Nat)(ht:P.underlying t=some (.slice e))(hi:P.info? e=some i)
 (v:Value) (n:Nat) (xs:List Value) (hown:w.ownsRow base e size v n xs) (c:Nat):(Builtin.append_ #[t,t] ty #[v,.slice none 0 c]).run P w=.ok v w:=by
 rcases hown.2 with⟨rfl,rfl⟩|⟨g,cap,cur,rfl,_,_,hnc,_⟩
 ·simp[Builtin.append_,run_underlying ht,sizeOf,typeInfo,hi,Builtin.lenOf,Builtin.firstCells]
 ·simp[Builtin.append_,run_underlying ht,sizeOf,typeInfo,hi,Builtin.lenOf,Builtin.firstCells,hnc,storeCells]
theorem Il(base:Nat)(t ty e:TypeId)(i:TypeInfo)(z:Value)(size bytes:Nat)(ht:P.underlying t=some (.slice e))(hi:P.info? e=some i)(hz:i.zero=some z)
 (hsize:i.size=size) (hby:i.bytes=bytes) (hzs:z.cells.size=size) (hsz:0<size)
 (v:Value) (n:Nat) (xs:List Value) (hown:w.ownsRow base e size v n xs)
 (A:Option Addr) (m c:Nat) (news:List Value) (hr:Rd size w (.slice A m c) m news) (h1:∀u∈news,u.oneCell'=true)
 (h63:n+m<=maxLen) (hbytes:(n+m) * bytes<=140737488355328) (hbase:base<=w.heap.size) :
 ∃v' w',(Builtin.append_ #[t,t] ty #[v,.slice A m c]).run P w=.ok v' w'/\w'.ownsRow base e size v' (n+m) (xs++news)/\w.grownBy w' v.ownBlock /\
  (v'.ownBlock=v.ownBlock\/v'.ownBlock=some w.heap.size):=by
 rcases A with _|ad
 ·have hm:m=0:=by
   rcases bQ m with h0|h0
   ·exact h0
   ·obtain⟨g,off,c',h,_⟩:=hr.pos h0
    cases h
  subst hm;have hn:news=[]:=bz (by simpa using hr.1)
  subst hn;exact⟨v,w,yI w base t ty e i size ht hi v n xs hown c,by simpa using hown,World.grownBy.refl w _,.inl rfl⟩
 ·have hcells:∀j u,news[j]?=some u->w.cell? (ad.add j)=some u:=by
   intro j u hu
   rcases bQ m with h0|h0
   ·subst h0
    have hn:news=[]:=bz (by simpa using hr.1)
    subst hn;simp at hu
   ·obtain⟨g,off,c',h,_,_,_,hc⟩:=hr.pos h0
    injection h with h;injection h with h;subst h;have hj:j<news.length:=by
     rcases bV j news.length with h|h
     ·exact h
     ·rw[List.getElem?_eq_none h] at hu;cases hu
    have:=hc j (by rw[<-hr.1];exact hj)
    rw[hu] at this;unfold Addr.add
    split
    ·rename_i h0;have h0':j=0:=by simpa using h0
     subst h0';simpa using this
    ·exact this
  obtain⟨v',w',hrun,h2,h3,_,h5⟩:=run_append_own_at (P:=P) w base t ty e i z size bytes ht hi hz hsize hby hzs hsz v n xs hown ad m c news hr.1 hcells h1 h63 hbytes hbase;exact⟨v',w',hrun,h2,h3,h5⟩
theorem oq{K:Act->World->Prop}(s x:Operand)(t:TypeId)
 (ho:o.op=.call {callee:=.builtin .append,args:=#[s,x],argTypes:=#[t,t]})
 (base:Nat) (e:TypeId) (i:TypeInfo) (z:Value) (size bytes:Nat) (ht:P.underlying t=some (.slice e)) (hi:P.info? e=some i) (hz:i.zero=some z)
 (hsize:i.size=size) (hby:i.bytes=bytes) (hzs:z.cells.size=size) (hsz:0<size)
 (v:Value) (n:Nat) (xs:List Value) (hs:a.eval s=v) (hown:w.ownsRow base e size v n xs)
 (A:Option Addr) (m c:Nat) (news:List Value) (hx:a.eval x=.slice A m c) (hr:Rd size w (.slice A m c) m news) (h1:∀u∈news,u.oneCell'=true)
 (h63:n+m<=maxLen) (hbytes:(n+m) * bytes<=140737488355328) (hbase:base<=w.heap.size)
 (h:∀v' w',w'.ownsRow base e size v' (n+m) (xs++news)->w.grownBy w' v.ownBlock->(v'.ownBlock=v.ownBlock\/v'.ownBlock=some w.heap.size)->K (a.put o.dst v') w'):o.wp P a w K Q:=by
 obtain⟨v',w',hrun,h2,h3,h4⟩:=Il (P:=P) w base t o.type e i z size bytes ht hi hz hsize hby hzs hsz v n xs hown A m c news hr h1 h63 hbytes hbase;unfold Oper.wp execOp;simp only[ho,resolve,invoke,builtin,Sem.run_bind,Sem.run_pure,Result.andThen_ok,List.map_toArray,List.map_cons,List.map_nil,hs,hx,hrun];exact h v' w' h2 h3 h4
theorem jX{ops:Array Oper}{rest:List Oper}(hgd:o.guard=none)(s x:Operand)(t:TypeId)
 (ho:o.op=.call {callee:=.builtin .append,args:=#[s,x],argTypes:=#[t,t]})
 (base:Nat) (e:TypeId) (i:TypeInfo) (z:Value) (size bytes:Nat) (ht:P.underlying t=some (.slice e)) (hi:P.info? e=some i) (hz:i.zero=some z)
 (hsize:i.size=size) (hby:i.bytes=bytes) (hzs:z.cells.size=size) (hsz:0<size)
 (v:Value) (n:Nat) (xs:List Value) (hs:a.eval s=v) (hown:w.ownsRow base e size v n xs)
 (A:Option Addr) (m c:Nat) (news:List Value) (hx:a.eval x=.slice A m c) (hr:Rd size w (.slice A m c) m news) (h1:∀u∈news,u.oneCell'=true)
 (h63:n+m<=maxLen) (hbytes:(n+m) * bytes<=140737488355328) (hbase:base<=w.heap.size)
 (h:∀v' w',w'.ownsRow base e size v' (n+m) (xs++news)->w.grownBy w' v.ownBlock->(v'.ownBlock=v.ownBlock\/v'.ownBlock=some w.heap.size)->wpList P ops Q rest (a.put o.dst v') w'):wpList P ops Q (o::rest) a w:=
 wpList_plain hgd fun _ hK=>oq w s x t ho base e i z size bytes ht hi hz hsize hby hzs hsz v n xs hs hown A m c news hx hr h1 h63 hbytes hbase fun v' w' h2 h3 h4=>hK _ _ (h v' w' h2 h3 h4)
end
theorem ni{P:Program}(t e:TypeId)(i:TypeInfo)(z:Value)(ht:P.underlying t=some (.slice e))(hi:P.info? e=some i)(hz:i.zero=some z)
 (kl kc:IntKind) (n c:Nat) (hnc:n<=c) (hbytes:i.bytes * c<=281474976710656) (h63:c<=9223372036854775807) (w:World) :
 (Instr.makeSlice t (.int kl (n:Int)) (.int kc (c:Int))).run P w=.ok (.slice (some ⟨w.heap.size,0,none⟩) n c) (w.alloc (.cells (madeCells z.cells (c * i.size)) e)):=by
 have hb:(i.bytes:Int) * (c:Int)<=281474976710656:=by
  have h:((i.bytes * c:Nat):Int)<=281474976710656:=ae
  rwa [Int.natCast_mul] at h
 have hr:=run_make (P:=P) w t e i z ht hi hz kl kc n c ae  ae hb ae
 simp only[di] at hr;exact hr
open Tryz
open Go.RowKit
theorem fF(x:Int):IntKind.u64.wrap x=x % 18446744073709551616:=dD x
theorem bj6(x:Int)(h0:0<=x)(h1:x<18446744073709551616):IntKind.u64.wrap x=x:=by rw[fF];omega
structure o_(a b u d q r:Int):Prop where
 e:q * a+r=u
 r0:0<=r
 q0:0<=q
 q1:q<=4294967297
 lo:(u * 4294967296+d) / (a * 4294967296+b)<=q
structure JW(a b u d:Int):Prop where
 ha:2147483648<=a
 ha1:a<4294967296
 hb:0<=b
 hb1:b<4294967296
 hu:0<=u
 hu1:u<a * 4294967296+b
 hd:0<=d
 hd1:d<4294967296
section
variable {a b u d q r : Int}
theorem v_(K:JW a b u d):0<=(u * 4294967296+d) / (a * 4294967296+b):=by
 obtain⟨ha,ha1,hb,hb1,hu,hu1,hd,hd1⟩:=K;exact Int.ediv_nonneg ae  ae
theorem Ez(K:JW a b u d):(u * 4294967296+d) / (a * 4294967296+b)<4294967296:=by
 obtain⟨ha,ha1,hb,hb1,hu,hu1,hd,hd1⟩:=K;exact Int.ediv_lt_of_lt_mul ae  ae
theorem o_.start(K:JW a b u d):o_ a b u d (u / a) (u % a):=by
 have k0:=v_ K;obtain⟨ha,ha1,hb,hb1,hu,hu1,hd,hd1⟩:=K;have h1:=Int.emod_nonneg u (show a≠0 by omega)
 have h2:=Int.emod_lt_of_pos u (show 0<a by omega)
 have h3:=Int.mul_ediv_add_emod u a;have h3':u / a * a+u % a=u:=by rw[Int.mul_comm];exact h3
 refine⟨h3',h1,Int.ediv_nonneg hu ae,?_,?_⟩
 ·have:u / a<4294967298:=Int.ediv_lt_of_lt_mul ae  ae
  omega
 ·have h4:=Int.ediv_mul_le (u * 4294967296+d) (show a * 4294967296+b≠0 by omega)
  generalize (u * 4294967296+d) / (a * 4294967296+b)=k at *;apply Int.le_ediv_of_mul_le ae
  have h5:k * (a * 4294967296+b)=k * a * 4294967296+k * b:=by rw[Int.mul_add,bU]
  have h6:0<=k * b:=Int.mul_nonneg k0 hb;omega
theorem o_.cond(h:o_ a b u d q r):(4294967296 * r+d<q * b)<->u * 4294967296+d<q * (a * 4294967296+b):=by
 have h5:q * (a * 4294967296+b)=q * a * 4294967296+q * b:=by rw[Int.mul_add,bU]
 have:=h.e;omega
theorem o_.next(K:JW a b u d)(h:o_ a b u d q r)(hc:4294967296<=q\/4294967296 * r+d<q * b):o_ a b u d (q - 1) (r+a):=by
 have k1:=Ez K;have k0:=v_ K;obtain⟨ha,ha1,hb,hb1,hu,hu1,hd,hd1⟩:=K;have hlt:(u * 4294967296+d) / (a * 4294967296+b)<q:=by
  rcases hc with hc|hc
  ·omega
  ·exact Int.ediv_lt_of_lt_mul ae (h.cond.1 hc)
 have he:=h.e;have:=h.q1;have:=h.r0;have h5:(q - 1) * a=q * a - a:=by rw[Int.sub_mul,Int.one_mul]
 exact⟨by omega,ae,ae,ae,ae⟩
theorem o_.stop(K:JW a b u d)(h:o_ a b u d q r)(h2:q * b<=4294967296 * r+d):q=(u * 4294967296+d) / (a * 4294967296+b):=by
 obtain⟨ha,ha1,hb,hb1,hu,hu1,hd,hd1⟩:=K;have h3:q<=(u * 4294967296+d) / (a * 4294967296+b):=by
  apply Int.le_ediv_of_mul_le ae
  have:=h.cond;omega
 have:=h.lo;omega
theorem o_.brk(K:JW a b u d)(h:o_ a b u d q r)(h1:q<=4294967296)(h2:4294967296<=r):q=(u * 4294967296+d) / (a * 4294967296+b):=by
 have h3:q * b<=4294967296 * b:=Int.mul_le_mul_of_nonneg_right h1 K.hb;have:=K.hb1;have:=K.hd;exact h.stop K ae
end
theorem ay9{a b u d f:Int}(K:JW a b u d)(f0:0<=f)(f1:f<4294967296):JW a b ((u * 4294967296+d) % (a * 4294967296+b)) f:=by
 obtain⟨ha,ha1,hb,hb1,hu,hu1,hd,hd1⟩:=K;exact⟨ha,ha1,hb,hb1,Int.emod_nonneg _ ae,Int.emod_lt_of_pos _ ae,f0,f1⟩
theorem aw1(T Y:Int)(hY:0<Y)(hY1:Y<18446744073709551616):(T - T / Y * Y) % 18446744073709551616=T % Y:=by
 have h1:=Int.emod_nonneg T (show Y≠0 by omega)
 have h2:=Int.emod_lt_of_pos T hY;have h3:=Int.mul_ediv_add_emod T Y;rw[Int.mul_comm] at h3;omega
theorem bu5(U d e Y:Int)(hY:0<Y) :
 ((U * 4294967296+d) * 4294967296+e) / Y=(U * 4294967296+d) / Y * 4294967296+((U * 4294967296+d) % Y * 4294967296+e) / Y /\
 ((U * 4294967296+d) * 4294967296+e) % Y=((U * 4294967296+d) % Y * 4294967296+e) % Y:=by
 have h3:=Int.mul_ediv_add_emod (U * 4294967296+d) Y;generalize (U * 4294967296+d) / Y=k at *;generalize (U * 4294967296+d) % Y=m at *;have e1:(U * 4294967296+d) * 4294967296+e=(m * 4294967296+e)+Y * (k * 4294967296):=by
  have:Y * (k * 4294967296)=Y * k * 4294967296:=by rw[bU]
  omega
 rw[e1,Int.add_mul_ediv_left _ _ ae,Int.add_mul_emod_self_left]
 exact⟨by omega,rfl⟩
theorem MW(a:Int)(h0:0<=a)(h1:a<18446744073709551616):bits .and .u64 a 4294967295=a % 4294967296:=by
 obtain⟨n,rfl⟩:=Int.eq_ofNat_of_zero_le h0;have h:=bits_and_u64_nat n 4294967295 ae  ae
 have e:n &&& 4294967295=n % 4294967296:=Nat.and_two_pow_sub_one_eq_mod n 32;rw[e] at h;exact h
theorem orI(a b:Nat)(s:Nat)(ha:a * 2 ^ s<18446744073709551616)(hb:b<2 ^ s)(hb1:b<18446744073709551616) :
 bits .or .u64 ((a:Int) * 2 ^ s) (b:Int)=(a:Int) * 2 ^ s+b:=by
 have h:=bits_or_u64_nat (a * 2 ^ s) b ha hb1;have e:a * 2 ^ s ||| b=a * 2 ^ s+b:=by
  rw[dC];exact(Nat.two_pow_add_eq_or_of_lt hb a).symm
 rw[e] at h
 simpa using h
theorem bitLenAux_zero:∀f:Nat,Lib.bitLenAux f 0=0
 | 0=>rfl
 | f+1=>by simp[Lib.bitLenAux]
theorem uM:∀(f x:Nat),x<2 ^ f->x<2 ^ Lib.bitLenAux f x/\(x≠0->2 ^ (Lib.bitLenAux f x - 1)<=x/\1<=Lib.bitLenAux f x)
 | 0,x,h=>by simp[Lib.bitLenAux] at h |-;omega
 | f+1,x,h=>by
  unfold Lib.bitLenAux
  by_cases hx:x=0
  ·rw[if_pos hx];exact⟨by omega,fun h'=>absurd hx h'⟩
  ·rw[if_neg hx]
   have hp:2 ^ (f+1)=2 ^ f * 2:=Nat.pow_succ 2 f;obtain⟨h1,h2⟩:=uM f (x / 2) ae
   by_cases h4:x / 2=0
   ·rw[h4,bitLenAux_zero]
    simp only[Nat.add_zero];refine⟨by omega,fun _=>⟨?_,ae⟩⟩
    show 2 ^ 0<=x
    omega
   ·obtain⟨h3,h5⟩:=h2 h4
    generalize Lib.bitLenAux f (x / 2)=k at *;have hk:2 ^ (1+k)=2 ^ k * 2:=by rw[Nat.add_comm];exact Nat.pow_succ 2 k
    have hk1:2 ^ k=2 ^ (k - 1) * 2:=by rw[<-Nat.pow_succ];congr 1;omega
    refine⟨by omega,fun _=>⟨?_,ae⟩⟩
    rw[show 1+k - 1=k by omega]
    omega
theorem JX(x:Nat)(h:x<18446744073709551616):x<2 ^ Lib.bitLen x/\(x≠0->2 ^ (Lib.bitLen x - 1)<=x/\1<=Lib.bitLen x):=uM 64 x ae
structure bj7(hi lo y:Int)(s:Nat)(a b U d f:Int):Prop where
 ea:y * 2 ^ s / 4294967296=a
 eb:bits .and .u64 (y * 2 ^ s) 4294967295=b
 eU:bits .or .u64 (IntKind.u64.wrap (hi * 2 ^ s)) (lo / 2 ^ (64 - s))=U
 ed:IntKind.u64.wrap (lo * 2 ^ s) / 4294967296=d
 ef:bits .and .u64 (IntKind.u64.wrap (lo * 2 ^ s)) 4294967295=f
 K:JW a b U d
 f0:0<=f
 f1:f<4294967296
 ey:y * 2 ^ s=a * 4294967296+b
 eX:(hi * 18446744073709551616+lo) * 2 ^ s=(U * 4294967296+d) * 4294967296+f
theorem bj8(hi lo y:Int)(s:Nat)(h0:0<=hi)(h1:hi<y)(l0:0<=lo)(l1:lo<18446744073709551616)(hs:s<=63)
 (h63:9223372036854775808<=y * 2 ^ s) (h64:y * 2 ^ s<18446744073709551616):∃a b U d f,bj7 hi lo y s a b U d f:=by
 obtain⟨hn,rfl⟩:=Int.eq_ofNat_of_zero_le h0;obtain⟨ln,rfl⟩:=Int.eq_ofNat_of_zero_le l0;have p0:(0:Int)<2 ^ s:=Int.pow_pos ae
 have hh:(hn:Int) * 2 ^ s<y * 2 ^ s:=Int.mul_lt_mul_of_pos_right h1 p0;have hh1:(hn:Int) * 2 ^ s+2 ^ s<=y * 2 ^ s:=by
  have:((hn:Int)+1) * 2 ^ s<=y * 2 ^ s:=Int.mul_le_mul_of_nonneg_right ae  ae
  rw[Int.add_mul,Int.one_mul] at this;exact this
 have hh0:0<=(hn:Int) * 2 ^ s:=Int.mul_nonneg ae  ae
 have cast:((hn:Int) * 2 ^ s)=((hn * 2 ^ s:Nat):Int):=ag
 have pp:(2:Nat) ^ s * 2 ^ (64 - s)=18446744073709551616:=by rw[<-Nat.pow_add,show s+(64 - s)=64 by omega]
 have q0:0<2 ^ (64 - s):=Nat.two_pow_pos _;have lq:ln / 2 ^ (64 - s)<2 ^ s:=by rw[Nat.div_lt_iff_lt_mul q0,pp];omega
 have ps:(2:Nat) ^ s<=2 ^ 63:=Nat.pow_le_pow_right ae hs
 have eU:bits .or .u64 (IntKind.u64.wrap ((hn:Int) * 2 ^ s)) ((ln:Int) / 2 ^ (64 - s))=(hn:Int) * 2 ^ s+((ln / 2 ^ (64 - s):Nat):Int):=by
  rw[bj6 _ hh0 ae]
  have e2:(ln:Int) / 2 ^ (64 - s)=((ln / 2 ^ (64 - s):Nat):Int):=ag
  rw[e2];exact orI hn _ s ae lq ae
 have dm:=Nat.div_add_mod ln (2 ^ (64 - s));have ew:IntKind.u64.wrap ((ln:Int) * 2 ^ s)=((ln % 2 ^ (64 - s) * 2 ^ s:Nat):Int):=by
  rw[fF];have e3:ln * 2 ^ s=ln % 2 ^ (64 - s) * 2 ^ s+18446744073709551616 * (ln / 2 ^ (64 - s)):=by
   have h:=congrArg (· * 2 ^ s) dm
   simp only[Nat.add_mul] at h;have h2:2 ^ (64 - s) * (ln / 2 ^ (64 - s)) * 2 ^ s=18446744073709551616 * (ln / 2 ^ (64 - s)):=by
    rw[<-pp,dC,<-Nat.mul_assoc]
   omega
  have e4:(ln:Int) * 2 ^ s=((ln * 2 ^ s:Nat):Int):=ag
  have h5:ln % 2 ^ (64 - s) * 2 ^ s<18446744073709551616:=by
   rw[<-pp,dC (2 ^ s)];exact Nat.mul_lt_mul_of_pos_right (Nat.mod_lt _ q0) (Nat.two_pow_pos _)
  rw[e4,e3];omega
 have w1:ln % 2 ^ (64 - s) * 2 ^ s<18446744073709551616:=by
  rw[<-pp,dC (2 ^ s)];exact Nat.mul_lt_mul_of_pos_right (Nat.mod_lt _ q0) (Nat.two_pow_pos _)
 have eX:((hn:Int) * 18446744073709551616+ln) * 2 ^ s=((hn:Int) * 2 ^ s+((ln / 2 ^ (64 - s):Nat):Int)) * 18446744073709551616+((ln % 2 ^ (64 - s) * 2 ^ s:Nat):Int):=by
  have h:=congrArg (· * 2 ^ s) dm
  simp only[Nat.add_mul] at h;have h2:2 ^ (64 - s) * (ln / 2 ^ (64 - s)) * 2 ^ s=18446744073709551616 * (ln / 2 ^ (64 - s)):=by
   rw[<-pp,dC,<-Nat.mul_assoc]
  have e4:(ln:Int) * 2 ^ s=((ln * 2 ^ s:Nat):Int):=ag
  have e5:(hn:Int) * 18446744073709551616 * 2 ^ s=(hn:Int) * 2 ^ s * 18446744073709551616:=by rw[bU,Int.mul_comm 18446744073709551616,<-bU]
  rw[Int.add_mul,e5,e4];omega
 refine⟨_,_,_,_,_,⟨rfl,rfl,eU,rfl,rfl,?_,?_,?_,?_,?_⟩⟩
 ·rw[MW _ ae h64,ew]
  generalize ln % 2 ^ (64 - s) * 2 ^ s=wn at *;generalize ln / 2 ^ (64 - s)=l2 at *;generalize (hn:Int) * 2 ^ s=h2 at *;generalize y * 2 ^ s=Y at *;have:((l2:Nat):Int)<2 ^ s:=by
   have:((l2:Nat):Int)<((2 ^ s:Nat):Int):=ae
   simpa using this
  generalize (2:Int) ^ s=p at *;constructor<;>omega
 ·rw[MW _ (by rw[ew];omega) (by rw[ew];omega)];omega
 ·rw[MW _ (by rw[ew];omega) (by rw[ew];omega)];omega
 ·rw[MW _ ae h64];omega
 ·rw[eX,MW _ (by rw[ew];omega) (by rw[ew];omega),ew];omega
theorem bu6(X y U d f Y:Int)(s:Nat)(hY:y * 2 ^ s=Y)(hX:X * 2 ^ s=(U * 4294967296+d) * 4294967296+f)(h0:0<Y) :
 X / y=(U * 4294967296+d) / Y * 4294967296+((U * 4294967296+d) % Y * 4294967296+f) / Y/\X % y=((U * 4294967296+d) % Y * 4294967296+f) % Y / 2 ^ s:=by
 have p0:(0:Int)<2 ^ s:=Int.pow_pos ae
 obtain⟨h1,h2⟩:=bu5 U d f Y h0;rw[<-hX] at h1 h2;rw[<-h1,<-h2,<-hY,Int.mul_ediv_mul_of_pos_left _ _ p0,Int.mul_comm X,Int.mul_comm y,Int.mul_emod_mul_of_pos _ _ p0,Int.mul_ediv_cancel_left _ ae]
 exact⟨rfl,rfl⟩
end Go.Proofs.YtilcnjbpmoijmaaGreat
