/- Parts of a proof: what its theorem reaches, words cut short. No condition of its own. -/
import Derived.WalkKit
import Derived.WalkSpells
import Derived.WalkLawsBesides
import Derived.Lib.Hide
import Derived.Deep.QuietTactic
import Derived.BigQuiet
import Derived.Deep.RegionHeld3
import Derived.Deep.AppendLies
import Derived.Deep.DeepFit
import Derived.Deep.DeepCutAuto
import Derived.Deep.DeepMust
import Derived.Deep.Light
import Derived.Deep.LoopGhost
import Derived.Deep.CutBlock
import Derived.Deep.RegionLaw
import Derived.StillTailTactics
import Derived.Maps.AppendAt
import Derived.Laws.CopyOwn
import Derived.Laws.ResultCell
import Derived.Deep.Draws
import Derived.Handy
import Derived.Maps.Views
import Derived.Maps.OwnSet
set_option maxRecDepth 100000
set_option maxHeartbeats 16000000
set_option linter.unusedVariables false
set_option linter.unusedSimpArgs false
namespace Go.Proofs.YtilcnjbpmoijmaaGreat
open Go.RowKit
theorem bcell{W w1:World}(hb:Below W.heap.size W w1):(∀b o,b<W.heap.size->w1.cell? ⟨b,o,none⟩=W.cell? ⟨b,o,none⟩)/\(∀b o,b<W.heap.size->w1.frozen? ⟨b,o,none⟩=W.frozen? ⟨b,o,none⟩):=
 ⟨fun b o h=>hb.cell (p:=⟨b,o,none⟩) h,fun b o h=>hb.frozen (p:=⟨b,o,none⟩) h⟩
theorem ret_bool{a b:Bool}(h:a=b):Ending.returned (.bool a)=.returned (.bool b):=by rw[h]
theorem below_of{B B':Nat}{a b c:World}(h:Below B' b c)(hB:B<=B')(k:Below B a b):Below B a c:=k.trans (h.mono hB)
theorem below_drewN{B:Nat}{a w:World}(h:Below B a w)(n:Nat):Below B a (w.drewN n):=⟨h.os,h.tape,h.output,h.size,h.block⟩
def Blk(w:World)(g:Nat)(t:TypeId)(cs:Array Value):Prop:=w.heap[g]?=some (.cells cs t (0,0))
section
variable {w w' : World} {g : Nat} {t : TypeId} {cs : Array Value}
theorem Blk.lt(h:Blk w g t cs):g<w.heap.size:=by
 rcases Nat.lt_or_ge g w.heap.size with hlt|hge
 ·exact hlt
 ·unfold Blk at h;rw[Array.getElem?_eq_none hge] at h;cases h
theorem Blk.cell(h:Blk w g t cs)(i:Nat):w.cell? ⟨g,i,none⟩=cs[i]?:=cell_of_row w g i cs t (0,0) h
theorem Blk.c2{a0 a1:Value}{r:List Value}(h:Blk w g t (a0::a1::r).toArray):w.cell? ⟨g,0,none⟩=some a0/\w.cell? ⟨g,1,none⟩=some a1:=⟨h.cell 0,h.cell 1⟩
theorem Blk.c3{a0 a1 a2:Value}{r:List Value}(h:Blk w g t (a0::a1::a2::r).toArray):w.cell? ⟨g,0,none⟩=some a0/\w.cell? ⟨g,1,none⟩=some a1/\w.cell? ⟨g,2,none⟩=some a2:=⟨h.cell 0,h.cell 1,h.cell 2⟩
theorem Blk.c4{a0 a1 a2 a3:Value}{r:List Value}(h:Blk w g t (a0::a1::a2::a3::r).toArray):w.cell? ⟨g,0,none⟩=some a0/\w.cell? ⟨g,1,none⟩=some a1/\w.cell? ⟨g,2,none⟩=some a2/\w.cell? ⟨g,3,none⟩=some a3:=⟨h.cell 0,h.cell 1,h.cell 2,h.cell 3⟩
theorem Blk.c5{a0 a1 a2 a3 a4:Value}{r:List Value}(h:Blk w g t (a0::a1::a2::a3::a4::r).toArray):w.cell? ⟨g,0,none⟩=some a0/\w.cell? ⟨g,1,none⟩=some a1/\w.cell? ⟨g,2,none⟩=some a2/\w.cell? ⟨g,3,none⟩=some a3/\w.cell? ⟨g,4,none⟩=some a4:=⟨h.cell 0,h.cell 1,h.cell 2,h.cell 3,h.cell 4⟩
theorem Blk.c6{a0 a1 a2 a3 a4 a5:Value}{r:List Value}(h:Blk w g t (a0::a1::a2::a3::a4::a5::r).toArray):w.cell? ⟨g,0,none⟩=some a0/\w.cell? ⟨g,1,none⟩=some a1/\w.cell? ⟨g,2,none⟩=some a2/\w.cell? ⟨g,3,none⟩=some a3/\w.cell? ⟨g,4,none⟩=some a4/\w.cell? ⟨g,5,none⟩=some a5:=⟨h.cell 0,h.cell 1,h.cell 2,h.cell 3,h.cell 4,h.cell 5⟩
theorem Blk.c7{a0 a1 a2 a3 a4 a5 a6:Value}{r:List Value}(h:Blk w g t (a0::a1::a2::a3::a4::a5::a6::r).toArray):w.cell? ⟨g,0,none⟩=some a0/\w.cell? ⟨g,1,none⟩=some a1/\w.cell? ⟨g,2,none⟩=some a2/\w.cell? ⟨g,3,none⟩=some a3/\w.cell? ⟨g,4,none⟩=some a4/\w.cell? ⟨g,5,none⟩=some a5/\w.cell? ⟨g,6,none⟩=some a6:=⟨h.cell 0,h.cell 1,h.cell 2,h.cell 3,h.cell 4,h.cell 5,h.cell 6⟩
theorem Blk.c8{a0 a1 a2 a3 a4 a5 a6 a7:Value}{r:List Value}(h:Blk w g t (a0::a1::a2::a3::a4::a5::a6::a7::r).toArray):w.cell? ⟨g,0,none⟩=some a0/\w.cell? ⟨g,1,none⟩=some a1/\w.cell? ⟨g,2,none⟩=some a2/\w.cell? ⟨g,3,none⟩=some a3/\w.cell? ⟨g,4,none⟩=some a4/\w.cell? ⟨g,5,none⟩=some a5/\w.cell? ⟨g,6,none⟩=some a6/\w.cell? ⟨g,7,none⟩=some a7:=⟨h.cell 0,h.cell 1,h.cell 2,h.cell 3,h.cell 4,h.cell 5,h.cell 6,h.cell 7⟩
theorem Blk.c9{a0 a1 a2 a3 a4 a5 a6 a7 a8:Value}{r:List Value}(h:Blk w g t (a0::a1::a2::a3::a4::a5::a6::a7::a8::r).toArray):w.cell? ⟨g,0,none⟩=some a0/\w.cell? ⟨g,1,none⟩=some a1/\w.cell? ⟨g,2,none⟩=some a2/\w.cell? ⟨g,3,none⟩=some a3/\w.cell? ⟨g,4,none⟩=some a4/\w.cell? ⟨g,5,none⟩=some a5/\w.cell? ⟨g,6,none⟩=some a6/\w.cell? ⟨g,7,none⟩=some a7/\w.cell? ⟨g,8,none⟩=some a8:=⟨h.cell 0,h.cell 1,h.cell 2,h.cell 3,h.cell 4,h.cell 5,h.cell 6,h.cell 7,h.cell 8⟩
theorem Blk.c10{a0 a1 a2 a3 a4 a5 a6 a7 a8 a9:Value}{r:List Value}(h:Blk w g t (a0::a1::a2::a3::a4::a5::a6::a7::a8::a9::r).toArray):w.cell? ⟨g,0,none⟩=some a0/\w.cell? ⟨g,1,none⟩=some a1/\w.cell? ⟨g,2,none⟩=some a2/\w.cell? ⟨g,3,none⟩=some a3/\w.cell? ⟨g,4,none⟩=some a4/\w.cell? ⟨g,5,none⟩=some a5/\w.cell? ⟨g,6,none⟩=some a6/\w.cell? ⟨g,7,none⟩=some a7/\w.cell? ⟨g,8,none⟩=some a8/\w.cell? ⟨g,9,none⟩=some a9:=⟨h.cell 0,h.cell 1,h.cell 2,h.cell 3,h.cell 4,h.cell 5,h.cell 6,h.cell 7,h.cell 8,h.cell 9⟩
theorem Blk.frozen(h:Blk w g t cs)(i:Nat):w.frozen? ⟨g,i,none⟩=false:=by
 unfold Blk at h
 simp[World.frozen?,h]
theorem Blk.new(w:World)(t:TypeId)(cs:Array Value):Blk (w.alloc (.cells cs t)) w.heap.size t cs:=heap_alloc_new w _
theorem Blk.drewN(h:Blk w g t cs)(n:Nat):Blk (w.drewN n) g t cs:=h
theorem Blk.alloc(h:Blk w g t cs)(o:Obj):Blk (w.alloc o) g t cs:=(Below.heap_alloc w o g h.lt).trans h
theorem Blk.set_(h:Blk w g t cs)(i:Nat)(u:Value):Blk (w.setCell ⟨g,i,none⟩ u) g t (cs.setIfInBounds i u):=by
 unfold Blk at h |-
 simp[World.setCell,Array.getElem?_modify,h]
theorem Blk.far(h:Blk w g t cs){p:Addr}(hp:g≠p.block)(u:Value):Blk (w.setCell p u) g t cs:=(Below.heap_setCell w p u g hp).trans h
theorem Blk.below{B:Nat}(h:Blk w g t cs)(hb:Below B w w')(hg:g<B):Blk w' g t cs:=(hb.block g hg).trans h
theorem Blk.keep(h:Blk w g t cs)(hb:Below w.heap.size w w'):Blk w' g t cs:=h.below hb h.lt
end
end Go.Proofs.YtilcnjbpmoijmaaGreat
namespace Go.Proofs.YtilcnjbpmoijmaaGreat.D
open Go.Maps
abbrev uL(k:Int):Lit:=.int .u32 k
theorem uLk(k:Int):WideAt.IsKeyLit (uL k):=trivial
abbrev iD(n:Int):DataW Unit:=.lit (.int .i64 n)
theorem uL_ne{a b:Int}(h:a≠b):uL a≠uL b:=fun e=>h (by cases e;rfl)
def upM(m:Int->Option Nat)(k:Int)(i:Option Nat):Int->Option Nat:=fun j=>if j=k then i else m j
structure LkM(D:DataW Unit)(m:Int->Option Nat)(sz:Nat):Prop where
 tidy:Tidy D
 has_:∀k:Int,Maps.has D (uL k)=(m k).isSome
 at_:∀(k:Int) (i:Nat) (z:DataW Unit),m k=some i->D.atKey (uL k) z=iD i
 sz:Maps.size D=sz
theorem lkm_nil:LkM (.map []) (fun _=>none) 0:=⟨tidy_empty,fun k=>by simp[Maps.has],fun k i z h=>(by cases h),rfl⟩
theorem LkM.put{D:DataW Unit}{m:Int->Option Nat}{sz:Nat}(h:LkM D m sz)(k:Int)(i:Nat)(hk:m k=none):LkM (D.put (uL k) (iD i)) (upM m k (some i)) (sz+1):=by
 refine⟨h.tidy.put (uLk _) _,fun j=>?_,fun j i' z hj=>?_,?_⟩
 ·unfold upM
  by_cases hjk:j=k
  ·subst hjk
   rw[has_put_same h.tidy.isMap (uLk _),if_pos rfl];rfl
  ·rw[has_put_other (uL_ne hjk),h.has_ j,if_neg hjk]
 ·unfold upM at hj
  by_cases hjk:j=k
  ·subst hjk
   rw[if_pos rfl] at hj
   cases hj
   exact atKey_put_same h.tidy.isMap (uLk _) _ _
  ·rw[if_neg hjk] at hj
   rw[atKey_put_other (uL_ne hjk)]
   exact h.at_ j i' z hj
 ·rw[size_put h.tidy,h.has_ k,hk,h.sz];rfl
theorem LkM.del{D:DataW Unit}{m:Int->Option Nat}{sz:Nat}(h:LkM D m (sz+1))(k:Int)(hk:m k≠none):LkM (D.del (uL k)) (upM m k none) sz:=by
 refine⟨h.tidy.del _,fun j=>?_,fun j i' z hj=>?_,?_⟩
 ·unfold upM
  by_cases hjk:j=k
  ·subst hjk
   rw[has_del_same,if_pos rfl];rfl
  ·rw[has_del_other (uL_ne hjk),h.has_ j,if_neg hjk]
 ·unfold upM at hj
  by_cases hjk:j=k
  ·rw[if_pos hjk] at hj;cases hj
  ·rw[if_neg hjk] at hj
   rw[atKey_del_other (uL_ne hjk)]
   exact h.at_ j i' z hj
 ·have e:=size_del (k:=uL k) h.tidy
  rw[h.has_ k,h.sz] at e
  have hs:(m k).isSome=true:=by cases hm:m k with
   | none=>exact absurd hm hk
   | some _=>rfl
  rw[hs] at e
  simpa using e
def leftN(D:DataW Unit)(left:Lit->Bool):Nat:=match D with
 | .map es=>(es.filter fun p=>left p.1).length
 | _=>0
theorem left_start{es:List (Lit × DataW Unit)}(hk:∀p∈es,WideAt.IsKeyLit p.1):leftN (.map es) (Maps.has (.map es))=Maps.size (.map es):=by
 show(es.filter fun p=>es.any fun q=>q.1.sameKey p.1).length=es.length
 have e:es.filter (fun p=>es.any fun q=>q.1.sameKey p.1)=es:=List.filter_eq_self.2 (fun p hp=>List.any_eq_true.2 ⟨p,hp,WideAt.sameKey_self (hk p hp)⟩)
 rw[e]
theorem left_step{D:DataW Unit}(h:Tidy D){left:Lit->Bool}{k:Int}{y:DataW Unit}(hk:left (uL k)=true)(hat:∀z,D.atKey (uL k) z=y):leftN D (fun z=>left z && !z.sameKey (uL k))+1=leftN D left:=by
 have hh:=has_true_of_atKey hat
 obtain⟨es,rfl,hp⟩:=h
 obtain⟨q,hq,hqk⟩:=List.any_eq_true.1 (show es.any (fun p=>p.1.sameKey (uL k))=true from hh)
 have e:=length_strike (k:=uL k) (es.filter fun p=>left p.1) (hp.filter _)
 rw[List.any_eq_true.2 ⟨q,List.mem_filter.2 ⟨hq,by rw[WideAt.sameKey_eq hqk];exact hk⟩,hqk⟩,if_pos rfl,List.filter_filter] at e
 show(es.filter fun p=>left p.1 && !p.1.sameKey (uL k)).length+1=(es.filter fun p=>left p.1).length
 rw[<-e]
 congr 2
 exact List.filter_congr fun p _=>Bool.and_comm _ _
theorem left_end{D:DataW Unit}{left:Lit->Bool}(h:∀kl,left kl=false):leftN D left=0:=by
 cases D<;>try rfl
 rename_i es
 show(es.filter fun p=>left p.1).length=0
 rw[List.filter_eq_nil_iff.2 (fun p _=>by rw[h];simp)];rfl
end Go.Proofs.YtilcnjbpmoijmaaGreat.D
