/- Parts of a proof: what its theorem reaches, words cut short. No condition of its own. -/
import Derived.Test.YtilcnjbpmoijmaaGreatPs20
import Derived.Test.YtilcnjbpmoijmaaGreatPs21
set_option maxRecDepth 100000
set_option maxHeartbeats 16000000
set_option linter.unusedVariables false
set_option linter.unusedSimpArgs false
namespace Go.Proofs.YtilcnjbpmoijmaaGreat.K
open Go.RowKit Go.Sort
theorem heap_putRow_far(w:World)(blk off k:Nat)(d:Array Int)(h:k≠blk):(putRow (Value.int .i64) w blk off d).heap[k]?=w.heap[k]?:=by
 unfold putRow mapBlock
 rw[Array.getElem?_modify,if_neg (fun e=>h e.symm)]
theorem heap_putRow_at(w:World)(blk off:Nat)(d:Array Int)(cur:Array Value)(t:TypeId)(f:Nat × Nat)(h:w.heap[blk]?=some (.cells cur t f)):(putRow (Value.int .i64) w blk off d).heap[blk]?=some (.cells (putCells (Value.int .i64) off d cur) t f):=by
 unfold putRow mapBlock
 rw[Array.getElem?_modify,if_pos rfl,h];rfl
theorem putCells_take(d:List Int)(cur:Array Value)(h:d.length<=cur.size):(putCells (Value.int .i64) 0 d.toArray cur).toList.take d.length=d.map (Value.int .i64):=by
 refine List.ext_getElem? fun i=>?_
 rw[List.getElem?_take]
 rcases Nat.lt_or_ge i d.length with h1|h1
 ·rw[if_pos h1,List.getElem?_map,List.getElem?_eq_getElem h1,Array.getElem?_toList]
  have h2:i<(putCells (Value.int .i64) 0 d.toArray cur).size:=by unfold putCells;rw[Array.size_mapIdx];omega
  rw[Array.getElem?_eq_getElem h2]
  simp[putCells,h1]
 ·rw[if_neg (by omega),List.getElem?_eq_none (by simpa using h1)]
theorem sort_own(v:Value)(base:Nat)(l:List Int)(w:World)(h:OwnE i64E base w v l)(hl:l.length<=1099511627776) :
 Calls Tryz.prog 221 #[v] w fun e w'=>e=.returned (.tuple #[])/\OwnE i64E base w' v (l.mergeSort fun x y=>decide (x<=y))/\Touch (fun k=>v.ownBlock=some k) w w':=by
 obtain⟨hxs,h⟩:=h
 rw[cells_i64] at hxs h
 rcases h with⟨rfl,h0⟩|⟨g,cap,cur,rfl,hbg,hg,hnc,hcm,hcs,htk⟩
 ·have e:l=[]:=List.eq_nil_of_length_eq_zero h0
  subst e
  refine(AnyM.slices_Sort_int_none Tryz.sortM none 0 w).mono ?_
  rintro e w' ⟨rfl,rfl⟩
  exact⟨rfl,by rw[List.mergeSort_nil];exact OwnE.nil_ _ _,Touch.refl _ _⟩
 ·have hk:i64E.k=1:=rfl
  rw[hk,Nat.mul_one] at hcs htk
  have hgl:g<w.heap.size:=by
   rcases Nat.lt_or_ge g w.heap.size with hlt|hge
   ·exact hlt
   ·rw[Array.getElem?_eq_none hge] at hg;cases hg
  have hH:Holds (Value.int .i64) w g 0 l.toArray:=fun j hj=>by
   have hj':j<l.length:=by simpa using hj
   refine⟨?_,?_⟩
   ·rw[Nat.zero_add,cell_of_row w g j cur _ (0,0) hg]
    have e:=congrArg (fun x=>x[j]?) htk
    simp only[List.getElem?_take,if_pos hj',List.getElem?_map,List.getElem?_eq_getElem hj',Option.map_some] at e
    rw[show cur[j]?=cur.toList[j]? by simp,e]
    simp[hj']
   ·simp[World.frozen?,hg]
  refine(AnyM.slices_Sort_int Tryz.sortM g 0 cap l w hH hgl (by omega)).mono ?_
  rintro e w' ⟨rfl,n,os,rfl⟩
  have hlen:(l.mergeSort fun x y=>decide (x<=y)).length=l.length:=(List.mergeSort_perm _ _).length_eq
  refine⟨rfl,⟨by rw[cells_i64,List.length_map,hk,Nat.mul_one],.inr ⟨g,cap,putCells (Value.int .i64) 0 (l.mergeSort fun x y=>decide (x<=y)).toArray cur,by rw[hlen],hbg,?_,by rw[hlen];exact hnc,hcm,?_,?_⟩⟩,rfl,rfl,rfl,?_,fun k hk' hne=>?_⟩
  ·rw[heap_grow_old _ _ (by unfold putRow mapBlock;simpa using hgl)]
   exact heap_putRow_at _ g 0 _ cur _ _ hg
  ·unfold putCells;rw[Array.size_mapIdx,hk,Nat.mul_one];exact hcs
  ·rw[hk,Nat.mul_one,cells_i64]
   refine putCells_take _ cur (by rw[hlen];omega)
  ·rw[size_grow];unfold putRow mapBlock;simp
  ·have hkg:k≠g:=fun e=>hne (by rw[e];rfl)
   rw[heap_grow_old _ _ (by unfold putRow mapBlock;simpa using hk')]
   exact heap_putRow_far _ g 0 k _ hkg
theorem i64I:(Tryz.prog.info? 2).map (fun i=>(i.zero,i.size,i.bytes))=some (some (.int .i64 0),1,8):=by kernel_rfl
theorem slI:(Tryz.prog.info? 182).map (fun i=>(i.zero,i.size,i.bytes))=some (some (.slice none 0 0),1,24):=by kernel_rfl
theorem roomN_succ':∀(j c:Nat),roomN (j+1) c=thin (roomN j c)
 | 0,_=>rfl
 | j+1,c=>by rw[roomN,roomN_succ' j (thin c)];rfl
abbrev Kst(F:Nat->Prop)(w:World)(g k n led:Nat)(lv:Value)(vs:List Sv)(L:LL):Prop:=StG 201 (.int .i64 k) [.int .u64 n,.int .u64 led] F w g lv vs L
theorem room_any{F:Nat->Prop}{g k n led:Nat}{lv:Value}{vs:List Sv}{L:LL}(h:Nat)(w:World)(hs:Kst F w g k n led lv vs L)(h2:2<=k)(hk:k<=1000000)(hl:L.length<=1000000000)(hh:h<=1000000000) :
 Calls Tryz.prog 298 #[.pointer (some ⟨g,0,none⟩),.int .i64 h] w fun e w'=>e=.returned (.int .i64 (room k L.length h:Nat))/\w=w':=by
 obtain⟨A,c,rfl,_,_,_⟩:=hs.form
 have c0:=hs.cell0
 have c1:=hs.cell1
 clear hs
 generalize L.length=len at *
 by_cases hlt:h<len
 ·have HRO:Hid (room k len h=max (roomN (len - 1 - h) k) 2):=Lib.hid (by unfold room;rw[if_pos hlt])
  have HLE:=Lib.hid (fun j=>roomN_le j k h2)
  have hlt2:¬len<=h:=by omega
  have hlt3:¬(h:Int)<0:=by omega
  go_enter Tryz.func298,Tryz.ntmps298
  go_wp2_with fail
  go_loopg [5,29] (len - 1 - h) (fun q c i wr=>(∃j:Nat,q=len - 1 - h - j/\j<=len - 1 - h/\i=.int .i64 (j:Int)/\c=.int .i64 ((roomN j k:Nat):Int))/\w=wr)
  case atStart=>exact⟨⟨0,by omega,by omega,rfl,rfl⟩,rfl⟩
  case round=>
   obtain⟨⟨j,hq,hj,rfl,rfl⟩,rfl⟩:=hrel
   have HQ:=Lib.hid hq
   have hb:=HLE.out j
   have HS:=Lib.hid (roomN_succ' j k)
   obtain⟨c,hc⟩:∃c,roomN j k=c:=⟨_,rfl⟩
   rw[hc] at hb HS
   rw[hc]
   have HC:=Lib.hid hc
   clear hq hc
   by_cases hjl:j<len - 1 - h
   ·have HT:Hid (thin c=(2 * c+2) / 3):=Lib.hid rfl
    go_wp2_with fail
    go_roundg (len - 1 - h - (j+1))
    case measure=>have:=HQ.out;omega
    case rel=>exact⟨⟨j+1,rfl,by omega,by go_num,by rw[HS.out,HT.out];go_num⟩,rfl⟩
   ·have HE:Hid (room k len h=c):=Lib.hid (by
     have e:j=len - 1 - h:=by omega
     rw[HRO.out,<-e,HC.out];omega)
    have hc2:¬(c:Int)<2:=by omega
    go_wp2_with fail
    refine bodyPost_ret (by simp[results,Tryz.results298,go_sem, *];try rfl) rfl ?_
    exact⟨by rw[HE.out];simp;omega,rfl⟩
 ·have HRO:Hid (room k len h=0):=Lib.hid (by unfold room;rw[if_neg hlt])
  go_enter Tryz.func298,Tryz.ntmps298
  go_wp2_with fail
  go_ret
  exact⟨by rw[HRO.out];rfl,rfl⟩
end Go.Proofs.YtilcnjbpmoijmaaGreat.K
