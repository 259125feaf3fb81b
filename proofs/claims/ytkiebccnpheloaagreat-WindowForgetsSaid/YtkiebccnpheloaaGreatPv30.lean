/- Parts of a proof: what its theorem reaches, words cut short. No condition of its own. -/
import Derived.Test.YtkiebccnpheloaaGreatPv29
import Derived.Shelf.SlSortCmp.NoneTotal
set_option maxRecDepth 100000
set_option maxHeartbeats 16000000
set_option linter.unusedVariables false
set_option linter.unusedSimpArgs false
namespace Go.Proofs.YtkiebccnpheloaaGreat.K
open Go.RowKit Go.Sort
theorem heap_putRow_far(w:World)(blk off k:Nat)(d:Array Int)(h:k≠blk):(putRow (Value.int .i64) w blk off d).heap[k]?=w.heap[k]?:=by
 unfold putRow mapBlock
 rw[Array.getElem?_modify,if_neg (fun e=>h e.symm)]
theorem heap_putRow_at(w:World)(blk off:Nat)(d:Array Int)(cur:Array Value)(t:TypeId)(f:Nat × Nat)(h:w.heap[blk]?=some (.cells cur t f)):(putRow (Value.int .i64) w blk off d).heap[blk]?=some (.cells (putCells (Value.int .i64) off d cur) t f):=by
 unfold putRow mapBlock
 rw[Array.getElem?_modify,if_pos rfl,h];rfl
theorem putCells_take(d:List Int)(cur:Array Value)(h:d.length<=cur.size):(putCells (Value.int .i64) 0 d.toArray cur).toList.take d.length=d.map (Value.int .i64):=by
 refine List.ext_getElem? fun i=>?_
 rw[List.getElem?_take]
 rcases Nat.lt_or_ge i d.length with h1|h1
 ·rw[if_pos h1,List.getElem?_map,List.getElem?_eq_getElem h1,Array.getElem?_toList]
  have h2:i<(putCells (Value.int .i64) 0 d.toArray cur).size:=by unfold putCells;rw[Array.size_mapIdx];omega
  rw[Array.getElem?_eq_getElem h2]
  simp[putCells,h1]
 ·rw[if_neg (by omega),List.getElem?_eq_none (by simpa using h1)]
theorem sort_own(v:Value)(base:Nat)(l:List Int)(w:World)(h:OwnE i64E base w v l)(hl:l.length<=1099511627776) :
 Calls Tryz.prog 264 #[v] w fun e w'=>e=.returned (.tuple #[])/\OwnE i64E base w' v (l.mergeSort fun x y=>decide (x<=y))/\Touch (fun k=>v.ownBlock=some k) w w':=by
 obtain⟨hxs,h⟩:=h
 rw[cells_i64] at hxs h
 rcases h with⟨rfl,h0⟩|⟨g,cap,cur,rfl,hbg,hg,hnc,hcm,hcs,htk⟩
 ·have e:l=[]:=List.eq_nil_of_length_eq_zero h0
  subst e
  refine(AnyM.slices_Sort_int_none Tryz.sortM none 0 w).mono ?_
  rintro e w' ⟨rfl,rfl⟩
  exact⟨rfl,by rw[List.mergeSort_nil];exact OwnE.nil_ _ _,Touch.refl _ _⟩
 ·have hk:i64E.k=1:=rfl
  rw[hk,Nat.mul_one] at hcs htk
  have hgl:g<w.heap.size:=by
   rcases Nat.lt_or_ge g w.heap.size with hlt|hge
   ·exact hlt
   ·rw[Array.getElem?_eq_none hge] at hg;cases hg
  have hH:Holds (Value.int .i64) w g 0 l.toArray:=fun j hj=>by
   have hj':j<l.length:=by simpa using hj
   refine⟨?_,?_⟩
   ·rw[Nat.zero_add,cell_of_row w g j cur _ (0,0) hg]
    have e:=congrArg (fun x=>x[j]?) htk
    simp only[List.getElem?_take,if_pos hj',List.getElem?_map,List.getElem?_eq_getElem hj',Option.map_some] at e
    rw[show cur[j]?=cur.toList[j]? by simp,e]
    simp[hj']
   ·simp[World.frozen?,hg]
  refine(AnyM.slices_Sort_int Tryz.sortM g 0 cap l w hH hgl (by omega)).mono ?_
  rintro e w' ⟨rfl,n,os,rfl⟩
  have hlen:(l.mergeSort fun x y=>decide (x<=y)).length=l.length:=(List.mergeSort_perm _ _).length_eq
  refine⟨rfl,⟨by rw[cells_i64,List.length_map,hk,Nat.mul_one],.inr ⟨g,cap,putCells (Value.int .i64) 0 (l.mergeSort fun x y=>decide (x<=y)).toArray cur,by rw[hlen],hbg,?_,by rw[hlen];exact hnc,hcm,?_,?_⟩⟩,rfl,rfl,rfl,?_,fun k hk' hne=>?_⟩
  ·rw[heap_grow_old _ _ (by unfold putRow mapBlock;simpa using hgl)]
   exact heap_putRow_at _ g 0 _ cur _ _ hg
  ·unfold putCells;rw[Array.size_mapIdx,hk,Nat.mul_one];exact hcs
  ·rw[hk,Nat.mul_one,cells_i64]
   refine putCells_take _ cur (by rw[hlen];omega)
  ·rw[size_grow];unfold putRow mapBlock;simp
  ·have hkg:k≠g:=fun e=>hne (by rw[e];rfl)
   rw[heap_grow_old _ _ (by unfold putRow mapBlock;simpa using hk')]
   exact heap_putRow_far _ g 0 k _ hkg
theorem i64I:(Tryz.prog.info? 2).map (fun i=>(i.zero,i.size,i.bytes))=some (some (.int .i64 0),1,8):=by kernel_rfl
theorem slI:(Tryz.prog.info? 236).map (fun i=>(i.zero,i.size,i.bytes))=some (some (.slice none 0 0),1,24):=by kernel_rfl
theorem clone_i64(v:Value)(l:List Int)(w:World)(h:RdE i64E w v l)(hlen:l.length<=1000000000000) :
 Calls Tryz.prog 254 #[v] w fun e w'=>∃s:Sv,e=.returned (svV s)/\OwnE i64E w.heap.size w' (svV s) l/\Below w.heap.size w w':=by
 obtain⟨i0,hi0,hiz,his,hib⟩:=info_parts i64I
 have HI:=Lib.hid hi0
 have HZ:=Lib.hid hiz
 have HSZ:=Lib.hid his
 have HBY:=Lib.hid hib
 clear hi0 hiz his hib
 obtain⟨A,c,rfl,hn,hc,hp⟩:=h.form
 have HR:=Lib.hid h
 clear h
 by_cases hnil:A=none
 ·subst hnil
  have h0:l=[]:=by
   rcases Nat.eq_zero_or_pos l.length with h0|h0
   ·exact List.eq_nil_of_length_eq_zero h0
   ·obtain⟨g,off,e,_⟩:=hp h0;cases e
  subst h0
  clear hp
  have he:(binOp .eql 236 (.slice none 0 c) (.slice none 0 0)).run Tryz.prog w=.ok (.bool true) w:=Lib.run_eql_slice_nil w _ _ _ _ _ _ _ Tryz.underlying236
  go_enter Tryz.func254,Tryz.ntmps254
  go_wp2_with fail
  go_ret
  exact⟨(none,0,0),rfl,OwnE.nil_ _ _,by(repeat' (first|(with_reducible exact Below.refl _ _)|(with_reducible refine Below.alloc ?_ ?_ _)|(with_reducible refine Below.drew ?_)|(with_reducible refine below_drewN ?_ _)|(with_reducible refine Below.setCell ?_ ?_ _)|(with_reducible refine below_of (by assumption) ?_ ?_)|go_size))⟩
 ·obtain⟨a,rfl⟩:∃a,A=some a:=by
   cases A with
   | none=>exact absurd rfl hnil
   | some a=>exact⟨a,rfl⟩
  clear hnil hp
  have he:(binOp .eql 236 (.slice (some a) l.length c) (.slice none 0 0)).run Tryz.prog w=.ok (.bool false) w:=Lib.run_eql_slice_nil w _ _ _ _ _ _ _ Tryz.underlying236
  go_enter Tryz.func254,Tryz.ntmps254
  go_wp2_with (at_builtin;refine wpList_append_E i64E (ts:=236) i0 _ 8 Tryz.underlying236 HI.out HZ.out HSZ.out HBY.out rfl (by decide) (by decide) rfl (.tmp 5) (.tmp 6) rfl w.heap.size _ [] rfl (OwnE.lit (E:=i64E) w [] _ rfl _ rfl (by decide)) _ l rfl (HR.out.keep (by(repeat' (first|(with_reducible exact Below.refl _ _)|(with_reducible refine Below.alloc ?_ ?_ _)|(with_reducible refine Below.drew ?_)|(with_reducible refine below_drewN ?_ _)|(with_reducible refine Below.setCell ?_ ?_ _)|(with_reducible refine below_of (by assumption) ?_ ?_)|go_size)))) (by simp;omega) (by simp) ?_;intro v1 w7 o1 g1 a1)
  have HB7:Below w.heap.size w w7:=(Below.alloc (Below.refl _ _) (Nat.le_refl _) _).grown g1 (by simp) (fun k hk=>by have:=Option.some.inj (show some w.heap.size=some k from hk);omega)
  simp only[List.nil_append] at o1
  obtain⟨A1,c1,rfl,_,_,_⟩:=o1.form
  go_wp2_with fail
  go_ret
  exact⟨(A1,_,c1),rfl,o1,HB7⟩
theorem roomN_succ':∀(j c:Nat),roomN (j+1) c=thin (roomN j c)
 | 0,_=>rfl
 | j+1,c=>by rw[roomN,roomN_succ' j (thin c)];rfl
theorem rroom_any(k len h:Nat)(w:World)(h2:2<=k)(hk:k<=1000000)(hl:len<=1000000000)(hh:h<=1000000000) :
 Calls Tryz.prog 280 #[.int .i64 k,.int .i64 len,.int .i64 h] w fun e w'=>e=.returned (.int .i64 (room k len h:Nat))/\w=w':=by
 by_cases hlt:h<len
 ·have HRO:Hid (room k len h=max (roomN (len - 1 - h) k) 2):=Lib.hid (by unfold room;rw[if_pos hlt])
  have hle:∀j,roomN j k<=k/\2<=roomN j k:=fun j=>roomN_le j k h2
  have HLE:=Lib.hid hle
  clear hle
  have hlt2:¬len<=h:=by omega
  have hlt3:¬(h:Int)<0:=by omega
  go_enter Tryz.func280,Tryz.ntmps280
  go_wp2_with fail
  go_loopg [7,8] (len - 1 - h) (fun q c i wr=>(∃j:Nat,q=len - 1 - h - j/\j<=len - 1 - h/\i=.int .i64 ((h+j:Nat):Int)/\c=.int .i64 ((roomN j k:Nat):Int))/\w=wr)
  case atStart=>exact⟨⟨0,by omega,by omega,rfl,rfl⟩,rfl⟩
  case round=>
   obtain⟨⟨j,hq,hj,rfl,rfl⟩,rfl⟩:=hrel
   have HQ:=Lib.hid hq
   have hb:=HLE.out j
   have HS:=Lib.hid (roomN_succ' j k)
   obtain⟨c,hc⟩:∃c,roomN j k=c:=⟨_,rfl⟩
   rw[hc] at hb HS
   rw[hc]
   have HC:=Lib.hid hc
   clear hq hc
   by_cases hjl:j<len - 1 - h
   ·have HT:Hid (thin c=if 3 * (2 * c / 3)<2 * c then 2 * c / 3+1 else 2 * c / 3):=Lib.hid (by unfold thin;split<;>omega)
    by_cases h3:3 * (2 * c / 3)<2 * c
    ·have h3':3 * (2 * (c:Int) / 3)<2 * (c:Int):=by omega
     go_wp2_with fail
     go_roundg (len - 1 - h - (j+1))
     case measure=>have:=HQ.out;omega
     case rel=>exact⟨⟨j+1,rfl,by omega,by go_num,by rw[HS.out,HT.out,if_pos h3];go_num⟩,rfl⟩
    ·have h3':¬3 * (2 * (c:Int) / 3)<2 * (c:Int):=by omega
     go_wp2_with fail
     go_roundg (len - 1 - h - (j+1))
     case measure=>have:=HQ.out;omega
     case rel=>exact⟨⟨j+1,rfl,by omega,by go_num,by rw[HS.out,HT.out,if_neg h3];go_num⟩,rfl⟩
   ·have HE:Hid (room k len h=c):=Lib.hid (by
     have e:j=len - 1 - h:=by omega
     rw[HRO.out,<-e,HC.out];omega)
    have hc2:¬(c:Int)<2:=by omega
    go_wp2_with fail
    refine bodyPost_ret (by simp[results,Tryz.results280,go_sem, *];try rfl) rfl ?_
    exact⟨by rw[HE.out],rfl⟩
 ·have HRO:Hid (room k len h=0):=Lib.hid (by unfold room;rw[if_neg hlt])
  go_enter Tryz.func280,Tryz.ntmps280
  go_wp2_with fail
  go_ret
  exact⟨by rw[HRO.out];rfl,rfl⟩
abbrev Kst(F:Nat->Prop)(w:World)(g k n led:Nat)(lv:Value)(vs:List Sv)(L:LL):Prop:=StG 249 (.int .i64 k) [.int .u64 n,.int .u64 led] F w g lv vs L
abbrev Rst(F:Nat->Prop)(w:World)(g k led:Nat)(lv:Value)(vs:List Sv)(L:LL):Prop:=StG 154 (.int .i64 k) [.int .u64 led] F w g lv vs L
theorem room_any{F:Nat->Prop}{g k n led:Nat}{lv:Value}{vs:List Sv}{L:LL}(h:Nat)(w:World)(hs:Kst F w g k n led lv vs L)(h2:2<=k)(hk:k<=1000000)(hl:L.length<=1000000000)(hh:h<=1000000000) :
 Calls Tryz.prog 363 #[.pointer (some ⟨g,0,none⟩),.int .i64 h] w fun e w'=>e=.returned (.int .i64 (room k L.length h:Nat))/\w=w':=by
 obtain⟨A,c,rfl,_,_,_⟩:=hs.form
 have c0:=hs.cell0
 have c1:=hs.cell1
 clear hs
 generalize L.length=len at *
 by_cases hlt:h<len
 ·have HRO:Hid (room k len h=max (roomN (len - 1 - h) k) 2):=Lib.hid (by unfold room;rw[if_pos hlt])
  have HLE:=Lib.hid (fun j=>roomN_le j k h2)
  have hlt2:¬len<=h:=by omega
  have hlt3:¬(h:Int)<0:=by omega
  go_enter Tryz.func363,Tryz.ntmps363
  go_wp2_with fail
  go_loopg [5,29] (len - 1 - h) (fun q c i wr=>(∃j:Nat,q=len - 1 - h - j/\j<=len - 1 - h/\i=.int .i64 (j:Int)/\c=.int .i64 ((roomN j k:Nat):Int))/\w=wr)
  case atStart=>exact⟨⟨0,by omega,by omega,rfl,rfl⟩,rfl⟩
  case round=>
   obtain⟨⟨j,hq,hj,rfl,rfl⟩,rfl⟩:=hrel
   have HQ:=Lib.hid hq
   have hb:=HLE.out j
   have HS:=Lib.hid (roomN_succ' j k)
   obtain⟨c,hc⟩:∃c,roomN j k=c:=⟨_,rfl⟩
   rw[hc] at hb HS
   rw[hc]
   have HC:=Lib.hid hc
   clear hq hc
   by_cases hjl:j<len - 1 - h
   ·have HT:Hid (thin c=(2 * c+2) / 3):=Lib.hid rfl
    go_wp2_with fail
    go_roundg (len - 1 - h - (j+1))
    case measure=>have:=HQ.out;omega
    case rel=>exact⟨⟨j+1,rfl,by omega,by go_num,by rw[HS.out,HT.out];go_num⟩,rfl⟩
   ·have HE:Hid (room k len h=c):=Lib.hid (by
     have e:j=len - 1 - h:=by omega
     rw[HRO.out,<-e,HC.out];omega)
    have hc2:¬(c:Int)<2:=by omega
    go_wp2_with fail
    refine bodyPost_ret (by simp[results,Tryz.results363,go_sem, *];try rfl) rfl ?_
    exact⟨by rw[HE.out];simp;omega,rfl⟩
 ·have HRO:Hid (room k len h=0):=Lib.hid (by unfold room;rw[if_neg hlt])
  go_enter Tryz.func363,Tryz.ntmps363
  go_wp2_with fail
  go_ret
  exact⟨by rw[HRO.out];rfl,rfl⟩
theorem ins_at:∀{l:List Int} {v:Int} {j:Nat} (_:j<l.length) (_:∀i (h:i<l.length),i<j->¬v<l[i]),v<l[j]->ins v l=l.take j++v::l.drop j
 | y::l,v,0,_,_,h=>by
  have h':v<y:=h
  simp[ins,h']
 | y::l,v,j+1,hj,hn,h=>by
  have h0:¬v<y:=hn 0 (by simp) (by omega)
  have ih:=ins_at (l:=l) (v:=v) (j:=j) (by simpa using hj) (fun i hi hij=>by have:=hn (i+1) (by simpa using hi) (by omega);simpa using this) (by simpa using h)
  rw[ins,if_neg h0,ih];simp
theorem ins_end:∀{l:List Int} {v:Int} (_:∀i (h:i<l.length),¬v<l[i]),ins v l=l++[v]
 | [],v,_=>rfl
 | y::l,v,hn=>by
  have h0:¬v<y:=hn 0 (by simp)
  rw[ins,if_neg h0,ins_end (l:=l) (fun i hi=>by have:=hn (i+1) (by simpa using hi);simpa using this)];rfl
def IntoAt(l:List Int)(v:Int)(j:Nat)(d:Bool)(o:List Int):Prop:=
 if d then o++l.drop j=ins v l else o=l.take j/\∀i (h:i<l.length),i<j->¬v<l[i]
theorem IntoAt.len{l:List Int}{v:Int}{j:Nat}{d:Bool}{o:List Int}(h:IntoAt l v j d o):o.length<=l.length+1:=by
 unfold IntoAt at h
 split at h
 ·have:=congrArg List.length h
  rw[ins_length,List.length_append] at this;omega
 ·rw[h.1,List.length_take];omega
theorem IntoAt.pass{l:List Int}{v:Int}{j:Nat}{o:List Int}(h:IntoAt l v j false o)(hj:j<l.length)(hv:¬v<l[j]):IntoAt l v (j+1) false (o++[l[j]]):=by
 unfold IntoAt at h |-
 simp only[Bool.false_eq_true,if_false] at h |-
 refine⟨by rw[h.1,List.take_succ_eq_append_getElem hj],fun i hi hij=>?_⟩
 rcases Nat.lt_or_ge i j with h1|h1
 ·exact h.2 i hi h1
 ·obtain rfl:i=j:=by omega
  exact hv
theorem IntoAt.hit{l:List Int}{v:Int}{j:Nat}{o:List Int}(h:IntoAt l v j false o)(hj:j<l.length)(hv:v<l[j]):IntoAt l v (j+1) true (o++[v]++[l[j]]):=by
 unfold IntoAt at h |-
 simp only[Bool.false_eq_true,if_false,if_true] at h |-
 rw[ins_at hj h.2 hv,h.1,List.drop_eq_getElem_cons hj];simp
theorem IntoAt.rest{l:List Int}{v:Int}{j:Nat}{o:List Int}(h:IntoAt l v j true o)(hj:j<l.length):IntoAt l v (j+1) true (o++[l[j]]):=by
 unfold IntoAt at h |-
 simp only[if_true] at h |-
 rw[<-h,List.drop_eq_getElem_cons hj];simp
theorem IntoAt.fin1{l:List Int}{v:Int}{o:List Int}(h:IntoAt l v l.length true o):o=ins v l:=by
 unfold IntoAt at h
 simp only[if_true,List.drop_length,List.append_nil] at h
 exact h
theorem IntoAt.fin0{l:List Int}{v:Int}{o:List Int}(h:IntoAt l v l.length false o):o++[v]=ins v l:=by
 unfold IntoAt at h
 simp only[Bool.false_eq_true,if_false,List.take_length] at h
 rw[ins_end (fun i hi=>h.2 i hi hi),h.1]
theorem into_any(v:Value)(l:List Int)(x:Int)(w:World)(h:RdE i64E w v l)(hl:l.length<=1000000000) :
 Calls Tryz.prog 279 #[v,.int .i64 x] w fun e w'=>∃s:Sv,e=.returned (svV s)/\OwnE i64E w.heap.size w' (svV s) (ins x l)/\Below w.heap.size w w':=by
 obtain⟨i0,hi0,hiz,his,hib⟩:=info_parts i64I
 have HI:=Lib.hid hi0
 have HZ:=Lib.hid hiz
 have HSZ:=Lib.hid his
 have HBY:=Lib.hid hib
 clear hi0 hiz his hib
 obtain⟨A,c,rfl,hn,hc,hp⟩:=h.form
 have HP:=Lib.hid hp
 clear h hp
 go_enter Tryz.func279,Tryz.ntmps279
 go_wp2_with fail
 go_loopg [5,6,7] l.length (fun q u d i wr=>∃(j:Nat) (b:Bool) (o:List Int),q=l.length - j/\j<=l.length/\i=.int .i64 j/\d=.bool b/\Hid (IntoAt l x j b o)/\Hid (OwnE i64E w.heap.size wr u o)/\Hid (Below w.heap.size w wr))
 case atStart=>exact⟨0,false,[],rfl,by omega,rfl,rfl,Lib.hid (by unfold IntoAt;exact⟨rfl,fun i _ h=>absurd h (by omega)⟩),Lib.hid (OwnE.nil_ _ _),Lib.hid (Below.refl _ _)⟩
 case round=>
  obtain⟨j,b,o,hk,hj,rfl,rfl,HT,HO,HB⟩:=hrel
  have HK:=Lib.hid hk
  have hz:=HB.out.size
  have hol:=HT.out.len
  clear hk
  obtain⟨a5,c5,rfl,_,_,_⟩:=HO.out.form
  by_cases hlt:j<l.length
  ·obtain⟨g,off,rfl,hg,c0⟩:=(HP.out.keep HB.out).i64 hlt
   cases b
   ·by_cases hv:x<l[j]
    ·have HN:=Lib.hid (HT.out.hit hlt hv)
     go_upto_region 9 with(at_builtin;refine wpList_append_E i64E (ts:=236) i0 _ 8 Tryz.underlying236 HI.out HZ.out HSZ.out HBY.out rfl (by decide) (by decide) rfl (.tmp 24) (.tmp 26) rfl w.heap.size (.slice a5 o.length c5) o rfl (HO.out.alloc _) _ [x] rfl (RdE.one_at (E:=i64E) _ x _ rfl _ rfl _ rfl) (by simp;omega) (by simp;omega) ?_;intro v6 w6 o6 g6 a6)
     have HB6:Hid (Below w.heap.size w w6):=Lib.hid ((HB.out.alloc hz _).grown g6 (by simp;omega) (fun k hk=>(HO.out.lt k hk).1))
     obtain⟨lm,hlm⟩:∃y,o++[x]=y:=⟨_,rfl⟩
     have hml:lm.length=o.length+1:=by rw[<-hlm];simp
     rw[hlm] at o6 HN
     have O6:=Lib.hid o6
     obtain⟨a7,c7,rfl,_,_,_⟩:=o6.form
     obtain⟨g',off',e6,hg',k0⟩:=(HP.out.keep HB6.out).i64 hlt
     injection e6 with e6
     injection e6 with e6 e7
     subst e6;subst e7
     have hz6:=HB6.out.size
     clear o6 g6 a6 c0 hlm
     go_wp2_with (at_builtin;refine wpList_append_E i64E (ts:=236) i0 _ 8 Tryz.underlying236 HI.out HZ.out HSZ.out HBY.out rfl (by decide) (by decide) rfl (.tmp 28) (.tmp 33) rfl w.heap.size (.slice a7 lm.length c7) lm rfl (O6.out.alloc _) _ [l[j]] rfl (RdE.one_at (E:=i64E) _ l[j] _ rfl _ rfl _ rfl) (by simp;omega) (by simp;omega) ?_;intro v8 w8 o8 g8 a8)
     have HB8:Hid (Below w.heap.size w w8):=Lib.hid ((HB6.out.alloc hz6 _).grown g8 (by simp;omega) (fun k hk=>(O6.out.lt k hk).1))
     have O8:=Lib.hid o8
     clear o8 g8 a8 hml
     go_wp2_with fail
     go_roundg (l.length - (j+1))
     case measure=>have:=HK.out;omega
     case rel=>exact⟨j+1,true,_,rfl,by omega,by go_num,rfl,HN,O8,HB8⟩
    ·have HN:=Lib.hid (HT.out.pass hlt hv)
     go_wp2_with (at_builtin;refine wpList_append_E i64E (ts:=236) i0 _ 8 Tryz.underlying236 HI.out HZ.out HSZ.out HBY.out rfl (by decide) (by decide) rfl (.tmp 28) (.tmp 33) rfl w.heap.size (.slice a5 o.length c5) o rfl (HO.out.alloc _) _ [l[j]] rfl (RdE.one_at (E:=i64E) _ l[j] _ rfl _ rfl _ rfl) (by simp;omega) (by simp;omega) ?_;intro v8 w8 o8 g8 a8)
     have HB8:Hid (Below w.heap.size w w8):=Lib.hid ((HB.out.alloc hz _).grown g8 (by simp;omega) (fun k hk=>(HO.out.lt k hk).1))
     have O8:=Lib.hid o8
     clear o8 g8 a8
     go_wp2_with fail
     go_roundg (l.length - (j+1))
     case measure=>have:=HK.out;omega
     case rel=>exact⟨j+1,false,_,rfl,by omega,by go_num,rfl,HN,O8,HB8⟩
   ·have HN:=Lib.hid (HT.out.rest hlt)
    go_wp2_with (at_builtin;refine wpList_append_E i64E (ts:=236) i0 _ 8 Tryz.underlying236 HI.out HZ.out HSZ.out HBY.out rfl (by decide) (by decide) rfl (.tmp 28) (.tmp 33) rfl w.heap.size (.slice a5 o.length c5) o rfl (HO.out.alloc _) _ [l[j]] rfl (RdE.one_at (E:=i64E) _ l[j] _ rfl _ rfl _ rfl) (by simp;omega) (by simp;omega) ?_;intro v8 w8 o8 g8 a8)
    have HB8:Hid (Below w.heap.size w w8):=Lib.hid ((HB.out.alloc hz _).grown g8 (by simp;omega) (fun k hk=>(HO.out.lt k hk).1))
    have O8:=Lib.hid o8
    clear o8 g8 a8
    go_wp2_with fail
    go_roundg (l.length - (j+1))
    case measure=>have:=HK.out;omega
    case rel=>exact⟨j+1,true,_,rfl,by omega,by go_num,rfl,HN,O8,HB8⟩
  ·obtain rfl:j=l.length:=by omega
   cases b
   ·have HF:=Lib.hid HT.out.fin0
    go_wp2_with (at_builtin;refine wpList_append_E i64E (ts:=236) i0 _ 8 Tryz.underlying236 HI.out HZ.out HSZ.out HBY.out rfl (by decide) (by decide) rfl (.tmp 37) (.tmp 39) rfl w.heap.size (.slice a5 o.length c5) o rfl (HO.out.alloc _) _ [x] rfl (RdE.one_at (E:=i64E) _ x _ rfl _ rfl _ rfl) (by simp;omega) (by simp;omega) ?_;intro v8 w8 o8 g8 a8)
    have HB8:Hid (Below w.heap.size w w8):=Lib.hid ((HB.out.alloc hz _).grown g8 (by simp;omega) (fun k hk=>(HO.out.lt k hk).1))
    rw[HF.out] at o8
    have O8:=Lib.hid o8
    obtain⟨a9,c9,rfl,_,_,_⟩:=o8.form
    clear o8 g8 a8
    go_wp2_with fail
    go_ret
    exact⟨(a9,_,c9),rfl,O8.out,HB8.out⟩
   ·have HF:=Lib.hid HT.out.fin1
    go_wp2_with fail
    go_ret
    exact⟨(a5,_,c5),rfl,by rw[<-HF.out];exact HO.out,HB.out⟩
end Go.Proofs.YtkiebccnpheloaaGreat.K
namespace Go.Proofs.YtkiebccnpheloaaGreat.D
open Go.RowKit Go.Sort Go.Shelf
abbrev KeyP:={p:Pr // 0<=p.1/\p.1<=16777216}
instance:Inhabited KeyP:=⟨⟨(0,0),by decide⟩⟩
def kpE(x:KeyP):List Value:=[.int .i64 x.1.1,.int .u64 x.1.2]
def kpC(x y:KeyP):Int:=x.1.1 - y.1.1
theorem kp_lt(x y:KeyP):ltOf kpC x y=decide (x.1.1<y.1.1):=by unfold ltOf kpC;congr 1;exact propext ⟨fun h=>by omega,fun h=>by omega⟩
theorem kpO:SWO (ltOf kpC):=⟨fun x=>by rw[kp_lt];simp,fun x y z=>by simp only[kp_lt,decide_eq_true_eq];omega,fun x y z=>by simp only[kp_lt,decide_eq_false_iff_not];omega⟩
theorem flat_pr(d:List KeyP):flatK kpE 2 d.toArray=(cellsE prE (d.map Subtype.val)).toArray:=by
 have hl:(cellsE prE (d.map Subtype.val)).length=d.length * 2:=by rw[cellsE_length,List.length_map];rfl
 refine ext_get! (by simp[hl]) fun t ht=>?_
 have ht':t<d.length * 2:=by simpa using ht
 rw[get_flatK _ _ _ t (by simpa using ht')]
 have hj:t / 2<d.length:=by omega
 have e:=cellsE_get prE (d.map Subtype.val) (t / 2) (by simpa using hj) (t % 2) (Nat.mod_lt _ (by decide))
 rw[show t / 2 * prE.k+t % 2=t by show t / 2 * 2+t % 2=t;omega] at e
 have e2:(d.toArray)[t / 2]! = d[t / 2]:=by rw[getElem!_pos _ _ (by simpa using hj)];simp
 have ht2:t<(cellsE prE (d.map Subtype.val)).toArray.size:=by simpa[hl] using ht'
 rw[e2,getElem!_pos (cellsE prE (d.map Subtype.val)).toArray t ht2]
 rw[List.getElem?_eq_getElem (by rw[hl];exact ht')] at e
 have hm:t % 2<(kpE d[t / 2]).length:=Nat.mod_lt _ (by decide)
 rw[getElem!_pos (kpE d[t / 2]) (t % 2) hm]
 simp only[List.getElem_map] at e
 have e3:(prE.enc d[t / 2].1)[t % 2]?=some ((kpE d[t / 2])[t % 2]):=List.getElem?_eq_getElem hm
 rw[e3] at e
 simpa using (Option.some.inj e).symm
theorem pairs1_any(x y:KeyP)(w:World):Calls Tryz.prog 256 #[.agg (kpE x).toArray,.agg (kpE y).toArray] w fun e w'=>e=.returned (.int .i64 (kpC x y))/\∃q os,w'=grow (w.drewN q) os:=by
 obtain⟨⟨a,n⟩,ha,ha2⟩:=x
 obtain⟨⟨b,k⟩,hb,hb2⟩:=y
 simp only at ha ha2 hb hb2
 show Calls Tryz.prog 256 #[.agg #[.int .i64 a,.int .u64 n],.agg #[.int .i64 b,.int .u64 k]] w fun e w'=>e=.returned (.int .i64 (a - b))/\∃q os,w'=grow (w.drewN q) os
 go_enter Tryz.func256,Tryz.ntmps256
 go_wp2_with fail
 go_ret
 exact⟨rfl,0,_,by rw[alloc_eq_grow,alloc_eq_grow,grow_grow];rfl⟩
theorem heap_putId_far(w:World)(blk off k:Nat)(d:Array Value)(h:k≠blk):(putRow id w blk off d).heap[k]?=w.heap[k]?:=by
 unfold putRow mapBlock
 rw[Array.getElem?_modify,if_neg (fun e=>h e.symm)]
theorem heap_putId_at(w:World)(blk off:Nat)(d:Array Value)(cur:Array Value)(t:TypeId)(f:Nat × Nat)(h:w.heap[blk]?=some (.cells cur t f)):(putRow id w blk off d).heap[blk]?=some (.cells (putCells id off d cur) t f):=by
 unfold putRow mapBlock
 rw[Array.getElem?_modify,if_pos rfl,h];rfl
theorem putId_take(d:List Value)(cur:Array Value)(h:d.length<=cur.size):(putCells id 0 d.toArray cur).toList.take d.length=d:=by
 refine List.ext_getElem? fun i=>?_
 rw[List.getElem?_take]
 rcases Nat.lt_or_ge i d.length with h1|h1
 ·rw[if_pos h1,List.getElem?_eq_getElem h1,Array.getElem?_toList]
  have h2:i<(putCells id 0 d.toArray cur).size:=by unfold putCells;rw[Array.size_mapIdx];omega
  rw[Array.getElem?_eq_getElem h2]
  simp[putCells,h1]
 ·rw[if_neg (by omega),List.getElem?_eq_none (by simpa using h1)]
theorem sortP_own(v:Value)(base:Nat)(out l:List Pr)(w:World)(h:OwnE prE base w v out)(hs:SrtP l)(hp:PosP l)(hperm:out.Perm l)(hb:∀p∈l,0<=p.1/\p.1<=16777216)(hl:l.length<=1099511627776) :
 Calls Tryz.prog 255 #[v,.func (.func 256) #[] #[]] w fun e w'=>e=.returned (.tuple #[])/\OwnE prE base w' v l/\Touch (fun k=>v.ownBlock=some k) w w':=by
 have hlen:=hperm.length_eq
 obtain⟨hxs,h⟩:=h
 rcases h with⟨rfl,h0⟩|⟨g,cap,cur,rfl,hbg,hg,hnc,hcm,hcs,htk⟩
 ·have e:l=[]:=List.eq_nil_of_length_eq_zero (by omega)
  subst e
  have e:out=[]:=List.eq_nil_of_length_eq_zero h0
  subst e
  refine(AnyF.slices_SortFunc_none Tryz.sortF none 0 _ w).mono ?_
  rintro e w' ⟨rfl,rfl⟩
  exact⟨rfl,OwnE.nil_ _ _,Touch.refl _ _⟩
 ·have hk:prE.k=2:=rfl
  rw[hk] at hcs htk
  have hgl:g<w.heap.size:=by
   rcases Nat.lt_or_ge g w.heap.size with hlt|hge
   ·exact hlt
   ·rw[Array.getElem?_eq_none hge] at hg;cases hg
  have hbo:∀p∈out,0<=p.1/\p.1<=16777216:=fun p hp=>hb p (hperm.mem_iff.1 hp)
  obtain⟨d,hd⟩:∃d:List KeyP,d.map Subtype.val=out:=⟨out.attach.map (fun x=>⟨x.1,hbo x.1 x.2⟩),by rw[List.map_map];exact List.attach_map_subtype_val out⟩
  have hdl:d.length=out.length:=by rw[<-hd,List.length_map]
  have hH:HoldsK kpE 2 w g 0 d.toArray:=fun j hj=>by
   rw[flat_pr,hd] at hj |-
   have hj':j<(cellsE prE out).length:=by simpa using hj
   have hj2:j<out.length * 2:=by rw[cellsE_length] at hj';exact hj'
   refine⟨?_,?_⟩
   ·rw[Nat.zero_add,cell_of_row w g j cur _ (0,0) hg]
    have e:=congrArg (fun x=>x[j]?) htk
    simp only[List.getElem?_take,if_pos hj2] at e
    rw[show cur[j]?=cur.toList[j]? by simp,e,List.getElem?_eq_getElem hj']
    simp[hj']
   ·simp[World.frozen?,hg]
  have hsz:d.toArray.size=out.length:=by simpa using hdl
  have C:=AnyQ.slices_SortFunc Tryz.sortF 2 (by intro w;kernel_rfl) (by intro w;kernel_rfl) kpE (fun x=>rfl) (fun x v hv=>by simp[kpE] at hv;rcases hv with rfl|rfl<;>rfl) kpC kpO 256 #[] g 0 cap d.toArray w (fun args w=>rfl) (fun m os dk _ x y=>by simpa using pairs1_any x y _) hH hgl (by rw[hsz];omega)
  rw[hsz] at C
  refine C.mono ?_
  rintro e w' ⟨rfl,d',n,os,hpm,hst,rfl⟩
  have hpd:d'.toList.Perm d:=by
   have h3:=hpm.2.2
   rw[Array.extract_eq_self_of_le (by rw[hpm.1];simp[hdl]),Array.extract_eq_self_of_le (by simp[hdl])] at h3
   simpa using h3
  have hl2:d'.toList.map Subtype.val=l:=by
   refine sorted_is hs hp ((hpd.map _).trans (by rw[hd];exact hperm)) ?_
   rw[List.pairwise_map,List.pairwise_iff_getElem]
   intro i j hi hj hij
   have hj2:j<out.length:=by have:=hpd.length_eq;omega
   have:=hst i j (Nat.zero_le _) hij hj2
   rw[kp_lt] at this
   rw[getElem!_pos d' i (by simpa using hi),getElem!_pos d' j (by simpa using hj)] at this
   simp at this
   simpa using this
  have hfl:flatK kpE 2 d'=(cellsE prE l).toArray:=by rw[<-hl2,<-flat_pr]
  have hcl:(cellsE prE l).length=l.length * 2:=by rw[cellsE_length];rfl
  have hsw:∀k,k<w.heap.size->(sortWorldK kpE 2 w g 0 n d' os).heap[k]?=(putRow id w g 0 (cellsE prE l).toArray).heap[k]?:=fun k hk'=>by
   unfold sortWorldK putRowK
   rw[hfl,heap_grow_old _ _ (by unfold putRow mapBlock;simpa using hk')]
   rfl
  refine⟨rfl,⟨by rw[hcl,hk],.inr ⟨g,cap,putCells id 0 (cellsE prE l).toArray cur,by rw[hlen],hbg,?_,by omega,hcm,?_,?_⟩⟩,rfl,rfl,rfl,?_,fun k hk' hne=>?_⟩
  ·rw[hsw g hgl]
   exact heap_putId_at w g 0 _ cur _ _ hg
  ·unfold putCells;rw[Array.size_mapIdx,hk];exact hcs
  ·rw[hk,<-hcl]
   refine putId_take _ cur (by rw[hcl];omega)
  ·unfold sortWorldK
   rw[size_grow];unfold putRowK putRow mapBlock;simp
  ·have hkg:k≠g:=fun e=>hne (by rw[e];rfl)
   rw[hsw k hk']
   exact heap_putId_far _ g 0 k _ hkg
open Go.RowKit Go.Lib Go.Shelf Go.Maps
section
variable {x lo hi dg u m bk : Nat} {gr : Bool} {l : List Pr} {F : Ft}
theorem pairs_cell{b:Nat}(w:World)(k3:w.cell? ⟨x,3,none⟩=some (.map (some b)))(hC:CtAt w b l)(ok:HsOk lo hi dg u m gr bk l):Calls Tryz.prog 164 #[.pointer (some ⟨x,0,none⟩)] w fun e w'=>∃v,e=.returned v/\OwnE prE w.heap.size w' v l/\Below w.heap.size w w':=by
 obtain⟨D,hown,hD⟩:=hC
 have hbl:=hown.lt
 have OK:=Lib.hid ok
 have LD:=Lib.hid hD
 have hlen:=ok.len
 have CS:Hid (∀(v:Value) (out:List Pr) (w1:World) (base:Nat),OwnE prE base w1 v out->out.Perm l->_):=Lib.hid (fun v out w1 base h hp=>sortP_own v base out l w1 h ok.srt ok.pos hp ok.kb (by omega))
 clear ok hD
 obtain⟨r,hr⟩:∃r,w.heap.size=r:=⟨_,rfl⟩
 go_enter Tryz.func164,Tryz.ntmps164
 go_wp2_with (at_range;refine wpList_range_own _ rfl _ 239 rfl 3 53 keyI mapU _ b _ D rfl hown ?_;intro w0 hrg0 hg0 hs0)
 go_frame
 rw[hr] at hrg0 hs0 |-
 have hb0:Below w.heap.size w w0:=(Below.refl _ _).grown hg0 (Nat.le_refl _) (fun j hj=>by cases hj)
 have hN0:OwnE prE (r+1) w0 (.slice none 0 0) []:=OwnE.nil_ _ _
 go_loopg [3] (Maps.size D) (fun q s wr=>∃(left:Lit->Bool) (out:List Pr),wr.ranges Tryz.prog 3 (plainElem (H:=Unit) Tryz.prog 53) b r l.length D left q/\Hid (RgI l out left)/\Hid (OwnE prE (r+1) wr s out)/\Below w.heap.size w wr/\r+1<=wr.heap.size)
 case atStart=>exact⟨_,[],hrg0,Lib.hid (rg_start LD.out),Lib.hid hN0,hb0,by omega⟩
 case round=>
  obtain⟨left,out,hrg,HR,HO,hb,hz⟩:=hrel
  obtain⟨A5,c5,rfl,_,_,_⟩:=HO.out.form
  go_wp2_with (at_next;refine wpList_next_ranges_ii _ rfl _ rfl 3 53 .i64 .u64 keyI intU u64U b r _ _ _ _ rfl hrg ?_ ?_)
  ·intro hc0 hl0
   have HP:=Lib.hid (rg_end HR.out hl0)
   go_wp2_with fail
   refine(CS.out _ _ _ _ HO.out HP.out).mono ?_
   rintro e w2 ⟨rfl,o2,t2⟩
   go_wp2_with fail
   go_ret
   refine⟨_,rfl,o2.more (by omega),?_⟩
   exact hb.trans (t2.below (fun k hk=>by have:=(HO.out.lt k hk).1;omega) hb.size)
  ·intro z c w1 cnt1 hwx hwc hlx hat hrg1 hlt hg1 hs1 hen
   have hin:=Lib.hid (rg_in LD.out OK.out.srt hat)
   have HR1:=Lib.hid (rg_step OK.out.srt HR.out hlx hin.out)
   have hol:=rg_len HR.out
   have O1:=Lib.hid (HO.out.grown hg1 (.inr (fun e=>by have:=(HO.out.lt r e).1;omega)))
   have hb1:Below w.heap.size w w1:=hb.grown hg1 hb.size (fun j hj=>by cases hj;omega)
   have hz1:r+1<=w1.heap.size:=by omega
   have hne:∀k,k<=r->(Value.slice A5 out.length c5).ownBlock≠some k:=fun k hk e=>by have:=(HO.out.lt k e).1;omega
   have hO1:=O1.out
   clear hat hlx hg1 hs1
   go_wp2_with (at_builtin;refine apL tyPr rfl (.tmp 16) (.tmp 20) rfl (O1.out.alloc _) rfl _ [(z,c)] rfl (RdE.one_at (E:=prE) _ (z,c) _ rfl _ rfl _ (by simp)) (by simp;omega) (by go_size) ?_;intro v6 w6 o6 g6 _;have HB6:Hid (Below w.heap.size w w6):=Lib.hid ((hb1.alloc hb1.size _).grown g6 (by simp;have:=hb1.size;omega) (fun k hk=>by have:=(O1.out.lt k hk).1;omega));have O6:=Lib.hid o6;have R6:=Lib.hid ((hrg1.alloc _).kept g6 (fun e=>hne b (by omega) e.symm) (fun e=>hne r (Nat.le_refl _) e.symm));have hz6:=g6.size;clear o6 g6)
   go_roundg cnt1
   case measure=>exact hlt
   case rel=>exact⟨_,out++[(z,c)],R6.out,HR1,O6,HB6.out,by simp at hz6;omega⟩
theorem hs_pairs(w:World)(h:HsAt x lo hi dg u m gr bk l F w)(ok:HsOk lo hi dg u m gr bk l):Calls Tryz.prog 164 #[.pointer (some ⟨x,0,none⟩)] w fun e w'=>∃v,e=.returned v/\OwnE prE w.heap.size w' v l/\Below w.heap.size w w':=by
 obtain⟨g,b,hB,hM,hC,_⟩:=h
 have k3:=hB.cell 3
 simp only[List.getElem?_toArray,List.getElem?_cons_zero,List.getElem?_cons_succ] at k3
 exact pairs_cell w k3 hC ok
end
end Go.Proofs.YtkiebccnpheloaaGreat.D
namespace Go.Proofs.YtkiebccnpheloaaGreat
open Go.RowKit
end Go.Proofs.YtkiebccnpheloaaGreat
namespace Go.Proofs.YtkiebccnpheloaaGreat.D
open Go.RowKit Go.Lib
open Go.RowKit Go.Lib
end Go.Proofs.YtkiebccnpheloaaGreat.D
