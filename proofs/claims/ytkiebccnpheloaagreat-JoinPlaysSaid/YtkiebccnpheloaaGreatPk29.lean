/- Parts of a proof: what its theorem reaches, words cut short. No condition of its own. -/
import Derived.Test.YtkiebccnpheloaaGreatPk28
import Derived.Shelf.SlSortCmp.NoneTotal
import Derived.Test.YtkiebccnpheloaaGreatPk27
set_option maxRecDepth 100000
set_option maxHeartbeats 16000000
set_option linter.unusedVariables false
set_option linter.unusedSimpArgs false
namespace Go.Proofs.YtkiebccnpheloaaGreat.K
open Go.RowKit Go.Sort
theorem Ae(w:World)(blk off k:Nat)(d:Array Int)(h:k≠blk):(putRow (Value.int .i64) w blk off d).heap[k]?=w.heap[k]?:=by
 unfold putRow mapBlock;rw[Array.getElem?_modify,if_neg (fun e=>h e.symm)]
theorem DL(w:World)(blk off:Nat)(d:Array Int)(cur:Array Value)(t:TypeId)(f:Nat × Nat)(h:w.heap[blk]?=some (.cells cur t f)):(putRow (Value.int .i64) w blk off d).heap[blk]?=some (.cells (putCells (Value.int .i64) off d cur) t f):=by
 unfold putRow mapBlock;rw[Array.getElem?_modify,if_pos rfl,h];rfl
theorem Fh(d:List Int)(cur:Array Value)(h:d.length<=cur.size):(putCells (Value.int .i64) 0 d.toArray cur).toList.take d.length=d.map (Value.int .i64):=by
 refine List.ext_getElem? fun i=>?_
 rw[List.getElem?_take]
 rcases bJ i d.length with h1|h1
 ·rw[if_pos h1,List.getElem?_map,aY h1,Array.getElem?_toList]
  have h2:i<(putCells (Value.int .i64) 0 d.toArray cur).size:=by unfold putCells;rw[Array.size_mapIdx];omega
  rw[Array.getElem?_eq_getElem h2];simp[putCells,h1]
 ·rw[if_neg ae,List.getElem?_eq_none (by simpa using h1)]
theorem XV(v:Value)(base:Nat)(l:List Int)(w:World)(h:dI fZ base w v l)(hl:l.length<=1099511627776) :
 Calls Tryz.prog 264 #[v] w fun e w'=>e=.returned (.tuple #[])/\dI fZ base w' v (l.mergeSort fun x y=>decide (x<=y))/\Touch (fun k=>v.ownBlock=some k) w w':=by
 obtain⟨hxs,h⟩:=h;rw[qC] at hxs h
 rcases h with⟨rfl,h0⟩|⟨g,cap,cur,rfl,hbg,hg,hnc,hcm,hcs,htk⟩
 ·have e:l=[]:=aW h0
  subst e;refine(AnyM.slices_Sort_int_none Tryz.sortM none 0 w).mono ?_
  rintro e w' ⟨rfl,rfl⟩;exact⟨rfl,by rw[List.mergeSort_nil];exact dI.nil_ _ _,Touch.refl _ _⟩
 ·have hk:fZ.k=1:=rfl
  rw[hk,Nat.mul_one] at hcs htk;have hgl:g<w.heap.size:=by
   rcases bJ g w.heap.size with hlt|hge
   ·exact hlt
   ·rw[Array.getElem?_eq_none hge] at hg;cases hg
  have hH:Holds (Value.int .i64) w g 0 l.toArray:=fun j hj=>by
   have hj':j<l.length:=by simpa using hj
   refine⟨?_,?_⟩
   ·rw[Nat.zero_add,cell_of_row w g j cur _ (0,0) hg]
    have e:=congrArg (fun x=>x[j]?) htk
    simp only[List.getElem?_take,if_pos hj',List.getElem?_map,aY hj',Option.map_some] at e;rw[show cur[j]?=cur.toList[j]? by simp,e]
    simp[hj']
   ·simp[World.frozen?,hg]
  refine(AnyM.slices_Sort_int Tryz.sortM g 0 cap l w hH hgl ae).mono ?_
  rintro e w' ⟨rfl,n,os,rfl⟩;have hlen:(l.mergeSort fun x y=>decide (x<=y)).length=l.length:=(List.mergeSort_perm _ _).length_eq
  refine⟨rfl,⟨by rw[qC,List.length_map,hk,Nat.mul_one],.inr ⟨g,cap,putCells (Value.int .i64) 0 (l.mergeSort fun x y=>decide (x<=y)).toArray cur,by rw[hlen],hbg,?_,by rw[hlen];exact hnc,hcm,?_,?_⟩⟩,rfl,rfl,rfl,?_,fun k hk' hne=>?_⟩
  ·rw[heap_grow_old _ _ (by unfold putRow mapBlock;simpa using hgl)]
   exact DL _ g 0 _ cur _ _ hg
  ·unfold putCells;rw[Array.size_mapIdx,hk,Nat.mul_one];exact hcs
  ·rw[hk,Nat.mul_one,qC]
   refine Fh _ cur (by rw[hlen];omega)
  ·rw[size_grow];unfold putRow mapBlock;simp
  ·have hkg:k≠g:=fun e=>hne (by rw[e];rfl)
   rw[heap_grow_old _ _ (by unfold putRow mapBlock;simpa using hk')]
   exact Ae _ g 0 k _ hkg
theorem XW:(Tryz.prog.info? 2).map (fun i=>(i.zero,i.size,i.bytes))=some (some (.int .i64 0),1,8):=by kernel_rfl
theorem slI:(Tryz.prog.info? 236).map (fun i=>(i.zero,i.size,i.bytes))=some (some (.slice none 0 0),1,24):=by kernel_rfl
theorem y8(v:Value)(l:List Int)(w:World)(h:gz fZ w v l)(hlen:l.length<=1000000000000) :
 Calls Tryz.prog 254 #[v] w fun e w'=>∃s:Sv,e=.returned (gX s)/\dI fZ w.heap.size w' (gX s) l/\Below w.heap.size w w':=by
 obtain⟨i0,hi0,hiz,his,hib⟩:=info_parts XW;have HI:=aB hi0;have HZ:=aB hiz;have Nw:=aB his;have Gy:=aB hib;clear hi0 hiz his hib;obtain⟨A,c,rfl,hn,hc,hp⟩:=h.form;have HR:=aB h;clear h
 by_cases hnil:A=none
 ·subst hnil
  have h0:l=[]:=by
   rcases bT l.length with h0|h0
   ·exact aW h0
   ·obtain⟨g,off,e,_⟩:=hp h0;cases e
  subst h0;clear hp;have he:(binOp .eql 236 (.slice none 0 c) (.slice none 0 0)).run Tryz.prog w=.ok (.bool true) w:=Lib.run_eql_slice_nil w _ _ _ _ _ _ _ Tryz.underlying236
  go_enter Tryz.func254,Tryz.ntmps254
  go_wp2_with fail
  go_ret;exact⟨(none,0,0),rfl,dI.nil_ _ _,bw⟩
 ·obtain⟨a,rfl⟩:∃a,A=some a:=by
   cases A with
   | none=>exact absurd rfl hnil
   | some a=>exact⟨a,rfl⟩
  clear hnil hp;have he:(binOp .eql 236 (.slice (some a) l.length c) (.slice none 0 0)).run Tryz.prog w=.ok (.bool false) w:=Lib.run_eql_slice_nil w _ _ _ _ _ _ _ Tryz.underlying236
  go_enter Tryz.func254,Tryz.ntmps254
  go_wp2_with (at_builtin;refine dV fZ (ts:=236) i0 _ 8 Tryz.underlying236 HI.out HZ.out Nw.out Gy.out rfl af  af rfl (.tmp 5) (.tmp 6) rfl w.heap.size _ [] rfl (dI.lit (E:=fZ) w [] _ rfl _ rfl af) _ l rfl (HR.out.keep (bw)) ah ag ?_;intro v1 w7 o1 g1 a1)
  have yT:Below w.heap.size w w7:=(dB (aH _ _) (aK _) _).grown g1 ag (fun k hk=>by have:=Option.some.inj (show some w.heap.size=some k from hk);omega)
  simp only[List.nil_append] at o1;obtain⟨A1,c1,rfl,_,_,_⟩:=o1.form
  go_wp2_with fail
  go_ret;exact⟨(A1,_,c1),rfl,o1,yT⟩
theorem tK:∀(j c:Nat),mY (j+1) c=thin (mY j c)
 | 0,_=>rfl
 | j+1,c=>by rw[mY,tK j (thin c)];rfl
theorem Ur(k len h:Nat)(w:World)(h2:2<=k)(hk:k<=1000000)(hl:len<=1000000000)(hh:h<=1000000000) :
 Calls Tryz.prog 280 #[.int .i64 k,.int .i64 len,.int .i64 h] w fun e w'=>e=.returned (.int .i64 (room k len h:Nat))/\w=w':=by
 by_cases hlt:h<len
 ·have Jk:Hid (room k len h=max (mY (len - 1 - h) k) 2):=aB (by unfold room;rw[if_pos hlt])
  have hle:∀j,mY j k<=k/\2<=mY j k:=fun j=>xX j k h2
  have HLE:=aB hle;clear hle;have hlt2:¬len<=h:=ae
  have hlt3:¬(h:Int)<0:=ae
  go_enter Tryz.func280,Tryz.ntmps280
  go_wp2_with fail
  go_loopg [7,8] (len - 1 - h) (fun q c i wr=>(∃j:Nat,q=len - 1 - h - j/\j<=len - 1 - h/\i=.int .i64 ((h+j:Nat):Int)/\c=.int .i64 ((mY j k:Nat):Int))/\w=wr)
  case atStart=>exact⟨⟨0,ae,ae,rfl,rfl⟩,rfl⟩
  case round=>
   obtain⟨⟨j,hq,hj,rfl,rfl⟩,rfl⟩:=hrel;have HQ:=aB hq;have hb:=HLE.out j;have HS:=aB (tK j k);obtain⟨c,hc⟩:∃c,mY j k=c:=⟨_,rfl⟩;rw[hc] at hb HS;rw[hc];have HC:=aB hc;clear hq hc
   by_cases hjl:j<len - 1 - h
   ·have HT:Hid (thin c=if 3 * (2 * c / 3)<2 * c then 2 * c / 3+1 else 2 * c / 3):=aB (by unfold thin;split<;>omega)
    by_cases h3:3 * (2 * c / 3)<2 * c
    ·have h3':3 * (2 * (c:Int) / 3)<2 * (c:Int):=ae
     go_wp2_with fail
     go_roundg (len - 1 - h - (j+1))
     case measure=>have:=HQ.out;omega
     case rel=>exact⟨⟨j+1,rfl,ae,ai,by rw[HS.out,HT.out,if_pos h3];go_num⟩,rfl⟩
    ·have h3':¬3 * (2 * (c:Int) / 3)<2 * (c:Int):=ae
     go_wp2_with fail
     go_roundg (len - 1 - h - (j+1))
     case measure=>have:=HQ.out;omega
     case rel=>exact⟨⟨j+1,rfl,ae,ai,by rw[HS.out,HT.out,if_neg h3];go_num⟩,rfl⟩
   ·have HE:Hid (room k len h=c):=aB (by
     have e:j=len - 1 - h:=ae
     rw[Jk.out,<-e,HC.out];omega)
    have hc2:¬(c:Int)<2:=ae
    go_wp2_with fail;refine bodyPost_ret (by simp[results,Tryz.results280,go_sem, *];try rfl) rfl ?_
    exact⟨by rw[HE.out],rfl⟩
 ·have Jk:Hid (room k len h=0):=aB (by unfold room;rw[if_neg hlt])
  go_enter Tryz.func280,Tryz.ntmps280
  go_wp2_with fail
  go_ret;exact⟨by rw[Jk.out];rfl,rfl⟩
abbrev rV(F:Nat->Prop)(w:World)(g k n led:Nat)(lv:Value)(vs:List Sv)(L:LL):Prop:=mZ 249 (.int .i64 k) [.int .u64 n,.int .u64 led] F w g lv vs L
abbrev DR(F:Nat->Prop)(w:World)(g k led:Nat)(lv:Value)(vs:List Sv)(L:LL):Prop:=mZ 154 (.int .i64 k) [.int .u64 led] F w g lv vs L
theorem KX{F:Nat->Prop}{g k n led:Nat}{lv:Value}{vs:List Sv}{L:LL}(h:Nat)(w:World)(hs:rV F w g k n led lv vs L)(h2:2<=k)(hk:k<=1000000)(hl:L.length<=1000000000)(hh:h<=1000000000) :
 Calls Tryz.prog 363 #[.pointer (some ⟨g,0,none⟩),.int .i64 h] w fun e w'=>e=.returned (.int .i64 (room k L.length h:Nat))/\w=w':=by
 obtain⟨A,c,rfl,_,_,_⟩:=hs.form;have c0:=hs.cell0;have c1:=hs.cell1;clear hs;generalize L.length=len at *
 by_cases hlt:h<len
 ·have Jk:Hid (room k len h=max (mY (len - 1 - h) k) 2):=aB (by unfold room;rw[if_pos hlt])
  have HLE:=aB (fun j=>xX j k h2)
  have hlt2:¬len<=h:=ae
  have hlt3:¬(h:Int)<0:=ae
  go_enter Tryz.func363,Tryz.ntmps363
  go_wp2_with fail
  go_loopg [5,29] (len - 1 - h) (fun q c i wr=>(∃j:Nat,q=len - 1 - h - j/\j<=len - 1 - h/\i=.int .i64 (j:Int)/\c=.int .i64 ((mY j k:Nat):Int))/\w=wr)
  case atStart=>exact⟨⟨0,ae,ae,rfl,rfl⟩,rfl⟩
  case round=>
   obtain⟨⟨j,hq,hj,rfl,rfl⟩,rfl⟩:=hrel;have HQ:=aB hq;have hb:=HLE.out j;have HS:=aB (tK j k);obtain⟨c,hc⟩:∃c,mY j k=c:=⟨_,rfl⟩;rw[hc] at hb HS;rw[hc];have HC:=aB hc;clear hq hc
   by_cases hjl:j<len - 1 - h
   ·have HT:Hid (thin c=(2 * c+2) / 3):=aB rfl
    go_wp2_with fail
    go_roundg (len - 1 - h - (j+1))
    case measure=>have:=HQ.out;omega
    case rel=>exact⟨⟨j+1,rfl,ae,ai,by rw[HS.out,HT.out];go_num⟩,rfl⟩
   ·have HE:Hid (room k len h=c):=aB (by
     have e:j=len - 1 - h:=ae
     rw[Jk.out,<-e,HC.out];omega)
    have hc2:¬(c:Int)<2:=ae
    go_wp2_with fail;refine bodyPost_ret (by simp[results,Tryz.results363,go_sem, *];try rfl) rfl ?_
    exact⟨by rw[HE.out];simp;omega,rfl⟩
 ·have Jk:Hid (room k len h=0):=aB (by unfold room;rw[if_neg hlt])
  go_enter Tryz.func363,Tryz.ntmps363
  go_wp2_with fail
  go_ret;exact⟨by rw[Jk.out];rfl,rfl⟩
theorem yz:∀{l:List Int} {v:Int} {j:Nat} (_:j<l.length) (_:∀i (h:i<l.length),i<j->¬v<l[i]),v<l[j]->ins v l=l.take j++v::l.drop j
 | y::l,v,0,_,_,h=>by
  have h':v<y:=h;simp[ins,h']
 | y::l,v,j+1,hj,hn,h=>by
  have h0:¬v<y:=hn 0 ag ae
  have ih:=yz (l:=l) (v:=v) (j:=j) (by simpa using hj) (fun i hi hij=>by have:=hn (i+1) (by simpa using hi) ae ;simpa using this) (by simpa using h)
  rw[ins,if_neg h0,ih];simp
theorem Ri:∀{l:List Int} {v:Int} (_:∀i (h:i<l.length),¬v<l[i]),ins v l=l++[v]
 | [],v,_=>rfl
 | y::l,v,hn=>by
  have h0:¬v<y:=hn 0 ag
  rw[ins,if_neg h0,Ri (l:=l) (fun i hi=>by have:=hn (i+1) (by simpa using hi);simpa using this)];rfl
def iF(l:List Int)(v:Int)(j:Nat)(d:Bool)(o:List Int):Prop:=
 if d then o++l.drop j=ins v l else o=l.take j/\∀i (h:i<l.length),i<j->¬v<l[i]
theorem iF.len{l:List Int}{v:Int}{j:Nat}{d:Bool}{o:List Int}(h:iF l v j d o):o.length<=l.length+1:=by
 unfold iF at h
 split at h
 ·have:=congrArg List.length h
  rw[vJ,aI] at this;omega
 ·rw[h.1,bg];omega
theorem iF.pass{l:List Int}{v:Int}{j:Nat}{o:List Int}(h:iF l v j false o)(hj:j<l.length)(hv:¬v<l[j]):iF l v (j+1) false (o++[l[j]]):=by
 unfold iF at h |-;simp only[Bool.false_eq_true,if_false] at h |-;refine⟨by rw[h.1,aT hj],fun i hi hij=>?_⟩
 rcases bJ i j with h1|h1
 ·exact h.2 i hi h1
 ·obtain rfl:i=j:=ae
  exact hv
theorem iF.hit{l:List Int}{v:Int}{j:Nat}{o:List Int}(h:iF l v j false o)(hj:j<l.length)(hv:v<l[j]):iF l v (j+1) true (o++[v]++[l[j]]):=by
 unfold iF at h |-;simp only[Bool.false_eq_true,if_false,if_true] at h |-;rw[yz hj h.2 hv,h.1,List.drop_eq_getElem_cons hj];simp
theorem iF.rest{l:List Int}{v:Int}{j:Nat}{o:List Int}(h:iF l v j true o)(hj:j<l.length):iF l v (j+1) true (o++[l[j]]):=by
 unfold iF at h |-;simp only[if_true] at h |-;rw[<-h,List.drop_eq_getElem_cons hj];simp
theorem iF.fin1{l:List Int}{v:Int}{o:List Int}(h:iF l v l.length true o):o=ins v l:=by
 unfold iF at h;simp only[if_true,List.drop_length,List.append_nil] at h;exact h
theorem iF.fin0{l:List Int}{v:Int}{o:List Int}(h:iF l v l.length false o):o++[v]=ins v l:=by
 unfold iF at h;simp only[Bool.false_eq_true,if_false,List.take_length] at h;rw[Ri (fun i hi=>h.2 i hi hi),h.1]
theorem XZ(v:Value)(l:List Int)(x:Int)(w:World)(h:gz fZ w v l)(hl:l.length<=1000000000) :
 Calls Tryz.prog 279 #[v,.int .i64 x] w fun e w'=>∃s:Sv,e=.returned (gX s)/\dI fZ w.heap.size w' (gX s) (ins x l)/\Below w.heap.size w w':=by
 obtain⟨i0,hi0,hiz,his,hib⟩:=info_parts XW;have HI:=aB hi0;have HZ:=aB hiz;have Nw:=aB his;have Gy:=aB hib;clear hi0 hiz his hib;obtain⟨A,c,rfl,hn,hc,hp⟩:=h.form;have HP:=aB hp;clear h hp
 go_enter Tryz.func279,Tryz.ntmps279
 go_wp2_with fail
 go_loopg [5,6,7] l.length (fun q u d i wr=>∃(j:Nat) (b:Bool) (o:List Int),q=l.length - j/\j<=l.length/\i=.int .i64 j/\d=.bool b/\Hid (iF l x j b o)/\Hid (dI fZ w.heap.size wr u o)/\Hid (Below w.heap.size w wr))
 case atStart=>exact⟨0,false,[],rfl,ae,rfl,rfl,aB (by unfold iF;exact⟨rfl,fun i _ h=>absurd h ae⟩),aB (dI.nil_ _ _),aB (aH _ _)⟩
 case round=>
  obtain⟨j,b,o,hk,hj,rfl,rfl,HT,HO,HB⟩:=hrel;have HK:=aB hk;have hz:=HB.out.size;have hol:=HT.out.len;clear hk;obtain⟨a5,c5,rfl,_,_,_⟩:=HO.out.form
  by_cases hlt:j<l.length
  ·obtain⟨g,off,rfl,hg,c0⟩:=(HP.out.keep HB.out).i64 hlt
   cases b
   ·by_cases hv:x<l[j]
    ·have HN:=aB (HT.out.hit hlt hv)
     go_upto_region 9 with(at_builtin;refine dV fZ (ts:=236) i0 _ 8 Tryz.underlying236 HI.out HZ.out Nw.out Gy.out rfl af  af rfl (.tmp 24) (.tmp 26) rfl w.heap.size (.slice a5 o.length c5) o rfl (HO.out.alloc _) _ [x] rfl (gz.dY (E:=fZ) _ x _ rfl _ rfl _ rfl) ah  ah ?_;intro v6 w6 o6 g6 a6)
     have Gp:Hid (Below w.heap.size w w6):=aB ((HB.out.alloc hz _).grown g6 ah (fun k hk=>(HO.out.lt k hk).1))
     obtain⟨lm,hlm⟩:∃y,o++[x]=y:=⟨_,rfl⟩;have hml:lm.length=o.length+1:=by rw[<-hlm];simp
     rw[hlm] at o6 HN;have O6:=aB o6;obtain⟨a7,c7,rfl,_,_,_⟩:=o6.form;obtain⟨g',off',e6,hg',k0⟩:=(HP.out.keep Gp.out).i64 hlt;injection e6 with e6;injection e6 with e6 e7;subst e6;subst e7;have Ns:=Gp.out.size;clear o6 g6 a6 c0 hlm
     go_wp2_with (at_builtin;refine dV fZ (ts:=236) i0 _ 8 Tryz.underlying236 HI.out HZ.out Nw.out Gy.out rfl af  af rfl (.tmp 28) (.tmp 33) rfl w.heap.size (.slice a7 lm.length c7) lm rfl (O6.out.alloc _) _ [l[j]] rfl (gz.dY (E:=fZ) _ l[j] _ rfl _ rfl _ rfl) ah  ah ?_;intro v8 w8 o8 g8 a8)
     have zJ:Hid (Below w.heap.size w w8):=aB ((Gp.out.alloc Ns _).grown g8 ah (fun k hk=>(O6.out.lt k hk).1))
     have O8:=aB o8;clear o8 g8 a8 hml
     go_wp2_with fail
     go_roundg (l.length - (j+1))
     case measure=>have:=HK.out;omega
     case rel=>exact⟨j+1,true,_,rfl,ae,ai,rfl,HN,O8,zJ⟩
    ·have HN:=aB (HT.out.pass hlt hv)
     go_wp2_with (at_builtin;refine dV fZ (ts:=236) i0 _ 8 Tryz.underlying236 HI.out HZ.out Nw.out Gy.out rfl af  af rfl (.tmp 28) (.tmp 33) rfl w.heap.size (.slice a5 o.length c5) o rfl (HO.out.alloc _) _ [l[j]] rfl (gz.dY (E:=fZ) _ l[j] _ rfl _ rfl _ rfl) ah  ah ?_;intro v8 w8 o8 g8 a8)
     have zJ:Hid (Below w.heap.size w w8):=aB ((HB.out.alloc hz _).grown g8 ah (fun k hk=>(HO.out.lt k hk).1))
     have O8:=aB o8;clear o8 g8 a8
     go_wp2_with fail
     go_roundg (l.length - (j+1))
     case measure=>have:=HK.out;omega
     case rel=>exact⟨j+1,false,_,rfl,ae,ai,rfl,HN,O8,zJ⟩
   ·have HN:=aB (HT.out.rest hlt)
    go_wp2_with (at_builtin;refine dV fZ (ts:=236) i0 _ 8 Tryz.underlying236 HI.out HZ.out Nw.out Gy.out rfl af  af rfl (.tmp 28) (.tmp 33) rfl w.heap.size (.slice a5 o.length c5) o rfl (HO.out.alloc _) _ [l[j]] rfl (gz.dY (E:=fZ) _ l[j] _ rfl _ rfl _ rfl) ah  ah ?_;intro v8 w8 o8 g8 a8)
    have zJ:Hid (Below w.heap.size w w8):=aB ((HB.out.alloc hz _).grown g8 ah (fun k hk=>(HO.out.lt k hk).1))
    have O8:=aB o8;clear o8 g8 a8
    go_wp2_with fail
    go_roundg (l.length - (j+1))
    case measure=>have:=HK.out;omega
    case rel=>exact⟨j+1,true,_,rfl,ae,ai,rfl,HN,O8,zJ⟩
  ·obtain rfl:j=l.length:=ae
   cases b
   ·have HF:=aB HT.out.fin0
    go_wp2_with (at_builtin;refine dV fZ (ts:=236) i0 _ 8 Tryz.underlying236 HI.out HZ.out Nw.out Gy.out rfl af  af rfl (.tmp 37) (.tmp 39) rfl w.heap.size (.slice a5 o.length c5) o rfl (HO.out.alloc _) _ [x] rfl (gz.dY (E:=fZ) _ x _ rfl _ rfl _ rfl) ah  ah ?_;intro v8 w8 o8 g8 a8)
    have zJ:Hid (Below w.heap.size w w8):=aB ((HB.out.alloc hz _).grown g8 ah (fun k hk=>(HO.out.lt k hk).1))
    rw[HF.out] at o8;have O8:=aB o8;obtain⟨a9,c9,rfl,_,_,_⟩:=o8.form;clear o8 g8 a8
    go_wp2_with fail
    go_ret;exact⟨(a9,_,c9),rfl,O8.out,zJ.out⟩
   ·have HF:=aB HT.out.fin1
    go_wp2_with fail
    go_ret;exact⟨(a5,_,c5),rfl,by rw[<-HF.out];exact HO.out,HB.out⟩
end Go.Proofs.YtkiebccnpheloaaGreat.K
namespace Go.Proofs.YtkiebccnpheloaaGreat.D
open Go.RowKit Go.Sort Go.Shelf
abbrev Pn:={p:Pr // 0<=p.1/\p.1<=16777216}
instance:Inhabited Pn:=⟨⟨(0,0),af⟩⟩
def X7(x:Pn):List Value:=[.int .i64 x.1.1,.int .u64 x.1.2]
def kpC(x y:Pn):Int:=x.1.1 - y.1.1
theorem Rj(x y:Pn):ltOf kpC x y=decide (x.1.1<y.1.1):=by unfold ltOf kpC;congr 1;exact propext ⟨fun h=>by omega,fun h=>by omega⟩
theorem kpO:SWO (ltOf kpC):=⟨fun x=>by rw[Rj];simp,fun x y z=>by simp only[Rj,decide_eq_true_eq];omega,fun x y z=>by simp only[Rj,decide_eq_false_iff_not];omega⟩
theorem Rl(d:List Pn):flatK X7 2 d.toArray=(cellsE fU (d.map Subtype.val)).toArray:=by
 have hl:(cellsE fU (d.map Subtype.val)).length=d.length * 2:=by rw[eY,List.length_map];rfl
 refine ext_get! (by simp[hl]) fun t ht=>?_
 have ht':t<d.length * 2:=by simpa using ht
 rw[get_flatK _ _ _ t (by simpa using ht')]
 have hj:t / 2<d.length:=ae
 have e:=lF fU (d.map Subtype.val) (t / 2) (by simpa using hj) (t % 2) (Nat.mod_lt _ af)
 rw[show t / 2 * fU.k+t % 2=t by show t / 2 * 2+t % 2=t;omega] at e
 have e2:(d.toArray)[t / 2]! = d[t / 2]:=by rw[getElem!_pos _ _ (by simpa using hj)];simp
 have ht2:t<(cellsE fU (d.map Subtype.val)).toArray.size:=by simpa[hl] using ht'
 rw[e2,getElem!_pos (cellsE fU (d.map Subtype.val)).toArray t ht2];rw[aY (by rw[hl];exact ht')] at e
 have hm:t % 2<(X7 d[t / 2]).length:=Nat.mod_lt _ af
 rw[getElem!_pos (X7 d[t / 2]) (t % 2) hm];simp only[List.getElem_map] at e;have e3:(fU.enc d[t / 2].1)[t % 2]?=some ((X7 d[t / 2])[t % 2]):=aY hm;rw[e3] at e
 simpa using (Option.some.inj e).symm
theorem Po(x y:Pn)(w:World):Calls Tryz.prog 256 #[.agg (X7 x).toArray,.agg (X7 y).toArray] w fun e w'=>e=.returned (.int .i64 (kpC x y))/\∃q os,w'=grow (w.drewN q) os:=by
 obtain⟨⟨a,n⟩,ha,ha2⟩:=x;obtain⟨⟨b,k⟩,hb,hb2⟩:=y;simp only at ha ha2 hb hb2;show Calls Tryz.prog 256 #[.agg #[.int .i64 a,.int .u64 n],.agg #[.int .i64 b,.int .u64 k]] w fun e w'=>e=.returned (.int .i64 (a - b))/\∃q os,w'=grow (w.drewN q) os
 go_enter Tryz.func256,Tryz.ntmps256
 go_wp2_with fail
 go_ret;exact⟨rfl,0,_,by rw[alloc_eq_grow,alloc_eq_grow,grow_grow];rfl⟩
theorem DT(w:World)(blk off k:Nat)(d:Array Value)(h:k≠blk):(putRow id w blk off d).heap[k]?=w.heap[k]?:=by
 unfold putRow mapBlock;rw[Array.getElem?_modify,if_neg (fun e=>h e.symm)]
theorem Fj(w:World)(blk off:Nat)(d:Array Value)(cur:Array Value)(t:TypeId)(f:Nat × Nat)(h:w.heap[blk]?=some (.cells cur t f)):(putRow id w blk off d).heap[blk]?=some (.cells (putCells id off d cur) t f):=by
 unfold putRow mapBlock;rw[Array.getElem?_modify,if_pos rfl,h];rfl
theorem Pq(d:List Value)(cur:Array Value)(h:d.length<=cur.size):(putCells id 0 d.toArray cur).toList.take d.length=d:=by
 refine List.ext_getElem? fun i=>?_
 rw[List.getElem?_take]
 rcases bJ i d.length with h1|h1
 ·rw[if_pos h1,aY h1,Array.getElem?_toList]
  have h2:i<(putCells id 0 d.toArray cur).size:=by unfold putCells;rw[Array.size_mapIdx];omega
  rw[Array.getElem?_eq_getElem h2];simp[putCells,h1]
 ·rw[if_neg ae,List.getElem?_eq_none (by simpa using h1)]
theorem Us(v:Value)(base:Nat)(out l:List Pr)(w:World)(h:dI fU base w v out)(hs:iD l)(hp:gQ l)(hperm:out.Perm l)(hb:∀p∈l,0<=p.1/\p.1<=16777216)(hl:l.length<=1099511627776) :
 Calls Tryz.prog 255 #[v,.func (.func 256) #[] #[]] w fun e w'=>e=.returned (.tuple #[])/\dI fU base w' v l/\Touch (fun k=>v.ownBlock=some k) w w':=by
 have hlen:=hperm.length_eq;obtain⟨hxs,h⟩:=h
 rcases h with⟨rfl,h0⟩|⟨g,cap,cur,rfl,hbg,hg,hnc,hcm,hcs,htk⟩
 ·have e:l=[]:=aW ae
  subst e;have e:out=[]:=aW h0;subst e;refine(AnyF.slices_SortFunc_none Tryz.sortF none 0 _ w).mono ?_
  rintro e w' ⟨rfl,rfl⟩;exact⟨rfl,dI.nil_ _ _,Touch.refl _ _⟩
 ·have hk:fU.k=2:=rfl
  rw[hk] at hcs htk;have hgl:g<w.heap.size:=by
   rcases bJ g w.heap.size with hlt|hge
   ·exact hlt
   ·rw[Array.getElem?_eq_none hge] at hg;cases hg
  have hbo:∀p∈out,0<=p.1/\p.1<=16777216:=fun p hp=>hb p (hperm.mem_iff.1 hp)
  obtain⟨d,hd⟩:∃d:List Pn,d.map Subtype.val=out:=⟨out.attach.map (fun x=>⟨x.1,hbo x.1 x.2⟩),by rw[List.map_map];exact List.attach_map_subtype_val out⟩
  have hdl:d.length=out.length:=by rw[<-hd,List.length_map]
  have hH:HoldsK X7 2 w g 0 d.toArray:=fun j hj=>by
   rw[Rl,hd] at hj |-;have hj':j<(cellsE fU out).length:=by simpa using hj
   have hj2:j<out.length * 2:=by rw[eY] at hj';exact hj'
   refine⟨?_,?_⟩
   ·rw[Nat.zero_add,cell_of_row w g j cur _ (0,0) hg]
    have e:=congrArg (fun x=>x[j]?) htk
    simp only[List.getElem?_take,if_pos hj2] at e;rw[show cur[j]?=cur.toList[j]? by simp,e,aY hj']
    simp[hj']
   ·simp[World.frozen?,hg]
  have hsz:d.toArray.size=out.length:=by simpa using hdl
  have C:=AnyQ.slices_SortFunc Tryz.sortF 2 (by intro w;kernel_rfl) (by intro w;kernel_rfl) X7 (fun x=>rfl) (fun x v hv=>by simp[X7] at hv;rcases hv with rfl|rfl<;>rfl) kpC kpO 256 #[] g 0 cap d.toArray w (fun args w=>rfl) (fun m os dk _ x y=>by simpa using Po x y _) hH hgl (by rw[hsz];omega)
  rw[hsz] at C;refine C.mono ?_
  rintro e w' ⟨rfl,d',n,os,hpm,hst,rfl⟩;have hpd:d'.toList.Perm d:=by
   have h3:=hpm.2.2;rw[Array.extract_eq_self_of_le (by rw[hpm.1];simp[hdl]),Array.extract_eq_self_of_le (by simp[hdl])] at h3
   simpa using h3
  have hl2:d'.toList.map Subtype.val=l:=by
   refine Ud hs hp ((hpd.map _).trans (by rw[hd];exact hperm)) ?_
   rw[List.pairwise_map,List.pairwise_iff_getElem];intro i j hi hj hij;have hj2:j<out.length:=by have:=hpd.length_eq;omega
   have:=hst i j (bW _) hij hj2;rw[Rj] at this;rw[getElem!_pos d' i (by simpa using hi),getElem!_pos d' j (by simpa using hj)] at this
   simp at this
   simpa using this
  have hfl:flatK X7 2 d'=(cellsE fU l).toArray:=by rw[<-hl2,<-Rl]
  have hcl:(cellsE fU l).length=l.length * 2:=by rw[eY];rfl
  have hsw:∀k,k<w.heap.size->(sortWorldK X7 2 w g 0 n d' os).heap[k]?=(putRow id w g 0 (cellsE fU l).toArray).heap[k]?:=fun k hk'=>by
   unfold sortWorldK putRowK;rw[hfl,heap_grow_old _ _ (by unfold putRow mapBlock;simpa using hk')]
   rfl
  refine⟨rfl,⟨by rw[hcl,hk],.inr ⟨g,cap,putCells id 0 (cellsE fU l).toArray cur,by rw[hlen],hbg,?_,ae,hcm,?_,?_⟩⟩,rfl,rfl,rfl,?_,fun k hk' hne=>?_⟩
  ·rw[hsw g hgl]
   exact Fj w g 0 _ cur _ _ hg
  ·unfold putCells;rw[Array.size_mapIdx,hk];exact hcs
  ·rw[hk,<-hcl]
   refine Pq _ cur (by rw[hcl];omega)
  ·unfold sortWorldK
   rw[size_grow];unfold putRowK putRow mapBlock;simp
  ·have hkg:k≠g:=fun e=>hne (by rw[e];rfl)
   rw[hsw k hk'];exact DT _ g 0 k _ hkg
open Go.RowKit Go.Lib Go.Shelf Go.Maps
section
variable {x lo hi dg u m bk : Nat} {gr : Bool} {l : List Pr} {F : Ft}
theorem DU{b:Nat}(w:World)(k3:w.cell? ⟨x,3,none⟩=some (.map (some b)))(hC:kR w b l)(ok:jo lo hi dg u m gr bk l):Calls Tryz.prog 164 #[.pointer (some ⟨x,0,none⟩)] w fun e w'=>∃v,e=.returned v/\dI fU w.heap.size w' v l/\Below w.heap.size w w':=by
 obtain⟨D,hown,hD⟩:=hC;have hbl:=hown.lt;have OK:=aB ok;have LD:=aB hD;have hlen:=ok.len;have CS:Hid (∀(v:Value) (out:List Pr) (w1:World) (base:Nat),dI fU base w1 v out->out.Perm l->_):=aB (fun v out w1 base h hp=>Us v base out l w1 h ok.gY ok.pos hp ok.kb ae)
 clear ok hD;obtain⟨r,hr⟩:∃r,w.heap.size=r:=⟨_,rfl⟩
 go_enter Tryz.func164,Tryz.ntmps164
 go_wp2_with (at_range;refine wpList_range_own _ rfl _ 239 rfl 3 53 ad1 an6 _ b _ D rfl hown ?_;intro w0 hrg0 hg0 hs0)
 go_frame
 rw[hr] at hrg0 hs0 |-;have hb0:Below w.heap.size w w0:=(aH _ _).grown hg0 (aK _) (fun j hj=>by cases hj)
 have hN0:dI fU (r+1) w0 (.slice none 0 0) []:=dI.nil_ _ _
 go_loopg [3] (Maps.size D) (fun q s wr=>∃(left:Lit->Bool) (out:List Pr),wr.ranges Tryz.prog 3 (plainElem (H:=Unit) Tryz.prog 53) b r l.length D left q/\Hid (RgI l out left)/\Hid (dI fU (r+1) wr s out)/\Below w.heap.size w wr/\r+1<=wr.heap.size)
 case atStart=>exact⟨_,[],hrg0,aB (Xv LD.out),aB hN0,hb0,ae⟩
 case round=>
  obtain⟨left,out,hrg,HR,HO,hb,hz⟩:=hrel;obtain⟨A5,c5,rfl,_,_,_⟩:=HO.out.form
  go_wp2_with (at_next;refine wpList_next_ranges_ii _ rfl _ rfl 3 53 .i64 .u64 ad1 an7 an8 b r _ _ _ _ rfl hrg ?_ ?_)
  ·intro hc0 hl0
   have HP:=aB (am9 HR.out hl0)
   go_wp2_with fail;refine(CS.out _ _ _ _ HO.out HP.out).mono ?_
   rintro e w2 ⟨rfl,o2,t2⟩
   go_wp2_with fail
   go_ret;refine⟨_,rfl,o2.more ae,?_⟩
   exact hb.trans (t2.below (fun k hk=>by have:=(HO.out.lt k hk).1;omega) hb.size)
  ·intro z c w1 cnt1 hwx hwc hlx hat hrg1 hlt hg1 hs1 hen
   have hin:=aB (aw1 LD.out OK.out.gY hat);have HR1:=aB (ac2 OK.out.gY HR.out hlx hin.out);have hol:=an0 HR.out;have O1:=aB (HO.out.grown hg1 (.inr (fun e=>by have:=(HO.out.lt r e).1;omega)))
   have hb1:Below w.heap.size w w1:=hb.grown hg1 hb.size (fun j hj=>by cases hj;omega)
   have hz1:r+1<=w1.heap.size:=ae
   have hne:∀k,k<=r->(Value.slice A5 out.length c5).ownBlock≠some k:=fun k hk e=>by have:=(HO.out.lt k e).1;omega
   have hO1:=O1.out;clear hat hlx hg1 hs1
   go_wp2_with (at_builtin;refine pY tq rfl (.tmp 16) (.tmp 20) rfl (O1.out.alloc _) rfl _ [(z,c)] rfl (gz.dY (E:=fU) _ (z,c) _ rfl _ rfl _ ag) ah aj ?_;intro v6 w6 o6 g6 _;have Gp:Hid (Below w.heap.size w w6):=aB ((hb1.alloc hb1.size _).grown g6 (by simp;have:=hb1.size;omega) (fun k hk=>by have:=(O1.out.lt k hk).1;omega));have O6:=aB o6;have R6:=aB ((hrg1.alloc _).kept g6 (fun e=>hne b ae e.symm) (fun e=>hne r (aK _) e.symm));have Ns:=g6.size;clear o6 g6)
   go_roundg cnt1
   case measure=>exact hlt
   case rel=>exact⟨_,out++[(z,c)],R6.out,HR1,O6,Gp.out,by simp at Ns;omega⟩
theorem X8(w:World)(h:ry x lo hi dg u m gr bk l F w)(ok:jo lo hi dg u m gr bk l):Calls Tryz.prog 164 #[.pointer (some ⟨x,0,none⟩)] w fun e w'=>∃v,e=.returned v/\dI fU w.heap.size w' v l/\Below w.heap.size w w':=by
 obtain⟨g,b,hB,hM,hC,_⟩:=h;have k3:=hB.cell 3;simp only[aF,aC,aG] at k3;exact DU w k3 hC ok
end
end Go.Proofs.YtkiebccnpheloaaGreat.D
namespace Go.Proofs.YtkiebccnpheloaaGreat
open Go.RowKit
end Go.Proofs.YtkiebccnpheloaaGreat
namespace Go.Proofs.YtkiebccnpheloaaGreat.D
open Go.RowKit Go.Lib
open Go.RowKit Go.Lib
theorem Dy.first{w w1:World}{g:Nat}{bs:List Int}{a:Nat}{v:Value}{e:Ending}{w':World}(hb:Below w.heap.size w w1)(h:Dy w1 g bs a v e w'):Dy w g bs a v e w':=⟨h.1,h.2.1,Iq hb h.2.2⟩
theorem Ut(k K:Nat)(c sz:Int)(g:Nat)(bs:List Int)(a b:Nat)(n:Int)(w:World)(h:dZ w g bs a)(hv:FL k c sz)(hK:yH k=K)
 (eg:∀args w,(callFunc K args).run Tryz.prog w=.ok (.enter K args) w)
 (hf:∀w,dZ w g bs a->Calls Tryz.prog K #[.pointer (some ⟨g,0,none⟩),.int .i64 sz] w (Dy w g bs b (.tuple #[.int .u64 n,.int .i64 0]))) :
 Calls Tryz.prog 318 #[.pointer (some ⟨g,0,none⟩),.int .u8 c] w (Dy w g bs b (.tuple #[.int .u64 n,.int .i64 0])):=by
 have H:=aB h;have HF:=aB hf;have FO:Hid (Calls Tryz.prog 248 #[.int .u8 c] w fun e w'=>e=.returned (.tuple #[.agg #[.int .u8 c,.int .i64 sz,.func (.func (oO k)) #[] #[],.func (.func K) #[] #[]],.bool true])/\Below w.heap.size w w'):=by
  rw[<-hK];exact aB (fF k c sz w hv)
 clear h hf hK hv
 go_enter Tryz.func318,Tryz.ntmps318
 go_wp2_with fail;refine(FO.out).mono ?_
 rintro e w1 ⟨rfl,hb1⟩;have hz1:=hb1.size;have hb2:∀cs,Below w.heap.size w (w1.alloc (.cells cs 336)):=fun cs=>bw
 go_wp2_with (go_at_fn K;refine(HF.out _ (H.out.keep (hb2 _))).mono ?_)
 rintro e w2 hg;have HG:=aB (Dy.first (hb2 _) hg);obtain⟨rfl,_,_⟩:=hg
 go_wp2_with fail
 go_ret2
 exact HG.out
section
variable {g a : Nat} {bs r : List Int} {n : Int} {w : World}
theorem Gz(w:World)(h:dZ w g bs a)(hlen:bs.length<=1000000000000)(hd:bs.drop a=n::r)(n0:0<=n)(n1:n<256) :
 Calls Tryz.prog 318 #[.pointer (some ⟨g,0,none⟩),.int .u8 98] w (Dy w g bs (a+1) (.tuple #[.int .u64 n,.int .i64 0])):=
 Ut 0 413 98 1 g bs a (a+1) n w h XB rfl (fun _ _=>rfl) (fun w h=>Uk w h hlen hd n0 n1)
end
end Go.Proofs.YtkiebccnpheloaaGreat.D
