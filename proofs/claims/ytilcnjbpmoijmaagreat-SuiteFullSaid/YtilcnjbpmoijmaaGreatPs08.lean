/- Parts of a proof: what its theorem reaches, words cut short. No condition of its own. -/
import Derived.Test.YtilcnjbpmoijmaaGreatPs07
set_option maxRecDepth 100000
set_option maxHeartbeats 16000000
set_option linter.unusedVariables false
set_option linter.unusedSimpArgs false
namespace Go.Proofs.YtilcnjbpmoijmaaGreat.D
open Go.RowKit Go.Lib Go.Maps
section
variable {sb sz : Nat} {m : Int -> Option Nat} {xs : List (Option Nat)} {G : Ft}
theorem su_free{k:Int}(k0:0<=k)(k1:k<=4294967295)(w:World)(h:SuAt sb sz m xs G w) :
 Calls Tryz.prog 178 #[.pointer (some ⟨sb,0,none⟩),.int .u32 k] w fun e w'=>e=.returned (.bool (decide (m k=none/\sz<64)))/\w=w':=by
 obtain⟨mb,o,xv,h,_⟩:=h
 have s0:=h.blk.cell 0
 simp only[List.getElem?_toArray,List.getElem?_cons_zero] at s0
 obtain⟨D,hown,hD⟩:=h.mp
 have hh:=hD.has_ k
 obtain⟨v,ps,hr,hv⟩:=hown.look_ok keySu mapSu (zeroI w) (zd:=iD 0) (plainElem_int intU' (by decide)) (keyOfU k0 k1)
 obtain⟨c,rfl,hc,_⟩:=plainElem_int_inv intU' hv
 have hl:(Builtin.len_ #[140] 3 #[.map (some mb)]).run Tryz.prog w=.ok (.int .i64 sz) w:=by rw[hown.len mapSu,hD.sz]
 by_cases hm:m k=none
 ·rw[hm] at hh
  rw[hh] at hr
  have hr':(Instr.lookup 140 (.map (some mb)) (.int .u32 k) true).run Tryz.prog w=.ok (.tuple #[.int .i64 c,.bool false]) w:=hr
  obtain⟨d,hd⟩:∃d,decide ((sz:Int)<64)=d:=⟨_,rfl⟩
  have HD:Hid (decide (m k=none/\sz<64)=d):=Lib.hid (by
   rw[<-hd]
   have:(m k=none/\sz<64)<->((sz:Int)<64):=⟨fun h=>by have:=h.2;omega,fun h=>⟨hm,by omega⟩⟩
   simp only[this])
  clear hr hv hc hh hown hD h hm
  go_enter Tryz.func178,Tryz.ntmps178
  go_wp2_with fail
  go_ret
  exact⟨ret_bool HD.out.symm,rfl⟩
 ·have hs:(m k).isSome=true:=by cases e:m k with
   | none=>exact absurd e hm
   | some _=>rfl
  rw[hh,hs] at hr
  have hr':(Instr.lookup 140 (.map (some mb)) (.int .u32 k) true).run Tryz.prog w=.ok (.tuple #[.int .i64 c,.bool true]) w:=hr
  have HD:Hid (decide (m k=none/\sz<64)=false):=Lib.hid (by simp[hm])
  clear hr hv hc hh hown hD h hm hs hl
  go_enter Tryz.func178,Tryz.ntmps178
  go_wp2_with fail
  go_ret
  exact⟨ret_bool HD.out.symm,rfl⟩
theorem eq_nil_ptr(p:Nat)(w:World):Sem.run Tryz.prog (binOp .eql 51 (.pointer none) (.pointer (some ⟨p,0,none⟩))) w=.ok (.bool false) w:=by kernel_rfl
theorem index_any{v:Value}{o:Nat}(w:World)(h:OwnE poE o w v xs)(hl:xs.length<=1000000):Calls Tryz.prog 242 #[v,.pointer none] w fun e w'=>(e=.returned (.int .i64 (-1))\/∃i:Nat,i<xs.length/\e=.returned (.int .i64 i))/\w=w':=by
 have HO:=Lib.hid h
 obtain⟨A,c,rfl,hc,_,_⟩:=h.form
 clear h
 go_enter Tryz.func242,Tryz.ntmps242
 go_wp2_with fail
 go_loopg [8] xs.length (fun q s wr=>∃i:Nat,q=xs.length - i/\i<=xs.length/\s=.int .i64 i/\wr=w)
 case atStart=>exact⟨0,rfl,by omega,rfl,rfl⟩
 case round=>
  obtain⟨i,hq,hi,rfl,rfl⟩:=hrel
  have HQ:=Lib.hid hq
  clear hq
  by_cases hlt:i<xs.length
  ·obtain⟨g,c',hv,_⟩:=HO.out.pos (by omega)
   injection hv with hv1 _ hv3
   subst hv1
   subst hv3
   have e:=HO.out.cellAt hlt 0 (by decide)
   rw[show i * poE.k+0=i by show i * 1+0=i;omega] at e
   have e':wr.cell? ⟨g,i,none⟩=some (.pointer (xs[i].map fun p=>⟨p,0,none⟩)):=by rw[e];rfl
   have i0:(0:Int)<=i:=by omega
   have i1:(i:Int)<xs.length:=by omega
   clear e
   generalize xs[i]=y at e'
   cases y with
   | none=>
    simp only[Option.map_none] at e'
    go_wp2_with fail
    go_ret
    exact⟨.inr ⟨i,hlt,rfl⟩,rfl⟩
   | some p=>
    simp only[Option.map_some] at e'
    have hep:=eq_nil_ptr p wr
    go_wp2_with fail
    go_roundg (xs.length - (i+1))
    case measure=>have:=HQ.out;omega
    case rel=>exact⟨i+1,rfl,by omega,by go_num,rfl⟩
  ·have hge:¬(i:Int)<xs.length:=by omega
   go_wp2_with fail
   go_ret
   exact⟨.inl rfl,rfl⟩
end
open Go.RowKit Go.Lib Go.Maps Go.WideElems Go.ChangeMaps
theorem born_push(es:Array MapEntry)(clock:Nat)(h:∀x∈es.toList,x.born<clock)(key z:Value):(es.push ⟨key,z,clock⟩).findIdx? (fun e=>((e.born:Nat):Int) == ((clock:Nat):Int))=some es.size:=by
 rw[Array.findIdx?_eq_some_iff_getElem]
 refine⟨by simp,by simp,fun j hj=>?_⟩
 have e:(es.push ⟨key,z,clock⟩)[j]'(by simp;omega)=es[j]:=Array.getElem_push_lt hj
 rw[e]
 have:=h es[j] (by simp)
 simp
 omega
theorem modify_push(es:Array MapEntry)(e:MapEntry)(f:MapEntry->MapEntry):(es.push e).modify es.size f=es.push (f e):=by
 apply Array.ext
 ·simp
 ·intro i h1 h2
  rw[Array.getElem_modify]
  have h3:i<es.size+1:=by simpa using h2
  by_cases hi:i=es.size
  ·subst hi
   simp
  ·have hl:i<es.size:=by omega
   rw[if_neg (by omega),Array.getElem_push_lt hl,Array.getElem_push_lt hl]
theorem entry_new{w:World}{b n:Nat}{D:DataW Unit}(h:w.ownsMap Tryz.prog 79 (plainElem (H:=Unit) Tryz.prog 3) b n D)(hn:n<maxLen){k:Int}(k0:0<=k)(k1:k<=4294967295)(hh:Maps.has D (uL k)=false)(i:Nat)(hi:i<=1000000) :
 ∃st w1 w2,(Instr.mapEntry 140 (.map (some b)) (.int .u32 k)).run Tryz.prog w=.ok (.tuple #[.int .i64 0,.int .i64 st]) w1 /\
  (Instr.entryStore 140 (.map (some b)) (.int .i64 st) (.int .i64 i)).run Tryz.prog w1=.ok () w2/\w2.ownsMap Tryz.prog 79 (plainElem (H:=Unit) Tryz.prog 3) b (n+1) (D.put (uL k) (iD i))/\w.grownBy w2 (some b)/\w.grownBy w1 (some b):=by
 obtain⟨w',hr,ho,ht⟩:=h.store keySu mapSu hn (keyOfU k0 k1) (plainElem_int (H:=Unit) intU' (a:=(i:Int)) (WalkArith.wf_i64 ⟨by omega,by omega⟩))
 obtain⟨es,clock,hb,F,hs,hD⟩:=h
 have hkey:=keyOfU k0 k1
 rcases keySu.find w hkey es.toList F.keys with⟨h1,h2⟩|⟨j,e0,h1,h2,h3⟩
 ·have hr2:(Instr.mapUpdate 140 (.map (some b)) (.int .u32 k) (.int .i64 i)).run Tryz.prog w=.ok () (setBlock w b (.map (es.push ⟨.int .u32 k,.int .i64 i,clock⟩) (clock+1))):=by
   simp[Instr.mapUpdate,run_underlying mapSu,MapKept.run_getObj_map hb,keySu.check w false hkey,h1,MapKept.run_setObj_map _ hb,Result.andThen,setBlock]
  rw[hr2] at hr
  have hw:setBlock w b (.map (es.push ⟨.int .u32 k,.int .i64 i,clock⟩) (clock+1))=w':=by injection hr
  have hw1:(setBlock w b (.map (es.push ⟨.int .u32 k,.int .i64 0,clock⟩) (clock+1))).heap[b]?=some (.map (es.push ⟨.int .u32 k,.int .i64 0,clock⟩) (clock+1)):=heap_setBlock_same hb _
  refine⟨clock,setBlock w b (.map (es.push ⟨.int .u32 k,.int .i64 0,clock⟩) (clock+1)),w',?_,?_,ho,ht.grown,World.mapTurned.grown ⟨es,clock,_,_,hb,rfl⟩⟩
  ·simp[Instr.mapEntry,run_underlying mapSu,MapKept.run_getObj_map hb,keySu.check w false hkey,h1,zeroI,MapKept.run_setObj_map _ hb,Result.andThen,setBlock,goInt]
  ·have e2:setBlock (setBlock w b (.map (es.push ⟨.int .u32 k,.int .i64 0,clock⟩) (clock+1))) b (.map (es.push ⟨.int .u32 k,.int .i64 i,clock⟩) (clock+1))=w':=by
    rw[<-hw];simp[setBlock]
   rw[<-e2]
   simp[Instr.entryStore,MapKept.run_getObj_map hw1,asInt,asIntOf,born_push es clock F.stamped.1,modify_push,MapKept.run_setObj_map _ hw1,Result.andThen]
   rfl
 ·exfalso
  have hd:=F.reads e0 (List.mem_of_getElem? h2)
  obtain⟨y,hy⟩:=hd
  have hk2:=rd_key hy
  rw[h3,hkey] at hk2
  rw[hD] at hh
  have:Maps.has (DataW.map ((es.toList.map (rg Tryz.prog 79 (plainElem (H:=Unit) Tryz.prog 3))).foldr DataW.insert [])) (uL k)=true:=
   List.any_eq_true.2 ⟨_,mem_sorted.2 (List.mem_map.2 ⟨e0,List.mem_of_getElem? h2,rfl⟩),by rw[rg_of hy];rw[<-Option.some.inj hk2];exact WideAt.sameKey_self (uLk k)⟩
  rw[this] at hh
  cases hh
end Go.Proofs.YtilcnjbpmoijmaaGreat.D
