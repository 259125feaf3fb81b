/- Parts of a proof: what its theorem reaches, words cut short. No condition of its own. -/
import Derived.Test.YtkiebccnpheloaaGreatPv15
import Derived.Laws.CopyRow
import Derived.Lib.AppendZeros
import Derived.Lib.AppendZerosOnto
import Derived.Lib.Overlaps
import Derived.Shelf.RegionOpenPlain
set_option maxRecDepth 100000
set_option maxHeartbeats 16000000
set_option linter.unusedVariables false
set_option linter.unusedSimpArgs false
namespace Go.Proofs.YtkiebccnpheloaaGreat.D
open Go.RowKit
theorem run_copy_rowK{P:Program}(w:World)(dT sT ty elem:TypeId)(k g o dLen dCap:Nat)(a:Addr)(sLen sCap:Nat)(cur:Array Value)(t:TypeId)(cs:List Value)
 (hu:P.underlying dT=some (.slice elem)) (hs:(P.info? elem).map (·.size)=some k)
 (hg:w.heap[g]?=some (.cells cur t (0,0))) (hn:cs.length=Nat.min sLen dLen * k)
 (hsrc:∀j v,cs[j]?=some v->w.cell? (a.add j)=some v) (hfit:o+cs.length<=cur.size) (h1:∀v∈cs,v.oneCell'=true) :
 (Builtin.copy_ #[dT,sT] ty #[.slice (some ⟨g,o,none⟩) dLen dCap,.slice (some a) sLen sCap]).run P w =
  .ok (goInt (Nat.min sLen dLen)) (w.setRow g (cur.toList.take o++cs++cur.toList.drop (o+cs.length)).toArray):=by
 have hl:=run_loadCells_list (P:=P) w a cs hsrc
 have hst:=run_storeCells_at P g o t cs 0 cur w hg (by simpa using hfit) h1
 cases hq:P.info? elem with
 | none=>simp[hq] at hs
 | some i=>
  have hi:i.size=k:=by simpa[hq] using hs
  simp[Builtin.copy_,run_underlying hu,Builtin.lenOf,Builtin.firstCells,sizeOf,typeInfo,hq,hi,<-hn,hl,hst]
theorem wpList_copy_run{P:Program}(w:World){ops:Array Oper}{rest:List Oper}{o:Oper}{a:Act}{Q:Exit->Act->World->Prop}(hgd:o.guard=none)(d s:Operand)(t t':TypeId)
 (ho:o.op=.call {callee:=.builtin .copy,args:=#[d,s],argTypes:=#[t,t']}) (v u:Value) (hd:a.eval d=v) (hs:a.eval s=u) {v':Value} {w':World}
 (hr:(Builtin.copy_ #[t,t'] o.type #[v,u]).run P w=.ok v' w') (h:wpList P ops Q rest (a.put o.dst v') w'):wpList P ops Q (o::rest) a w:=by
 refine wpList_plain hgd fun K hK=>?_
 unfold Oper.wp execOp
 simp only[ho,resolve,invoke,builtin,Sem.run_bind,Sem.run_pure,Result.andThen_ok,List.map_toArray,List.map_cons,List.map_nil,hd,hs,hr]
 exact hK _ _ h
theorem step_copy_run{P:Program}{ops:Array Oper}{o:Oper}{a:Act}{w:World}{K:Act->World->Prop}{Q:Exit->Act->World->Prop}{E:Prop}(hgd:o.guard=none)(d s:Operand)(t t':TypeId)
 (ho:o.op=.call {callee:=.builtin .copy,args:=#[d,s],argTypes:=#[t,t']}) (v u:Value) (hd:a.eval d=v) (hs:a.eval s=u) {v':Value} {w':World}
 (hr:(Builtin.copy_ #[t,t'] o.type #[v,u]).run P w=.ok v' w') (h:K (a.put o.dst v') w'):if Region.wanted o (yielded ops a.tmps)=true then Oper.wp P o a w K Q else E:=by
 have hw:Region.wanted o (yielded ops a.tmps)=true:=by simp[Region.wanted,hgd]
 rw[if_pos hw]
 unfold Oper.wp execOp
 simp only[ho,resolve,invoke,builtin,Sem.run_bind,Sem.run_pure,Result.andThen_ok,List.map_toArray,List.map_cons,List.map_nil,hd,hs,hr]
 exact h
theorem insP_length(l:List Pr)(i:Nat)(x:Pr)(h:i<=l.length):(insP l i x).length=l.length+1:=by
 unfold insP
 rw[List.length_append,List.length_cons,List.length_take,List.length_drop];omega
theorem insP_end(l:List Pr)(x:Pr):insP l l.length x=l++[x]:=by simp[insP]
theorem cells_insP(l:List Pr)(i:Nat)(x:Pr)(_h:i<=l.length):cellsE prE (insP l i x)=(cellsE prE l).take (i * 2)++prE.enc x++(cellsE prE l).drop (i * 2):=by
 unfold insP
 rw[cellsE_append,cellsE_cons,<-cellsE_take,<-cellsE_drop,List.append_assoc];rfl
theorem insert_end(v:Value)(base:Nat)(l:List Pr)(x:Pr)(u:Value)(w:World)(h:OwnE prE base w v l)(hu:RdE prE w u [x])(hl:l.length<=100000)(hbase:base<=w.heap.size) :
 Calls Tryz.prog 390 #[v,.int .i64 l.length,u] w fun e w'=>∃v',e=.returned v'/\OwnE prE base w' v' (insP l l.length x)/\w.grownBy w' v.ownBlock/\∀k,v'.ownBlock=some k->v.ownBlock=some k\/w.heap.size<=k:=by
 have HO:=Lib.hid h
 have HU:=Lib.hid hu
 obtain⟨A,c,rfl,_,_,_⟩:=h.form
 obtain⟨B,d,rfl,_,_,_⟩:=hu.form
 clear h hu
 have HE:Hid (insP l l.length x=l++[x]):=Lib.hid (insP_end l x)
 have hcc:c=l.length\/¬c=l.length:=by omega
 rcases hcc with rfl|hcc
 ·go_enter Tryz.func390,Tryz.ntmps390
  go_wp2_with (at_builtin;refine apL tyPr rfl (.tmp 23) (.tmp 24) rfl HO.out rfl _ [x] rfl HU.out (by simp;omega) hbase ?_;intro v1 w7 o1 g1 a1)
  go_wp2_with fail
  go_ret
  exact⟨_,rfl,by rw[HE.out];exact o1,g1,fun k e=>(own_in a1 k e).imp id (fun h=>by simpa using h)⟩
 ·go_enter Tryz.func390,Tryz.ntmps390
  go_wp2_with (at_builtin;refine apL tyPr rfl (.tmp 23) (.tmp 24) rfl HO.out rfl _ [x] rfl HU.out (by simp;omega) hbase ?_;intro v1 w7 o1 g1 a1)
  go_wp2_with fail
  go_ret
  exact⟨_,rfl,by rw[HE.out];exact o1,g1,fun k e=>(own_in a1 k e).imp id (fun h=>by simpa using h)⟩
theorem insert_room(g c base:Nat)(l:List Pr)(i:Nat)(x:Pr)(ub:Nat)(T:TypeId)(w:World)(h:OwnE prE base w (.slice (some ⟨g,0,none⟩) l.length c) l)(hi:i<l.length)(hl:l.length<=100000)(hroom:l.length+1<=c)
 (hu:Blk w ub T #[.int .i64 x.1,.int .u64 x.2]) (hne:ub≠g) :
 Calls Tryz.prog 390 #[.slice (some ⟨g,0,none⟩) l.length c,.int .i64 i,.slice (some ⟨ub,0,none⟩) 1 1] w fun e w'=>∃v',e=.returned v'/\OwnE prE base w' v' (insP l i x)/\v'.ownBlock=some g/\Touch (fun k=>k=g) w w':=by
 obtain⟨hxs,h⟩:=h
 rcases h with⟨_,h0⟩|⟨g',cap,cur,e,hbg,hg,hnc,hcm,hcs,htk⟩
 ·omega
 injection e with e1 e2 e3
 injection e1 with e1
 injection e1 with e1
 subst e1;subst e3
 have hk:prE.k=2:=rfl
 rw[hk] at hxs hcs htk
 have hmax:maxLen=9223372036854775807:=rfl
 obtain⟨n,hn⟩:∃n,l.length=n:=⟨_,rfl⟩
 rw[hn] at hxs hnc htk hi hl hroom
 have hsz:(Tryz.prog.info? 222).map (·.size)=some 2:=by kernel_rfl
 have ugl:=Blk.lt hu
 obtain⟨cs1,hcs1⟩:∃x,(cellsE prE l).drop (i * 2)=x:=⟨_,rfl⟩
 have hl1:cs1.length=(n - i) * 2:=by rw[<-hcs1,List.length_drop,hxs,Nat.sub_mul]
 have h1c:∀v∈cs1,v.oneCell'=true:=fun v hv=>cellsE_one prE l v (by rw[<-hcs1] at hv;exact List.mem_of_mem_drop hv)
 have hread:∀j v,cs1[j]?=some v->w.cell? ⟨g,i * 2+j,none⟩=some v:=fun j v hj=>by
  rw[cell_of_row w g _ cur _ (0,0) hg]
  have hj':j<cs1.length:=(List.getElem?_eq_some_iff.1 hj).1
  rw[<-hcs1,List.getElem?_drop,<-htk,List.getElem?_take,if_pos (by rw[hl1] at hj';have:=Nat.sub_mul n i 2;omega)] at hj
  simpa using hj
 have hz2:¬((i:Int)=(n:Int)):=by omega
 have hub:w.heap[ub]?=some (.cells #[.int .i64 x.1,.int .u64 x.2] T (0,0)):=hu
 have hov:∀lb cb,(callFunc 461 #[.slice (some ⟨ub,0,none⟩) 1 1,.slice (some ⟨g,(i+1) * 2,none⟩) lb cb]).run Tryz.prog w=.ok (.value (.bool false)) w:=fun lb cb=>by
  rw[run_callFunc_extern Tryz.func461 (by kernel_rfl) (by kernel_rfl) (by kernel_rfl) (e:=Extern.SlicesOverlaps.overlaps #[161,161] #[4]) (by kernel_rfl),
   Lib.run_overlaps_apart w 161 4 222 Tryz.underlying161 2 (fun w=>by kernel_rfl) ⟨ub,0,none⟩ ⟨g,(i+1) * 2,none⟩ 1 1 lb cb hne T 222 2 cur.size (by rw[show w.shape? ub=some (T,2) from by unfold World.shape?;rw[hub];rfl]) (by unfold World.shape?;rw[hg];rfl) (by rw[hcs];omega) (Blk.frozen hu 0) (Blk.frozen hu 2)]
  rfl
 obtain⟨cur1,hcur1⟩:∃y:Array Value,(cur.toList.take ((i+1) * 2)++cs1++cur.toList.drop ((i+1) * 2+cs1.length)).toArray=y:=⟨_,rfl⟩
 have hg1:(w.drew.setRow g cur1).heap[g]?=some (.cells cur1 222 (0,0)):=setRow_heap w.drew g cur cur1 _ _ hg
 have hsub:=Nat.sub_mul n i 2
 have hmin1:Nat.min (n+1 - i) (n - i)=n - i:=by show min _ _=_;omega
 have hcp1:∀ty dc sc,(Builtin.copy_ #[161,161] ty #[.slice (some ⟨g,(i+1) * 2,none⟩) (n - i) dc,.slice (some ⟨g,i * 2,none⟩) (n+1 - i) sc]).run Tryz.prog w.drew=.ok (goInt ((n - i:Nat):Int)) (w.drew.setRow g cur1):=fun ty dc sc=>by
  have:=run_copy_rowK w.drew 161 161 ty 222 2 g ((i+1) * 2) (n - i) dc ⟨g,i * 2,none⟩ (n+1 - i) sc cur 222 cs1 Tryz.underlying161 hsz hg (by rw[hl1,hmin1]) (fun j v hj=>by rw[Addr.add_lit];exact hread j v hj) (by rw[hl1,hcs];omega) h1c
  rw[hmin1,hcur1] at this
  exact this
 obtain⟨cur2,hcur2⟩:∃y:Array Value,(cur1.toList.take (i * 2)++[Value.int .i64 x.1,Value.int .u64 x.2]++cur1.toList.drop (i * 2+2)).toArray=y:=⟨_,rfl⟩
 have hc1s:cur1.size=c * 2:=by
  rw[<-hcur1]
  simp only[List.size_toArray,List.length_append,List.length_take,List.length_drop,Array.length_toList,hl1,hcs]
  omega
 have hmin2:Nat.min 1 (n+1 - i)=1:=by show min _ _=_;omega
 have h1x:∀v∈([.int .i64 x.1,.int .u64 x.2]:List Value),v.oneCell'=true:=fun v hv=>prE.one x v hv
 have hcp2:∀(W:World),W.heap=(w.drew.setRow g cur1).heap->∀ty dc,(Builtin.copy_ #[161,161] ty #[.slice (some ⟨g,i * 2,none⟩) (n+1 - i) dc,.slice (some ⟨ub,0,none⟩) 1 1]).run Tryz.prog W=.ok (goInt 1) (W.setRow g cur2):=fun W hW ty dc=>by
  have hWu:W.heap[ub]?=some (.cells #[.int .i64 x.1,.int .u64 x.2] T (0,0)):=by rw[hW,setRow_other w.drew g ub cur1 hne];exact hub
  have:=run_copy_rowK W 161 161 ty 222 2 g (i * 2) (n+1 - i) dc ⟨ub,0,none⟩ 1 1 cur1 222 [.int .i64 x.1,.int .u64 x.2] Tryz.underlying161 hsz (by rw[hW];exact hg1) (by rw[hmin2];rfl) (fun j v hj=>by
   rw[Addr.add_lit,Nat.zero_add,cell_of_row W ub _ _ _ (0,0) hWu]
   simpa using hj) (by rw[hc1s];simp only[List.length_cons,List.length_nil];omega) h1x
  rw[hmin2] at this
  rw[<-hcur2]
  exact this
 have hfin:cur2.toList.take ((n+1) * 2)=cellsE prE (insP l i x)/\cur2.size=c * 2:=by
  have hA:((cellsE prE l).take (i * 2)).length=i * 2:=by rw[List.length_take,hxs];omega
  have e1:cur1.toList.take (i * 2)=(cellsE prE l).take (i * 2):=by
   rw[<-hcur1,List.append_assoc,List.take_append_of_le_length (by rw[List.length_take,Array.length_toList,hcs];omega),List.take_take,<-htk,List.take_take]
   congr 1;omega
  have e2:cur1.toList.drop (i * 2+2)=cs1++cur.toList.drop ((i+1) * 2+cs1.length):=by
   rw[<-hcur1]
   have hl:(cur.toList.take ((i+1) * 2)).length=i * 2+2:=by rw[List.length_take,Array.length_toList,hcs];omega
   rw[List.append_assoc,List.drop_append_of_le_length (by omega),List.drop_of_length_le (by omega),List.nil_append]
  refine⟨?_,?_⟩
  ·rw[<-hcur2,e1,e2,cells_insP l i x (by omega),hcs1]
   show List.take _ (_++prE.enc x++(cs1++_))=_
   rw[<-List.append_assoc (_++prE.enc x),List.take_append_of_le_length (by simp only[List.length_append,hA,hl1,prE.len];rw[hk];omega)]
   exact List.take_of_length_le (by simp only[List.length_append,hA,hl1,prE.len];rw[hk];omega)
  ·rw[<-hcur2]
   simp only[List.size_toArray,List.length_append,List.length_take,List.length_drop,Array.length_toList,hc1s,List.length_cons,List.length_nil]
   omega
 have HF:=Lib.hid hfin
 have HL:=Lib.hid hn
 have HG:=Lib.hid hg
 have HG1:=Lib.hid hg1
 have HBG:=Lib.hid hbg
 have HCM:=Lib.hid hcm
 have HP1:=Lib.hid hcp1
 have HP2:=Lib.hid hcp2
 have HIL:=Lib.hid (insP_length l i x (by omega))
 rw[hn]
 have hw1:IntKind.i64.wrap ((i:Int)+1)=(i:Int)+1:=by rw[IntKind.wrap_i64];omega
 have hw2:IntKind.i64.wrap ((n:Int)+1)=(n:Int)+1:=by rw[IntKind.wrap_i64];omega
 have hb4:¬(c=i):=by omega
 have hb1:(0:Int)<=(i:Int)+1:=by omega
 have hb2:(i:Int)<=(n:Int):=by omega
 have hb3:(i:Int)+1<=(n:Int)+1:=by omega
 have hb6:(i:Int)<=(n:Int)+1:=by omega
 have htn:((i:Int)+1).toNat=i+1:=by omega
 have hb5:¬(c=i+1):=by omega
 clear e2 hfin hcp1 hcp2 hcur1 hcur2 hc1s h1x hread h1c hl1 hcs1 hxs htk hcs hg hg1 hmin1 hmin2 hsub hub hn hsz hu hbg hcm
 go_enter Tryz.func390,Tryz.ntmps390
 go_wp2_with (simp only[hov])
 go_region_law (refine step_copy_run rfl _ _ 161 161 rfl _ _ (by simp[Act.eval,Act.put]) (by simp[Act.eval,Act.put]) (HP1.out 3 (c - (i+1)) (c - i)) ?_)
 go_wp2_with (refine wpList_copy_run _ rfl (.tmp 80) (.tmp 81) 161 161 rfl _ _ rfl rfl (HP2.out (w.drew.setRow g cur1) rfl _ _) ?_)
 refine bodyPost_ret (by simp[results,Tryz.results390,go_sem, *];try rfl) rfl ?_
 refine⟨_,rfl,?_,rfl,?_⟩
 ·refine⟨by rw[cellsE_length],.inr ⟨g,c,cur2,by rw[HIL.out,HL.out],HBG.out,?_,by rw[HIL.out,HL.out];exact hroom,HCM.out,HF.out.2,by rw[HIL.out,HL.out];exact HF.out.1⟩⟩
  exact setRow_heap _ g cur1 cur2 _ _ HG1.out
 ·exact⟨rfl,rfl,rfl,by simp[World.setRow],fun k hk hkg=>(setRow_other _ g k _ hkg).trans (setRow_other _ g k _ hkg)⟩
theorem insert_grow(g c base:Nat)(l:List Pr)(i:Nat)(x:Pr)(ub:Nat)(T:TypeId)(w:World)(h:OwnE prE base w (.slice (some ⟨g,0,none⟩) l.length c) l)(hi:i<l.length)(hl:l.length<=100000)(hroom:c<l.length+1)
 (hu:Blk w ub T #[.int .i64 x.1,.int .u64 x.2]) :
 Calls Tryz.prog 390 #[.slice (some ⟨g,0,none⟩) l.length c,.int .i64 i,.slice (some ⟨ub,0,none⟩) 1 1] w fun e w'=>∃v',e=.returned v'/\OwnE prE w.heap.size w' v' (insP l i x)/\Below w.heap.size w w':=by
 obtain⟨i0,hi0,hiz,his,hib⟩:=info_parts prI
 obtain⟨hxs,h⟩:=h
 rcases h with⟨_,h0⟩|⟨g',cap,cur,e,_,hg,hnc,hcm,hcs,htk⟩
 ·omega
 injection e with e1 e2 e3
 injection e1 with e1
 injection e1 with e1
 subst e1;subst e3
 have hk:prE.k=2:=rfl
 rw[hk] at hxs hcs htk
 have hmax:maxLen=9223372036854775807:=rfl
 obtain⟨n,hn⟩:∃n,l.length=n:=⟨_,rfl⟩
 rw[hn] at hxs hnc htk hi hl hroom
 have hsz:(Tryz.prog.info? 222).map (·.size)=some 2:=by kernel_rfl
 have ugl:=Blk.lt hu
 have ggl:g<w.heap.size:=by
  rcases Nat.lt_or_ge g w.heap.size with hlt|hge
  ·exact hlt
  ·rw[Array.getElem?_eq_none hge] at hg;cases hg
 obtain⟨cs1,hcs1⟩:∃x,(cellsE prE l).drop (i * 2)=x:=⟨_,rfl⟩
 obtain⟨cs0,hcs0⟩:∃x,(cellsE prE l).take (i * 2)=x:=⟨_,rfl⟩
 have hl1:cs1.length=(n - i) * 2:=by rw[<-hcs1,List.length_drop,hxs,Nat.sub_mul]
 have hl0:cs0.length=i * 2:=by rw[<-hcs0,List.length_take,hxs];omega
 have h1c:∀v∈cs1,v.oneCell'=true:=fun v hv=>cellsE_one prE l v (by rw[<-hcs1] at hv;exact List.mem_of_mem_drop hv)
 have hrow:∀j v,j<n * 2->(cellsE prE l)[j]?=some v->w.cell? ⟨g,j,none⟩=some v:=fun j v hj hv=>by
  rw[cell_of_row w g _ cur _ (0,0) hg]
  rw[<-htk,List.getElem?_take,if_pos hj] at hv
  simpa using hv
 have hsub:=Nat.sub_mul n i 2
 have hread:∀j v,cs1[j]?=some v->w.cell? ⟨g,i * 2+j,none⟩=some v:=fun j v hj=>by
  have hj':j<cs1.length:=(List.getElem?_eq_some_iff.1 hj).1
  rw[<-hcs1,List.getElem?_drop] at hj
  exact hrow _ v (by rw[hl1] at hj';omega) hj
 have hold:(Builtin.firstCells i0.size i (.slice (some ⟨g,0,none⟩) i c)).run Tryz.prog w.drew=.ok cs0.toArray w.drew:=by
  rw[his]
  exact run_firstCells_some w.drew 2 i ⟨g,0,none⟩ i c cs0 hl0 (fun j v hj=>by
   rw[Addr.add_lit,Nat.zero_add]
   have hj':j<cs0.length:=(List.getElem?_eq_some_iff.1 hj).1
   rw[<-hcs0,List.getElem?_take,if_pos (by rw[hl0] at hj';omega)] at hj
   exact hrow j v (by rw[hl0] at hj';omega) hj)
 have hkk:(n:Int)+1 - (i:Int)=((n+1 - i:Nat):Int):=by omega
 have hik:i+(n+1 - i)=n+1:=by omega
 obtain⟨G,hG⟩:∃G,grownCap w (n+1) c 222=G:=⟨_,rfl⟩
 have hGn:n+1<=G:=by rw[<-hG];exact grownCap_ge w _ _ _
 have hGm:G<=maxLen:=by rw[<-hG];exact grownCap_le_maxLen w (n+1) c 222 (by rw[hmax];omega)
 obtain⟨cur0,hcur0⟩:∃y:Array Value,cs0.toArray++Builtin.zeroCells (Value.agg #[.int .i64 0,.int .u64 0]).cells (n+1 - i)++Builtin.zeroCells (Value.agg #[.int .i64 0,.int .u64 0]).cells (G - (n+1))=y:=⟨_,rfl⟩
 have hc0s:cur0.size=G * 2:=by
  have hzc:(Value.agg #[.int .i64 0,.int .u64 0]).cells.size=2:=rfl
  rw[<-hcur0,Array.size_append,Array.size_append,size_zeroCells,size_zeroCells,hzc,List.size_toArray,hl0]
  omega
 have hrz:∀ty,(Builtin.append_ #[161,3] ty #[.slice (some ⟨g,0,none⟩) i c,.int .i64 ((n:Int)+1 - (i:Int))]).run Tryz.prog w =
  .ok (.slice (some ⟨w.heap.size,0,none⟩) (n+1) G) (w.drew.alloc (.cells cur0 222)):=fun ty=>by
  have h:=Lib.run_append_grow_zeros (P:=Tryz.prog) w 161 3 ty 222 i0 _ .i64 .i64 Tryz.underlying161 Tryz.underlying3 hi0 hiz (some ⟨g,0,none⟩) i c cs0 hold (n+1 - i) (by omega) (by rw[his];decide) (by omega) (by omega) (by rw[hib];omega) (by rw[hib,hik];exact growslice_fits hroom (by omega))
  rw[hik,hG,hcur0] at h
  rw[hkk]
  exact h
 obtain⟨w1,hw1⟩:∃w1,w.drew.alloc (.cells cur0 222)=w1:=⟨_,rfl⟩
 rw[hw1] at hrz
 have hg0:w1.heap[w.heap.size]?=some (.cells cur0 222 (0,0)):=by rw[<-hw1];exact heap_alloc_new w.drew _
 have hb1:Below w.heap.size w w1:=by rw[<-hw1];exact(Below.refl w.heap.size w).drew.alloc (Nat.le_refl _) _
 have hub:w1.heap[ub]?=some (.cells #[.int .i64 x.1,.int .u64 x.2] T (0,0)):=(hb1.block ub ugl).trans hu
 obtain⟨cur1,hcur1⟩:∃y:Array Value,(cur0.toList.take (i * 2)++[Value.int .i64 x.1,Value.int .u64 x.2]++cur0.toList.drop (i * 2+2)).toArray=y:=⟨_,rfl⟩
 have hc1s:cur1.size=G * 2:=by
  rw[<-hcur1]
  simp only[List.size_toArray,List.length_append,List.length_take,List.length_drop,Array.length_toList,hc0s,List.length_cons,List.length_nil]
  omega
 have hmin2:Nat.min 1 (n+1 - i)=1:=by show min _ _=_;omega
 have hmin1:Nat.min (n - i) (n - i)=n - i:=by show min _ _=_;omega
 have h1x:∀v∈([.int .i64 x.1,.int .u64 x.2]:List Value),v.oneCell'=true:=fun v hv=>prE.one x v hv
 have hcp2:∀(W:World),W.heap=w1.heap->∀ty dc,(Builtin.copy_ #[161,161] ty #[.slice (some ⟨w.heap.size,i * 2,none⟩) (n+1 - i) dc,.slice (some ⟨ub,0,none⟩) 1 1]).run Tryz.prog W=.ok (goInt 1) (W.setRow w.heap.size cur1):=fun W hW ty dc=>by
  have:=run_copy_rowK W 161 161 ty 222 2 w.heap.size (i * 2) (n+1 - i) dc ⟨ub,0,none⟩ 1 1 cur0 222 [.int .i64 x.1,.int .u64 x.2] Tryz.underlying161 hsz (by rw[hW];exact hg0) (by rw[hmin2];rfl) (fun j v hj=>by
   rw[Addr.add_lit,Nat.zero_add,cell_of_row W ub _ _ _ (0,0) (by rw[hW];exact hub)]
   simpa using hj) (by rw[hc0s];simp only[List.length_cons,List.length_nil];omega) h1x
  rw[hmin2] at this
  rw[<-hcur1]
  exact this
 obtain⟨cur2,hcur2⟩:∃y:Array Value,(cur1.toList.take ((i+1) * 2)++cs1++cur1.toList.drop ((i+1) * 2+cs1.length)).toArray=y:=⟨_,rfl⟩
 have hcp1:∀(W:World),(∀k,W.heap[k]?=(w1.setRow w.heap.size cur1).heap[k]?)->∀ty dc sc,(Builtin.copy_ #[161,161] ty #[.slice (some ⟨w.heap.size,(i+1) * 2,none⟩) (n - i) dc,.slice (some ⟨g,i * 2,none⟩) (n - i) sc]).run Tryz.prog W=.ok (goInt ((n - i:Nat):Int)) (W.setRow w.heap.size cur2):=fun W hW ty dc sc=>by
  have hWg:W.heap[w.heap.size]?=some (.cells cur1 222 (0,0)):=by rw[hW];exact setRow_heap w1 _ cur0 cur1 _ _ hg0
  have hWo:W.heap[g]?=w.heap[g]?:=by rw[hW,setRow_other w1 _ g cur1 (by omega)];exact hb1.block g ggl
  have:=run_copy_rowK W 161 161 ty 222 2 w.heap.size ((i+1) * 2) (n - i) dc ⟨g,i * 2,none⟩ (n - i) sc cur1 222 cs1 Tryz.underlying161 hsz hWg (by rw[hl1,hmin1]) (fun j v hj=>by
   rw[Addr.add_lit]
   exact(World.cell?_of_block hWo).trans (hread j v hj)) (by rw[hl1,hc1s];omega) h1c
  rw[hmin1,hcur2] at this
  exact this
 have hfin:cur2.toList.take ((n+1) * 2)=cellsE prE (insP l i x)/\cur2.size=G * 2:=by
  have e0:cur0.toList.take (i * 2)=cs0:=by
   rw[<-hcur0]
   simp only[Array.toList_append,List.append_assoc]
   rw[List.take_append_of_le_length (by omega),List.take_of_length_le (by omega)]
  have e1:cur1.toList.take ((i+1) * 2)=cs0++[Value.int .i64 x.1,Value.int .u64 x.2]:=by
   rw[<-hcur1,e0]
   have hq:(cs0++[Value.int .i64 x.1,.int .u64 x.2]).length=(i+1) * 2:=by rw[List.length_append,hl0];simp only[List.length_cons,List.length_nil];omega
   show List.take _ (cs0++[Value.int .i64 x.1,.int .u64 x.2]++_)=_
   rw[List.take_append_of_le_length (by omega),List.take_of_length_le (by omega)]
  refine⟨?_,?_⟩
  ·rw[<-hcur2,e1,cells_insP l i x (by omega),hcs1,hcs0]
   have hq:(cs0++[Value.int .i64 x.1,.int .u64 x.2]++cs1).length=(n+1) * 2:=by rw[List.length_append,List.length_append,hl0,hl1];simp only[List.length_cons,List.length_nil];omega
   show List.take _ (cs0++[Value.int .i64 x.1,.int .u64 x.2]++cs1++_)=_
   rw[List.take_append_of_le_length (by omega),List.take_of_length_le (by omega)]
   rfl
  ·rw[<-hcur2]
   simp only[List.size_toArray,List.length_append,List.length_take,List.length_drop,Array.length_toList,hc1s,hl1]
   omega
 have HF:=Lib.hid hfin
 have HL:=Lib.hid hn
 have HG0:=Lib.hid hg0
 have HCM:=Lib.hid hGm
 have HP1:=Lib.hid hcp1
 have HP2:=Lib.hid hcp2
 have HRZ:=Lib.hid hrz
 have HB1:=Lib.hid hb1
 have HIL:=Lib.hid (insP_length l i x (by omega))
 have hwsz:w.heap.size<w1.heap.size:=by rw[<-hw1];simp
 rw[hn]
 have hz2:¬((i:Int)=(n:Int)):=by omega
 have hz3:(c:Int)<(n:Int)+1:=by omega
 have hv1:IntKind.i64.wrap ((i:Int)+1)=(i:Int)+1:=by rw[IntKind.wrap_i64];omega
 have hv2:IntKind.i64.wrap ((n:Int)+1)=(n:Int)+1:=by rw[IntKind.wrap_i64];omega
 have hb4:¬(c=i):=by omega
 have hbz1:(0:Int)<=(i:Int)+1:=by omega
 have hb2:(i:Int)<=(n:Int):=by omega
 have hb3:(i:Int)+1<=(n:Int)+1:=by omega
 have hb6:(i:Int)<=(n:Int)+1:=by omega
 have htn:((i:Int)+1).toNat=i+1:=by omega
 have hG4:¬(G=i):=by omega
 have hG5:¬(G=i+1):=by omega
 clear e2 hfin hcp1 hcp2 hcur1 hcur2 hc1s h1x hread h1c hl1 hcs1 hxs htk hcs hg hg0 hmin1 hmin2 hsub hub hn hsz hu hcm hrz hrow hold hkk hik hG hc0s hcur0 hl0 hcs0 hw1 hb1 hGm hi0 hiz his hib
 go_enter Tryz.func390,Tryz.ntmps390
 go_upto_region 10 with(at_builtin;refine Lib.wpList_append_run _ rfl _ _ _ _ rfl _ _ rfl rfl _ _ (HRZ.out _) ?_)
 go_wp2_with (refine wpList_copy_run _ rfl (.tmp 43) (.tmp 44) 161 161 rfl _ _ rfl rfl (HP2.out w1 rfl _ _) ?_)
 go_region_law (refine step_copy_run rfl _ _ 161 161 rfl _ _ (by simp[Act.eval,Act.put]) (by simp[Act.eval,Act.put]) (HP1.out (w1.setRow w.heap.size cur1).drew (fun _=>rfl) 3 (G - (i+1)) (c - i)) ?_)
 go_wp2_with fail
 refine bodyPost_ret (by simp[results,Tryz.results390,go_sem, *];try rfl) rfl ?_
 refine⟨_,rfl,?_,?_⟩
 ·refine⟨by rw[cellsE_length],.inr ⟨w.heap.size,G,cur2,by rw[HIL.out,HL.out],Nat.le_refl _,?_,by rw[HIL.out,HL.out];exact hGn,HCM.out,HF.out.2,by rw[HIL.out,HL.out];exact HF.out.1⟩⟩
  exact setRow_heap _ _ cur1 cur2 _ _ (setRow_heap w1 _ cur0 cur1 _ _ HG0.out)
 ·have h:=HB1.out
  exact⟨h.os,h.tape,h.output,by simp[World.setRow];omega,fun k hk=>((setRow_other _ _ k _ (by omega)).trans (setRow_other _ _ k _ (by omega))).trans (h.block k hk)⟩
open Go.RowKit
abbrev Ft:=Nat->Prop
def Gr(F:Ft)(w w':World):Ft:=fun k=>F k\/(w.heap.size<=k/\k<w'.heap.size)
section
variable {F G : Ft} {w w1 w2 : World}
theorem gr_lt(hF:∀k,F k->k<w.heap.size)(hz:w.heap.size<=w1.heap.size):∀k,Gr F w w1 k->k<w1.heap.size:=fun k h=>by
 rcases h with h|h
 ·have:=hF k h;omega
 ·exact h.2
theorem tgr(t1:Touch F w w1)(t2:Touch (Gr F w w1) w1 w2):Touch F w w2:=t1.trans t2 (fun _ h=>h.imp id And.left)
theorem tbl(t:Touch F w w1)(hb:Below w1.heap.size w1 w2):Touch F w w2:=t.trans (Touch.of_below (F:=F) hb (Nat.le_refl _)) (fun _ h=>.inl h)
theorem btl(hb:Below w.heap.size w w1)(t:Touch F w1 w2):Touch F w w2:=(Touch.of_below (F:=F) hb (Nat.le_refl _)).trans t (fun _ h=>.inl h)
end
structure Stay(P:Ft->World->Prop):Prop where
 stay:∀{F:Ft} {w w':World},P F w->(∀k,F k->w'.heap[k]?=w.heap[k]?)->w.heap.size<=w'.heap.size->P F w'
 more:∀{F G:Ft} {w:World},P F w->(∀k,F k->G k)->(∀k,G k->k<w.heap.size)->P G w
 low:∀{F:Ft} {w:World},P F w->∀k,F k->k<w.heap.size
theorem Stay.keep{P:Ft->World->Prop}(S:Stay P){F:Ft}{w w':World}(h:P F w)(hb:Below w.heap.size w w'):P F w':=S.stay h (fun k hk=>hb.block k (S.low h k hk)) hb.size
theorem Stay.far{P:Ft->World->Prop}(S:Stay P){F G:Ft}{w w':World}(h:P F w)(ht:Touch G w w')(hG:∀k,F k->¬G k):P F w':=S.stay h (fun k hk=>ht.block k (S.low h k hk) (hG k hk)) ht.size
theorem Stay.gr{P:Ft->World->Prop}(S:Stay P){F F':Ft}{w w':World}(hP:P F' w')(hF:∀k,F' k->F k\/w.heap.size<=k)(h0:∀k,F k->k<w.heap.size)(hz:w.heap.size<=w'.heap.size):P (Gr F w w') w':=
 S.more hP (fun k hk=>(hF k hk).imp id fun h=>⟨h,S.low hP k hk⟩) (gr_lt h0 hz)
end Go.Proofs.YtkiebccnpheloaaGreat.D
