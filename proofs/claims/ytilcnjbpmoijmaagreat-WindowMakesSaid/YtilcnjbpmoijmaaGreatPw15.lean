/- Parts of a proof. No condition. -/
import Derived.Test.YtilcnjbpmoijmaaGreatPw14
import Derived.Laws.CopyRow
import Derived.Lib.AppendZeros
import Derived.Lib.AppendZerosOnto
import Derived.Lib.Overlaps
import Derived.Shelf.RegionOpenPlain
set_option maxRecDepth 100000
set_option maxHeartbeats 16000000
set_option linter.unusedVariables false
set_option linter.unusedSimpArgs false
namespace Go.Proofs.YtilcnjbpmoijmaaGreat.D
open Tryz
open Go.RowKit
variable{P:Program}{ops:Array Oper}{o:Oper}{a:Act}{Q:Exit->Act->World->Prop}{v':Value}{w':World}
theorem nH(w:World)(dT sT ty elem:TypeId)(k g o dLen dCap:Nat)(a:Addr)(sLen sCap:Nat)(cur:Array Value)(t:TypeId)(cs:List Value)
 (hu:P.underlying dT=some (.slice elem)) (hs:(P.info? elem).map (·.size)=some k)
 (hg:w.heap[g]?=some (.cells cur t (0,0))) (hn:cs.length=Nat.min sLen dLen * k)
 (hsrc:∀j v,cs[j]?=some v->w.cell? (a.add j)=some v) (hfit:o+cs.length<=cur.size) (h1:∀v∈cs,v.oneCell'=true) :
 (Builtin.copy_ #[dT,sT] ty #[.slice (some ⟨g,o,none⟩) dLen dCap,.slice (some a) sLen sCap]).run P w =
  .ok (goInt (Nat.min sLen dLen)) (w.setRow g (cur.toList.take o++cs++cur.toList.drop (o+cs.length)).toArray):=by
 have hl:=run_loadCells_list (P:=P) w a cs hsrc;have hst:=run_storeCells_at P g o t cs 0 cur w hg (by simpa using hfit) h1
 cases hq:P.info? elem with
 | none=>simp[hq] at hs
 | some i=>
  have hi:i.size=k:=by simpa[hq] using hs
  simp[Builtin.copy_,run_underlying hu,Builtin.lenOf,Builtin.firstCells,sizeOf,typeInfo,hq,hi,<-hn,hl,hst]
theorem wpList_copy_run(w:World){rest:List Oper}(hgd:o.guard=none)(d s:Operand)(t t':TypeId)
 (ho:o.op=.call {callee:=.builtin .copy,args:=#[d,s],argTypes:=#[t,t']}) (v u:Value) (hd:a.eval d=v) (hs:a.eval s=u)  
 (hr:(Builtin.copy_ #[t,t'] o.type #[v,u]).run P w=.ok v' w') (h:wpList P ops Q rest (a.put o.dst v') w'):wpList P ops Q (o::rest) a w:=by
 refine wpList_plain hgd fun K hK=>?_
 unfold Oper.wp execOp;simp only[ho,resolve,invoke,builtin,Sem.run_bind,Sem.run_pure,Result.andThen_ok,List.map_toArray,List.map_cons,List.map_nil,hd,hs,hr];exact hK _ _ h
theorem xu{w:World}{K:Act->World->Prop}{E:Prop}(hgd:o.guard=none)(d s:Operand)(t t':TypeId)
 (ho:o.op=.call {callee:=.builtin .copy,args:=#[d,s],argTypes:=#[t,t']}) (v u:Value) (hd:a.eval d=v) (hs:a.eval s=u)  
 (hr:(Builtin.copy_ #[t,t'] o.type #[v,u]).run P w=.ok v' w') (h:K (a.put o.dst v') w'):if Region.wanted o (yielded ops a.tmps)=true then Oper.wp P o a w K Q else E:=by
 have hw:Region.wanted o (yielded ops a.tmps)=true:=by simp[Region.wanted,hgd]
 rw[if_pos hw];unfold Oper.wp execOp;simp only[ho,resolve,invoke,builtin,Sem.run_bind,Sem.run_pure,Result.andThen_ok,List.map_toArray,List.map_cons,List.map_nil,hd,hs,hr];exact h
theorem vg(l:List Pr)(i:Nat)(x:Pr)(h:i<=l.length):(pJ l i x).length=l.length+1:=by
 unfold pJ;rw[aQ,aU,bG,bu];omega
theorem ZH(l:List Pr)(x:Pr):pJ l l.length x=l++[x]:=by simp[pJ]
theorem FZ(l:List Pr)(i:Nat)(x:Pr)(_h:i<=l.length):cellsE fZ (pJ l i x)=(cellsE fZ l).take (i * 2)++fZ.enc x++(cellsE fZ l).drop (i * 2):=by
 unfold pJ;rw[jd,gJ,<-Ci,<-Cj,aX];rfl
theorem Rt(v:Value)(base:Nat)(l:List Pr)(x:Pr)(u:Value)(w:World)(h:dL fZ base w v l)(hu:iM fZ w u [x])(hl:l.length<=100000)(hbase:base<=w.heap.size) :
 aH 332 #[v,.int .i64 l.length,u] w fun e w'=>∃v',e=.returned v'/\dL fZ base w' v' (pJ l l.length x)/\w.grownBy w' v.ownBlock/\∀k,v'.ownBlock=some k->v.ownBlock=some k\/w.heap.size<=k:=by
 have HO:=aI h;have HU:=aI hu;obtain⟨A,c,rfl,_,_,_⟩:=h.form;obtain⟨B,d,rfl,_,_,_⟩:=hu.form;clear h hu;have HE:Hid (pJ l l.length x=l++[x]):=aI (ZH l x);have hcc:c=l.length\/¬c=l.length:=ae
 rcases hcc with rfl|hcc
 ·go_enter func332,ntmps332
  go_wp2_with (at_builtin;refine uk zq rfl (.tmp 23) (.tmp 24) rfl HO.o rfl _ [x] rfl HU.o ah hbase ?_;intro v1 w7 o1 g1 a1)
  go_wp2_with fail
  go_ret;exact⟨_,rfl,by rw[HE.o];exact o1,g1,fun k e=>(AY a1 k e).imp id (fun h=>by simpa using h)⟩
 ·go_enter func332,ntmps332
  go_wp2_with (at_builtin;refine uk zq rfl (.tmp 23) (.tmp 24) rfl HO.o rfl _ [x] rfl HU.o ah hbase ?_;intro v1 w7 o1 g1 a1)
  go_wp2_with fail
  go_ret;exact⟨_,rfl,by rw[HE.o];exact o1,g1,fun k e=>(AY a1 k e).imp id (fun h=>by simpa using h)⟩
theorem NT(g c base:Nat)(l:List Pr)(i:Nat)(x:Pr)(ub:Nat)(T:TypeId)(w:World)(h:dL fZ base w (.slice (some ⟨g,0,none⟩) l.length c) l)(hi:i<l.length)(hl:l.length<=100000)(hroom:l.length+1<=c)
 (hu:dK w ub T #[.int .i64 x.1,.int .u64 x.2]) (hne:ub≠g) :
 aH 332 #[.slice (some ⟨g,0,none⟩) l.length c,.int .i64 i,.slice (some ⟨ub,0,none⟩) 1 1] w fun e w'=>∃v',e=.returned v'/\dL fZ base w' v' (pJ l i x)/\v'.ownBlock=some g/\Touch (fun k=>k=g) w w':=by
 obtain⟨hxs,h⟩:=h
 rcases h with⟨_,h0⟩|⟨g',cap,cur,e,hbg,hg,hnc,hcm,hcs,htk⟩
 ·omega
 injection e with e1 e2 e3;injection e1 with e1;injection e1 with e1;subst e1;subst e3;have hk:fZ.k=2:=rfl;rw[hk] at hxs hcs htk;have hmax:maxLen=9223372036854775807:=rfl;obtain⟨n,hn⟩:=aF (l.length);rw[hn] at hxs hnc htk hi hl hroom;have hsz:(prog.info? 178).map (·.size)=some 2:=by kernel_rfl
 have ugl:=dK.lt hu;obtain⟨cs1,hcs1⟩:∃x,(cellsE fZ l).drop (i * 2)=x:=⟨_,rfl⟩;have hl1:cs1.length=(n - i) * 2:=by rw[<-hcs1,bu,hxs,Nat.sub_mul]
 have h1c:∀v∈cs1,v.oneCell'=true:=fun v hv=>pO fZ l v (by rw[<-hcs1] at hv;exact List.mem_of_mem_drop hv)
 have hread:∀j v,cs1[j]?=some v->w.cell? ⟨g,i * 2+j,none⟩=some v:=fun j v hj=>by
  rw[cell_of_row w g _ cur _ (0,0) hg];have hj':j<cs1.length:=(List.getElem?_eq_some_iff.1 hj).1;rw[<-hcs1,List.getElem?_drop,<-htk,List.getElem?_take,if_pos (by rw[hl1] at hj';have:=Nat.sub_mul n i 2;omega)] at hj
  simpa using hj
 have hz2:¬((i:Int)=(n:Int)):=ae
 have hub:w.heap[ub]?=some (.cells #[.int .i64 x.1,.int .u64 x.2] T (0,0)):=hu;have hov:∀lb cb,(callFunc 406 #[.slice (some ⟨ub,0,none⟩) 1 1,.slice (some ⟨g,(i+1) * 2,none⟩) lb cb]).run prog w=.ok (.value (.bool false)) w:=fun lb cb=>by
  rw[run_callFunc_extern func406 (by kernel_rfl) (by kernel_rfl) (by kernel_rfl) (e:=Extern.SlicesOverlaps.overlaps #[128,128] #[4]) (by kernel_rfl),
   Lib.run_overlaps_apart w 128 4 178 underlying128 2 (fun w=>by kernel_rfl) ⟨ub,0,none⟩ ⟨g,(i+1) * 2,none⟩ 1 1 lb cb hne T 178 2 cur.size (by rw[show w.shape? ub=some (T,2) from by unfold World.shape?;rw[hub];rfl]) (by unfold World.shape?;rw[hg];rfl) (by rw[hcs];omega) (dK.frozen hu 0) (dK.frozen hu 2)]
  rfl
 obtain⟨lU,xw⟩:∃y:Array Value,(cur.toList.take ((i+1) * 2)++cs1++cur.toList.drop ((i+1) * 2+cs1.length)).toArray=y:=⟨_,rfl⟩;have hg1:(w.drew.setRow g lU).heap[g]?=some (.cells lU 178 (0,0)):=setRow_heap w.drew g cur lU _ _ hg;have hsub:=Nat.sub_mul n i 2;have F_:Nat.min (n+1 - i) (n - i)=n - i:=by show min _ _=_;omega
 have hcp1:∀ty dc sc,(Builtin.copy_ #[128,128] ty #[.slice (some ⟨g,(i+1) * 2,none⟩) (n - i) dc,.slice (some ⟨g,i * 2,none⟩) (n+1 - i) sc]).run prog w.drew=.ok (goInt ((n - i:Nat):Int)) (w.drew.setRow g lU):=fun ty dc sc=>by
  have:=nH w.drew 128 128 ty 178 2 g ((i+1) * 2) (n - i) dc ⟨g,i * 2,none⟩ (n+1 - i) sc cur 178 cs1 underlying128 hsz hg (by rw[hl1,F_]) (fun j v hj=>by rw[Addr.add_lit];exact hread j v hj) (by rw[hl1,hcs];omega) h1c
  rw[F_,xw] at this;exact this
 obtain⟨xh,zx⟩:∃y:Array Value,(lU.toList.take (i * 2)++[Value.int .i64 x.1,Value.int .u64 x.2]++lU.toList.drop (i * 2+2)).toArray=y:=⟨_,rfl⟩;have Ru:lU.size=c * 2:=by
  rw[<-xw];simp only[List.size_toArray,aQ,bG,bu,Array.length_toList,hl1,hcs];omega
 have Gf:Nat.min 1 (n+1 - i)=1:=by show min _ _=_;omega
 have h1x:∀v∈([.int .i64 x.1,.int .u64 x.2]:List Value),v.oneCell'=true:=fun v hv=>fZ.one x v hv
 have hcp2:∀(W:World),W.heap=(w.drew.setRow g lU).heap->∀ty dc,(Builtin.copy_ #[128,128] ty #[.slice (some ⟨g,i * 2,none⟩) (n+1 - i) dc,.slice (some ⟨ub,0,none⟩) 1 1]).run prog W=.ok (goInt 1) (W.setRow g xh):=fun W hW ty dc=>by
  have hWu:W.heap[ub]?=some (.cells #[.int .i64 x.1,.int .u64 x.2] T (0,0)):=by rw[hW,setRow_other w.drew g ub lU hne];exact hub
  have:=nH W 128 128 ty 178 2 g (i * 2) (n+1 - i) dc ⟨ub,0,none⟩ 1 1 lU 178 [.int .i64 x.1,.int .u64 x.2] underlying128 hsz (by rw[hW];exact hg1) (by rw[Gf];rfl) (fun j v hj=>by
   rw[Addr.add_lit,Nat.zero_add,cell_of_row W ub _ _ _ (0,0) hWu]
   simpa using hj) (by rw[Ru];simp only[aU,bC];omega) h1x
  rw[Gf] at this;rw[<-zx];exact this
 have hfin:xh.toList.take ((n+1) * 2)=cellsE fZ (pJ l i x)/\xh.size=c * 2:=by
  have hA:((cellsE fZ l).take (i * 2)).length=i * 2:=by rw[bG,hxs];omega
  have e1:lU.toList.take (i * 2)=(cellsE fZ l).take (i * 2):=by
   rw[<-xw,aX,List.take_append_of_le_length (by rw[bG,Array.length_toList,hcs];omega),List.take_take,<-htk,List.take_take]
   congr 1;omega
  have e2:lU.toList.drop (i * 2+2)=cs1++cur.toList.drop ((i+1) * 2+cs1.length):=by
   rw[<-xw];have hl:(cur.toList.take ((i+1) * 2)).length=i * 2+2:=by rw[bG,Array.length_toList,hcs];omega
   rw[aX,List.drop_append_of_le_length ae,List.drop_of_length_le ae,List.nil_append]
  refine⟨?_,?_⟩
  ·rw[<-zx,e1,e2,FZ l i x ae,hcs1]
   show List.take _ (_++fZ.enc x++(cs1++_))=_
   rw[<-aX (_++fZ.enc x),List.take_append_of_le_length (by simp only[aQ,hA,hl1,fZ.len];rw[hk];omega)]
   exact bP (by simp only[aQ,hA,hl1,fZ.len];rw[hk];omega)
  ·rw[<-zx]
   simp only[List.size_toArray,aQ,bG,bu,Array.length_toList,Ru,aU,bC];omega
 have HF:=aI hfin;have HL:=aI hn;have HG:=aI hg;have HG1:=aI hg1;have HBG:=aI hbg;have HCM:=aI hcm;have HP1:=aI hcp1;have HP2:=aI hcp2;have YL:=aI (vg l i x ae)
 rw[hn];have hw1:IntKind.i64.wrap ((i:Int)+1)=(i:Int)+1:=ak
 have hw2:IntKind.i64.wrap ((n:Int)+1)=(n:Int)+1:=ak
 have hb4:¬(c=i):=ae
 have hb1:(0:Int)<=(i:Int)+1:=ae
 have hb2:(i:Int)<=(n:Int):=ae
 have hb3:(i:Int)+1<=(n:Int)+1:=ae
 have hb6:(i:Int)<=(n:Int)+1:=ae
 have htn:((i:Int)+1).toNat=i+1:=ae
 have hb5:¬(c=i+1):=ae
 clear e2 hfin hcp1 hcp2 xw zx Ru h1x hread h1c hl1 hcs1 hxs htk hcs hg hg1 F_ Gf hsub hub hn hsz hu hbg hcm
 go_enter func332,ntmps332
 go_wp2_with (simp only[hov])
 go_region_law (refine xu rfl _ _ 128 128 rfl _ _ (by simp[Act.eval,Act.put]) (by simp[Act.eval,Act.put]) (HP1.o 3 (c - (i+1)) (c - i)) ?_)
 go_wp2_with (refine wpList_copy_run _ rfl (.tmp 80) (.tmp 81) 128 128 rfl _ _ rfl rfl (HP2.o (w.drew.setRow g lU) rfl _ _) ?_)
 refine bodyPost_ret (by simp[results,Tryz.results332,go_sem, *];try rfl) rfl ?_
 refine⟨_,rfl,?_,rfl,?_⟩
 ·refine⟨by rw[fC],.inr ⟨g,c,xh,by rw[YL.o,HL.o],HBG.o,?_,by rw[YL.o,HL.o];exact hroom,HCM.o,HF.o.2,by rw[YL.o,HL.o];exact HF.o.1⟩⟩
  exact setRow_heap _ g lU xh _ _ HG1.o
 ·exact⟨rfl,rfl,rfl,by simp[World.setRow],fun k hk hkg=>(setRow_other _ g k _ hkg).trans (setRow_other _ g k _ hkg)⟩
theorem NU(g c base:Nat)(l:List Pr)(i:Nat)(x:Pr)(ub:Nat)(T:TypeId)(w:World)(h:dL fZ base w (.slice (some ⟨g,0,none⟩) l.length c) l)(hi:i<l.length)(hl:l.length<=100000)(hroom:c<l.length+1)
 (hu:dK w ub T #[.int .i64 x.1,.int .u64 x.2]) :
 aH 332 #[.slice (some ⟨g,0,none⟩) l.length c,.int .i64 i,.slice (some ⟨ub,0,none⟩) 1 1] w fun e w'=>∃v',e=.returned v'/\dL fZ w.heap.size w' v' (pJ l i x)/\Below w.heap.size w w':=by
 obtain⟨i0,hi0,hiz,his,hib⟩:=info_parts prI;obtain⟨hxs,h⟩:=h
 rcases h with⟨_,h0⟩|⟨g',cap,cur,e,_,hg,hnc,hcm,hcs,htk⟩
 ·omega
 injection e with e1 e2 e3;injection e1 with e1;injection e1 with e1;subst e1;subst e3;have hk:fZ.k=2:=rfl;rw[hk] at hxs hcs htk;have hmax:maxLen=9223372036854775807:=rfl;obtain⟨n,hn⟩:=aF (l.length);rw[hn] at hxs hnc htk hi hl hroom;have hsz:(prog.info? 178).map (·.size)=some 2:=by kernel_rfl
 have ugl:=dK.lt hu;have ggl:g<w.heap.size:=by
  rcases bV g w.heap.size with hlt|hge
  ·exact hlt
  ·rw[Array.getElem?_eq_none hge] at hg;cases hg
 obtain⟨cs1,hcs1⟩:∃x,(cellsE fZ l).drop (i * 2)=x:=⟨_,rfl⟩;obtain⟨cs0,hcs0⟩:∃x,(cellsE fZ l).take (i * 2)=x:=⟨_,rfl⟩;have hl1:cs1.length=(n - i) * 2:=by rw[<-hcs1,bu,hxs,Nat.sub_mul]
 have hl0:cs0.length=i * 2:=by rw[<-hcs0,bG,hxs];omega
 have h1c:∀v∈cs1,v.oneCell'=true:=fun v hv=>pO fZ l v (by rw[<-hcs1] at hv;exact List.mem_of_mem_drop hv)
 have hrow:∀j v,j<n * 2->(cellsE fZ l)[j]?=some v->w.cell? ⟨g,j,none⟩=some v:=fun j v hj hv=>by
  rw[cell_of_row w g _ cur _ (0,0) hg];rw[<-htk,List.getElem?_take,if_pos hj] at hv
  simpa using hv
 have hsub:=Nat.sub_mul n i 2;have hread:∀j v,cs1[j]?=some v->w.cell? ⟨g,i * 2+j,none⟩=some v:=fun j v hj=>by
  have hj':j<cs1.length:=(List.getElem?_eq_some_iff.1 hj).1;rw[<-hcs1,List.getElem?_drop] at hj;exact hrow _ v (by rw[hl1] at hj';omega) hj
 have hold:(Builtin.firstCells i0.size i (.slice (some ⟨g,0,none⟩) i c)).run prog w.drew=.ok cs0.toArray w.drew:=by
  rw[his];exact run_firstCells_some w.drew 2 i ⟨g,0,none⟩ i c cs0 hl0 (fun j v hj=>by
   rw[Addr.add_lit,Nat.zero_add];have hj':j<cs0.length:=(List.getElem?_eq_some_iff.1 hj).1;rw[<-hcs0,List.getElem?_take,if_pos (by rw[hl0] at hj';omega)] at hj
   exact hrow j v (by rw[hl0] at hj';omega) hj)
 have hkk:(n:Int)+1 - (i:Int)=((n+1 - i:Nat):Int):=ae
 have hik:i+(n+1 - i)=n+1:=ae
 obtain⟨G,hG⟩:=aF (grownCap w (n+1) c 178);have hGn:n+1<=G:=by rw[<-hG];exact grownCap_ge w _ _ _
 have hGm:G<=maxLen:=by rw[<-hG];exact grownCap_le_maxLen w (n+1) c 178 (by rw[hmax];omega)
 obtain⟨Iu,U4⟩:∃y:Array Value,cs0.toArray++Builtin.zeroCells (Value.agg #[.int .i64 0,.int .u64 0]).cells (n+1 - i)++Builtin.zeroCells (Value.agg #[.int .i64 0,.int .u64 0]).cells (G - (n+1))=y:=⟨_,rfl⟩;have hc0s:Iu.size=G * 2:=by
  have hzc:(Value.agg #[.int .i64 0,.int .u64 0]).cells.size=2:=rfl;rw[<-U4,Array.size_append,Array.size_append,size_zeroCells,size_zeroCells,hzc,List.size_toArray,hl0];omega
 have hrz:∀ty,(Builtin.append_ #[128,3] ty #[.slice (some ⟨g,0,none⟩) i c,.int .i64 ((n:Int)+1 - (i:Int))]).run prog w =
  .ok (.slice (some ⟨w.heap.size,0,none⟩) (n+1) G) (w.drew.alloc (.cells Iu 178)):=fun ty=>by
  have h:=Lib.run_append_grow_zeros (P:=prog) w 128 3 ty 178 i0 _ .i64 .i64 underlying128 underlying3 hi0 hiz (some ⟨g,0,none⟩) i c cs0 hold (n+1 - i) ae (by rw[his];decide) ae  ae (by rw[hib];omega) (by rw[hib,hik];exact growslice_fits hroom ae)
  rw[hik,hG,U4] at h;rw[hkk];exact h
 obtain⟨w1,hw1⟩:=aF (w.drew.alloc (.cells Iu 178));rw[hw1] at hrz;have hg0:w1.heap[w.heap.size]?=some (.cells Iu 178 (0,0)):=by rw[<-hw1];exact heap_alloc_new w.drew _
 have hb1:Below w.heap.size w w1:=by rw[<-hw1];exact(aO w.heap.size w).drew.alloc (aS _) _
 have hub:w1.heap[ub]?=some (.cells #[.int .i64 x.1,.int .u64 x.2] T (0,0)):=(hb1.block ub ugl).trans hu;obtain⟨lU,xw⟩:∃y:Array Value,(Iu.toList.take (i * 2)++[Value.int .i64 x.1,Value.int .u64 x.2]++Iu.toList.drop (i * 2+2)).toArray=y:=⟨_,rfl⟩;have Ru:lU.size=G * 2:=by
  rw[<-xw];simp only[List.size_toArray,aQ,bG,bu,Array.length_toList,hc0s,aU,bC];omega
 have Gf:Nat.min 1 (n+1 - i)=1:=by show min _ _=_;omega
 have F_:Nat.min (n - i) (n - i)=n - i:=by show min _ _=_;omega
 have h1x:∀v∈([.int .i64 x.1,.int .u64 x.2]:List Value),v.oneCell'=true:=fun v hv=>fZ.one x v hv
 have hcp2:∀(W:World),W.heap=w1.heap->∀ty dc,(Builtin.copy_ #[128,128] ty #[.slice (some ⟨w.heap.size,i * 2,none⟩) (n+1 - i) dc,.slice (some ⟨ub,0,none⟩) 1 1]).run prog W=.ok (goInt 1) (W.setRow w.heap.size lU):=fun W hW ty dc=>by
  have:=nH W 128 128 ty 178 2 w.heap.size (i * 2) (n+1 - i) dc ⟨ub,0,none⟩ 1 1 Iu 178 [.int .i64 x.1,.int .u64 x.2] underlying128 hsz (by rw[hW];exact hg0) (by rw[Gf];rfl) (fun j v hj=>by
   rw[Addr.add_lit,Nat.zero_add,cell_of_row W ub _ _ _ (0,0) (by rw[hW];exact hub)]
   simpa using hj) (by rw[hc0s];simp only[aU,bC];omega) h1x
  rw[Gf] at this;rw[<-xw];exact this
 obtain⟨xh,zx⟩:∃y:Array Value,(lU.toList.take ((i+1) * 2)++cs1++lU.toList.drop ((i+1) * 2+cs1.length)).toArray=y:=⟨_,rfl⟩;have hcp1:∀(W:World),(∀k,W.heap[k]?=(w1.setRow w.heap.size lU).heap[k]?)->∀ty dc sc,(Builtin.copy_ #[128,128] ty #[.slice (some ⟨w.heap.size,(i+1) * 2,none⟩) (n - i) dc,.slice (some ⟨g,i * 2,none⟩) (n - i) sc]).run prog W=.ok (goInt ((n - i:Nat):Int)) (W.setRow w.heap.size xh):=fun W hW ty dc sc=>by
  have hWg:W.heap[w.heap.size]?=some (.cells lU 178 (0,0)):=by rw[hW];exact setRow_heap w1 _ Iu lU _ _ hg0
  have hWo:W.heap[g]?=w.heap[g]?:=by rw[hW,setRow_other w1 _ g lU ae];exact hb1.block g ggl
  have:=nH W 128 128 ty 178 2 w.heap.size ((i+1) * 2) (n - i) dc ⟨g,i * 2,none⟩ (n - i) sc lU 178 cs1 underlying128 hsz hWg (by rw[hl1,F_]) (fun j v hj=>by
   rw[Addr.add_lit];exact(cZ hWo).trans (hread j v hj)) (by rw[hl1,Ru];omega) h1c
  rw[F_,zx] at this;exact this
 have hfin:xh.toList.take ((n+1) * 2)=cellsE fZ (pJ l i x)/\xh.size=G * 2:=by
  have e0:Iu.toList.take (i * 2)=cs0:=by
   rw[<-U4];simp only[Array.toList_append,aX];rw[List.take_append_of_le_length ae,bP ae]
  have e1:lU.toList.take ((i+1) * 2)=cs0++[Value.int .i64 x.1,Value.int .u64 x.2]:=by
   rw[<-xw,e0];have hq:(cs0++[Value.int .i64 x.1,.int .u64 x.2]).length=(i+1) * 2:=by rw[aQ,hl0];simp only[aU,bC];omega
   show List.take _ (cs0++[Value.int .i64 x.1,.int .u64 x.2]++_)=_
   rw[List.take_append_of_le_length ae,bP ae]
  refine⟨?_,?_⟩
  ·rw[<-zx,e1,FZ l i x ae,hcs1,hcs0]
   have hq:(cs0++[Value.int .i64 x.1,.int .u64 x.2]++cs1).length=(n+1) * 2:=by rw[aQ,aQ,hl0,hl1];simp only[aU,bC];omega
   show List.take _ (cs0++[Value.int .i64 x.1,.int .u64 x.2]++cs1++_)=_
   rw[List.take_append_of_le_length ae,bP ae]
   rfl
  ·rw[<-zx]
   simp only[List.size_toArray,aQ,bG,bu,Array.length_toList,Ru,hl1];omega
 have HF:=aI hfin;have HL:=aI hn;have HG0:=aI hg0;have HCM:=aI hGm;have HP1:=aI hcp1;have HP2:=aI hcp2;have HRZ:=aI hrz;have HB1:=aI hb1;have YL:=aI (vg l i x ae)
 have cf0:w.heap.size<w1.heap.size:=by rw[<-hw1];simp
 rw[hn];have hz2:¬((i:Int)=(n:Int)):=ae
 have hz3:(c:Int)<(n:Int)+1:=ae
 have hv1:IntKind.i64.wrap ((i:Int)+1)=(i:Int)+1:=ak
 have hv2:IntKind.i64.wrap ((n:Int)+1)=(n:Int)+1:=ak
 have hb4:¬(c=i):=ae
 have cf2:(0:Int)<=(i:Int)+1:=ae
 have hb2:(i:Int)<=(n:Int):=ae
 have hb3:(i:Int)+1<=(n:Int)+1:=ae
 have hb6:(i:Int)<=(n:Int)+1:=ae
 have htn:((i:Int)+1).toNat=i+1:=ae
 have hG4:¬(G=i):=ae
 have hG5:¬(G=i+1):=ae
 clear e2 hfin hcp1 hcp2 xw zx Ru h1x hread h1c hl1 hcs1 hxs htk hcs hg hg0 F_ Gf hsub hub hn hsz hu hcm hrz hrow hold hkk hik hG hc0s U4 hl0 hcs0 hw1 hb1 hGm hi0 hiz his hib
 go_enter func332,ntmps332
 go_upto_region 10 with(at_builtin;refine Lib.wpList_append_run _ rfl _ _ _ _ rfl _ _ rfl rfl _ _ (HRZ.o _) ?_)
 go_wp2_with (refine wpList_copy_run _ rfl (.tmp 43) (.tmp 44) 128 128 rfl _ _ rfl rfl (HP2.o w1 rfl _ _) ?_)
 go_region_law (refine xu rfl _ _ 128 128 rfl _ _ (by simp[Act.eval,Act.put]) (by simp[Act.eval,Act.put]) (HP1.o (w1.setRow w.heap.size lU).drew (fun _=>rfl) 3 (G - (i+1)) (c - i)) ?_)
 go_wp2_with fail;refine bodyPost_ret (by simp[results,Tryz.results332,go_sem, *];try rfl) rfl ?_
 refine⟨_,rfl,?_,?_⟩
 ·refine⟨by rw[fC],.inr ⟨w.heap.size,G,xh,by rw[YL.o,HL.o],aS _,?_,by rw[YL.o,HL.o];exact hGn,HCM.o,HF.o.2,by rw[YL.o,HL.o];exact HF.o.1⟩⟩
  exact setRow_heap _ _ lU xh _ _ (setRow_heap w1 _ Iu lU _ _ HG0.o)
 ·have h:=HB1.o
  exact⟨h.os,h.tape,h.output,by simp[World.setRow];omega,fun k hk=>((setRow_other _ _ k _ ae).trans (setRow_other _ _ k _ ae)).trans (h.block k hk)⟩
open Tryz
open Go.RowKit
abbrev Ft:=Nat->Prop
def Gr(F:Ft)(w w':World):Ft:=fun k=>F k\/(w.heap.size<=k/\k<w'.heap.size)
section
variable {F G : Ft} {w w1 w2 : World}
theorem jU(hF:∀k,F k->k<w.heap.size)(hz:w.heap.size<=w1.heap.size):∀k,Gr F w w1 k->k<w1.heap.size:=fun k h=>by
 rcases h with h|h
 ·have:=hF k h;omega
 ·exact h.2
theorem tgr(t1:Touch F w w1)(t2:Touch (Gr F w w1) w1 w2):Touch F w w2:=t1.trans t2 (fun _ h=>h.imp id And.left)
theorem tbl(t:Touch F w w1)(hb:Below w1.heap.size w1 w2):Touch F w w2:=t.trans (Touch.of_below (F:=F) hb (aS _)) (fun _ h=>.inl h)
theorem Rw(hb:Below w.heap.size w w1)(t:Touch F w1 w2):Touch F w w2:=(Touch.of_below (F:=F) hb (aS _)).trans t (fun _ h=>.inl h)
theorem tnew(hb:Below w.heap.size w w1)(t:Touch G w1 w2)(hG:∀k,G k->w.heap.size<=k):Below w.heap.size w w2:=hb.trans (t.below hG hb.size)
end
variable{P:Ft->World->Prop}{F:Ft}{w w':World}
structure jV(P:Ft->World->Prop):Prop where
 stay:∀{F:Ft} {w w':World},P F w->(∀k,F k->w'.heap[k]?=w.heap[k]?)->w.heap.size<=w'.heap.size->P F w'
 more:∀{F G:Ft} {w:World},P F w->(∀k,F k->G k)->(∀k,G k->k<w.heap.size)->P G w
 low:∀{F:Ft} {w:World},P F w->∀k,F k->k<w.heap.size
theorem jV.keep(S:jV P)(h:P F w)(hb:Below w.heap.size w w'):P F w':=S.stay h (fun k hk=>hb.block k (S.low h k hk)) hb.size
theorem jV.far(S:jV P){G:Ft}(h:P F w)(ht:Touch G w w')(hG:∀k,F k->¬G k):P F w':=S.stay h (fun k hk=>ht.block k (S.low h k hk) (hG k hk)) ht.size
theorem jV.gr(S:jV P){F':Ft}(hP:P F' w')(hF:∀k,F' k->F k\/w.heap.size<=k)(h0:∀k,F k->k<w.heap.size)(hz:w.heap.size<=w'.heap.size):P (Gr F w w') w':=
 S.more hP (fun k hk=>(hF k hk).imp id fun h=>⟨h,S.low hP k hk⟩) (jU h0 hz)
end Go.Proofs.YtilcnjbpmoijmaaGreat.D
