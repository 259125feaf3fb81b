/- Parts of a proof: what its theorem reaches, words cut short. No condition of its own. -/
import Derived.Test.YtkiebccnpheloaaGreatPk15
import Derived.Laws.CopyRow
import Derived.Lib.AppendZeros
import Derived.Lib.AppendZerosOnto
import Derived.Lib.Overlaps
import Derived.Shelf.RegionOpenPlain
set_option maxRecDepth 100000
set_option maxHeartbeats 16000000
set_option linter.unusedVariables false
set_option linter.unusedSimpArgs false
namespace Go.Proofs.YtkiebccnpheloaaGreat.D
open Go.RowKit
theorem lU{P:Program}(w:World)(dT sT ty elem:TypeId)(k g o dLen dCap:Nat)(a:Addr)(sLen sCap:Nat)(cur:Array Value)(t:TypeId)(cs:List Value)
 (hu:P.underlying dT=some (.slice elem)) (hs:(P.info? elem).map (·.size)=some k)
 (hg:w.heap[g]?=some (.cells cur t (0,0))) (hn:cs.length=Nat.min sLen dLen * k)
 (hsrc:∀j v,cs[j]?=some v->w.cell? (a.add j)=some v) (hfit:o+cs.length<=cur.size) (h1:∀v∈cs,v.oneCell'=true) :
 (Builtin.copy_ #[dT,sT] ty #[.slice (some ⟨g,o,none⟩) dLen dCap,.slice (some a) sLen sCap]).run P w =
  .ok (goInt (Nat.min sLen dLen)) (w.setRow g (cur.toList.take o++cs++cur.toList.drop (o+cs.length)).toArray):=by
 have hl:=run_loadCells_list (P:=P) w a cs hsrc;have hst:=run_storeCells_at P g o t cs 0 cur w hg (by simpa using hfit) h1
 cases hq:P.info? elem with
 | none=>simp[hq] at hs
 | some i=>
  have hi:i.size=k:=by simpa[hq] using hs
  simp[Builtin.copy_,run_underlying hu,Builtin.lenOf,Builtin.firstCells,sizeOf,typeInfo,hq,hi,<-hn,hl,hst]
theorem wpList_copy_run{P:Program}(w:World){ops:Array Oper}{rest:List Oper}{o:Oper}{a:Act}{Q:Exit->Act->World->Prop}(hgd:o.guard=none)(d s:Operand)(t t':TypeId)
 (ho:o.op=.call {callee:=.builtin .copy,args:=#[d,s],argTypes:=#[t,t']}) (v u:Value) (hd:a.eval d=v) (hs:a.eval s=u) {v':Value} {w':World}
 (hr:(Builtin.copy_ #[t,t'] o.type #[v,u]).run P w=.ok v' w') (h:wpList P ops Q rest (a.put o.dst v') w'):wpList P ops Q (o::rest) a w:=by
 refine wpList_plain hgd fun K hK=>?_
 unfold Oper.wp execOp;simp only[ho,resolve,invoke,builtin,Sem.run_bind,Sem.run_pure,Result.andThen_ok,List.map_toArray,List.map_cons,List.map_nil,hd,hs,hr];exact hK _ _ h
theorem vk{P:Program}{ops:Array Oper}{o:Oper}{a:Act}{w:World}{K:Act->World->Prop}{Q:Exit->Act->World->Prop}{E:Prop}(hgd:o.guard=none)(d s:Operand)(t t':TypeId)
 (ho:o.op=.call {callee:=.builtin .copy,args:=#[d,s],argTypes:=#[t,t']}) (v u:Value) (hd:a.eval d=v) (hs:a.eval s=u) {v':Value} {w':World}
 (hr:(Builtin.copy_ #[t,t'] o.type #[v,u]).run P w=.ok v' w') (h:K (a.put o.dst v') w'):if Region.wanted o (yielded ops a.tmps)=true then Oper.wp P o a w K Q else E:=by
 have hw:Region.wanted o (yielded ops a.tmps)=true:=by simp[Region.wanted,hgd]
 rw[if_pos hw];unfold Oper.wp execOp;simp only[ho,resolve,invoke,builtin,Sem.run_bind,Sem.run_pure,Result.andThen_ok,List.map_toArray,List.map_cons,List.map_nil,hd,hs,hr];exact h
theorem tu(l:List Pr)(i:Nat)(x:Pr)(h:i<=l.length):(n_ l i x).length=l.length+1:=by
 unfold n_;rw[aI,aP,bg,bn];omega
theorem WV(l:List Pr)(x:Pr):n_ l l.length x=l++[x]:=by simp[n_]
theorem Dl(l:List Pr)(i:Nat)(x:Pr)(_h:i<=l.length):cellsE fU (n_ l i x)=(cellsE fU l).take (i * 2)++fU.enc x++(cellsE fU l).drop (i * 2):=by
 unfold n_;rw[iU,iC,<-zG,<-zH,aS];rfl
theorem Oe(v:Value)(base:Nat)(l:List Pr)(x:Pr)(u:Value)(w:World)(h:dI fU base w v l)(hu:gz fU w u [x])(hl:l.length<=100000)(hbase:base<=w.heap.size) :
 Calls Tryz.prog 390 #[v,.int .i64 l.length,u] w fun e w'=>∃v',e=.returned v'/\dI fU base w' v' (n_ l l.length x)/\w.grownBy w' v.ownBlock/\∀k,v'.ownBlock=some k->v.ownBlock=some k\/w.heap.size<=k:=by
 have HO:=aB h;have HU:=aB hu;obtain⟨A,c,rfl,_,_,_⟩:=h.form;obtain⟨B,d,rfl,_,_,_⟩:=hu.form;clear h hu;have HE:Hid (n_ l l.length x=l++[x]):=aB (WV l x);have hcc:c=l.length\/¬c=l.length:=ae
 rcases hcc with rfl|hcc
 ·go_enter Tryz.func390,Tryz.ntmps390
  go_wp2_with (at_builtin;refine pY tq rfl (.tmp 23) (.tmp 24) rfl HO.out rfl _ [x] rfl HU.out ah hbase ?_;intro v1 w7 o1 g1 a1)
  go_wp2_with fail
  go_ret;exact⟨_,rfl,by rw[HE.out];exact o1,g1,fun k e=>(WT a1 k e).imp id (fun h=>by simpa using h)⟩
 ·go_enter Tryz.func390,Tryz.ntmps390
  go_wp2_with (at_builtin;refine pY tq rfl (.tmp 23) (.tmp 24) rfl HO.out rfl _ [x] rfl HU.out ah hbase ?_;intro v1 w7 o1 g1 a1)
  go_wp2_with fail
  go_ret;exact⟨_,rfl,by rw[HE.out];exact o1,g1,fun k e=>(WT a1 k e).imp id (fun h=>by simpa using h)⟩
theorem JY(g c base:Nat)(l:List Pr)(i:Nat)(x:Pr)(ub:Nat)(T:TypeId)(w:World)(h:dI fU base w (.slice (some ⟨g,0,none⟩) l.length c) l)(hi:i<l.length)(hl:l.length<=100000)(hroom:l.length+1<=c)
 (hu:dH w ub T #[.int .i64 x.1,.int .u64 x.2]) (hne:ub≠g) :
 Calls Tryz.prog 390 #[.slice (some ⟨g,0,none⟩) l.length c,.int .i64 i,.slice (some ⟨ub,0,none⟩) 1 1] w fun e w'=>∃v',e=.returned v'/\dI fU base w' v' (n_ l i x)/\v'.ownBlock=some g/\Touch (fun k=>k=g) w w':=by
 obtain⟨hxs,h⟩:=h
 rcases h with⟨_,h0⟩|⟨g',cap,cur,e,hbg,hg,hnc,hcm,hcs,htk⟩
 ·omega
 injection e with e1 e2 e3;injection e1 with e1;injection e1 with e1;subst e1;subst e3;have hk:fU.k=2:=rfl;rw[hk] at hxs hcs htk;have hmax:maxLen=9223372036854775807:=rfl;obtain⟨n,hn⟩:∃n,l.length=n:=⟨_,rfl⟩;rw[hn] at hxs hnc htk hi hl hroom;have hsz:(Tryz.prog.info? 222).map (·.size)=some 2:=by kernel_rfl
 have ugl:=dH.lt hu;obtain⟨cs1,hcs1⟩:∃x,(cellsE fU l).drop (i * 2)=x:=⟨_,rfl⟩;have hl1:cs1.length=(n - i) * 2:=by rw[<-hcs1,bn,hxs,Nat.sub_mul]
 have h1c:∀v∈cs1,v.oneCell'=true:=fun v hv=>og fU l v (by rw[<-hcs1] at hv;exact List.mem_of_mem_drop hv)
 have hread:∀j v,cs1[j]?=some v->w.cell? ⟨g,i * 2+j,none⟩=some v:=fun j v hj=>by
  rw[cell_of_row w g _ cur _ (0,0) hg];have hj':j<cs1.length:=(List.getElem?_eq_some_iff.1 hj).1;rw[<-hcs1,List.getElem?_drop,<-htk,List.getElem?_take,if_pos (by rw[hl1] at hj';have:=Nat.sub_mul n i 2;omega)] at hj
  simpa using hj
 have hz2:¬((i:Int)=(n:Int)):=ae
 have hub:w.heap[ub]?=some (.cells #[.int .i64 x.1,.int .u64 x.2] T (0,0)):=hu;have hov:∀lb cb,(callFunc 461 #[.slice (some ⟨ub,0,none⟩) 1 1,.slice (some ⟨g,(i+1) * 2,none⟩) lb cb]).run Tryz.prog w=.ok (.value (.bool false)) w:=fun lb cb=>by
  rw[run_callFunc_extern Tryz.func461 (by kernel_rfl) (by kernel_rfl) (by kernel_rfl) (e:=Extern.SlicesOverlaps.overlaps #[161,161] #[4]) (by kernel_rfl),
   Lib.run_overlaps_apart w 161 4 222 Tryz.underlying161 2 (fun w=>by kernel_rfl) ⟨ub,0,none⟩ ⟨g,(i+1) * 2,none⟩ 1 1 lb cb hne T 222 2 cur.size (by rw[show w.shape? ub=some (T,2) from by unfold World.shape?;rw[hub];rfl]) (by unfold World.shape?;rw[hg];rfl) (by rw[hcs];omega) (dH.frozen hu 0) (dH.frozen hu 2)]
  rfl
 obtain⟨kQ,vw⟩:∃y:Array Value,(cur.toList.take ((i+1) * 2)++cs1++cur.toList.drop ((i+1) * 2+cs1.length)).toArray=y:=⟨_,rfl⟩;have hg1:(w.drew.setRow g kQ).heap[g]?=some (.cells kQ 222 (0,0)):=setRow_heap w.drew g cur kQ _ _ hg;have hsub:=Nat.sub_mul n i 2;have Dn:Nat.min (n+1 - i) (n - i)=n - i:=by show min _ _=_;omega
 have hcp1:∀ty dc sc,(Builtin.copy_ #[161,161] ty #[.slice (some ⟨g,(i+1) * 2,none⟩) (n - i) dc,.slice (some ⟨g,i * 2,none⟩) (n+1 - i) sc]).run Tryz.prog w.drew=.ok (goInt ((n - i:Nat):Int)) (w.drew.setRow g kQ):=fun ty dc sc=>by
  have:=lU w.drew 161 161 ty 222 2 g ((i+1) * 2) (n - i) dc ⟨g,i * 2,none⟩ (n+1 - i) sc cur 222 cs1 Tryz.underlying161 hsz hg (by rw[hl1,Dn]) (fun j v hj=>by rw[Addr.add_lit];exact hread j v hj) (by rw[hl1,hcs];omega) h1c
  rw[Dn,vw] at this;exact this
 obtain⟨yS,xG⟩:∃y:Array Value,(kQ.toList.take (i * 2)++[Value.int .i64 x.1,Value.int .u64 x.2]++kQ.toList.drop (i * 2+2)).toArray=y:=⟨_,rfl⟩;have Og:kQ.size=c * 2:=by
  rw[<-vw];simp only[List.size_toArray,aI,bg,bn,Array.length_toList,hl1,hcs];omega
 have Dp:Nat.min 1 (n+1 - i)=1:=by show min _ _=_;omega
 have h1x:∀v∈([.int .i64 x.1,.int .u64 x.2]:List Value),v.oneCell'=true:=fun v hv=>fU.one x v hv
 have hcp2:∀(W:World),W.heap=(w.drew.setRow g kQ).heap->∀ty dc,(Builtin.copy_ #[161,161] ty #[.slice (some ⟨g,i * 2,none⟩) (n+1 - i) dc,.slice (some ⟨ub,0,none⟩) 1 1]).run Tryz.prog W=.ok (goInt 1) (W.setRow g yS):=fun W hW ty dc=>by
  have hWu:W.heap[ub]?=some (.cells #[.int .i64 x.1,.int .u64 x.2] T (0,0)):=by rw[hW,setRow_other w.drew g ub kQ hne];exact hub
  have:=lU W 161 161 ty 222 2 g (i * 2) (n+1 - i) dc ⟨ub,0,none⟩ 1 1 kQ 222 [.int .i64 x.1,.int .u64 x.2] Tryz.underlying161 hsz (by rw[hW];exact hg1) (by rw[Dp];rfl) (fun j v hj=>by
   rw[Addr.add_lit,Nat.zero_add,cell_of_row W ub _ _ _ (0,0) hWu]
   simpa using hj) (by rw[Og];simp only[aP,bf];omega) h1x
  rw[Dp] at this;rw[<-xG];exact this
 have hfin:yS.toList.take ((n+1) * 2)=cellsE fU (n_ l i x)/\yS.size=c * 2:=by
  have hA:((cellsE fU l).take (i * 2)).length=i * 2:=by rw[bg,hxs];omega
  have e1:kQ.toList.take (i * 2)=(cellsE fU l).take (i * 2):=by
   rw[<-vw,aS,List.take_append_of_le_length (by rw[bg,Array.length_toList,hcs];omega),List.take_take,<-htk,List.take_take]
   congr 1;omega
  have e2:kQ.toList.drop (i * 2+2)=cs1++cur.toList.drop ((i+1) * 2+cs1.length):=by
   rw[<-vw];have hl:(cur.toList.take ((i+1) * 2)).length=i * 2+2:=by rw[bg,Array.length_toList,hcs];omega
   rw[aS,List.drop_append_of_le_length ae,List.drop_of_length_le ae,List.nil_append]
  refine⟨?_,?_⟩
  ·rw[<-xG,e1,e2,Dl l i x ae,hcs1]
   show List.take _ (_++fU.enc x++(cs1++_))=_
   rw[<-aS (_++fU.enc x),List.take_append_of_le_length (by simp only[aI,hA,hl1,fU.len];rw[hk];omega)]
   exact bH (by simp only[aI,hA,hl1,fU.len];rw[hk];omega)
  ·rw[<-xG]
   simp only[List.size_toArray,aI,bg,bn,Array.length_toList,Og,aP,bf];omega
 have HF:=aB hfin;have HL:=aB hn;have HG:=aB hg;have HG1:=aB hg1;have HBG:=aB hbg;have HCM:=aB hcm;have HP1:=aB hcp1;have HP2:=aB hcp2;have QP:=aB (tu l i x ae)
 rw[hn];have hw1:IntKind.i64.wrap ((i:Int)+1)=(i:Int)+1:=ak
 have hw2:IntKind.i64.wrap ((n:Int)+1)=(n:Int)+1:=ak
 have hb4:¬(c=i):=ae
 have hb1:(0:Int)<=(i:Int)+1:=ae
 have hb2:(i:Int)<=(n:Int):=ae
 have hb3:(i:Int)+1<=(n:Int)+1:=ae
 have hb6:(i:Int)<=(n:Int)+1:=ae
 have htn:((i:Int)+1).toNat=i+1:=ae
 have hb5:¬(c=i+1):=ae
 clear e2 hfin hcp1 hcp2 vw xG Og h1x hread h1c hl1 hcs1 hxs htk hcs hg hg1 Dn Dp hsub hub hn hsz hu hbg hcm
 go_enter Tryz.func390,Tryz.ntmps390
 go_wp2_with (simp only[hov])
 go_region_law (refine vk rfl _ _ 161 161 rfl _ _ (by simp[Act.eval,Act.put]) (by simp[Act.eval,Act.put]) (HP1.out 3 (c - (i+1)) (c - i)) ?_)
 go_wp2_with (refine wpList_copy_run _ rfl (.tmp 80) (.tmp 81) 161 161 rfl _ _ rfl rfl (HP2.out (w.drew.setRow g kQ) rfl _ _) ?_)
 refine bodyPost_ret (by simp[results,Tryz.results390,go_sem, *];try rfl) rfl ?_
 refine⟨_,rfl,?_,rfl,?_⟩
 ·refine⟨by rw[eY],.inr ⟨g,c,yS,by rw[QP.out,HL.out],HBG.out,?_,by rw[QP.out,HL.out];exact hroom,HCM.out,HF.out.2,by rw[QP.out,HL.out];exact HF.out.1⟩⟩
  exact setRow_heap _ g kQ yS _ _ HG1.out
 ·exact⟨rfl,rfl,rfl,by simp[World.setRow],fun k hk hkg=>(setRow_other _ g k _ hkg).trans (setRow_other _ g k _ hkg)⟩
theorem J5(g c base:Nat)(l:List Pr)(i:Nat)(x:Pr)(ub:Nat)(T:TypeId)(w:World)(h:dI fU base w (.slice (some ⟨g,0,none⟩) l.length c) l)(hi:i<l.length)(hl:l.length<=100000)(hroom:c<l.length+1)
 (hu:dH w ub T #[.int .i64 x.1,.int .u64 x.2]) :
 Calls Tryz.prog 390 #[.slice (some ⟨g,0,none⟩) l.length c,.int .i64 i,.slice (some ⟨ub,0,none⟩) 1 1] w fun e w'=>∃v',e=.returned v'/\dI fU w.heap.size w' v' (n_ l i x)/\Below w.heap.size w w':=by
 obtain⟨i0,hi0,hiz,his,hib⟩:=info_parts prI;obtain⟨hxs,h⟩:=h
 rcases h with⟨_,h0⟩|⟨g',cap,cur,e,_,hg,hnc,hcm,hcs,htk⟩
 ·omega
 injection e with e1 e2 e3;injection e1 with e1;injection e1 with e1;subst e1;subst e3;have hk:fU.k=2:=rfl;rw[hk] at hxs hcs htk;have hmax:maxLen=9223372036854775807:=rfl;obtain⟨n,hn⟩:∃n,l.length=n:=⟨_,rfl⟩;rw[hn] at hxs hnc htk hi hl hroom;have hsz:(Tryz.prog.info? 222).map (·.size)=some 2:=by kernel_rfl
 have ugl:=dH.lt hu;have ggl:g<w.heap.size:=by
  rcases bJ g w.heap.size with hlt|hge
  ·exact hlt
  ·rw[Array.getElem?_eq_none hge] at hg;cases hg
 obtain⟨cs1,hcs1⟩:∃x,(cellsE fU l).drop (i * 2)=x:=⟨_,rfl⟩;obtain⟨cs0,hcs0⟩:∃x,(cellsE fU l).take (i * 2)=x:=⟨_,rfl⟩;have hl1:cs1.length=(n - i) * 2:=by rw[<-hcs1,bn,hxs,Nat.sub_mul]
 have hl0:cs0.length=i * 2:=by rw[<-hcs0,bg,hxs];omega
 have h1c:∀v∈cs1,v.oneCell'=true:=fun v hv=>og fU l v (by rw[<-hcs1] at hv;exact List.mem_of_mem_drop hv)
 have hrow:∀j v,j<n * 2->(cellsE fU l)[j]?=some v->w.cell? ⟨g,j,none⟩=some v:=fun j v hj hv=>by
  rw[cell_of_row w g _ cur _ (0,0) hg];rw[<-htk,List.getElem?_take,if_pos hj] at hv
  simpa using hv
 have hsub:=Nat.sub_mul n i 2;have hread:∀j v,cs1[j]?=some v->w.cell? ⟨g,i * 2+j,none⟩=some v:=fun j v hj=>by
  have hj':j<cs1.length:=(List.getElem?_eq_some_iff.1 hj).1;rw[<-hcs1,List.getElem?_drop] at hj;exact hrow _ v (by rw[hl1] at hj';omega) hj
 have hold:(Builtin.firstCells i0.size i (.slice (some ⟨g,0,none⟩) i c)).run Tryz.prog w.drew=.ok cs0.toArray w.drew:=by
  rw[his];exact run_firstCells_some w.drew 2 i ⟨g,0,none⟩ i c cs0 hl0 (fun j v hj=>by
   rw[Addr.add_lit,Nat.zero_add];have hj':j<cs0.length:=(List.getElem?_eq_some_iff.1 hj).1;rw[<-hcs0,List.getElem?_take,if_pos (by rw[hl0] at hj';omega)] at hj
   exact hrow j v (by rw[hl0] at hj';omega) hj)
 have hkk:(n:Int)+1 - (i:Int)=((n+1 - i:Nat):Int):=ae
 have hik:i+(n+1 - i)=n+1:=ae
 obtain⟨G,hG⟩:∃G,grownCap w (n+1) c 222=G:=⟨_,rfl⟩;have hGn:n+1<=G:=by rw[<-hG];exact grownCap_ge w _ _ _
 have hGm:G<=maxLen:=by rw[<-hG];exact grownCap_le_maxLen w (n+1) c 222 (by rw[hmax];omega)
 obtain⟨Ff,QQ⟩:∃y:Array Value,cs0.toArray++Builtin.zeroCells (Value.agg #[.int .i64 0,.int .u64 0]).cells (n+1 - i)++Builtin.zeroCells (Value.agg #[.int .i64 0,.int .u64 0]).cells (G - (n+1))=y:=⟨_,rfl⟩;have hc0s:Ff.size=G * 2:=by
  have hzc:(Value.agg #[.int .i64 0,.int .u64 0]).cells.size=2:=rfl;rw[<-QQ,Array.size_append,Array.size_append,size_zeroCells,size_zeroCells,hzc,List.size_toArray,hl0];omega
 have hrz:∀ty,(Builtin.append_ #[161,3] ty #[.slice (some ⟨g,0,none⟩) i c,.int .i64 ((n:Int)+1 - (i:Int))]).run Tryz.prog w =
  .ok (.slice (some ⟨w.heap.size,0,none⟩) (n+1) G) (w.drew.alloc (.cells Ff 222)):=fun ty=>by
  have h:=Lib.run_append_grow_zeros (P:=Tryz.prog) w 161 3 ty 222 i0 _ .i64 .i64 Tryz.underlying161 Tryz.underlying3 hi0 hiz (some ⟨g,0,none⟩) i c cs0 hold (n+1 - i) ae (by rw[his];decide) ae  ae (by rw[hib];omega) (by rw[hib,hik];exact growslice_fits hroom ae)
  rw[hik,hG,QQ] at h;rw[hkk];exact h
 obtain⟨w1,hw1⟩:∃w1,w.drew.alloc (.cells Ff 222)=w1:=⟨_,rfl⟩;rw[hw1] at hrz;have hg0:w1.heap[w.heap.size]?=some (.cells Ff 222 (0,0)):=by rw[<-hw1];exact heap_alloc_new w.drew _
 have hb1:Below w.heap.size w w1:=by rw[<-hw1];exact(aH w.heap.size w).drew.alloc (aK _) _
 have hub:w1.heap[ub]?=some (.cells #[.int .i64 x.1,.int .u64 x.2] T (0,0)):=(hb1.block ub ugl).trans hu;obtain⟨kQ,vw⟩:∃y:Array Value,(Ff.toList.take (i * 2)++[Value.int .i64 x.1,Value.int .u64 x.2]++Ff.toList.drop (i * 2+2)).toArray=y:=⟨_,rfl⟩;have Og:kQ.size=G * 2:=by
  rw[<-vw];simp only[List.size_toArray,aI,bg,bn,Array.length_toList,hc0s,aP,bf];omega
 have Dp:Nat.min 1 (n+1 - i)=1:=by show min _ _=_;omega
 have Dn:Nat.min (n - i) (n - i)=n - i:=by show min _ _=_;omega
 have h1x:∀v∈([.int .i64 x.1,.int .u64 x.2]:List Value),v.oneCell'=true:=fun v hv=>fU.one x v hv
 have hcp2:∀(W:World),W.heap=w1.heap->∀ty dc,(Builtin.copy_ #[161,161] ty #[.slice (some ⟨w.heap.size,i * 2,none⟩) (n+1 - i) dc,.slice (some ⟨ub,0,none⟩) 1 1]).run Tryz.prog W=.ok (goInt 1) (W.setRow w.heap.size kQ):=fun W hW ty dc=>by
  have:=lU W 161 161 ty 222 2 w.heap.size (i * 2) (n+1 - i) dc ⟨ub,0,none⟩ 1 1 Ff 222 [.int .i64 x.1,.int .u64 x.2] Tryz.underlying161 hsz (by rw[hW];exact hg0) (by rw[Dp];rfl) (fun j v hj=>by
   rw[Addr.add_lit,Nat.zero_add,cell_of_row W ub _ _ _ (0,0) (by rw[hW];exact hub)]
   simpa using hj) (by rw[hc0s];simp only[aP,bf];omega) h1x
  rw[Dp] at this;rw[<-vw];exact this
 obtain⟨yS,xG⟩:∃y:Array Value,(kQ.toList.take ((i+1) * 2)++cs1++kQ.toList.drop ((i+1) * 2+cs1.length)).toArray=y:=⟨_,rfl⟩;have hcp1:∀(W:World),(∀k,W.heap[k]?=(w1.setRow w.heap.size kQ).heap[k]?)->∀ty dc sc,(Builtin.copy_ #[161,161] ty #[.slice (some ⟨w.heap.size,(i+1) * 2,none⟩) (n - i) dc,.slice (some ⟨g,i * 2,none⟩) (n - i) sc]).run Tryz.prog W=.ok (goInt ((n - i:Nat):Int)) (W.setRow w.heap.size yS):=fun W hW ty dc sc=>by
  have hWg:W.heap[w.heap.size]?=some (.cells kQ 222 (0,0)):=by rw[hW];exact setRow_heap w1 _ Ff kQ _ _ hg0
  have hWo:W.heap[g]?=w.heap[g]?:=by rw[hW,setRow_other w1 _ g kQ ae];exact hb1.block g ggl
  have:=lU W 161 161 ty 222 2 w.heap.size ((i+1) * 2) (n - i) dc ⟨g,i * 2,none⟩ (n - i) sc kQ 222 cs1 Tryz.underlying161 hsz hWg (by rw[hl1,Dn]) (fun j v hj=>by
   rw[Addr.add_lit];exact(bM hWo).trans (hread j v hj)) (by rw[hl1,Og];omega) h1c
  rw[Dn,xG] at this;exact this
 have hfin:yS.toList.take ((n+1) * 2)=cellsE fU (n_ l i x)/\yS.size=G * 2:=by
  have e0:Ff.toList.take (i * 2)=cs0:=by
   rw[<-QQ];simp only[Array.toList_append,aS];rw[List.take_append_of_le_length ae,bH ae]
  have e1:kQ.toList.take ((i+1) * 2)=cs0++[Value.int .i64 x.1,Value.int .u64 x.2]:=by
   rw[<-vw,e0];have hq:(cs0++[Value.int .i64 x.1,.int .u64 x.2]).length=(i+1) * 2:=by rw[aI,hl0];simp only[aP,bf];omega
   show List.take _ (cs0++[Value.int .i64 x.1,.int .u64 x.2]++_)=_
   rw[List.take_append_of_le_length ae,bH ae]
  refine⟨?_,?_⟩
  ·rw[<-xG,e1,Dl l i x ae,hcs1,hcs0]
   have hq:(cs0++[Value.int .i64 x.1,.int .u64 x.2]++cs1).length=(n+1) * 2:=by rw[aI,aI,hl0,hl1];simp only[aP,bf];omega
   show List.take _ (cs0++[Value.int .i64 x.1,.int .u64 x.2]++cs1++_)=_
   rw[List.take_append_of_le_length ae,bH ae]
   rfl
  ·rw[<-xG]
   simp only[List.size_toArray,aI,bg,bn,Array.length_toList,Og,hl1];omega
 have HF:=aB hfin;have HL:=aB hn;have HG0:=aB hg0;have HCM:=aB hGm;have HP1:=aB hcp1;have HP2:=aB hcp2;have HRZ:=aB hrz;have HB1:=aB hb1;have QP:=aB (tu l i x ae)
 have bl8:w.heap.size<w1.heap.size:=by rw[<-hw1];simp
 rw[hn];have hz2:¬((i:Int)=(n:Int)):=ae
 have hz3:(c:Int)<(n:Int)+1:=ae
 have hv1:IntKind.i64.wrap ((i:Int)+1)=(i:Int)+1:=ak
 have hv2:IntKind.i64.wrap ((n:Int)+1)=(n:Int)+1:=ak
 have hb4:¬(c=i):=ae
 have bl9:(0:Int)<=(i:Int)+1:=ae
 have hb2:(i:Int)<=(n:Int):=ae
 have hb3:(i:Int)+1<=(n:Int)+1:=ae
 have hb6:(i:Int)<=(n:Int)+1:=ae
 have htn:((i:Int)+1).toNat=i+1:=ae
 have hG4:¬(G=i):=ae
 have hG5:¬(G=i+1):=ae
 clear e2 hfin hcp1 hcp2 vw xG Og h1x hread h1c hl1 hcs1 hxs htk hcs hg hg0 Dn Dp hsub hub hn hsz hu hcm hrz hrow hold hkk hik hG hc0s QQ hl0 hcs0 hw1 hb1 hGm hi0 hiz his hib
 go_enter Tryz.func390,Tryz.ntmps390
 go_upto_region 10 with(at_builtin;refine Lib.wpList_append_run _ rfl _ _ _ _ rfl _ _ rfl rfl _ _ (HRZ.out _) ?_)
 go_wp2_with (refine wpList_copy_run _ rfl (.tmp 43) (.tmp 44) 161 161 rfl _ _ rfl rfl (HP2.out w1 rfl _ _) ?_)
 go_region_law (refine vk rfl _ _ 161 161 rfl _ _ (by simp[Act.eval,Act.put]) (by simp[Act.eval,Act.put]) (HP1.out (w1.setRow w.heap.size kQ).drew (fun _=>rfl) 3 (G - (i+1)) (c - i)) ?_)
 go_wp2_with fail;refine bodyPost_ret (by simp[results,Tryz.results390,go_sem, *];try rfl) rfl ?_
 refine⟨_,rfl,?_,?_⟩
 ·refine⟨by rw[eY],.inr ⟨w.heap.size,G,yS,by rw[QP.out,HL.out],aK _,?_,by rw[QP.out,HL.out];exact hGn,HCM.out,HF.out.2,by rw[QP.out,HL.out];exact HF.out.1⟩⟩
  exact setRow_heap _ _ kQ yS _ _ (setRow_heap w1 _ Ff kQ _ _ HG0.out)
 ·have h:=HB1.out
  exact⟨h.os,h.tape,h.output,by simp[World.setRow];omega,fun k hk=>((setRow_other _ _ k _ ae).trans (setRow_other _ _ k _ ae)).trans (h.block k hk)⟩
open Go.RowKit
abbrev Ft:=Nat->Prop
def Gr(F:Ft)(w w':World):Ft:=fun k=>F k\/(w.heap.size<=k/\k<w'.heap.size)
section
variable {F G : Ft} {w w1 w2 : World}
theorem jI(hF:∀k,F k->k<w.heap.size)(hz:w.heap.size<=w1.heap.size):∀k,Gr F w w1 k->k<w1.heap.size:=fun k h=>by
 rcases h with h|h
 ·have:=hF k h;omega
 ·exact h.2
theorem tgr(t1:Touch F w w1)(t2:Touch (Gr F w w1) w1 w2):Touch F w w2:=t1.trans t2 (fun _ h=>h.imp id And.left)
theorem tbl(t:Touch F w w1)(hb:Below w1.heap.size w1 w2):Touch F w w2:=t.trans (Touch.of_below (F:=F) hb (aK _)) (fun _ h=>.inl h)
theorem Iq(hb:Below w.heap.size w w1)(t:Touch F w1 w2):Touch F w w2:=(Touch.of_below (F:=F) hb (aK _)).trans t (fun _ h=>.inl h)
theorem tnew(hb:Below w.heap.size w w1)(t:Touch G w1 w2)(hG:∀k,G k->w.heap.size<=k):Below w.heap.size w w2:=hb.trans (t.below hG hb.size)
end
structure mQ(P:Ft->World->Prop):Prop where
 stay:∀{F:Ft} {w w':World},P F w->(∀k,F k->w'.heap[k]?=w.heap[k]?)->w.heap.size<=w'.heap.size->P F w'
 more:∀{F G:Ft} {w:World},P F w->(∀k,F k->G k)->(∀k,G k->k<w.heap.size)->P G w
 low:∀{F:Ft} {w:World},P F w->∀k,F k->k<w.heap.size
theorem mQ.keep{P:Ft->World->Prop}(S:mQ P){F:Ft}{w w':World}(h:P F w)(hb:Below w.heap.size w w'):P F w':=S.stay h (fun k hk=>hb.block k (S.low h k hk)) hb.size
theorem mQ.far{P:Ft->World->Prop}(S:mQ P){F G:Ft}{w w':World}(h:P F w)(ht:Touch G w w')(hG:∀k,F k->¬G k):P F w':=S.stay h (fun k hk=>ht.block k (S.low h k hk) (hG k hk)) ht.size
theorem mQ.gr{P:Ft->World->Prop}(S:mQ P){F F':Ft}{w w':World}(hP:P F' w')(hF:∀k,F' k->F k\/w.heap.size<=k)(h0:∀k,F k->k<w.heap.size)(hz:w.heap.size<=w'.heap.size):P (Gr F w w') w':=
 S.more hP (fun k hk=>(hF k hk).imp id fun h=>⟨h,S.low hP k hk⟩) (jI h0 hz)
end Go.Proofs.YtkiebccnpheloaaGreat.D
