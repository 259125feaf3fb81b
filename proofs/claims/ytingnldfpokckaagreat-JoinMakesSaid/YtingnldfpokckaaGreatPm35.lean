/- Parts of a proof: what its theorem reaches, words cut short. No condition of its own. -/
import Derived.Test.YtingnldfpokckaaGreatPm34
set_option maxRecDepth 100000
set_option maxHeartbeats 16000000
set_option linter.unusedVariables false
set_option linter.unusedSimpArgs false
namespace Go.Proofs.YtingnldfpokckaaGreat.D
open Go.RowKit Go.Lib Go.Shelf
theorem RdI.list_at(t:TypeId)(k:IntKind)(w:World)(l:List Int)(cs:Array Value)(hc:cs=(l.map (Value.int k)).toArray)(n:Nat)(hn:n=l.length)(hl:l.length<=100)(H:Nat)(h:w.heap.size=H):RdI k (w.alloc (.cells cs t)) (.slice (some ⟨H,0,none⟩) n n) l:=by
 subst hc hn h
 refine⟨by simp,_,l.length,rfl,Nat.le_refl _,by unfold maxLen;omega,fun h0=>⟨w.heap.size,0,rfl,by simp,fun j hj=>?_⟩⟩
 rw[Nat.zero_add]
 have hb:(w.alloc (.cells (l.map (Value.int k)).toArray t)).heap[w.heap.size]?=some (.cells (l.map (Value.int k)).toArray t (0,0)):=(Blk.new w t (l.map (Value.int k)).toArray)
 rw[cell_of_row _ _ _ _ _ _ hb]
 simp
theorem reach_bd{lo hi dg u m bk:Nat}(ok:HdOk lo hi dg u m)(b1:bk<=64):reachN u m hi bk<=9223372036854775807:=by
 have:=ok.h1
 unfold reachN
 split
 ·exact ok.h1
 ·unfold topN
  split
  ·exact Nat.le_refl _
  ·rename_i h
   have h1:2 ^ (bk - 1+u+m)<=2 ^ 62:=two_le (by omega)
   have h2:(2:Nat) ^ 62=4611686018427387904:=by decide
   omega
theorem hw_write{x lo hi dg u m bk:Nat}{gr:Bool}{l:List Pr}{F:Ft}(w:World)(h:HsAt x lo hi dg u m gr bk l F w)(ok:HsOk lo hi dg u m gr bk l):Calls Tryz.prog 114 #[.pointer (some ⟨x,0,none⟩)] w fun e w'=>∃v,e=.returned (.tuple #[v,.int .i64 0])/\OwnB w.heap.size w' v (hwB lo (reachN u m hi bk) dg l)/\Below w.heap.size w w':=by
 have S:=hs_stay x lo hi dg u m gr bk l
 have C1:=Lib.hid (hs_shape w h)
 have C2:Hid (∀w1,Below w.heap.size w w1->_):=Lib.hid (fun w1 hb=>hs_pairs w1 (S.keep h hb) ok)
 have C3:Hid (∀(v:Value) (w1:World),RdE prE w1 v l->_):=Lib.hid (fun v w1 hr=>counts_any v w1 hr ok)
 have C4:Hid (∀w1,Below w.heap.size w w1->_):=Lib.hid (fun w1 hb=>hs_reach w1 (S.keep h hb) ok.sh ok.b0 ok.b1)
 have hrb:=reach_bd ok.sh ok.b1 (bk:=bk)
 have hcl:=cntA_len l
 have hll:=ok.len
 have hlo:lo<=9223372036854775807:=by have:=ok.sh.h0;have:=ok.sh.h1;omega
 have hdg:=ok.sh.d1
 have HB:Hid (hwB lo (reachN u m hi bk) dg l=outsP 478450451 (cntA l).length 0 dg lo (reachN u m hi bk) 4607182418800017408 7++cntA l):=Lib.hid rfl
 rw[HB.out]
 clear HB S h ok
 generalize reachN u m hi bk=R at *
 generalize cntA l=CN at *
 obtain⟨N,hN⟩:∃N,CN.length=N:=⟨_,rfl⟩
 have HN:=Lib.hid hN
 rw[hN] at hcl |-
 have CP:Hid (∀(v:Value) (w1:World),RdI .u64 w1 v [478450451,(N:Int),0,(dg:Int),(lo:Int),(R:Int),4607182418800017408]->_):=Lib.hid (fun v w1 hr=>wputP_any 478450451 N 0 dg lo R 4607182418800017408 v w1 hr (by omega) (by omega) (by omega) (by omega) (by omega) (by omega) (by omega) (by omega) (by omega) (by omega) (by omega) (by omega) (by omega) (by omega))
 have EU:Hid (IntKind.u64.wrap (N:Int)=(N:Int)/\IntKind.u64.wrap (dg:Int)=(dg:Int)/\IntKind.u64.wrap (lo:Int)=(lo:Int)/\IntKind.u64.wrap (R:Int)=(R:Int)):=Lib.hid ⟨by rw[u64w];omega,by rw[u64w];omega,by rw[u64w];omega,by rw[u64w];omega⟩
 have HOL:=outsP_len 478450451 N 0 dg lo R 4607182418800017408 7
 generalize outsP 478450451 N 0 dg lo R 4607182418800017408 7=OP at *
 clear hN
 go_enter Tryz.func114,Tryz.ntmps114
 go_wp2_with fail
 refine(C1.out).mono ?_
 rintro e w1 ⟨rfl,hb1⟩
 go_wp2_with fail
 refine(C2.out w1 hb1).mono ?_
 rintro e w2 ⟨v2,rfl,o2,hb2⟩
 have B2:=hb1.trans (hb2.mono hb1.size)
 go_wp2_with fail
 refine(C3.out v2 w2 o2.rd).mono ?_
 rintro e w3 ⟨v3,rfl,o3,hb3⟩
 have B3:=B2.trans (hb3.mono B2.size)
 have O3:=Lib.hid o3
 obtain⟨A3,c3,ev3,_,_,_⟩:=(OwnI.rd o3).form
 rw[HN.out] at ev3
 subst ev3
 clear o2 o3
 go_upto_region 4 with fail
 obtain⟨b4,hb4⟩:∃z,w3.heap.size=z:=⟨_,rfl⟩
 obtain⟨w4,hw4⟩:∃z,w3.alloc (.cells #[.int .i64 lo,.int .i64 hi,.int .i64 dg] 23)=z:=⟨_,rfl⟩
 have K4:Hid (Blk w4 b4 23 #[.int .i64 lo,.int .i64 hi,.int .i64 dg]):=by rw[<-hw4,<-hb4];exact Lib.hid (Blk.new _ _ _)
 have b34:Below w3.heap.size w3 w4:=by rw[<-hw4];(repeat' (first|(with_reducible exact Below.refl _ _)|(with_reducible refine Below.alloc ?_ ?_ _)|(with_reducible refine Below.drew ?_)|(with_reducible refine below_drewN ?_ _)|(with_reducible refine Below.setCell ?_ ?_ _)|(with_reducible refine below_of (by assumption) ?_ ?_)|go_size))
 have B4:Below w.heap.size w w4:=B3.trans (b34.mono B3.size)
 have O4:=Lib.hid (OwnI.keep O3.out b34)
 rw[hw4,hb4]
 clear hw4 hb4 b34
 have B4d:Below w4.heap.size w4 w4.drew:=(Below.refl _ _).drew
 refine wp_region_plan (Below w4.heap.size w4) [(0,true),(1,true),(2,true),(3,true),(4,true),(5,true),(6,true),(7,true),(8,true),(9,true),(10,false),(11,true),(12,false),(13,false),(14,true),(15,true),(16,true),(17,true),(18,true)] (by kernel_rfl) (by kernel_rfl) (B4d) ?_
 iterate 10
  refine wpPlan_read (by rfl) (by rfl) (fun R hR=>?_)
  apply Exists.intro
  refine⟨fun w' hS'=>?_,?_⟩
  ·have k0:=(K4.out.keep hS').cell 0
   have k2:=(K4.out.keep hS').cell 2
   simp only[List.getElem?_toArray,List.getElem?_cons_zero,List.getElem?_cons_succ] at k0 k2
   obtain⟨e1,e2,e3,e4⟩:=EU.out
   go_simp
   exact⟨rfl,rfl⟩
  go_simp
  refine hR _ ?_
  clear hR R
 refine wpPlan_do (by rfl) (by rfl) (fun K hK=>?_)
 go_simp
 refine(C4.out w4.drew (B4.trans (B4d.mono B4.size))).mono ?_
 rintro e w5 ⟨rfl,hb5⟩
 have B5:Below w4.heap.size w4 w5:=B4d.trans hb5
 refine hK _ _ (B5) ?_
 clear hK K
 iterate 1
  refine wpPlan_read (by rfl) (by rfl) (fun R hR=>?_)
  apply Exists.intro
  refine⟨fun w' hS'=>?_,?_⟩
  ·have k0:=(K4.out.keep hS').cell 0
   have k2:=(K4.out.keep hS').cell 2
   simp only[List.getElem?_toArray,List.getElem?_cons_zero,List.getElem?_cons_succ] at k0 k2
   obtain⟨e1,e2,e3,e4⟩:=EU.out
   go_simp
   exact⟨rfl,rfl⟩
  go_simp
  refine hR _ ?_
  clear hR R
 refine wpPlan_do (by rfl) (by rfl) (fun K hK=>?_)
 go_simp
 have B6:Below w4.heap.size w4 (w5.alloc (.cells #[.int .u64 478450451,.int .u64 N,.int .u64 0,.int .u64 dg,.int .u64 lo,.int .u64 R,.int .u64 4607182418800017408] 41)):=B5.alloc B5.size _
 refine hK _ _ (B6) ?_
 clear hK K
 refine wpPlan_do (by rfl) (by rfl) (fun K hK=>?_)
 go_simp
 refine(CP.out _ _ (RdI.list_at 41 .u64 w5 [478450451,(N:Int),0,(dg:Int),(lo:Int),(R:Int),4607182418800017408] _ rfl 7 rfl (by simp) _ rfl)).mono ?_
 rintro e w7 ⟨v7,rfl,o7,hb7⟩
 have O7:=Lib.hid o7
 have B7:Below w4.heap.size w4 w7:=B6.trans (hb7.mono B6.size)
 clear o7
 refine hK _ _ (B7) ?_
 clear hK K
 iterate 5
  refine wpPlan_read (by rfl) (by rfl) (fun R hR=>?_)
  apply Exists.intro
  refine⟨fun w' hS'=>?_,?_⟩
  ·have k0:=(K4.out.keep hS').cell 0
   have k2:=(K4.out.keep hS').cell 2
   simp only[List.getElem?_toArray,List.getElem?_cons_zero,List.getElem?_cons_succ] at k0 k2
   obtain⟨e1,e2,e3,e4⟩:=EU.out
   go_simp
   exact⟨rfl,rfl⟩
  go_simp
  refine hR _ ?_
  clear hR R
 refine wpPlan_nil ?_
 have O47:=Lib.hid (OwnI.keep O4.out B7)
 have BW7:=B4.trans (B7.mono B4.size)
 have hop:OP.length+CN.length<=1099511627776:=by have:=HN.out;omega
 have hO7:=O7.out
 rw[World.size_alloc] at hO7
 have HO7:=Lib.hid hO7
 have hz5:w.heap.size<=w5.heap.size+1:=by have:=B4.size;have:=B5.size;omega
 have hz7:w5.heap.size+1<=w7.heap.size:=by have:=hb7.size;rw[World.size_alloc] at this;exact this
 clear hO7 O7
 go_wp2_with (at_builtin;refine apL tyB rfl (.tmp 35) (.tmp 36) rfl (ownB_E.1 HO7.out) rfl _ CN rfl (ownB_E.1 O47.out).rd hop hz7 ?_;intro v8 w8 o8 g8 _;have O8:=Lib.hid (ownB_E.2 (o8.more hz5));have B8:Below w.heap.size w w8:=BW7.grown g8 BW7.size (fun k hk=>by have:=(OwnE.lt (ownB_E.1 HO7.out) k hk).1;omega);clear o8 g8)
 go_ret2
 exact⟨_,rfl,O8.out,B8⟩
open Go.RowKit Go.Lib Go.Shelf
open Go.Lib
open Go.RowKit Go.Lib
open Go.RowKit Go.Lib
open Go.RowKit Go.Lib
open Go.RowKit Go.Lib Go.Shelf
def grN:Bool->Int
 | true=>1
 | false=>0
theorem grN_or(gr:Bool):(gr=true/\grN gr=1)\/(gr=false/\grN gr=0):=by cases gr<;>simp[grN]
def hjB(lo hi dg R:Int)(gr:Bool)(l:List Pr):List Int:=outsH lo hi dg (grN gr) 4++hwB lo R dg l
theorem hdrText_any{y x lo hi dg u m bk:Nat}{gr:Bool}{l:List Pr}{F:Ft}{kd p2 p3 p4:Value}(w:World)(hy:Blk w y 66 #[kd,.pointer (some ⟨x,0,none⟩),p2,p3,p4])(h:HsAt x lo hi dg u m gr bk l F w)(ok:HsOk lo hi dg u m gr bk l) :
 Calls Tryz.prog 50 #[.pointer (some ⟨y,0,none⟩)] w fun e w'=>∃v,e=.returned v/\OwnB w.heap.size w' v (hjB lo hi dg (reachN u m hi bk) gr l)/\Below w.heap.size w w':=by
 have S:=hs_stay x lo hi dg u m gr bk l
 have HY:=Lib.hid hy
 have C1:=Lib.hid (hs_shape w h)
 have C2:Hid (∀w1,Below w.heap.size w w1->_):=Lib.hid (fun w1 hb=>hs_grows w1 (S.keep h hb))
 have C3:Hid (∀w1,Below w.heap.size w w1->_):=Lib.hid (fun w1 hb=>hw_write w1 (S.keep h hb) ok)
 have hlo:lo<=9223372036854775807:=by have:=ok.sh.h0;have:=ok.sh.h1;omega
 have hhi:=ok.sh.h1
 have hdg:=ok.sh.d1
 have hwl:=hwB_len lo (reachN u m hi bk) dg l
 have hcl:=cntA_len l
 have hll:=ok.len
 have HG:=Lib.hid (grN_or gr)
 have HB:Hid (hjB lo hi dg (reachN u m hi bk) gr l=outsH lo hi dg (grN gr) 4++hwB lo (reachN u m hi bk) dg l):=Lib.hid rfl
 rw[HB.out]
 have k1:=hy.cell 1
 simp only[List.getElem?_toArray,List.getElem?_cons_zero,List.getElem?_cons_succ] at k1
 clear HB S h ok hy
 generalize grN gr=D at *
 have hD:0<=D/\D<256:=by have:=HG.out;omega
 have CP:Hid (∀(v:Value) (w1:World),RdI .u64 w1 v [(lo:Int),(hi:Int),(dg:Int),D]->_):=Lib.hid (fun v w1 hr=>wputH_any lo hi dg D v w1 hr (by omega) (by omega) (by omega) (by omega) (by omega) (by omega) hD.1 hD.2)
 have EU:Hid (IntKind.u64.wrap (lo:Int)=(lo:Int)/\IntKind.u64.wrap (hi:Int)=(hi:Int)/\IntKind.u64.wrap (dg:Int)=(dg:Int)):=Lib.hid ⟨by rw[u64w];omega,by rw[u64w];omega,by rw[u64w];omega⟩
 have HOL:=outsH_len lo hi dg D 4
 generalize outsH lo hi dg D 4=OP at *
 generalize hwB (lo:Int) (reachN u m hi bk) dg l=HW at *
 go_enter Tryz.func50,Tryz.ntmps50
 go_wp2_with fail
 refine(C1.out).mono ?_
 rintro e w1 ⟨rfl,hb1⟩
 go_upto_region 2 with fail
 obtain⟨b4,hb4⟩:∃z,w1.heap.size=z:=⟨_,rfl⟩
 obtain⟨w4,hw4⟩:∃z,w1.alloc (.cells #[.int .i64 lo,.int .i64 hi,.int .i64 dg] 23)=z:=⟨_,rfl⟩
 have K4:Hid (Blk w4 b4 23 #[.int .i64 lo,.int .i64 hi,.int .i64 dg]):=by rw[<-hw4,<-hb4];exact Lib.hid (Blk.new _ _ _)
 have b14:Below w1.heap.size w1 w4:=by rw[<-hw4];(repeat' (first|(with_reducible exact Below.refl _ _)|(with_reducible refine Below.alloc ?_ ?_ _)|(with_reducible refine Below.drew ?_)|(with_reducible refine below_drewN ?_ _)|(with_reducible refine Below.setCell ?_ ?_ _)|(with_reducible refine below_of (by assumption) ?_ ?_)|go_size))
 have B4:Below w.heap.size w w4:=hb1.trans (b14.mono hb1.size)
 rw[hw4,hb4]
 clear hw4 hb4 b14 k1
 have k1:=(HY.out.keep B4).cell 1
 simp only[List.getElem?_toArray,List.getElem?_cons_zero,List.getElem?_cons_succ] at k1
 go_wp2_with fail
 refine(C2.out w4 B4).mono ?_
 rintro e w' ⟨rfl,rfl⟩
 have j0:=K4.out.cell 0
 have j1:=K4.out.cell 1
 have j2:=K4.out.cell 2
 simp only[List.getElem?_toArray,List.getElem?_cons_zero,List.getElem?_cons_succ] at j0 j1 j2
 rcases HG.out with⟨rfl,rfl⟩|⟨rfl,rfl⟩
 all_goals
  obtain⟨e1,e2,e3⟩:=EU.out
  go_wp2_with fail
  refine(CP.out _ _ (RdI.list_at 41 .u64 w4 [(lo:Int),(hi:Int),(dg:Int),_] _ rfl 4 rfl (by simp) _ rfl)).mono ?_
  rintro e w7 ⟨v7,rfl,o7,hb7⟩
  have O7:=Lib.hid (ownB_E.1 o7)
  have hz4:∀o:Obj,w.heap.size<=(w4.alloc o).heap.size:=fun o=>Nat.le_trans B4.size (by simp)
  have B7:Below w.heap.size w w7:=(B4.alloc B4.size _).trans (hb7.mono (hz4 _))
  clear o7 e1 e2 e3 j0 j1 j2 k1
  have k1:=(HY.out.keep B7).cell 1
  simp only[List.getElem?_toArray,List.getElem?_cons_zero,List.getElem?_cons_succ] at k1
  go_wp2_with fail
  refine(C3.out w7 B7).mono ?_
  rintro e w8 ⟨v8,rfl,o8,hb8⟩
  have O8:=Lib.hid (ownB_E.1 o8)
  have O78:=Lib.hid (OwnE.keep O7.out hb8)
  have B8:Below w.heap.size w w8:=B7.trans (hb8.mono B7.size)
  have hop:OP.length+HW.length<=1099511627776:=by omega
  obtain⟨A7,c7,ev7,_,_,_⟩:=O78.out.form
  obtain⟨n7,hn7⟩:∃z,OP.length=z:=⟨_,rfl⟩
  rw[hn7] at ev7
  subst ev7
  have hz7:w4.heap.size+1<=w8.heap.size:=by have h1:=hb7.size;have h2:=hb8.size;rw[World.size_alloc] at h1;omega
  clear o8 k1 hn7
  go_wp2_with (at_builtin;refine apL tyB rfl (.tmp 42) (.tmp 43) rfl O78.out rfl _ HW rfl (O8.out.rd) hop (by rw[World.size_alloc];exact hz7) ?_;intro v9 w9 o9 g9 _;have O9:=Lib.hid (ownB_E.2 (o9.more (hz4 _)));have B9:Below w.heap.size w w9:=B8.grown g9 B8.size (fun k hk=>Nat.le_trans (hz4 _) (O78.out.lt k hk).1);clear o9 g9)
  go_ret
  exact⟨_,rfl,O9.out,B9⟩
open Go.RowKit Go.Lib Go.Shelf
open Go.RowKit Go.Lib Go.Shelf
open Go.RowKit Go.Lib Go.Shelf
open Go.RowKit Go.Lib Go.Shelf
end Go.Proofs.YtingnldfpokckaaGreat.D
namespace Go.Proofs.YtingnldfpokckaaGreat.K
open Go.RowKit
theorem wp_append_E{P:Program}{α:Type}(E:Lie α){ts:TypeId}(i0:TypeInfo)(z:Value)(bytes:Nat)(ht:P.underlying ts=some (.slice E.t))(hi:P.info? E.t=some i0)(hz:i0.zero=some z)(hsz:i0.size=E.k)(hby:i0.bytes=bytes)(hzs:z.cells.size=E.k)(hk:0<E.k)(hb:bytes<=128)
 {w:World} {o:Oper} {a:Act} {K:Act->World->Prop} {Q:Exit->Act->World->Prop} (s x:Operand)
 (ho:o.op=.call {callee:=.builtin .append,args:=#[s,x],argTypes:=#[ts,ts]})
 (base:Nat) (v:Value) (xs:List α) (hs:a.eval s=v) (hown:OwnE E base w v xs) (u:Value) (news:List α) (hx:a.eval x=u) (hr:RdE E w u news) (hlen:xs.length+news.length<=1099511627776) (hbase:base<=w.heap.size)
 (h:∀v' w',OwnE E base w' v' (xs++news)->w.grownBy w' v.ownBlock->(v'.ownBlock=v.ownBlock\/v'.ownBlock=some w.heap.size)->K (a.put o.dst v') w'):o.wp P a w K Q:=by
 obtain⟨A,c,rfl,_,_,_⟩:=hr.form
 have h1:(xs.length+news.length) * bytes<=1099511627776 * 128:=Nat.mul_le_mul hlen hb
 refine wp_append_rd w s x ts ho base E.t i0 z E.k bytes ht hi hz hsz hby hzs hk v xs.length (cellsE E xs) hs hown A news.length c (cellsE E news) hx hr (cellsE_one E news) (by unfold maxLen;omega) (by omega) hbase fun v' w' h2 h3 h4=>h v' w' ?_ h3 h4
 unfold OwnE
 rw[List.length_append,cellsE_append]
 exact h2
def Aside(F:Nat->Prop)(w:World)(v:Value)(l:List Int):Prop:=∀W,(∀k,k<w.heap.size->¬F k->W.heap[k]?=w.heap[k]?)->w.heap.size<=W.heap.size->RdE i64E W v l
theorem Aside.rd{F:Nat->Prop}{w:World}{v:Value}{l:List Int}(h:Aside F w v l):RdE i64E w v l:=h w (fun _ _ _=>rfl) (Nat.le_refl _)
theorem Aside.next{F G:Nat->Prop}{w w':World}{v:Value}{l:List Int}(h:Aside F w v l)(hk:∀k,k<w.heap.size->¬F k->w'.heap[k]?=w.heap[k]?)(hz:w.heap.size<=w'.heap.size)(hG:∀k,G k->F k\/w.heap.size<=k):Aside G w' v l:=
 fun W h1 h2=>h W (fun k hk1 hk2=>(h1 k (by omega) (fun hg=>(hG k hg).elim hk2 (by omega))).trans (hk k hk1 hk2)) (by omega)
theorem Aside.of_own{F:Nat->Prop}{w:World}{v:Value}{l:List Int}{base:Nat}(h:OwnE i64E base w v l)(hF:∀k,v.ownBlock=some k->¬F k):Aside F w v l:=
 fun _ h1 _=>(h.stay fun k e=>h1 k (h.lt k e).2 (hF k e)).rd
theorem ext_succ(L:LL)(j:Nat):L++List.replicate (j+1) []=(L++List.replicate j [])++[([]:List Int)]:=by rw[List.replicate_succ',List.append_assoc]
theorem Kst.lvs{F:Nat->Prop}{w:World}{g k n led:Nat}{lv:Value}{vs:List Sv}{L:LL}(h:Kst F w g k n led lv vs L)(hL:0<L.length):∃gl c,lv=.slice (some ⟨gl,0,none⟩) L.length c/\gl<w.heap.size/\gl≠g/\F gl:=by
 have hl:0<vs.length:=by rw[h.lev.len];exact hL
 obtain⟨gl,c,e,_,hg,_,_⟩:=h.lev.row.pos hl
 rw[h.lev.len] at e
 refine⟨gl,c,e,hg,fun e2=>h.g1 ?_,h.lev.fl gl ?_⟩
 ·rw[e,e2];rfl
 ·rw[e];rfl
theorem put_any{F:Nat->Prop}{g k n led:Nat}{lv:Value}{vs:List Sv}{L:LL}(h:Nat)(u:Value)(news:List Int)(w:World)(hs:Kst F w g k n led lv vs L)(hu:Aside F w u news)(hsrt:Srt (lvl L h))(hh:h<=100)(hL:L.length<=1000)(hl:(lvl L h).length<=1000000000)(hn:news.length<=1000000000) :
 Calls Tryz.prog 75 #[.pointer (some ⟨g,0,none⟩),.int .i64 h,u] w fun e w'=>e=.returned (.tuple #[])/\∃F' lv' vs',(∀k,F' k->F k\/w.heap.size<=k)/\(∀k,F k->F' k)/\Kst F' w' g k n led lv' vs' (putL L h news)/\Touch F w w':=by
 obtain⟨i0,hi0,hiz,his,hib⟩:=info_parts i64I
 have HI:=Lib.hid hi0
 have HZ:=Lib.hid hiz
 have HSZ:=Lib.hid his
 have HBY:=Lib.hid hib
 clear hi0 hiz his hib
 obtain⟨i1,hi0,hiz,his,hib⟩:=info_parts slI
 have JI:=Lib.hid hi0
 have JZ:=Lib.hid hiz
 have JSZ:=Lib.hid his
 have JBY:=Lib.hid hib
 clear hi0 hiz his hib
 have HU:=Lib.hid hu
 have HS:=Lib.hid hs
 have HSR:=Lib.hid hsrt
 have hgw:=hs.blk.lt
 obtain⟨A0,c0,rfl,_,_,_⟩:=hu.rd.form
 clear hs hu hsrt
 go_enter Tryz.func75,Tryz.ntmps75
 go_wp2_with fail
 go_loopg [6] (h+1 - L.length) (fun q _ wr=>∃(j:Nat) (F1:Nat->Prop) (lv1:Value) (vs1:List Sv),q=h+1 - L.length - j/\(j=0\/L.length+j<=h+1)/\Hid ((∀k,F1 k->F k\/w.heap.size<=k)/\(∀k,F k->F1 k)/\Kst F1 wr g k n led lv1 vs1 (L++List.replicate j [])/\Touch F w wr))
 case atStart=>exact⟨0,F,lv,vs,rfl,.inl rfl,Lib.hid ⟨fun k hk=>.inl hk,fun k hk=>hk,by rw[List.replicate_zero,List.append_nil];exact HS.out,Touch.refl _ _⟩⟩
 case round=>
  obtain⟨j,F1,lv1,vs1,hq,hj,HX⟩:=hrel
  have HQ:=Lib.hid hq
  clear hq
  have hx:=HX.out
  have hw1:=hx.2.2.2.size
  have hst:=hx.2.2.1
  obtain⟨A1,c1,rfl,hc1,hc2,_⟩:=hst.form
  have k1:=hst.cell1
  have f1:=hst.blk.frozen 1
  have hgr:=hst.blk.lt
  have hll:(L++List.replicate j ([]:List Int)).length=L.length+j:=by simp
  rw[hll] at k1 hc1 hst
  by_cases hle:L.length+j<=h
  ·have hle':((L.length+j:Nat):Int)<=(h:Int):=by omega
   have hrow:=hst.lev.row
   have HROW:=Lib.hid hrow
   have HST:=Lib.hid hst
   have hfl:∀kk,(Value.slice A1 (L.length+j) c1).ownBlock=some kk->F1 kk:=fun kk e=>hst.lev.fl kk e
   have hg1:(Value.slice A1 (L.length+j) c1).ownBlock≠some g:=hst.g1
   have HFL:=Lib.hid hfl
   have HG1:=Lib.hid hg1
   have hvl:vs1.length=L.length+j:=by rw[hst.lev.len,hll]
   clear hrow hst hx hfl hg1 hll
   go_wp2_with (at_builtin;refine wpList_append_E slE (ts:=93) i1 _ 24 Tryz.underlying93 JI.out JZ.out JSZ.out JBY.out rfl (by decide) (by decide) rfl (.tmp 17) (.tmp 18) rfl 0 (.slice A1 (L.length+j) c1) vs1 rfl (HROW.out.alloc _) _ [(none,0,0)] rfl (RdE.one_at (E:=slE) wr (none,0,0) _ rfl _ rfl _ rfl) (by simp;omega) (by omega) ?_;intro v7 w7 o7 g7 a7;have b7:=(g7.block g (by simp;omega) (fun e=>HG1.out e.symm)).trans (Blk.alloc HST.out.blk _);have k7:=Blk.cell b7 1;have f7:=Blk.frozen b7 1;simp only[List.getElem?_toArray,List.getElem?_cons_succ,List.getElem?_cons_zero] at k7;have O7:=Lib.hid o7;have G7:=Lib.hid g7;have A7:=Lib.hid a7;obtain⟨A8,c8,rfl,_,_,_⟩:=o7.form;clear o7 g7 a7 b7;go_simp)
   have e8:(vs1++[((none,0,0):Sv)]).length=L.length+j+1:=by rw[List.length_append,hvl];rfl
   have o7:=O7.out
   have a7:=A7.out
   have g7:=G7.out
   rw[e8] at o7 a7
   have hmore:=StG.more (HST.out.keep ((Below.refl _ _).alloc (Nat.le_refl _) (.cells #[.slice none 0 0] 143))) o7 g7 a7
   go_roundg (h+1 - L.length - (j+1))
   case measure=>have:=HQ.out;omega
   case rel=>
    refine⟨j+1,_,_,_,rfl,.inr (by omega),Lib.hid ⟨?_,?_,by rw[ext_succ];exact hmore,?_⟩⟩
    ·intro kk hkk
     rcases hkk with hkk|hkk
     ·exact HX.out.1 kk hkk
     ·rcases a7 with e9|e9
      ·rw[e9] at hkk;exact HX.out.1 kk (HFL.out kk hkk)
      ·rw[e9] at hkk
       injection hkk with hkk
       rw[<-hkk]
       refine .inr ?_
       simp;omega
    ·exact fun kk hkk=>.inl (HX.out.2.1 kk hkk)
    ·refine Touch.setCell (Touch.grown (Touch.alloc HX.out.2.2.2 _) g7 fun kk hkk=>?_) ?_ _
     ·exact HX.out.1 kk (HFL.out kk hkk)
     ·exact .inl HS.out.fg
  ·have hlx:ext L h=L++List.replicate j []:=by
    unfold ext
    congr 2
    omega
   rw[<-hlx] at hst
   have hhl:h<(ext L h).length:=by rw[ext_length];omega
   have hlen:(ext L h).length=L.length+j:=by rw[hlx,hll]
   obtain⟨gl,cl,elv,hgl,hglg,hFgl⟩:=Kst.lvs hst (by omega)
   rw[hlen] at elv
   injection elv with elv e2 e3
   subst elv;subst e3
   have hv:h<vs1.length:=by rw[hst.lev.len];exact hhl
   have g2:=hst.g2 h hv
   have g3:(svV vs1[h]).ownBlock≠some gl:=fun e=>hst.lev.apart h hv gl e rfl
   have ol:=hst.lev.each h hv
   rw[lvl_ext] at ol
   have cl2:=hst.lev.row.cellAt hv 0 (by decide)
   rw[show h * slE.k+0=h by show h * 1+0=h;omega] at cl2
   have fl2:=hst.lev.row.frozenAt h
   have hfs:=hst.lev.fv h hv
   have HST:=Lib.hid hst
   have hfT:=HX.out.2.2.2
   have HFT:=Lib.hid hfT
   have HFX:=Lib.hid HX.out.1
   have HFY:=Lib.hid HX.out.2.1
   obtain⟨s,hs⟩:∃s,vs1[h]=s:=⟨_,rfl⟩
   rw[hs] at g2 g3 ol cl2 hfs
   have HS1:=Lib.hid hs
   obtain⟨sA,sn,sc⟩:=s
   obtain⟨_,_,es,_,_,_⟩:=ol.form
   injection es with es1 es2 es3
   subst es2
   have OL:=Lib.hid ol
   have C1:=Lib.hid k1
   have C2:Hid (wr.cell? ⟨gl,h,none⟩=some (.slice sA (lvl L h).length sc)):=Lib.hid (cl2.trans rfl)
   have FL2:=Lib.hid fl2
   have HFS:=Lib.hid hfs
   have HU1:=Lib.hid (HU.out.next (G:=F1) (fun kk h1 h2=>hfT.block kk h1 h2) hfT.size HX.out.1)
   clear hx HX hst cl2 fl2 f1 ol hs es1 es3 hfs hfT hll hlx
   have hhi:h<L.length+j:=by omega
   go_upto_region 2 with fail
   clear k1
   refine wp_region_planS (fun w'=>Touch (fun kk=>(Value.slice sA (lvl L h).length sc).ownBlock=some kk) wr w') 15 [(0,1),(1,1),(2,1),(3,1),(4,1),(5,1),(6,1),(7,1),(8,1),(9,1),(10,1),(11,1),(12,1),(13,0),(14,1),(15,0)] (by kernel_rfl) (by kernel_rfl) ((Touch.refl _ _).drew) ?_
   iterate 13
    refine wpPlanS_read (by rfl) (by rfl) (fun R hR=>?_)
    apply Exists.intro
    refine⟨fun w' hS'=>?_,?_⟩
    ·have k1:=(World.cell?_of_block (a:=⟨g,1,none⟩) (hS'.block g hgr g2)).trans C1.out
     have k2:=(World.cell?_of_block (a:=⟨gl,h,none⟩) (hS'.block gl hgl g3)).trans C2.out
     go_simp
     exact⟨rfl,rfl⟩
    go_simp
    refine hR _ ?_
    clear hR R
   refine wpPlanS_do (by rfl) (by rfl) (by rfl) (fun K hK=>?_)
   refine wp_append_E i64E (ts:=143) i0 _ 8 Tryz.underlying143 HI.out HZ.out HSZ.out HBY.out rfl (by decide) (by decide) (.tmp 33) (.tmp 34) rfl 0 (.slice sA (lvl L h).length sc) (lvl L h) rfl (OwnE.drew OL.out) (.slice A0 news.length c0) news rfl (HU1.out.rd.keep (Below.refl _ _).drew) (by omega) (by omega) ?_
   intro v7 w7 o7 g7 a7
   have T7:Touch (fun kk=>(Value.slice sA (lvl L h).length sc).ownBlock=some kk) wr w7:=((Touch.refl _ _).drew).grown g7 (fun kk hk=>.inl hk)
   have O7:=Lib.hid o7
   have A7:=Lib.hid a7
   obtain⟨A8,c8,rfl,_,_,_⟩:=o7.form
   clear o7 g7 a7
   go_simp
   refine hK _ _ (T7) ?_
   clear hK K
   iterate 1
    refine wpPlanS_read (by rfl) (by rfl) (fun R hR=>?_)
    apply Exists.intro
    refine⟨fun w' hS'=>?_,?_⟩
    ·have k1:=(World.cell?_of_block (a:=⟨g,1,none⟩) (hS'.block g hgr g2)).trans C1.out
     have k2:=(World.cell?_of_block (a:=⟨gl,h,none⟩) (hS'.block gl hgl g3)).trans C2.out
     go_simp
     exact⟨rfl,rfl⟩
    go_simp
    refine hR _ ?_
    clear hR R
   refine wpPlanS_end (by rfl) (by rfl) (by rfl) (fun K hK=>?_)
   have k2:=(World.cell?_of_block (a:=⟨gl,h,none⟩) (T7.block gl hgl g3)).trans C2.out
   have f2:=(World.frozen?_of_block (a:=⟨gl,h,none⟩) (T7.block gl hgl g3)).trans FL2.out
   go_simp
   refine hK _ _ ?_
   clear hK K
   refine wpPlanS_nil ?_
   clear k2 f2
   have e8:(lvl L h++news).length=(lvl L h).length+news.length:=List.length_append
   have o7:=O7.out
   have a7:=A7.out
   rw[e8] at o7 a7
   have hown:∀kk,(Value.slice A8 ((lvl L h).length+news.length) c8).ownBlock=some kk->(Value.slice sA (lvl L h).length sc).ownBlock=some kk\/wr.heap.size<=kk:=fun kk e=>by
    rcases a7 with e9|e9
    ·rw[e9] at e;exact .inl e
    ·rw[e9] at e;injection e with e;exact .inr (by rw[<-e];exact Nat.le_refl _)
   have hvb:(svV vs1[h]).ownBlock=(Value.slice sA (lvl L h).length sc).ownBlock:=by rw[HS1.out];rfl
   have lev:=StG.level (s':=(A8,(lvl L h).length+news.length,c8)) (l':=lvl L h++news) HST.out hhl rfl o7 (fun kk h1 h2=>T7.block kk h1 (fun e=>h2 (hvb.trans e))) T7.size (by
    rcases a7 with e9|e9
    ·exact .inl (e9.trans hvb.symm)
    ·exact .inr fun kk e=>by have e:=e9.symm.trans e;injection e with e;rw[<-e];exact Nat.le_refl _)
   have TT:Touch F w w7:=HFT.out.trans T7 fun kk hk=>HFX.out kk (HFS.out kk hk)
   have T8:=Lib.hid (TT.setCell (p:=⟨gl,h,none⟩) (HFX.out gl hFgl) (svV (A8,(lvl L h).length+news.length,c8)))
   have HLEV:=Lib.hid lev
   have HOWN:=Lib.hid hown
   have hz7:=TT.size
   have hzw:w.heap.size<=wr.heap.size:=HFT.out.size
   clear lev o7 a7 TT T7 O7 A7 hown HST OL HU1 C1 C2 FL2 hvb g2 g3
   obtain⟨w8,hw8⟩:∃x,w7.setCell ⟨gl,h,none⟩ (svV (A8,(lvl L h).length+news.length,c8))=x:=⟨_,rfl⟩
   rw[hw8] at HLEV T8
   show Exit.then _ _ Exit.normal _ (w7.setCell ⟨gl,h,none⟩ (svV (A8,(lvl L h).length+news.length,c8)))
   rw[hw8]
   clear hw8
   have k1:=HLEV.out.cell1
   have hset:(vs1.set h (A8,(lvl L h).length+news.length,c8))[h]'(by rw[List.length_set];exact hv)=(A8,(lvl L h).length+news.length,c8):=List.getElem_set_self ..
   have k0:=HLEV.out.lev.row.cellAt (j:=h) (by rw[List.length_set];exact hv) 0 (by decide)
   rw[show h * slE.k+0=h by show h * 1+0=h;omega,hset] at k0
   have k2:w8.cell? ⟨gl,h,none⟩=some (.slice A8 ((lvl L h).length+news.length) c8):=k0.trans rfl
   clear k0
   have ol:=HLEV.out.lev.each h (by rw[List.length_set];exact hv)
   rw[hset,lvl_set _ _ _ _ hhl,if_pos rfl] at ol
   have OL:=Lib.hid ol
   clear ol
   go_wp2_with fail
   refine(sort_own (svV (A8,(lvl L h).length+news.length,c8)) 0 (lvl L h++news) w8 OL.out (by rw[e8];omega)).mono ?_
   rintro e w9 ⟨rfl,o9,t9⟩
   rw[sort_ins HSR.out news] at o9
   have hlt9:=HLEV.out.turn (j:=h) (l':=insL (lvl L h) news) (by rw[List.length_set];exact hhl) (by rw[hset];exact o9) (fun kk h1 h2=>t9.block kk h1 (fun e=>h2 (by rw[hset];exact e))) t9.size
   rw[List.set_set] at hlt9
   have HL9:=Lib.hid hlt9
   have T9:=Lib.hid (T8.out.trans t9 (fun kk hk=>by
    rcases HOWN.out kk hk with e|e
    ·exact HFX.out kk (HFS.out kk e)
    ·exact .inr (by omega)))
   clear hlt9 o9 t9 k1 k2
   go_wp2_with fail
   go_end0
   refine⟨rfl,_,_,_,?_,?_,HL9.out,T9.out⟩
   ·intro kk hk
    rcases hk with hk|hk
    ·exact HFX.out kk hk
    ·rcases HOWN.out kk hk with e|e
     ·exact HFX.out kk (HFS.out kk e)
     ·exact .inr (by omega)
   ·exact fun kk hk=>.inl (HFY.out kk hk)
open Go.RowKit
open Go.RowKit
def u8E:Lie Int where
 k:=1
 t:=5
 enc x:=[.int .u8 x]
 len _:=rfl
 one x u hu:=by
  simp only[List.mem_cons,List.not_mem_nil,or_false] at hu
  subst hu;rfl
theorem _root_.Go.Proofs.YtingnldfpokckaaGreat.EForm.u8{w:World}{A:Option Addr}{l:List Int}(h:EForm u8E w A l){j:Nat}(hj:j<l.length) :
 ∃g off,A=some ⟨g,off,none⟩/\g<w.heap.size/\w.cell? ⟨g,off+j,none⟩=some (.int .u8 l[j]):=by
 obtain⟨g,off,hA,hg,hc⟩:=h (by omega)
 refine⟨g,off,hA,hg,?_⟩
 have:=hc j hj 0 (by decide)
 rw[show off+j * u8E.k+0=off+j by show off+j * 1+0=_;omega] at this
 exact this
theorem _root_.Go.Proofs.YtingnldfpokckaaGreat.RdE.stay{α:Type}{E:Lie α}{w w':World}{v:Value}{l:List α}(h:RdE E w v l)(hk:∀k,v.ownBlock=some k->w'.heap[k]?=w.heap[k]?)(hz:w.heap.size<=w'.heap.size):RdE E w' v l:=by
 obtain⟨A,c,rfl,h1,h2,h3⟩:=h.form
 refine RdE.of_form h1 h2 fun h0=>?_
 obtain⟨g,off,rfl,hg,hc⟩:=h3 h0
 exact⟨g,off,rfl,by omega,fun j hj i hi=>(World.cell?_of_block (hk g rfl)).trans (hc j hj i hi)⟩
def Byt(B:List Int):Prop:=B.length<=1000000/\∀x∈B,0<=x/\x<=255
structure RCt(t:TypeId)(w:World)(g:Nat)(v:Value)(B:List Int)(a:Nat):Prop where
 blk:Blk w g t #[v,.int .i64 a]
 rd:RdE u8E w v B
 ne:v.ownBlock≠some g
 at_:a<=8 * B.length
 byt:Byt B
theorem RCt.stay{t:TypeId}{w w':World}{g:Nat}{v:Value}{B:List Int}{a:Nat}(h:RCt t w g v B a)(hg:w'.heap[g]?=w.heap[g]?)(hk:∀k,v.ownBlock=some k->w'.heap[k]?=w.heap[k]?)(hz:w.heap.size<=w'.heap.size):RCt t w' g v B a:=
 ⟨hg.trans h.blk,h.rd.stay hk hz,h.ne,h.at_,h.byt⟩
theorem RCt.drewN{t:TypeId}{w:World}{g:Nat}{v:Value}{B:List Int}{a:Nat}(h:RCt t w g v B a)(n:Nat):RCt t (w.drewN n) g v B a:=h.stay rfl (fun _ _=>rfl) (Nat.le_refl _)
theorem RCt.step{t:TypeId}{w:World}{g:Nat}{v:Value}{B:List Int}{a:Nat}(h:RCt t w g v B a)(ha:a<8 * B.length):RCt t (w.setCell ⟨g,1,none⟩ (.int .i64 (a+1:Nat))) g v B (a+1):=by
 have hk:∀k,k≠g->(w.setCell ⟨g,1,none⟩ (.int .i64 (a+1:Nat))).heap[k]?=w.heap[k]?:=fun k hk=>Below.heap_setCell w ⟨g,1,none⟩ _ k hk
 refine⟨?_,h.rd.stay (fun k e=>hk k fun e2=>h.ne (by rw[e,e2])) (by simp),h.ne,ha,h.byt⟩
 have:=h.blk.set_ 1 (.int .i64 (a+1:Nat))
 simpa using this
abbrev BR:=RCt 414
end Go.Proofs.YtingnldfpokckaaGreat.K
