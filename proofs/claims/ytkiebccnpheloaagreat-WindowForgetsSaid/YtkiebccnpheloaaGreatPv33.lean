/- Parts of a proof: what its theorem reaches, words cut short. No condition of its own. -/
import Derived.Test.YtkiebccnpheloaaGreatPv32
set_option maxRecDepth 100000
set_option maxHeartbeats 16000000
set_option linter.unusedVariables false
set_option linter.unusedSimpArgs false
namespace Go.Proofs.YtkiebccnpheloaaGreat.D
open Go.RowKit Go.Lib Go.Shelf
theorem RdI.list_at(t:TypeId)(k:IntKind)(w:World)(l:List Int)(cs:Array Value)(hc:cs=(l.map (Value.int k)).toArray)(n:Nat)(hn:n=l.length)(hl:l.length<=100)(H:Nat)(h:w.heap.size=H):RdI k (w.alloc (.cells cs t)) (.slice (some ⟨H,0,none⟩) n n) l:=by
 subst hc hn h
 refine⟨by simp,_,l.length,rfl,Nat.le_refl _,by unfold maxLen;omega,fun h0=>⟨w.heap.size,0,rfl,by simp,fun j hj=>?_⟩⟩
 rw[Nat.zero_add]
 have hb:(w.alloc (.cells (l.map (Value.int k)).toArray t)).heap[w.heap.size]?=some (.cells (l.map (Value.int k)).toArray t (0,0)):=(Blk.new w t (l.map (Value.int k)).toArray)
 rw[cell_of_row _ _ _ _ _ _ hb]
 simp
theorem reach_bd{lo hi dg u m bk:Nat}(ok:HdOk lo hi dg u m)(b1:bk<=64):reachN u m hi bk<=9223372036854775807:=by
 have:=ok.h1
 unfold reachN
 split
 ·exact ok.h1
 ·unfold topN
  split
  ·exact Nat.le_refl _
  ·rename_i h
   have h1:2 ^ (bk - 1+u+m)<=2 ^ 62:=two_le (by omega)
   have h2:(2:Nat) ^ 62=4611686018427387904:=by decide
   omega
theorem hw_write{x lo hi dg u m bk:Nat}{gr:Bool}{l:List Pr}{F:Ft}(w:World)(h:HsAt x lo hi dg u m gr bk l F w)(ok:HsOk lo hi dg u m gr bk l):Calls Tryz.prog 148 #[.pointer (some ⟨x,0,none⟩)] w fun e w'=>∃v,e=.returned (.tuple #[v,.int .i64 0])/\OwnB w.heap.size w' v (hwB lo (reachN u m hi bk) dg l)/\Below w.heap.size w w':=by
 have S:=hs_stay x lo hi dg u m gr bk l
 have C1:=Lib.hid (hs_shape w h)
 have C2:Hid (∀w1,Below w.heap.size w w1->_):=Lib.hid (fun w1 hb=>hs_pairs w1 (S.keep h hb) ok)
 have C3:Hid (∀(v:Value) (w1:World),RdE prE w1 v l->_):=Lib.hid (fun v w1 hr=>counts_any v w1 hr ok)
 have C4:Hid (∀w1,Below w.heap.size w w1->_):=Lib.hid (fun w1 hb=>hs_reach w1 (S.keep h hb) ok.sh ok.b0 ok.b1)
 have hrb:=reach_bd ok.sh ok.b1 (bk:=bk)
 have hcl:=cntA_len l
 have hll:=ok.len
 have hlo:lo<=9223372036854775807:=by have:=ok.sh.h0;have:=ok.sh.h1;omega
 have hdg:=ok.sh.d1
 have HB:Hid (hwB lo (reachN u m hi bk) dg l=outsP 478450451 (cntA l).length 0 dg lo (reachN u m hi bk) 4607182418800017408 7++cntA l):=Lib.hid rfl
 rw[HB.out]
 clear HB S h ok
 generalize reachN u m hi bk=R at *
 generalize cntA l=CN at *
 obtain⟨N,hN⟩:∃N,CN.length=N:=⟨_,rfl⟩
 have HN:=Lib.hid hN
 rw[hN] at hcl |-
 have CP:Hid (∀(v:Value) (w1:World),RdI .u64 w1 v [478450451,(N:Int),0,(dg:Int),(lo:Int),(R:Int),4607182418800017408]->_):=Lib.hid (fun v w1 hr=>wputP_any 478450451 N 0 dg lo R 4607182418800017408 v w1 hr (by omega) (by omega) (by omega) (by omega) (by omega) (by omega) (by omega) (by omega) (by omega) (by omega) (by omega) (by omega) (by omega) (by omega))
 have EU:Hid (IntKind.u64.wrap (N:Int)=(N:Int)/\IntKind.u64.wrap (dg:Int)=(dg:Int)/\IntKind.u64.wrap (lo:Int)=(lo:Int)/\IntKind.u64.wrap (R:Int)=(R:Int)):=Lib.hid ⟨by rw[u64w];omega,by rw[u64w];omega,by rw[u64w];omega,by rw[u64w];omega⟩
 have HOL:=outsP_len 478450451 N 0 dg lo R 4607182418800017408 7
 generalize outsP 478450451 N 0 dg lo R 4607182418800017408 7=OP at *
 clear hN
 go_enter Tryz.func148,Tryz.ntmps148
 go_wp2_with fail
 refine(C1.out).mono ?_
 rintro e w1 ⟨rfl,hb1⟩
 go_wp2_with fail
 refine(C2.out w1 hb1).mono ?_
 rintro e w2 ⟨v2,rfl,o2,hb2⟩
 have B2:=hb1.trans (hb2.mono hb1.size)
 go_wp2_with fail
 refine(C3.out v2 w2 o2.rd).mono ?_
 rintro e w3 ⟨v3,rfl,o3,hb3⟩
 have B3:=B2.trans (hb3.mono B2.size)
 have O3:=Lib.hid o3
 obtain⟨A3,c3,ev3,_,_,_⟩:=(OwnI.rd o3).form
 rw[HN.out] at ev3
 subst ev3
 clear o2 o3
 go_upto_region 4 with fail
 obtain⟨b4,hb4⟩:∃z,w3.heap.size=z:=⟨_,rfl⟩
 obtain⟨w4,hw4⟩:∃z,w3.alloc (.cells #[.int .i64 lo,.int .i64 hi,.int .i64 dg] 32)=z:=⟨_,rfl⟩
 have K4:Hid (Blk w4 b4 32 #[.int .i64 lo,.int .i64 hi,.int .i64 dg]):=by rw[<-hw4,<-hb4];exact Lib.hid (Blk.new _ _ _)
 have b34:Below w3.heap.size w3 w4:=by rw[<-hw4];(repeat' (first|(with_reducible exact Below.refl _ _)|(with_reducible refine Below.alloc ?_ ?_ _)|(with_reducible refine Below.drew ?_)|(with_reducible refine below_drewN ?_ _)|(with_reducible refine Below.setCell ?_ ?_ _)|(with_reducible refine below_of (by assumption) ?_ ?_)|go_size))
 have B4:Below w.heap.size w w4:=B3.trans (b34.mono B3.size)
 have O4:=Lib.hid (OwnI.keep O3.out b34)
 rw[hw4,hb4]
 clear hw4 hb4 b34
 have B4d:Below w4.heap.size w4 w4.drew:=(Below.refl _ _).drew
 refine wp_region_plan (Below w4.heap.size w4) [(0,true),(1,true),(2,true),(3,true),(4,true),(5,true),(6,true),(7,true),(8,true),(9,true),(10,false),(11,true),(12,false),(13,false),(14,true),(15,true),(16,true),(17,true),(18,true)] (by kernel_rfl) (by kernel_rfl) (B4d) ?_
 iterate 10
  refine wpPlan_read (by rfl) (by rfl) (fun R hR=>?_)
  apply Exists.intro
  refine⟨fun w' hS'=>?_,?_⟩
  ·have k0:=(K4.out.keep hS').cell 0
   have k2:=(K4.out.keep hS').cell 2
   simp only[List.getElem?_toArray,List.getElem?_cons_zero,List.getElem?_cons_succ] at k0 k2
   obtain⟨e1,e2,e3,e4⟩:=EU.out
   go_simp
   exact⟨rfl,rfl⟩
  go_simp
  refine hR _ ?_
  clear hR R
 refine wpPlan_do (by rfl) (by rfl) (fun K hK=>?_)
 go_simp
 refine(C4.out w4.drew (B4.trans (B4d.mono B4.size))).mono ?_
 rintro e w5 ⟨rfl,hb5⟩
 have B5:Below w4.heap.size w4 w5:=B4d.trans hb5
 refine hK _ _ (B5) ?_
 clear hK K
 iterate 1
  refine wpPlan_read (by rfl) (by rfl) (fun R hR=>?_)
  apply Exists.intro
  refine⟨fun w' hS'=>?_,?_⟩
  ·have k0:=(K4.out.keep hS').cell 0
   have k2:=(K4.out.keep hS').cell 2
   simp only[List.getElem?_toArray,List.getElem?_cons_zero,List.getElem?_cons_succ] at k0 k2
   obtain⟨e1,e2,e3,e4⟩:=EU.out
   go_simp
   exact⟨rfl,rfl⟩
  go_simp
  refine hR _ ?_
  clear hR R
 refine wpPlan_do (by rfl) (by rfl) (fun K hK=>?_)
 go_simp
 have B6:Below w4.heap.size w4 (w5.alloc (.cells #[.int .u64 478450451,.int .u64 N,.int .u64 0,.int .u64 dg,.int .u64 lo,.int .u64 R,.int .u64 4607182418800017408] 53)):=B5.alloc B5.size _
 refine hK _ _ (B6) ?_
 clear hK K
 refine wpPlan_do (by rfl) (by rfl) (fun K hK=>?_)
 go_simp
 refine(CP.out _ _ (RdI.list_at 53 .u64 w5 [478450451,(N:Int),0,(dg:Int),(lo:Int),(R:Int),4607182418800017408] _ rfl 7 rfl (by simp) _ rfl)).mono ?_
 rintro e w7 ⟨v7,rfl,o7,hb7⟩
 have O7:=Lib.hid o7
 have B7:Below w4.heap.size w4 w7:=B6.trans (hb7.mono B6.size)
 clear o7
 refine hK _ _ (B7) ?_
 clear hK K
 iterate 5
  refine wpPlan_read (by rfl) (by rfl) (fun R hR=>?_)
  apply Exists.intro
  refine⟨fun w' hS'=>?_,?_⟩
  ·have k0:=(K4.out.keep hS').cell 0
   have k2:=(K4.out.keep hS').cell 2
   simp only[List.getElem?_toArray,List.getElem?_cons_zero,List.getElem?_cons_succ] at k0 k2
   obtain⟨e1,e2,e3,e4⟩:=EU.out
   go_simp
   exact⟨rfl,rfl⟩
  go_simp
  refine hR _ ?_
  clear hR R
 refine wpPlan_nil ?_
 have O47:=Lib.hid (OwnI.keep O4.out B7)
 have BW7:=B4.trans (B7.mono B4.size)
 have hop:OP.length+CN.length<=1099511627776:=by have:=HN.out;omega
 have hO7:=O7.out
 rw[World.size_alloc] at hO7
 have HO7:=Lib.hid hO7
 have hz5:w.heap.size<=w5.heap.size+1:=by have:=B4.size;have:=B5.size;omega
 have hz7:w5.heap.size+1<=w7.heap.size:=by have:=hb7.size;rw[World.size_alloc] at this;exact this
 clear hO7 O7
 go_wp2_with (at_builtin;refine apL tyB rfl (.tmp 35) (.tmp 36) rfl (ownB_E.1 HO7.out) rfl _ CN rfl (ownB_E.1 O47.out).rd hop hz7 ?_;intro v8 w8 o8 g8 _;have O8:=Lib.hid (ownB_E.2 (o8.more hz5));have B8:Below w.heap.size w w8:=BW7.grown g8 BW7.size (fun k hk=>by have:=(OwnE.lt (ownB_E.1 HO7.out) k hk).1;omega);clear o8 g8)
 go_ret2
 exact⟨_,rfl,O8.out,B8⟩
open Go.RowKit Go.Lib Go.Shelf
open Go.Lib
open Go.RowKit Go.Lib
open Go.RowKit Go.Lib
open Go.RowKit Go.Lib
open Go.RowKit Go.Lib Go.Shelf
def grN:Bool->Int
 | true=>1
 | false=>0
theorem grN_or(gr:Bool):(gr=true/\grN gr=1)\/(gr=false/\grN gr=0):=by cases gr<;>simp[grN]
def hjB(lo hi dg R:Int)(gr:Bool)(l:List Pr):List Int:=outsH lo hi dg (grN gr) 4++hwB lo R dg l
theorem hdrText_any{y x lo hi dg u m bk:Nat}{gr:Bool}{l:List Pr}{F:Ft}{kd p2 p3 p4:Value}(w:World)(hy:Blk w y 117 #[kd,.pointer (some ⟨x,0,none⟩),p2,p3,p4])(h:HsAt x lo hi dg u m gr bk l F w)(ok:HsOk lo hi dg u m gr bk l) :
 Calls Tryz.prog 64 #[.pointer (some ⟨y,0,none⟩)] w fun e w'=>∃v,e=.returned v/\OwnB w.heap.size w' v (hjB lo hi dg (reachN u m hi bk) gr l)/\Below w.heap.size w w':=by
 have S:=hs_stay x lo hi dg u m gr bk l
 have HY:=Lib.hid hy
 have C1:=Lib.hid (hs_shape w h)
 have C2:Hid (∀w1,Below w.heap.size w w1->_):=Lib.hid (fun w1 hb=>hs_grows w1 (S.keep h hb))
 have C3:Hid (∀w1,Below w.heap.size w w1->_):=Lib.hid (fun w1 hb=>hw_write w1 (S.keep h hb) ok)
 have hlo:lo<=9223372036854775807:=by have:=ok.sh.h0;have:=ok.sh.h1;omega
 have hhi:=ok.sh.h1
 have hdg:=ok.sh.d1
 have hwl:=hwB_len lo (reachN u m hi bk) dg l
 have hcl:=cntA_len l
 have hll:=ok.len
 have HG:=Lib.hid (grN_or gr)
 have HB:Hid (hjB lo hi dg (reachN u m hi bk) gr l=outsH lo hi dg (grN gr) 4++hwB lo (reachN u m hi bk) dg l):=Lib.hid rfl
 rw[HB.out]
 have k1:=hy.cell 1
 simp only[List.getElem?_toArray,List.getElem?_cons_zero,List.getElem?_cons_succ] at k1
 clear HB S h ok hy
 generalize grN gr=D at *
 have hD:0<=D/\D<256:=by have:=HG.out;omega
 have CP:Hid (∀(v:Value) (w1:World),RdI .u64 w1 v [(lo:Int),(hi:Int),(dg:Int),D]->_):=Lib.hid (fun v w1 hr=>wputH_any lo hi dg D v w1 hr (by omega) (by omega) (by omega) (by omega) (by omega) (by omega) hD.1 hD.2)
 have EU:Hid (IntKind.u64.wrap (lo:Int)=(lo:Int)/\IntKind.u64.wrap (hi:Int)=(hi:Int)/\IntKind.u64.wrap (dg:Int)=(dg:Int)):=Lib.hid ⟨by rw[u64w];omega,by rw[u64w];omega,by rw[u64w];omega⟩
 have HOL:=outsH_len lo hi dg D 4
 generalize outsH lo hi dg D 4=OP at *
 generalize hwB (lo:Int) (reachN u m hi bk) dg l=HW at *
 go_enter Tryz.func64,Tryz.ntmps64
 go_wp2_with fail
 refine(C1.out).mono ?_
 rintro e w1 ⟨rfl,hb1⟩
 go_upto_region 2 with fail
 obtain⟨b4,hb4⟩:∃z,w1.heap.size=z:=⟨_,rfl⟩
 obtain⟨w4,hw4⟩:∃z,w1.alloc (.cells #[.int .i64 lo,.int .i64 hi,.int .i64 dg] 32)=z:=⟨_,rfl⟩
 have K4:Hid (Blk w4 b4 32 #[.int .i64 lo,.int .i64 hi,.int .i64 dg]):=by rw[<-hw4,<-hb4];exact Lib.hid (Blk.new _ _ _)
 have b14:Below w1.heap.size w1 w4:=by rw[<-hw4];(repeat' (first|(with_reducible exact Below.refl _ _)|(with_reducible refine Below.alloc ?_ ?_ _)|(with_reducible refine Below.drew ?_)|(with_reducible refine below_drewN ?_ _)|(with_reducible refine Below.setCell ?_ ?_ _)|(with_reducible refine below_of (by assumption) ?_ ?_)|go_size))
 have B4:Below w.heap.size w w4:=hb1.trans (b14.mono hb1.size)
 rw[hw4,hb4]
 clear hw4 hb4 b14 k1
 have k1:=(HY.out.keep B4).cell 1
 simp only[List.getElem?_toArray,List.getElem?_cons_zero,List.getElem?_cons_succ] at k1
 go_wp2_with fail
 refine(C2.out w4 B4).mono ?_
 rintro e w' ⟨rfl,rfl⟩
 have j0:=K4.out.cell 0
 have j1:=K4.out.cell 1
 have j2:=K4.out.cell 2
 simp only[List.getElem?_toArray,List.getElem?_cons_zero,List.getElem?_cons_succ] at j0 j1 j2
 rcases HG.out with⟨rfl,rfl⟩|⟨rfl,rfl⟩
 all_goals
  obtain⟨e1,e2,e3⟩:=EU.out
  go_wp2_with fail
  refine(CP.out _ _ (RdI.list_at 53 .u64 w4 [(lo:Int),(hi:Int),(dg:Int),_] _ rfl 4 rfl (by simp) _ rfl)).mono ?_
  rintro e w7 ⟨v7,rfl,o7,hb7⟩
  have O7:=Lib.hid (ownB_E.1 o7)
  have hz4:∀o:Obj,w.heap.size<=(w4.alloc o).heap.size:=fun o=>Nat.le_trans B4.size (by simp)
  have B7:Below w.heap.size w w7:=(B4.alloc B4.size _).trans (hb7.mono (hz4 _))
  clear o7 e1 e2 e3 j0 j1 j2 k1
  have k1:=(HY.out.keep B7).cell 1
  simp only[List.getElem?_toArray,List.getElem?_cons_zero,List.getElem?_cons_succ] at k1
  go_wp2_with fail
  refine(C3.out w7 B7).mono ?_
  rintro e w8 ⟨v8,rfl,o8,hb8⟩
  have O8:=Lib.hid (ownB_E.1 o8)
  have O78:=Lib.hid (OwnE.keep O7.out hb8)
  have B8:Below w.heap.size w w8:=B7.trans (hb8.mono B7.size)
  have hop:OP.length+HW.length<=1099511627776:=by omega
  obtain⟨A7,c7,ev7,_,_,_⟩:=O78.out.form
  obtain⟨n7,hn7⟩:∃z,OP.length=z:=⟨_,rfl⟩
  rw[hn7] at ev7
  subst ev7
  have hz7:w4.heap.size+1<=w8.heap.size:=by have h1:=hb7.size;have h2:=hb8.size;rw[World.size_alloc] at h1;omega
  clear o8 k1 hn7
  go_wp2_with (at_builtin;refine apL tyB rfl (.tmp 42) (.tmp 43) rfl O78.out rfl _ HW rfl (O8.out.rd) hop (by rw[World.size_alloc];exact hz7) ?_;intro v9 w9 o9 g9 _;have O9:=Lib.hid (ownB_E.2 (o9.more (hz4 _)));have B9:Below w.heap.size w w9:=B8.grown g9 B8.size (fun k hk=>Nat.le_trans (hz4 _) (O78.out.lt k hk).1);clear o9 g9)
  go_ret
  exact⟨_,rfl,O9.out,B9⟩
open Go.RowKit Go.Lib Go.Shelf
open Go.RowKit Go.Lib Go.Shelf
open Go.RowKit Go.Lib Go.Shelf
section
variable {y lo hi dg u m bk : Nat} {gr : Bool} {l : List Pr} {F : Ft}
theorem rhd_check(v n:Int)(w:World)(h:RHdAt y lo hi dg u m gr bk l F w)(ok:HsOk lo hi dg u m gr bk l)(v0:-9223372036854775808<=v)(v1:v<=9223372036854775807)(n0:0<=n)(n1:n<18446744073709551616) :
 Calls Tryz.prog 268 #[.pointer (some ⟨y,0,none⟩),.int .i64 v,.int .u64 n] w fun e w'=>e=.returned (.int .i64 (hsE u m gr bk l v n))/\Below w.heap.size w w':=by
 have HE:Hid (hsE u m gr bk l v n=if n=0 then 4 else if v<0 then 5 else if gr=false/\(topN u m bk:Int)<v then 5 else if 4611686018427387904<tot l+n then 6 else 0):=Lib.hid rfl
 obtain⟨z,hB,hO,_⟩:=h
 have CT:Hid (∀w1,_):=Lib.hid (fun w1=>rtop_any u m bk w1 ok.sh.um ok.b0 ok.b1)
 have CS:Hid (∀w1,Below w.heap.size w w1->_):=Lib.hid (fun w1 hb=>rtot_any z l w1 ((hO.keep hb).rd) ok.pos (by have:=ok.sum;omega) (by have:=ok.len;omega))
 have HB:=Lib.hid hB
 have ht0:=tot_nonneg ok.pos
 have ht1:=ok.sum
 obtain⟨A,c,rfl,_,_,_⟩:=hO.form
 clear hB hO ok
 generalize topN u m bk=T at *
 generalize tot l=t at *
 have EW:Hid (IntKind.u64.wrap (4611686018427387904 - t)=4611686018427387904 - t):=Lib.hid (by rw[u64w];omega)
 rw[HE.out]
 by_cases hn:n=0
 ·subst hn
  rw[if_pos rfl]
  go_enter Tryz.func268,Tryz.ntmps268
  go_wp2_with fail
  go_ret
  exact⟨rfl,Below.refl _ _⟩
 rw[if_neg hn]
 have hn':(n == 0)=false:=by simp;omega
 have Bd:Below w.heap.size w w.drew:=(Below.refl _ _).drew
 by_cases hv:v<0
 ·rw[if_pos hv]
  go_enter Tryz.func268,Tryz.ntmps268
  go_upto_region 3 with fail
  refine wp_region_plan (Below w.heap.size w) [(0,true),(1,true),(2,true),(3,true),(4,true),(5,true),(6,true),(7,true),(8,true),(9,true),(10,true),(11,true),(12,true),(13,true),(14,true),(15,true),(16,true),(17,true),(18,true),(19,true),(20,true),(21,true),(22,true),(23,true),(24,true),(25,true)] (by kernel_rfl) (by kernel_rfl) (Bd) ?_
  iterate 3
   refine wpPlan_read (by rfl) (by rfl) (fun R hR=>?_)
   apply Exists.intro
   refine⟨fun w' hS'=>?_,?_⟩
   ·have hv':=hv
    go_simp
    exact⟨rfl,rfl⟩
   go_simp
   refine hR _ ?_
   clear hR R
  refine wpPlan_skip (by rfl) (by rfl) ?_
  try go_simp
  refine wpPlan_skip (by rfl) (by rfl) ?_
  try go_simp
  refine wpPlan_skip (by rfl) (by rfl) ?_
  try go_simp
  refine wpPlan_skip (by rfl) (by rfl) ?_
  try go_simp
  refine wpPlan_skip (by rfl) (by rfl) ?_
  try go_simp
  refine wpPlan_skip (by rfl) (by rfl) ?_
  try go_simp
  refine wpPlan_skip (by rfl) (by rfl) ?_
  try go_simp
  refine wpPlan_skip (by rfl) (by rfl) ?_
  try go_simp
  refine wpPlan_skip (by rfl) (by rfl) ?_
  try go_simp
  refine wpPlan_skip (by rfl) (by rfl) ?_
  try go_simp
  refine wpPlan_skip (by rfl) (by rfl) ?_
  try go_simp
  refine wpPlan_skip (by rfl) (by rfl) ?_
  try go_simp
  refine wpPlan_skip (by rfl) (by rfl) ?_
  try go_simp
  refine wpPlan_skip (by rfl) (by rfl) ?_
  try go_simp
  refine wpPlan_skip (by rfl) (by rfl) ?_
  try go_simp
  refine wpPlan_skip (by rfl) (by rfl) ?_
  try go_simp
  refine wpPlan_skip (by rfl) (by rfl) ?_
  try go_simp
  refine wpPlan_skip (by rfl) (by rfl) ?_
  try go_simp
  refine wpPlan_skip (by rfl) (by rfl) ?_
  try go_simp
  refine wpPlan_skip (by rfl) (by rfl) ?_
  try go_simp
  refine wpPlan_skip (by rfl) (by rfl) ?_
  try go_simp
  refine wpPlan_skip (by rfl) (by rfl) ?_
  try go_simp
  iterate 1
   refine wpPlan_read (by rfl) (by rfl) (fun R hR=>?_)
   apply Exists.intro
   refine⟨fun w' hS'=>?_,?_⟩
   ·have hv':=hv
    go_simp
    exact⟨rfl,rfl⟩
   go_simp
   refine hR _ ?_
   clear hR R
  refine wpPlan_nil ?_
  go_wp2_with fail
  go_ret
  exact⟨rfl,Bd⟩
 rw[if_neg hv]
 obtain⟨er,her⟩:∃er:Int,(if 4611686018427387904<t+n then(6:Int) else 0)=er:=⟨_,rfl⟩
 rw[her]
 have HR:=Lib.hid her
 clear her
 have HC:Hid (4611686018427387904<t+n<->4611686018427387904 - t<n):=Lib.hid (by omega)
 cases gr
 ·by_cases ht:(T:Int)<v
  ·rw[if_pos ⟨rfl,ht⟩]
   clear HC HR
   go_enter Tryz.func268,Tryz.ntmps268
   go_upto_region 3 with fail
   refine wp_region_plan (Below w.heap.size w) [(0,true),(1,true),(2,true),(3,true),(4,true),(5,true),(6,true),(7,true),(8,true),(9,true),(10,true),(11,true),(12,true),(13,true),(14,true),(15,true),(16,true),(17,true),(18,true),(19,true),(20,true),(21,true),(22,false),(23,true),(24,true),(25,true)] (by kernel_rfl) (by kernel_rfl) (Bd) ?_
   iterate 22
    refine wpPlan_read (by rfl) (by rfl) (fun R hR=>?_)
    apply Exists.intro
    refine⟨fun w' hS'=>?_,?_⟩
    ·have hv':=hv
     have ht':=ht
     have k3:=(HB.out.keep hS').cell 3
     have k4:=(HB.out.keep hS').cell 4
     have k5:=(HB.out.keep hS').cell 5
     have k6:=(HB.out.keep hS').cell 6
     simp only[List.getElem?_toArray,List.getElem?_cons_zero,List.getElem?_cons_succ] at k3 k4 k5 k6
     go_simp
     exact⟨rfl,rfl⟩
    go_simp
    refine hR _ ?_
    clear hR R
   refine wpPlan_do (by rfl) (by rfl) (fun K hK=>?_)
   go_simp
   refine(CT.out w.drew).mono ?_
   rintro e w3 ⟨rfl,rfl⟩
   refine hK _ _ (Bd) ?_
   clear hK K
   iterate 3
    refine wpPlan_read (by rfl) (by rfl) (fun R hR=>?_)
    apply Exists.intro
    refine⟨fun w' hS'=>?_,?_⟩
    ·have hv':=hv
     have ht':=ht
     have k3:=(HB.out.keep hS').cell 3
     have k4:=(HB.out.keep hS').cell 4
     have k5:=(HB.out.keep hS').cell 5
     have k6:=(HB.out.keep hS').cell 6
     simp only[List.getElem?_toArray,List.getElem?_cons_zero,List.getElem?_cons_succ] at k3 k4 k5 k6
     go_simp
     exact⟨rfl,rfl⟩
    go_simp
    refine hR _ ?_
    clear hR R
   refine wpPlan_nil ?_
   go_wp2_with fail
   go_ret
   exact⟨rfl,Bd⟩
  ·rw[if_neg (fun h=>ht h.2)]
   go_enter Tryz.func268,Tryz.ntmps268
   go_upto_region 3 with fail
   refine wp_region_plan (Below w.heap.size w) [(0,true),(1,true),(2,true),(3,true),(4,true),(5,true),(6,true),(7,true),(8,true),(9,true),(10,true),(11,true),(12,true),(13,true),(14,true),(15,true),(16,true),(17,true),(18,true),(19,true),(20,true),(21,true),(22,false),(23,true),(24,true),(25,true)] (by kernel_rfl) (by kernel_rfl) (Bd) ?_
   iterate 22
    refine wpPlan_read (by rfl) (by rfl) (fun R hR=>?_)
    apply Exists.intro
    refine⟨fun w' hS'=>?_,?_⟩
    ·have hv':=hv
     have ht':=ht
     have k3:=(HB.out.keep hS').cell 3
     have k4:=(HB.out.keep hS').cell 4
     have k5:=(HB.out.keep hS').cell 5
     have k6:=(HB.out.keep hS').cell 6
     simp only[List.getElem?_toArray,List.getElem?_cons_zero,List.getElem?_cons_succ] at k3 k4 k5 k6
     go_simp
     exact⟨rfl,rfl⟩
    go_simp
    refine hR _ ?_
    clear hR R
   refine wpPlan_do (by rfl) (by rfl) (fun K hK=>?_)
   go_simp
   refine(CT.out w.drew).mono ?_
   rintro e w3 ⟨rfl,rfl⟩
   refine hK _ _ (Bd) ?_
   clear hK K
   iterate 3
    refine wpPlan_read (by rfl) (by rfl) (fun R hR=>?_)
    apply Exists.intro
    refine⟨fun w' hS'=>?_,?_⟩
    ·have hv':=hv
     have ht':=ht
     have k3:=(HB.out.keep hS').cell 3
     have k4:=(HB.out.keep hS').cell 4
     have k5:=(HB.out.keep hS').cell 5
     have k6:=(HB.out.keep hS').cell 6
     simp only[List.getElem?_toArray,List.getElem?_cons_zero,List.getElem?_cons_succ] at k3 k4 k5 k6
     go_simp
     exact⟨rfl,rfl⟩
    go_simp
    refine hR _ ?_
    clear hR R
   refine wpPlan_nil ?_
   have k7:=(HB.out.keep Bd).cell 7
   simp only[List.getElem?_toArray,List.getElem?_cons_zero,List.getElem?_cons_succ] at k7
   go_wp2_with fail
   refine(CS.out w.drew Bd).mono ?_
   rintro e w3 ⟨rfl,rfl⟩
   have ew:=EW.out
   by_cases hc:4611686018427387904<t+n
   ·have hc':4611686018427387904 - t<n:=HC.out.1 hc
    obtain rfl:er=6:=by rw[<-HR.out,if_pos hc]
    clear HC HR hc
    go_wp2_with fail
    go_ret
    exact⟨rfl,Bd⟩
   ·have hc':¬4611686018427387904 - t<n:=fun h=>hc (HC.out.2 h)
    obtain rfl:er=0:=by rw[<-HR.out,if_neg hc]
    clear HC HR hc
    go_wp2_with fail
    go_ret
    exact⟨rfl,Bd⟩
 ·rw[if_neg (fun h=>by cases h.1)]
  go_enter Tryz.func268,Tryz.ntmps268
  go_upto_region 3 with fail
  refine wp_region_plan (Below w.heap.size w) [(0,true),(1,true),(2,true),(3,true),(4,true),(5,true),(6,true),(7,true),(8,true),(9,true),(10,true),(11,true),(12,true),(13,true),(14,true),(15,true),(16,true),(17,true),(18,true),(19,true),(20,true),(21,true),(22,true),(23,true),(24,true),(25,true)] (by kernel_rfl) (by kernel_rfl) (Bd) ?_
  iterate 9
   refine wpPlan_read (by rfl) (by rfl) (fun R hR=>?_)
   apply Exists.intro
   refine⟨fun w' hS'=>?_,?_⟩
   ·have hv':=hv
    have k5:=(HB.out.keep hS').cell 5
    simp only[List.getElem?_toArray,List.getElem?_cons_zero,List.getElem?_cons_succ] at k5
    go_simp
    exact⟨rfl,rfl⟩
   go_simp
   refine hR _ ?_
   clear hR R
  refine wpPlan_skip (by rfl) (by rfl) ?_
  try go_simp
  refine wpPlan_skip (by rfl) (by rfl) ?_
  try go_simp
  refine wpPlan_skip (by rfl) (by rfl) ?_
  try go_simp
  refine wpPlan_skip (by rfl) (by rfl) ?_
  try go_simp
  refine wpPlan_skip (by rfl) (by rfl) ?_
  try go_simp
  refine wpPlan_skip (by rfl) (by rfl) ?_
  try go_simp
  refine wpPlan_skip (by rfl) (by rfl) ?_
  try go_simp
  refine wpPlan_skip (by rfl) (by rfl) ?_
  try go_simp
  refine wpPlan_skip (by rfl) (by rfl) ?_
  try go_simp
  refine wpPlan_skip (by rfl) (by rfl) ?_
  try go_simp
  refine wpPlan_skip (by rfl) (by rfl) ?_
  try go_simp
  refine wpPlan_skip (by rfl) (by rfl) ?_
  try go_simp
  refine wpPlan_skip (by rfl) (by rfl) ?_
  try go_simp
  refine wpPlan_skip (by rfl) (by rfl) ?_
  try go_simp
  refine wpPlan_skip (by rfl) (by rfl) ?_
  try go_simp
  iterate 2
   refine wpPlan_read (by rfl) (by rfl) (fun R hR=>?_)
   apply Exists.intro
   refine⟨fun w' hS'=>?_,?_⟩
   ·have hv':=hv
    have k5:=(HB.out.keep hS').cell 5
    simp only[List.getElem?_toArray,List.getElem?_cons_zero,List.getElem?_cons_succ] at k5
    go_simp
    exact⟨rfl,rfl⟩
   go_simp
   refine hR _ ?_
   clear hR R
  refine wpPlan_nil ?_
  have k7:=(HB.out.keep Bd).cell 7
  simp only[List.getElem?_toArray,List.getElem?_cons_zero,List.getElem?_cons_succ] at k7
  go_wp2_with fail
  refine(CS.out w.drew Bd).mono ?_
  rintro e w3 ⟨rfl,rfl⟩
  have ew:=EW.out
  by_cases hc:4611686018427387904<t+n
  ·have hc':4611686018427387904 - t<n:=HC.out.1 hc
   obtain rfl:er=6:=by rw[<-HR.out,if_pos hc]
   clear HC HR hc
   go_wp2_with fail
   go_ret
   exact⟨rfl,Bd⟩
  ·have hc':¬4611686018427387904 - t<n:=fun h=>hc (HC.out.2 h)
   obtain rfl:er=0:=by rw[<-HR.out,if_neg hc]
   clear HC HR hc
   go_wp2_with fail
   go_ret
   exact⟨rfl,Bd⟩
theorem rhd_count(v:Nat)(n:Int)(w:World)(h:RHdAt y lo hi dg u m gr bk l F w)(ok:HsOk lo hi dg u m gr bk l)(hv:v<9223372036854775808)(n0:0<n)(hn:tot l+n<=4611686018427387904) :
 Calls Tryz.prog 269 #[.pointer (some ⟨y,0,none⟩),.int .i64 v,.int .u64 n] w fun e w'=>e=.returned (.tuple #[])/\RHdAt y lo hi dg u m gr (max bk (1+bkN u m v)) (putP (ixN u m v) n l) (Gr F w w') w'/\Touch F w w':=by
 obtain⟨z,hB,hO,hFy,hz,hF⟩:=h
 have CI:Hid (∀w1,_):=Lib.hid (fun w1=>rindex_any u m v w1 ok.sh.um ok.sh.mb.1 ok.sh.mb.2 hv)
 have CB:Hid (∀w1,_):=Lib.hid (fun w1=>rbucket_any u m v w1 ok.sh.um hv)
 have CP:Hid (∀w1,Below w.heap.size w w1->_):=Lib.hid (fun w1 hb=>rput13_any z (ixN u m v) n l w1 ((hO.keep hb).rd) ok.pos (by omega) (by omega) (by have:=ok.len;omega))
 have hbk:=ok.b1
 have HBK:=bk_max (u:=u) (m:=m) hv
 have hum:=ok.sh.um
 have hbv:bkN u m v<=63:=by omega
 have X:=Lib.hid (And.intro hB (And.intro hO (And.intro hFy (And.intro hz hF))))
 have hyl:=hB.lt
 obtain⟨A,c,rfl,_,_,_⟩:=hO.form
 clear hB hO hFy hz hF ok HBK hum
 generalize ixN u m v=I at *
 generalize bkN u m v=B at *
 have EB:Hid (IntKind.i64.wrap (1+(B:Int))=1+(B:Int)):=Lib.hid (by rw[IntKind.wrap_i64];omega)
 have HMX:Hid (max (bk:Int) (1+(B:Int))=((max bk (1+B):Nat):Int)):=Lib.hid (by omega)
 have Bd:Below w.heap.size w w.drew:=(Below.refl _ _).drew
 go_enter Tryz.func269,Tryz.ntmps269
 go_wp2_with fail
 refine wp_region_planT (Below w.heap.size w) 17 [(0,true),(1,true),(2,true),(3,true),(4,true),(5,true),(6,true),(7,true),(8,true),(9,true),(10,true),(11,true),(12,true),(13,true),(15,true),(14,false),(16,false)] (by kernel_rfl) (by kernel_rfl) (Bd) ?_
 iterate 15
  refine wpPlanT_read (by rfl) (by rfl) (fun R hR=>?_)
  apply Exists.intro
  refine⟨fun w' hS'=>?_,?_⟩
  ·have k3:=(X.out.1.keep hS').cell 3
   have k4:=(X.out.1.keep hS').cell 4
   have k7:=(X.out.1.keep hS').cell 7
   simp only[List.getElem?_toArray,List.getElem?_cons_zero,List.getElem?_cons_succ] at k3 k4 k7
   go_simp
   exact⟨rfl,rfl⟩
  go_simp
  refine hR _ ?_
  clear hR R
 refine wpPlanT_do (by rfl) (by rfl) (fun K hK=>?_)
 go_simp
 refine(CI.out w.drew).mono ?_
 rintro e w3 ⟨rfl,rfl⟩
 refine hK _ _ (Bd) ?_
 clear hK K
 refine wpPlanT_do (by rfl) (by rfl) (fun K hK=>?_)
 go_simp
 refine(CP.out w.drew Bd).mono ?_
 rintro e w3 ⟨v3,rfl,o3,hb3⟩
 have O3:=Lib.hid o3
 have B3:Below w.heap.size w w3:=Bd.trans hb3
 clear o3
 refine hK _ _ (B3) ?_
 clear hK K
 refine wpPlanT_nil ?_
 simp only[List.drop_succ_cons,List.drop_zero]
 have k7:=(X.out.1.keep B3).cell 7
 have f7:=(X.out.1.keep B3).frozen 7
 simp only[List.getElem?_toArray,List.getElem?_cons_zero,List.getElem?_cons_succ] at k7
 obtain⟨A3,c3,rfl,_,_,_⟩:=O3.out.form
 go_wp2_with fail
 refine calm_normal ?_
 obtain⟨w4,hw4⟩:∃x,w3.setCell ⟨y,7,none⟩ (.slice A3 (putP (I:Int) n l).length c3)=x:=⟨_,rfl⟩
 have Z4:Hid (Blk w4 y 163 #[.int .i64 lo,.int .i64 hi,.int .i64 dg,.int .i64 u,.int .i64 m,.bool gr,.int .i64 bk,.slice A3 (putP (I:Int) n l).length c3]/\OwnE prE w.heap.size w4 (.slice A3 (putP (I:Int) n l).length c3) (putP (I:Int) n l)/\Touch F w w4):=Lib.hid (by
  rw[<-hw4]
  exact⟨(X.out.1.keep B3).set_ 7 _,O3.out.far (own_ne (X.out.1.keep B3) O3.out (by decide)) _,(Touch.of_below B3 (Nat.le_refl _)).setCell (p:=⟨y,7,none⟩) (.inl X.out.2.2.1) _⟩)
 rw[hw4]
 clear hw4 k7 f7
 have B4d:Below w4.heap.size w4 w4.drew:=(Below.refl _ _).drew
 go_upto_region 1 with fail
 refine wp_region_planT (Below w4.heap.size w4) 17 [(0,true),(1,true),(2,true),(3,true),(4,true),(5,true),(6,true),(7,true),(8,true),(9,true),(10,true),(11,true),(12,true),(13,true),(14,false),(15,true),(16,true)] (by kernel_rfl) (by kernel_rfl) (B4d) ?_
 iterate 14
  refine wpPlanT_read (by rfl) (by rfl) (fun R hR=>?_)
  apply Exists.intro
  refine⟨fun w' hS'=>?_,?_⟩
  ·have k3:=(Z4.out.1.keep hS').cell 3
   have k4:=(Z4.out.1.keep hS').cell 4
   have k6:=(Z4.out.1.keep hS').cell 6
   simp only[List.getElem?_toArray,List.getElem?_cons_zero,List.getElem?_cons_succ] at k3 k4 k6
   have eb:=EB.out
   go_simp
   exact⟨rfl,rfl⟩
  go_simp
  refine hR _ ?_
  clear hR R
 refine wpPlanT_do (by rfl) (by rfl) (fun K hK=>?_)
 go_simp
 refine(CB.out w4.drew).mono ?_
 rintro e w5 ⟨rfl,rfl⟩
 refine hK _ _ (B4d) ?_
 clear hK K
 iterate 2
  refine wpPlanT_read (by rfl) (by rfl) (fun R hR=>?_)
  apply Exists.intro
  refine⟨fun w' hS'=>?_,?_⟩
  ·have k3:=(Z4.out.1.keep hS').cell 3
   have k4:=(Z4.out.1.keep hS').cell 4
   have k6:=(Z4.out.1.keep hS').cell 6
   simp only[List.getElem?_toArray,List.getElem?_cons_zero,List.getElem?_cons_succ] at k3 k4 k6
   have eb:=EB.out
   go_simp
   exact⟨rfl,rfl⟩
  go_simp
  refine hR _ ?_
  clear hR R
 refine wpPlanT_nil ?_
 simp only[List.drop_succ_cons,List.drop_zero]
 have k6:=(Z4.out.1.keep B4d).cell 6
 have f6:=(Z4.out.1.keep B4d).frozen 6
 simp only[List.getElem?_toArray,List.getElem?_cons_zero,List.getElem?_cons_succ] at k6
 go_wp2_with fail
 refine calm_normal ?_
 go_wp2_with fail
 refine bodyPost_end (v:=.tuple #[]) (by simp[results,Tryz.results269,go_sem, *];try rfl) rfl ?_
 rw[HMX.out]
 obtain⟨B4,O4,T4⟩:=Z4.out
 have T5:Touch F w ((w4.setCell ⟨y,6,none⟩ (.int .i64 ((max bk (1+B):Nat):Int))).drew):=(T4.setCell (p:=⟨y,6,none⟩) (.inl X.out.2.2.1) _).drew
 have O5:=O4.far (p:=⟨y,6,none⟩) (own_ne B4 O4 (by decide)) (.int .i64 ((max bk (1+B):Nat):Int))
 refine⟨rfl,⟨_,B4.set_ 6 _,O5.more (Nat.zero_le _),.inl X.out.2.2.1,fun k e=>.inr ⟨(O4.lt k e).1,?_⟩,gr_lt X.out.2.2.2.2 T5.size⟩,T5⟩
 have:=(O5.lt k e).2
 exact this
theorem rhd_record(v n:Int)(w:World)(h:RHdAt y lo hi dg u m gr bk l F w)(ok:HsOk lo hi dg u m gr bk l)(v0:-9223372036854775808<=v)(v1:v<=9223372036854775807)(n0:0<=n)(n1:n<18446744073709551616) :
 Calls Tryz.prog 174 #[.pointer (some ⟨y,0,none⟩),.int .i64 v,.int .u64 n] w (MutP (RHdAt y lo hi dg u m gr (hsB u m gr bk l v n) (hsL u m gr bk l v n)) F (hsE u m gr bk l v n) w):=by
 have HH:=Lib.hid h
 have C1:=Lib.hid (rhd_check v n w h ok v0 v1 n0 n1)
 have HEL:Hid (hsL u m gr bk l v n=if hsE u m gr bk l v n=0 then putP (ixN u m v.toNat) n l else l):=Lib.hid rfl
 have HEB:Hid (hsB u m gr bk l v n=if hsE u m gr bk l v n=0 then max bk (1+bkN u m v.toNat) else bk):=Lib.hid rfl
 rw[HEL.out,HEB.out]
 by_cases he:hsE u m gr bk l v n=0
 ·have hz:0<n/\0<=v/\tot l+n<=4611686018427387904:=by
   unfold hsE at he
   (repeat' split at he)<;>omega
  obtain⟨z,rfl⟩:=Int.eq_ofNat_of_zero_le hz.2.1
  have C2:Hid (∀w1,Below w.heap.size w w1->_):=Lib.hid (fun w1 hb=>rhd_count (y:=y) z n w1 ((rhd_stay y lo hi dg u m gr bk l).keep h hb) ok (by omega) hz.1 hz.2.2)
  rw[if_pos he,if_pos he]
  rw[he] at C1 |-
  simp only[Int.toNat_natCast]
  have hF:=(rhd_stay y lo hi dg u m gr bk l).low h
  clear HEL HEB he hz h ok
  go_enter Tryz.func174,Tryz.ntmps174
  go_wp2_with fail
  refine(C1.out).mono ?_
  rintro e w1 ⟨rfl,hb1⟩
  go_wp2_with fail
  refine(C2.out w1 hb1).mono ?_
  rintro e w2 ⟨rfl,h2,t2⟩
  go_wp2_with fail
  go_ret
  refine⟨rfl,?_,btl hb1 t2⟩
  refine(rhd_stay y lo hi dg u m gr _ _).more h2 (fun k hk=>?_) (gr_lt hF (btl hb1 t2).size)
  rcases hk with hk|⟨a,b⟩
  ·exact .inl hk
  ·exact .inr ⟨Nat.le_trans hb1.size a,b⟩
 ·rw[if_neg he,if_neg he]
  have hd:(hsE u m gr bk l v n == 0)=false:=by simpa using he
  clear HEL HEB h ok
  generalize hsE u m gr bk l v n=er at *
  go_enter Tryz.func174,Tryz.ntmps174
  go_wp2_with fail
  refine(C1.out).mono ?_
  rintro e w1 ⟨rfl,hb1⟩
  go_wp2_with fail
  go_ret
  exact mut_same (rhd_stay y lo hi dg u m gr bk l) HH.out rfl hb1
end
open Go.RowKit Go.Lib Go.Shelf
end Go.Proofs.YtkiebccnpheloaaGreat.D
