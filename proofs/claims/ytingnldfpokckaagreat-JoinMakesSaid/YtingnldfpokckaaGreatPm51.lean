/- Parts of a proof: what its theorem reaches, words cut short. No condition of its own. -/
import Derived.Test.YtingnldfpokckaaGreatPm50
set_option maxRecDepth 100000
set_option maxHeartbeats 16000000
set_option linter.unusedVariables false
set_option linter.unusedSimpArgs false
namespace Go.Proofs.YtingnldfpokckaaGreat.D
open Go.RowKit Go.Lib
theorem seal_len(b:List Int):(seal4 b).length=b.length+4:=by unfold seal4;rw[List.length_append,leN_len]
theorem seal_at{b:List Int}{j:Nat}(h:j<4)(h':b.length+j<(seal4 b).length):(seal4 b)[b.length+j]=crC b / 2 ^ (8 * j) % 256:=by
 have h1:(seal4 b)[b.length+j]?=some (crC b / 2 ^ (8 * j) % 256):=by
  unfold seal4
  rw[List.getElem?_append_right (by omega),Nat.add_sub_cancel_left]
  exact leN_at _ h
 rw[List.getElem?_eq_getElem h'] at h1
 exact Option.some.inj h1
theorem fits_own(g:Nat)(v:Value)(b:List Int)(w:World)(h:CrB 256 w g)(hr:RdI .u8 w v (seal4 b))(hl:b.length<=1000000000) :
 Calls Tryz.prog 193 #[.pointer (some ⟨g,0,none⟩),v] w fun e w'=>e=.returned (.bool true)/\w=w':=by
 have hsl:=seal_len b
 obtain⟨A,c,rfl,hc1,hc2,hf⟩:=hr.form
 obtain⟨gb,ob,rfl,hgb,e0⟩:=hf.at_ (j:=b.length+0) (by omega)
 obtain⟨_,_,q1,_,e1⟩:=hf.at_ (j:=b.length+1) (by omega)
 obtain⟨_,_,q2,_,e2⟩:=hf.at_ (j:=b.length+2) (by omega)
 obtain⟨_,_,q3,_,e3⟩:=hf.at_ (j:=b.length+3) (by omega)
 simp only[Option.some.injEq,Addr.mk.injEq,and_true] at q1 q2 q3
 obtain⟨rfl,rfl⟩:=q1
 obtain⟨rfl,rfl⟩:=q2
 obtain⟨rfl,rfl⟩:=q3
 rw[seal_at (by omega)] at e0 e1 e2 e3
 have hr2:RdI .u8 w (.slice (some ⟨gb,ob,none⟩) b.length b.length) b:=by
  obtain⟨A',c',e,_,_,hf2⟩:=(rdB_E.1 hr).form
  injection e with e1 e2 e3
  subst e1
  have h4:=RdE.of_form (c:=b.length) (by rw[List.length_take];omega) (by omega) (hf2.take b.length)
  have h5:(seal4 b).take b.length=b:=by unfold seal4;exact List.take_left ..
  rw[h5] at h4
  exact rdB_E.2 h4
 have CS:=Lib.hid (csum_any g _ b w h hr2 (by omega))
 obtain⟨s,hs⟩:∃s,crC b=s:=⟨_,rfl⟩
 rw[hs] at e0 e1 e2 e3 CS
 rw[hsl] at hc1 |-
 clear hr hr2 h hf hs hsl
 simp only[Nat.mul_zero,Nat.mul_one,Int.pow_zero,Int.ediv_one,Nat.add_zero] at e0 e1 e2 e3
 have E1:s / 2 ^ 8 % 256=s / 256 % 256:=rfl
 have E2:s / 2 ^ (8 * 2) % 256=s / 65536 % 256:=rfl
 have E3:s / 2 ^ (8 * 3) % 256=s / 16777216 % 256:=rfl
 rw[E1] at e1
 rw[E2] at e2
 rw[E3] at e3
 have w0:IntKind.u8.wrap s=s % 256:=rfl
 have w1:IntKind.u8.wrap (s / 256)=s / 256 % 256:=rfl
 have w2:IntKind.u8.wrap (s / 65536)=s / 65536 % 256:=rfl
 have w3:IntKind.u8.wrap (s / 16777216)=s / 16777216 % 256:=rfl
 have hn:IntKind.i64.wrap ((b.length:Int)+4 - 4)=b.length:=by rw[IntKind.wrap_i64];omega
 have k1:IntKind.i64.wrap ((b.length:Int)+1)=b.length+1:=by rw[IntKind.wrap_i64];omega
 have k2:IntKind.i64.wrap ((b.length:Int)+2)=b.length+2:=by rw[IntKind.wrap_i64];omega
 have k3:IntKind.i64.wrap ((b.length:Int)+3)=b.length+3:=by rw[IntKind.wrap_i64];omega
 clear E1 E2 E3
 go_enter Tryz.func193,Tryz.ntmps193
 go_upto_region 4 with fail
 have hq1:(0:Int)<=(b.length:Int):=by omega
 have hq2:(b.length:Int)<=(c:Int):=by omega
 go_wp2_with fail
 refine(CS.out).mono ?_
 rintro e w' ⟨rfl,rfl⟩
 have l0:(b.length:Int)<(b.length:Int)+4:=by omega
 have l1:(b.length:Int)+1<(b.length:Int)+4:=by omega
 have l2:(b.length:Int)+2<(b.length:Int)+4:=by omega
 have l3:(b.length:Int)+3<(b.length:Int)+4:=by omega
 have p1:(0:Int)<=(b.length:Int)+1:=by omega
 have p2:(0:Int)<=(b.length:Int)+2:=by omega
 have p3:(0:Int)<=(b.length:Int)+3:=by omega
 have t1:((b.length:Int)+1).toNat=b.length+1:=by omega
 have t2:((b.length:Int)+2).toNat=b.length+2:=by omega
 have t3:((b.length:Int)+3).toNat=b.length+3:=by omega
 go_wp2_with fail
 go_ret
 exact⟨rfl,rfl⟩
theorem again_own{x r:Nat}{k:Int}{v:Value}{t:List Int}(w:World)(hB:LtAt w x r 2 k false v)(hv:RdI .u8 w v t)(k0:1<=k)(k1:k<=4)(ht:t.length<=1048576) :
 Calls Tryz.prog 198 #[.pointer (some ⟨x,0,none⟩)] w fun e w'=>∃u,e=.returned (.tuple #[u,.int .i64 0])/\OwnE bE w.heap.size w' u (envB k t)/\Below w.heap.size w w':=by
 have Bd:Below w.heap.size w w.drew:=(Below.refl _ _).drew
 have CN:=Lib.hid (enew_any k v t w.drew (hv.keep Bd) k0 k1 ht)
 have lx:=Blk.lt hB
 have c1:=Blk.cell hB 1
 have c2:=Blk.cell hB 2
 have c3:=Blk.cell hB 3
 have c4:=Blk.cell hB 4
 simp only[List.getElem?_toArray,List.getElem?_cons_succ,List.getElem?_cons_zero] at c1 c2 c3 c4
 obtain⟨A,c,rfl,_,_,_⟩:=hv.form
 have C2:=Lib.hid c2
 have C3:=Lib.hid c3
 have C4:=Lib.hid c4
 clear hB hv c2 c3 c4
 go_enter Tryz.func198,Tryz.ntmps198
 go_upto_region 3 with fail
 have FBq:=Lib.hid (fun w' (hS':(Below w.heap.size w) w')=>(And.intro ((hS'.cell (p:=⟨x,2,none⟩) lx).trans C2.out) (And.intro ((hS'.cell (p:=⟨x,3,none⟩) lx).trans C3.out) ((hS'.cell (p:=⟨x,4,none⟩) lx).trans C4.out))))
 refine wp_region_plan (Below w.heap.size w) [(0,true),(1,true),(2,true),(3,true),(4,true),(5,true),(6,true),(7,true),(8,true),(9,true),(10,true),(11,true),(12,false),(13,true),(14,true),(15,true),(16,true)] (by kernel_rfl) (by kernel_rfl) (Bd) ?_
 iterate 12
  refine wpPlan_read (by rfl) (by rfl) (fun R hR=>?_)
  apply Exists.intro
  refine⟨fun w' hS'=>?_,?_⟩
  ·obtain⟨c2,c3,c4⟩:=FBq.out w' hS'
   go_simp
   exact⟨rfl,rfl⟩
  go_simp
  refine hR _ ?_
  clear hR R
 refine wpPlan_do (by rfl) (by rfl) (fun K hK=>?_)
 go_simp
 refine(CN.out).mono ?_
 rintro e w1 ⟨u,rfl,o1,hb1⟩
 have O1:=Lib.hid o1
 have hb2:Below w.heap.size w w1:=Bd.trans hb1
 clear o1
 refine hK _ _ (hb2) ?_
 clear hK K
 iterate 4
  refine wpPlan_read (by rfl) (by rfl) (fun R hR=>?_)
  apply Exists.intro
  refine⟨fun w' hS'=>?_,?_⟩
  ·obtain⟨c2,c3,c4⟩:=FBq.out w' hS'
   go_simp
   exact⟨rfl,rfl⟩
  go_simp
  refine hR _ ?_
  clear hR R
 refine wpPlan_nil ?_
 go_wp2_with fail
 go_ret2
 exact⟨_,rfl,O1.out,hb2⟩
theorem ecaught_idle(h2 h3:Nat)(w:World) :
 CallsD Tryz.prog 190 #[.pointer (some ⟨h2,0,none⟩),.pointer (some ⟨h3,0,none⟩)] .returning w fun e u' w'=>e=.returned (.tuple #[])/\u'=.returning/\w'=w:=by
 refine callsD_of_wpS Tryz.func190 rfl fun c₀ cs hu=>?_
 apply wpS_seq
 apply wpS_region
 simp[wpOpsS,go_sem,recoverD,hu,Tryz.ntmps190,Exit.thenS]
 refine wpS_of_wp ?_
 go_wp2
 cases c₀
 simp_all[bodyPostS,results,Tryz.results190]
theorem edoor_back(h2 h3:Nat)(w:World)(R:Ending->World->Prop)(tmps:Array Value)(t2:tmps[4]?=some (.pointer (some ⟨h2,0,none⟩)))(t3:tmps[5]?=some (.pointer (some ⟨h3,0,none⟩)))
 (x2:Value) (c2:w.cell? ⟨h2,0,none⟩=some x2) (c3:w.cell? ⟨h3,0,none⟩=some (.int .i64 0)) (hR:R (.returned (.tuple #[x2,.int .i64 0])) w) :
 Leaves Tryz.prog Tryz.f110 tmps R [{target:=.fn (.func 190) #[.pointer (some ⟨h2,0,none⟩),.pointer (some ⟨h3,0,none⟩)],args:=#[]}] .returning w:=by
 refine leaves_cons (f:=190) (args:=#[.pointer (some ⟨h2,0,none⟩),.pointer (some ⟨h3,0,none⟩)]) (by simp) (by simp[go_sem]) ?_
 refine(ecaught_idle h2 h3 w).mono ?_
 rintro e u' w'' ⟨rfl,rfl,rfl⟩
 refine⟨.tuple #[x2,.int .i64 0],?_,hR⟩
 simp[results,Tryz.results110,go_sem,t2,t3,c2,c3]
theorem RdrAt.apart{w:World}{g a:Nat}{bs:List Int}{p:Addr}{T:TypeId}{cs:Array Value}(h:RdrAt w g bs a)(hp:g≠p.block)(hB:Blk w p.block T cs)(hT:T≠5)(u:Value):RdrAt (w.setCell p u) g bs a:=by
 obtain⟨v,b1,b2,b3⟩:=h
 exact⟨v,b1.far hp _,OwnB.far b2 (fun e=>(Blk.notB hB b2 hT) e) _,b3⟩
theorem eopen_own(k lim:Int)(v:Value)(t:List Int)(w:World)(hv:RdI .u8 w v (envB k t))(hby:byL (envB k t))(hk0:1<=k)(hk1:k<=4)(ht0:0<t.length)(ht1:t.length<=1000000)(hl0:(t.length:Int)<=lim)(hl1:lim<=1048576) :
 Calls Tryz.prog 110 #[v,.int .i64 lim] w fun e w'=>∃x r u,e=.returned (.tuple #[.pointer (some ⟨x,0,none⟩),.int .i64 0])/\LtAt w' x r 2 k false u/\OwnE bE w.heap.size w' u t/\Below w.heap.size w w':=by
 have hlen:=env_len k t
 have hlb:=leb_len (t.length:Int)
 have HV:=Lib.hid hv
 have HBY:=Lib.hid hby
 have EL:=Lib.hid hlen
 obtain⟨A,c,rfl,_,_,_⟩:=hv.form
 clear hv hby hlen
 go_enter_defers Tryz.func110,Tryz.ntmps110
 go_upto_region 2 with fail
 obtain⟨w1,hw1⟩:∃w1,w1=(w.alloc (.cells #[.pointer none] 175)).alloc (.cells #[.int .i64 0] 28):=⟨_,rfl⟩
 have hb1:Below w.heap.size w w1:=by rw[hw1];exact((Below.refl _ _).alloc (Nat.le_refl _) _).alloc (by simp) _
 have B2:Hid (Blk w1 w.heap.size 175 #[.pointer none]):=by show Blk _ _ _ _;rw[hw1];exact(Blk.new _ _ _).alloc _
 have B3:Hid (Blk w1 (w.heap.size+1) 28 #[.int .i64 0]):=by
  show Blk _ _ _ _;rw[hw1]
  have h:=Blk.new (w.alloc (.cells #[.pointer none] 175)) 28 #[.int .i64 0]
  rwa [World.size_alloc] at h
 obtain⟨h2,hh2⟩:∃h2,w.heap.size=h2:=⟨_,rfl⟩
 have HH2:=Lib.hid hh2
 rw[<-hw1]
 rw[hh2] at B2 B3 |-
 clear hw1 hh2
 have hlim:(0:Int)<=lim:=by omega
 go_wp2_with fail
 refine(cnew_any w1).mono ?_
 rintro e w2 ⟨g,rfl,hc,_,hb2⟩
 have Hb2:=Lib.hid (hb1.trans (hb2.mono hb1.size))
 have CF:=Lib.hid (fits_own g _ (envH k t) w2 hc (HV.out.keep Hb2.out) (by have:=seal_len (envH k t);have:(envB k t).length=_:=this;have:=EL.out;omega))
 have D2:=Lib.hid (B2.out.keep hb2)
 have D3:=Lib.hid (B3.out.keep hb2)
 clear hc hb1 hb2 B2 B3
 go_wp2_with fail
 refine(CF.out).mono ?_
 rintro e w' ⟨rfl,rfl⟩
 go_wp2_with fail
 refine(eneed_any _).mono ?_
 rintro e w' ⟨rfl,rfl⟩
 have hmin:min lim 1048576=lim:=by omega
 have CW:=Lib.hid (rnew_any _ _ w2 (HV.out.keep Hb2.out) (by have:=EL.out;omega))
 go_wp2_with fail
 refine(CW.out).mono ?_
 rintro e w3 ⟨r,rfl,hr2,hR3,hb3⟩
 have Hb3:=Lib.hid (Hb2.out.trans (hb3.mono Hb2.out.size))
 have d3:=D3.out.lt
 have E2:=Lib.hid (D2.out.keep hb3)
 have E3:=Lib.hid (D3.out.keep hb3)
 have HR3:=Lib.hid hR3
 have lr:=hR3.lt
 have l2:=E2.out.lt
 have l3:=E3.out.lt
 have lz:=Hb3.out.size
 have lz2:=Hb2.out.size
 have hh:=HH2.out
 clear hR3 hb3 D2 D3 CW
 obtain⟨x,hx⟩:∃x,w3.heap.size=x:=⟨_,rfl⟩
 obtain⟨w4,hw4⟩:∃q,w3.alloc (.cells #[.pointer (some ⟨r,0,none⟩),.int .i64 0,.int .u8 0,.bool false,.slice none 0 0] 180)=q:=⟨_,rfl⟩
 have hb4:Below w3.heap.size w3 w4:=by rw[<-hw4];(repeat' (first|(with_reducible exact Below.refl _ _)|(with_reducible refine Below.alloc ?_ ?_ _)|(with_reducible refine Below.drew ?_)|(with_reducible refine below_drewN ?_ _)|(with_reducible refine Below.setCell ?_ ?_ _)|(with_reducible refine below_of (by assumption) ?_ ?_)|go_size))
 have hz4:w4.heap.size=x+1:=by rw[<-hw4,<-hx,World.size_alloc]
 have L4:LtAt w4 x r 0 0 false (.slice none 0 0):=by rw[<-hw4,<-hx];exact Blk.new _ _ _
 have F2:=E2.out.keep hb4
 have F3:=Lib.hid (E3.out.keep hb4)
 have HR4:=Lib.hid (HR3.out.keep hb4)
 have f0:=F2.frozen 0
 have c0:=F2.cell 0
 simp only[List.getElem?_toArray,List.getElem?_cons_zero] at c0
 have Hb4:=Lib.hid (Hb3.out.trans (hb4.mono Hb3.out.size))
 have HX:=Lib.hid hx
 have HL4:=Lib.hid L4
 have HF2:=Lib.hid F2
 clear hb4 L4 F2 E2 E3 HR3
 go_upto_region 5 with fail
 obtain⟨w5,hw5⟩:∃q,w4.setCell ⟨h2,0,none⟩ (.pointer (some ⟨x,0,none⟩))=q:=⟨_,rfl⟩
 have G2:Hid (Blk w5 h2 175 #[.pointer (some ⟨x,0,none⟩)]):=Lib.hid (by rw[<-hw5];exact HF2.out.set_ 0 _)
 have G3:Hid (Blk w5 (h2+1) 28 #[.int .i64 0]):=Lib.hid (by rw[<-hw5];exact F3.out.far (by show h2+1≠h2;omega) _)
 have L5:Hid (LtAt w5 x r 0 0 false (.slice none 0 0)):=Lib.hid (by rw[<-hw5];exact Blk.far HL4.out (by show x≠h2;omega) _)
 have R5:Hid (RdrAt w5 r (envB k t) 0):=Lib.hid (by rw[<-hw5];exact RdrAt.apart HR4.out (by show r≠h2;omega) HF2.out (by decide) _)
 have Hb5:Hid (Below w.heap.size w w5):=Lib.hid (by rw[<-hw5];exact Hb4.out.setCell (by show _<=h2;omega) _)
 have hz5:w5.heap.size=x+1:=by rw[<-hw5,World.size_setCell];exact hz4
 rw[hw5]
 clear hw5 hw4 f0 c0 HF2 F3 HL4 HR4 Hb4
 go_upto_region 6 with fail
 obtain⟨w6,hw6⟩:∃q,w5.alloc (.cells #[.func (.func 195) #[] #[],.func (.func 196) #[] #[]] 286)=q:=⟨_,rfl⟩
 have Y6:Hid (Blk w6 (x+1) 286 #[.func (.func 195) #[] #[],.func (.func 196) #[] #[]]):=Lib.hid (by rw[<-hw6,<-hz5];exact Blk.new _ _ _)
 have hb6:Below w5.heap.size w5 w6:=by rw[<-hw6];(repeat' (first|(with_reducible exact Below.refl _ _)|(with_reducible refine Below.alloc ?_ ?_ _)|(with_reducible refine Below.drew ?_)|(with_reducible refine below_drewN ?_ _)|(with_reducible refine Below.setCell ?_ ?_ _)|(with_reducible refine below_of (by assumption) ?_ ?_)|go_size))
 have hz6:w6.heap.size=x+2:=by rw[<-hw6,World.size_alloc,hz5]
 have g2:=G2.out.keep hb6
 have G26:=Lib.hid g2
 have G36:=Lib.hid (G3.out.keep hb6)
 have l6:=Blk.keep L5.out hb6
 have L6:Hid (LtAt w6 x r 0 0 false (.slice none 0 0)):=Lib.hid l6
 have R6:=Lib.hid (R5.out.keep hb6)
 have Hb6:=Lib.hid (Hb5.out.trans (hb6.mono Hb5.out.size))
 have c0:=g2.cell 0
 have x0:=l6.cell 0
 simp only[List.getElem?_toArray,List.getElem?_cons_zero] at c0 x0
 have CT:=Lib.hid (rtext_own (n:=3) w6 R6.out (by have:=EL.out;omega) (by have:=EL.out;omega) (by omega))
 have e3:((envB k t).drop 0).take 3=[81,83,2]:=by rw[env_form];rfl
 rw[e3] at CT
 try rw[hw6]
 clear hw6 hb6 g2 l6 G2 G3 L5 R5 Hb5 e3
 go_wp2_with fail
 refine(CT.out).mono ?_
 rintro e w7 ⟨u7,rfl,o7,R7,t7⟩
 have T7:=Lib.hid t7
 have HR7:=Lib.hid R7
 have hxr:x≠r:=by have:=HX.out;omega
 have L7:=Lib.hid (L6.out.touch t7 hxr)
 have G27:Hid (Blk w7 h2 175 #[.pointer (some ⟨x,0,none⟩)]):=Lib.hid ((t7.block h2 G26.out.lt (by show h2≠r;omega)).trans G26.out)
 have G37:Hid (Blk w7 (h2+1) 28 #[.int .i64 0]):=Lib.hid ((t7.block (h2+1) G36.out.lt (by show h2+1≠r;omega)).trans G36.out)
 have Y7:Hid (Blk w7 (x+1) 286 #[.func (.func 195) #[] #[],.func (.func 196) #[] #[]]):=Lib.hid ((t7.block (x+1) Y6.out.lt (by show x+1≠r;have:=HX.out;omega)).trans Y6.out)
 have Hb7:Hid (Below w.heap.size w w7):=Lib.hid (Hb6.out.trans (t7.below (fun j hj=>by rw[show j=r from hj];omega) Hb6.out.size))
 obtain⟨g7,c7,rfl,_,hg7,_,_⟩:=o7.pos (by simp)
 have k0:w7.cell? ⟨g7,0,none⟩=some (.int .u8 81):=o7.cellAt (j:=0) (by simp) 0 (by decide)
 have k1:w7.cell? ⟨g7,1,none⟩=some (.int .u8 83):=o7.cellAt (j:=1) (by simp) 0 (by decide)
 have k2:w7.cell? ⟨g7,2,none⟩=some (.int .u8 2):=o7.cellAt (j:=2) (by simp) 0 (by decide)
 have K2:=Lib.hid k2
 clear t7 R7 o7 c0 x0
 go_wp2_with fail
 refine(eneed_any _).mono ?_
 rintro e w' ⟨rfl,rfl⟩
 go_upto_region 8 with fail
 have c0:Hid (w7.cell? ⟨h2,0,none⟩=some (.pointer (some ⟨x,0,none⟩))):=Lib.hid (G27.out.cell 0)
 refine wp_region_planT (fun w'=>w'=w7.drew) 7 [(0,true),(1,true),(2,true),(3,true),(4,true),(5,true),(6,true)] (by kernel_rfl) (by kernel_rfl) (rfl) ?_
 iterate 7
  refine wpPlanT_read (by rfl) (by rfl) (fun R hR=>?_)
  apply Exists.intro
  refine⟨fun w' hS'=>?_,?_⟩
  ·subst hS'
   have c0':w7.drew.cell? ⟨h2,0,none⟩=_:=c0.out
   have k2':w7.drew.cell? ⟨g7,2,none⟩=_:=K2.out
   go_simp
   exact⟨rfl,rfl⟩
  go_simp
  refine hR _ ?_
  clear hR R
 refine wpPlanT_nil ?_
 simp only[List.drop_succ_cons,List.drop_zero]
 have v1:w7.drew.frozen? ⟨x,1,none⟩=false:=Blk.frozen L7.out 1
 have v2:w7.drew.cell? ⟨x,1,none⟩=some (.int .i64 0):=Blk.cell L7.out 1
 go_wp2_with fail
 refine calm_normal ?_
 clear v1 v2 k0 k1 k2
 have L8:Hid (LtAt (w7.setCell ⟨x,1,none⟩ (.int .i64 2)).drew x r 2 0 false (.slice none 0 0)):=Lib.hid L7.out.vers
 have R8:Hid (RdrAt (w7.setCell ⟨x,1,none⟩ (.int .i64 2)).drew r (envB k t) (0+3)):=Lib.hid (RdrAt.apart (p:=⟨x,1,none⟩) HR7.out (fun e=>hxr e.symm) L7.out (by decide) _)
 have hx2:h2≠x:=by have:=HX.out;omega
 have hx3:h2+1≠x:=by have:=HX.out;omega
 have G28:Hid (Blk (w7.setCell ⟨x,1,none⟩ (.int .i64 2)).drew h2 175 #[.pointer (some ⟨x,0,none⟩)]):=Lib.hid (G27.out.far (p:=⟨x,1,none⟩) hx2 _)
 have G38:Hid (Blk (w7.setCell ⟨x,1,none⟩ (.int .i64 2)).drew (h2+1) 28 #[.int .i64 0]):=Lib.hid (G37.out.far (p:=⟨x,1,none⟩) hx3 _)
 have Y8:Hid (Blk (w7.setCell ⟨x,1,none⟩ (.int .i64 2)).drew (x+1) 286 #[.func (.func 195) #[] #[],.func (.func 196) #[] #[]]):=Lib.hid (Y7.out.far (p:=⟨x,1,none⟩) (by show x+1≠x;omega) _)
 have Hb8:Hid (Below w.heap.size w (w7.setCell ⟨x,1,none⟩ (.int .i64 2)).drew):=Lib.hid (Hb7.out.setCell (by show _<=x;have:=HX.out;omega) _).drew
 obtain⟨w8,hw8⟩:∃q,(w7.setCell ⟨x,1,none⟩ (.int .i64 2)).drew=q:=⟨_,rfl⟩
 rw[hw8] at L8 R8 G28 G38 Y8 Hb8
 try rw[hw8]
 have lx8:=Blk.lt L8.out
 have d0:Hid (w8.cell? ⟨h2,0,none⟩=some (.pointer (some ⟨x,0,none⟩))):=Lib.hid (G28.out.cell 0)
 have d1:Hid (w8.cell? ⟨x,1,none⟩=some (.int .i64 2)):=Lib.hid (Blk.cell L8.out 1)
 have d2:Hid (w8.cell? ⟨x+1,1,none⟩=some (.func (.func 196) #[] #[])):=Lib.hid (Y8.out.cell 1)
 have Bd8:Below w8.heap.size w8 w8.drew:=(Below.refl _ _).drew
 have CN:=Lib.hid (enew_own w8.drew (L8.out.drew) (R8.out.keep Bd8) HBY.out hxr (by omega) (by omega) ht0 ht1 hl0 hl1)
 clear hw8 L7 G27 G37 Y7 HR7 T7 K2 c0
 have eg:=enters_of Tryz.func196 (by kernel_rfl) rfl
 go_upto_region 9 with fail
 refine wp_region_planT (fun w'=>w'=w8.drew) 9 [(0,true),(1,true),(2,true),(3,true),(4,true),(5,true),(6,true),(7,true),(8,true)] (by kernel_rfl) (by kernel_rfl) (rfl) ?_
 iterate 9
  refine wpPlanT_read (by rfl) (by rfl) (fun R hR=>?_)
  apply Exists.intro
  refine⟨fun w' hS'=>?_,?_⟩
  ·subst hS'
   have d0':w8.drew.cell? ⟨h2,0,none⟩=_:=d0.out
   have d1':w8.drew.cell? ⟨x,1,none⟩=_:=d1.out
   have d2':w8.drew.cell? ⟨x+1,1,none⟩=_:=d2.out
   have e1:IntKind.i64.wrap 1=1:=rfl
   go_simp
   exact⟨rfl,rfl⟩
  go_simp
  refine hR _ ?_
  clear hR R
 refine wpPlanT_nil ?_
 simp only[List.drop_succ_cons,List.drop_zero]
 go_wp2_with fail
 refine(CN.out).mono ?_
 rintro e w9 ⟨rfl,u,l9,o9,t9⟩
 have T9:Hid (Touch (fun j=>j=x\/j=r) w8 w9):=Lib.hid (((Touch.refl _ w8).drew).trans t9 (fun _ h=>.inl h))
 have L9:=Lib.hid l9
 have O9:=Lib.hid o9
 have hnx:¬(h2=x\/h2=r):=by have:=HX.out;omega
 have hnx3:¬(h2+1=x\/h2+1=r):=by have:=HX.out;omega
 have g9:=(T9.out.block h2 G28.out.lt hnx).trans G28.out
 have G29:Hid (Blk w9 h2 175 #[.pointer (some ⟨x,0,none⟩)]):=Lib.hid g9
 have G39:Hid (Blk w9 (h2+1) 28 #[.int .i64 0]):=Lib.hid ((T9.out.block (h2+1) G38.out.lt hnx3).trans G38.out)
 have Hb9:Hid (Below w.heap.size w w9):=Lib.hid (Hb8.out.trans (T9.out.below (fun j hj=>by have:=HX.out;omega) Hb8.out.size))
 have CA:=Lib.hid (again_own w9 l9 (rdB_E.2 o9.rd) hk0 hk1 (by omega))
 have c0:w9.cell? ⟨h2,0,none⟩=some (.pointer (some ⟨x,0,none⟩)):=Blk.cell g9 0
 clear l9 o9 t9 CN g9 L8 R8 G28 G38 Y8 d0 d1 d2
 go_wp2_with fail
 refine calm_normal ?_
 go_wp2_with fail
 refine(CA.out).mono ?_
 rintro e w10 ⟨u10,rfl,o10,hb10⟩
 have Hb10:=Lib.hid (Hb9.out.trans (hb10.mono Hb9.out.size))
 have L10:Hid (LtAt w10 x r 2 k false u):=Lib.hid (Blk.keep L9.out hb10)
 have O10:=Lib.hid (O9.out.keep hb10)
 have g10:=G29.out.keep hb10
 have g310:=G39.out.keep hb10
 have G310:=Lib.hid g310
 have G210:=Lib.hid g10
 have CE:=Lib.hid (equal_any u10 _ _ _ w10 (rdB_E.2 o10.rd) (HV.out.keep Hb10.out) (by have:=EL.out;omega) (by have:=EL.out;omega))
 have hz8:=Hb8.out.size
 have hz9:=T9.out.size
 have hu10:∃A c,u10=.slice A (envB k t).length c:=by obtain⟨A',c',e,_⟩:=o10.form;exact⟨_,_,e⟩
 clear o10 hb10 CA c0 G29 G39 L9 O9
 obtain⟨A10,c10,rfl⟩:=hu10
 go_wp2_with fail
 refine(CE.out).mono ?_
 rintro e w11 ⟨rfl,hb11⟩
 have Hb11:=Lib.hid (Hb10.out.trans (hb11.mono Hb10.out.size))
 have L11:Hid (LtAt w11 x r 2 k false u):=Lib.hid (Blk.keep L10.out hb11)
 have O11:=Lib.hid (O10.out.keep hb11)
 have V2:=G210.out.keep hb11
 have V3:=G310.out.keep hb11
 have HV2:=Lib.hid V2
 have HV3:=Lib.hid V3
 have a0:=V2.cell 0
 have a1:=V2.frozen 0
 have b0:=V3.cell 0
 have b1:=V3.frozen 0
 simp only[List.getElem?_toArray,List.getElem?_cons_zero] at a0 b0
 clear hb11 V2 V3 CE G210 G310 L10 O10
 go_wp2_with fail
 refine(eneed_any _).mono ?_
 rintro e w' ⟨rfl,rfl⟩
 go_wp2_with fail
 refine(show Leaves Tryz.prog Tryz.f110 _ _ _ .returning _ from ?_)
 have hne:h2≠h2+1:=by omega
 have hO:∀q,u.ownBlock=some q->w8.heap.size<=q:=fun q e=>(O11.out.lt q e).1
 have hl8:h2+1<w8.heap.size:=by have:=HX.out;omega
 obtain⟨w15,hw15⟩:∃z,(w11.setCell ⟨h2,0,none⟩ (.pointer (some ⟨x,0,none⟩))).setCell ⟨h2+1,0,none⟩ (.int .i64 0)=z:=⟨_,rfl⟩
 have V2:Blk w15 h2 175 #[.pointer (some ⟨x,0,none⟩)]:=by rw[<-hw15];exact(HV2.out.set_ 0 _).far hne _
 have V3:Blk w15 (h2+1) 28 #[.int .i64 0]:=by rw[<-hw15];exact(HV3.out.far (p:=⟨h2,0,none⟩) (by simp) _).set_ 0 _
 have L15:LtAt w15 x r 2 k false u:=by rw[<-hw15];exact(Blk.far L11.out (p:=⟨h2,0,none⟩) (by show x≠h2;have:=HX.out;omega) _).far (by show x≠h2+1;have:=HX.out;omega) _
 have O15:OwnE bE w8.heap.size w15 u t:=by rw[<-hw15];exact(O11.out.far (p:=⟨h2,0,none⟩) (fun e=>by have:=hO _ e;have h:w8.heap.size<=h2:=this;omega) _).far (fun e=>by have:=hO _ e;have h:w8.heap.size<=h2+1:=this;omega) _
 have Hb15:Below w.heap.size w w15:=by rw[<-hw15];exact(Hb11.out.setCell (by show _<=h2;omega) _).setCell (by show _<=h2+1;omega) _
 rw[hw15]
 exact edoor_back h2 (h2+1) _ _ _ rfl rfl _ (V2.cell 0) (V3.cell 0) ⟨x,r,u,rfl,L15,OwnE.more O15 hz8,Hb15⟩
open Go.RowKit Go.Lib
theorem eOpen_own(k lim:Int)(v:Value)(t:List Int)(w:World)(hv:RdI .u8 w v (envB k t))(hby:byL (envB k t))(hk0:1<=k)(hk1:k<=4)(ht0:0<t.length)(ht1:t.length<=1000000)(hl0:(t.length:Int)<=lim)(hl1:lim<=1048576) :
 Calls Tryz.prog 48 #[v,.int .i64 lim] w fun e w'=>∃u,e=.returned (.tuple #[.int .u8 k,u,.int .i64 0])/\OwnE bE w.heap.size w' u t/\Below w.heap.size w w':=by
 have C:=Lib.hid (eopen_own k lim v t w hv hby hk0 hk1 ht0 ht1 hl0 hl1)
 clear hv hby
 go_enter Tryz.func48,Tryz.ntmps48
 go_wp2_with fail
 refine(C.out).mono ?_
 rintro e w1 ⟨x,r,u,rfl,hL,ho,hb⟩
 have O:=Lib.hid ho
 have HB:=Lib.hid hb
 have c2:=Lib.hid (Blk.cell hL 2)
 have c4:=Lib.hid (Blk.cell hL 4)
 clear hL ho hb C
 go_upto_region 4 with fail
 refine wp_region_plan (fun w'=>w'=w1.drew) [(0,true),(1,true),(2,true),(3,true),(4,true),(5,true),(6,true),(7,true),(8,true),(9,true),(10,true)] (by kernel_rfl) (by kernel_rfl) (rfl) ?_
 iterate 11
  refine wpPlan_read (by rfl) (by rfl) (fun R hR=>?_)
  apply Exists.intro
  refine⟨fun w' hS'=>?_,?_⟩
  ·subst hS'
   have c2':w1.drew.cell? ⟨x,2,none⟩=some (.int .u8 k):=c2.out
   have c4':w1.drew.cell? ⟨x,4,none⟩=some u:=c4.out
   go_simp
   exact⟨rfl,rfl⟩
  go_simp
  refine hR _ ?_
  clear hR R
 refine wpPlan_nil ?_
 go_wp2_with fail
 refine bodyPost_ret (by simp[results,Tryz.results48,go_sem, *];try rfl) rfl ?_
 exact⟨_,rfl,O.out,HB.out.drew⟩
def Spk.kdN:Spk->Nat
 | .h ..=>1
 | .d ..=>2
 | .t ..=>3
 | .k ..=>4
theorem five_kd(sp:Spk)(p:Nat):(sp.five p)[0]?=some (.int .u8 sp.kdN):=by cases sp<;>rfl
theorem kdN_bd(sp:Spk):1<=(sp.kdN:Int)/\(sp.kdN:Int)<=4:=by cases sp<;>simp[Spk.kdN]
theorem js_wrap2{sp:Spk}{c:Js}{x:Nat}{F:Ft}(w:World)(h:JsAt sp c x F w)(ok:JsOk sp c)(hl:(jtxt sp c).length<=1000000) :
 Calls Tryz.prog 17 #[.pointer (some ⟨x,0,none⟩),.int .i64 2] w fun e w'=>∃v,e=.returned (.tuple #[v,.int .i64 0])/\OwnE bE w.heap.size w' v (envB sp.kdN (jtxt sp c))/\Below w.heap.size w w':=by
 have Bd:Below w.heap.size w w.drew:=(Below.refl _ _).drew
 have CT:=Lib.hid (js_text w.drew ((js_stay sp c x).keep h Bd) ok)
 obtain⟨p,G,hB,_⟩:=h
 have c0:=hB.cell 0
 rw[five_kd] at c0
 have lx:=hB.lt
 have C0:=Lib.hid c0
 obtain⟨k0,k1⟩:=kdN_bd sp
 have CN:Hid (∀u W,RdI .u8 W u (jtxt sp c)->_):=Lib.hid (fun u W hu=>enew_any sp.kdN u (jtxt sp c) W hu k0 k1 (by omega))
 generalize jtxt sp c=tx at *
 generalize ((sp.kdN:Nat):Int)=kd at *
 clear hB c0 ok
 go_enter Tryz.func17,Tryz.ntmps17
 go_upto_region 6 with fail
 refine wp_region_plan (Below w.heap.size w) [(0,true),(1,true),(2,true),(3,true),(4,true),(6,true),(7,true),(5,false),(8,false),(9,true),(10,true),(11,true),(12,true)] (by kernel_rfl) (by kernel_rfl) (Bd) ?_
 iterate 7
  refine wpPlan_read (by rfl) (by rfl) (fun R hR=>?_)
  apply Exists.intro
  refine⟨fun w' hS'=>?_,?_⟩
  ·have c0:=(hS'.cell (p:=⟨x,0,none⟩) lx).trans C0.out
   go_simp
   exact⟨rfl,rfl⟩
  go_simp
  refine hR _ ?_
  clear hR R
 refine wpPlan_do (by rfl) (by rfl) (fun K hK=>?_)
 go_simp
 refine(CT.out).mono ?_
 rintro e w1 ⟨u,rfl,o1,hb1⟩
 have B1:Below w.heap.size w w1:=Bd.trans hb1
 have C1:=Lib.hid (CN.out u w1 (OwnI.rd o1))
 clear o1
 refine hK _ _ (B1) ?_
 clear hK K
 refine wpPlan_do (by rfl) (by rfl) (fun K hK=>?_)
 go_simp
 refine(C1.out).mono ?_
 rintro e w2 ⟨v2,rfl,o2,hb2⟩
 have B2:Below w.heap.size w w2:=B1.trans (hb2.mono B1.size)
 have O2:=Lib.hid (OwnE.more o2 B1.size)
 clear o2
 refine hK _ _ (B2) ?_
 clear hK K
 iterate 4
  refine wpPlan_read (by rfl) (by rfl) (fun R hR=>?_)
  apply Exists.intro
  refine⟨fun w' hS'=>?_,?_⟩
  ·have c0:=(hS'.cell (p:=⟨x,0,none⟩) lx).trans C0.out
   go_simp
   exact⟨rfl,rfl⟩
  go_simp
  refine hR _ ?_
  clear hR R
 refine wpPlan_nil ?_
 go_wp2_with fail
 go_ret2
 exact⟨_,rfl,O2.out,B2⟩
theorem js_open2{sp:Spk}{c:Js}(lim:Int)(v:Value)(w:World)(hv:RdI .u8 w v (envB sp.kdN (jtxt sp c)))(hby:byL (envB sp.kdN (jtxt sp c)))(ht0:0<(jtxt sp c).length)(ht1:(jtxt sp c).length<=1000000)(hl0:((jtxt sp c).length:Int)<=lim)(hl1:lim<=1048576)
 (hr:∀(u:Value) (W:World),RdI .u8 W u (jtxt sp c)->Calls Tryz.prog 49 #[.int .u8 sp.kdN,u] W fun e w'=>∃x,e=.returned (.tuple #[.pointer (some ⟨x,0,none⟩),.int .i64 0])/\JsAt sp c x (Gr (fun _=>False) W w') w'/\Below W.heap.size W w') :
 Calls Tryz.prog 18 #[v,.int .i64 lim] w fun e w'=>∃x,e=.returned (.tuple #[.pointer (some ⟨x,0,none⟩),.int .i64 0])/\JsAt sp c x (Gr (fun _=>False) w w') w'/\Below w.heap.size w w':=by
 obtain⟨k0,k1⟩:=kdN_bd sp
 have C:=Lib.hid (eOpen_own sp.kdN lim v _ w hv hby k0 k1 ht0 ht1 hl0 hl1)
 have HR:=Lib.hid hr
 clear hv hby hr
 go_enter Tryz.func18,Tryz.ntmps18
 go_wp2_with fail
 refine(C.out).mono ?_
 rintro e w1 ⟨u,rfl,o1,hb1⟩
 have CR:=Lib.hid (HR.out u w1 (rdB_E.2 o1.rd))
 clear o1 C
 go_wp2_with fail
 refine(CR.out).mono ?_
 rintro e w2 ⟨x,rfl,h2,hb2⟩
 have H2:=Lib.hid ((js_stay sp c x).more h2 (G:=Gr (fun _=>False) w w2) (fun k hk=>hk.imp id (fun h=>⟨Nat.le_trans hb1.size h.1,h.2⟩)) (fun k hk=>hk.elim False.elim And.right))
 have HB:=Lib.hid (hb1.trans (hb2.mono hb1.size))
 clear h2
 go_wp2_with fail
 go_ret2
 exact⟨_,rfl,H2.out,HB.out⟩
end Go.Proofs.YtingnldfpokckaaGreat.D
