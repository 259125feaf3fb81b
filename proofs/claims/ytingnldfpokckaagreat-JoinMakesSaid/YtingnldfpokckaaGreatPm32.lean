/- Parts of a proof: what its theorem reaches, words cut short. No condition of its own. -/
import Derived.Test.YtingnldfpokckaaGreatPm29
import Derived.Test.YtingnldfpokckaaGreatPm31
set_option maxRecDepth 100000
set_option maxHeartbeats 16000000
set_option linter.unusedVariables false
set_option linter.unusedSimpArgs false
namespace Go.Proofs.YtingnldfpokckaaGreat.D
open Go.RowKit Go.Lib Go.Shelf Go.Maps
section
variable {x lo hi dg u m bk : Nat} {gr : Bool} {l : List Pr} {F : Ft}
theorem pairs_cell{b:Nat}(w:World)(k3:w.cell? ⟨x,3,none⟩=some (.map (some b)))(hC:CtAt w b l)(ok:HsOk lo hi dg u m gr bk l):Calls Tryz.prog 69 #[.pointer (some ⟨x,0,none⟩)] w fun e w'=>∃v,e=.returned v/\OwnE prE w.heap.size w' v l/\Below w.heap.size w w':=by
 obtain⟨D,hown,hD⟩:=hC
 have hbl:=hown.lt
 have OK:=Lib.hid ok
 have LD:=Lib.hid hD
 have hlen:=ok.len
 have CS:Hid (∀(v:Value) (out:List Pr) (w1:World) (base:Nat),OwnE prE base w1 v out->out.Perm l->_):=Lib.hid (fun v out w1 base h hp=>sortP_own v base out l w1 h ok.srt ok.pos hp ok.kb (by omega))
 clear ok hD
 obtain⟨r,hr⟩:∃r,w.heap.size=r:=⟨_,rfl⟩
 go_enter Tryz.func69,Tryz.ntmps69
 go_wp2_with (at_range;refine wpList_range_own _ rfl _ 122 rfl 3 41 keyI mapU _ b _ D rfl hown ?_;intro w0 hrg0 hg0 hs0)
 go_frame
 rw[hr] at hrg0 hs0 |-
 have hb0:Below w.heap.size w w0:=(Below.refl _ _).grown hg0 (Nat.le_refl _) (fun j hj=>by cases hj)
 have hN0:OwnE prE (r+1) w0 (.slice none 0 0) []:=OwnE.nil_ _ _
 go_loopg [3] (Maps.size D) (fun q s wr=>∃(left:Lit->Bool) (out:List Pr),wr.ranges Tryz.prog 3 (plainElem (H:=Unit) Tryz.prog 41) b r l.length D left q/\Hid (RgI l out left)/\Hid (OwnE prE (r+1) wr s out)/\Below w.heap.size w wr/\r+1<=wr.heap.size)
 case atStart=>exact⟨_,[],hrg0,Lib.hid (rg_start LD.out),Lib.hid hN0,hb0,by omega⟩
 case round=>
  obtain⟨left,out,hrg,HR,HO,hb,hz⟩:=hrel
  obtain⟨A5,c5,rfl,_,_,_⟩:=HO.out.form
  go_wp2_with (at_next;refine wpList_next_ranges_ii _ rfl _ rfl 3 41 .i64 .u64 keyI intU u64U b r _ _ _ _ rfl hrg ?_ ?_)
  ·intro hc0 hl0
   have HP:=Lib.hid (rg_end HR.out hl0)
   go_wp2_with fail
   refine(CS.out _ _ _ _ HO.out HP.out).mono ?_
   rintro e w2 ⟨rfl,o2,t2⟩
   go_wp2_with fail
   go_ret
   refine⟨_,rfl,o2.more (by omega),?_⟩
   exact hb.trans (t2.below (fun k hk=>by have:=(HO.out.lt k hk).1;omega) hb.size)
  ·intro z c w1 cnt1 hwx hwc hlx hat hrg1 hlt hg1 hs1 hen
   have hin:=Lib.hid (rg_in LD.out OK.out.srt hat)
   have HR1:=Lib.hid (rg_step OK.out.srt HR.out hlx hin.out)
   have hol:=rg_len HR.out
   have O1:=Lib.hid (HO.out.grown hg1 (.inr (fun e=>by have:=(HO.out.lt r e).1;omega)))
   have hb1:Below w.heap.size w w1:=hb.grown hg1 hb.size (fun j hj=>by cases hj;omega)
   have hz1:r+1<=w1.heap.size:=by omega
   have hne:∀k,k<=r->(Value.slice A5 out.length c5).ownBlock≠some k:=fun k hk e=>by have:=(HO.out.lt k e).1;omega
   have hO1:=O1.out
   clear hat hlx hg1 hs1
   go_wp2_with (at_builtin;refine apL tyPr rfl (.tmp 16) (.tmp 20) rfl (O1.out.alloc _) rfl _ [(z,c)] rfl (RdE.one_at (E:=prE) _ (z,c) _ rfl _ rfl _ (by simp)) (by simp;omega) (by go_size) ?_;intro v6 w6 o6 g6 _;have HB6:Hid (Below w.heap.size w w6):=Lib.hid ((hb1.alloc hb1.size _).grown g6 (by simp;have:=hb1.size;omega) (fun k hk=>by have:=(O1.out.lt k hk).1;omega));have O6:=Lib.hid o6;have R6:=Lib.hid ((hrg1.alloc _).kept g6 (fun e=>hne b (by omega) e.symm) (fun e=>hne r (Nat.le_refl _) e.symm));have hz6:=g6.size;clear o6 g6)
   go_roundg cnt1
   case measure=>exact hlt
   case rel=>exact⟨_,out++[(z,c)],R6.out,HR1,O6,HB6.out,by simp at hz6;omega⟩
theorem hs_pairs(w:World)(h:HsAt x lo hi dg u m gr bk l F w)(ok:HsOk lo hi dg u m gr bk l):Calls Tryz.prog 69 #[.pointer (some ⟨x,0,none⟩)] w fun e w'=>∃v,e=.returned v/\OwnE prE w.heap.size w' v l/\Below w.heap.size w w':=by
 obtain⟨g,b,hB,hM,hC,_⟩:=h
 have k3:=hB.cell 3
 simp only[List.getElem?_toArray,List.getElem?_cons_zero,List.getElem?_cons_succ] at k3
 exact pairs_cell w k3 hC ok
end
end Go.Proofs.YtingnldfpokckaaGreat.D
namespace Go.Proofs.YtingnldfpokckaaGreat
open Go.RowKit
end Go.Proofs.YtingnldfpokckaaGreat
namespace Go.Proofs.YtingnldfpokckaaGreat.D
open Go.RowKit Go.Lib
open Go.RowKit Go.Lib
theorem GotO.first{w w1:World}{g:Nat}{bs:List Int}{a:Nat}{v:Value}{e:Ending}{w':World}(hb:Below w.heap.size w w1)(h:GotO w1 g bs a v e w'):GotO w g bs a v e w':=⟨h.1,h.2.1,btl hb h.2.2⟩
theorem nextk_own(k K:Nat)(c sz:Int)(g:Nat)(bs:List Int)(a b:Nat)(n:Int)(w:World)(h:RdrAt w g bs a)(hv:FL k c sz)(hK:fGet k=K)
 (eg:∀args w,(callFunc K args).run Tryz.prog w=.ok (.enter K args) w)
 (hf:∀w,RdrAt w g bs a->Calls Tryz.prog K #[.pointer (some ⟨g,0,none⟩),.int .i64 sz] w (GotO w g bs b (.tuple #[.int .u64 n,.int .i64 0]))) :
 Calls Tryz.prog 208 #[.pointer (some ⟨g,0,none⟩),.int .u8 c] w (GotO w g bs b (.tuple #[.int .u64 n,.int .i64 0])):=by
 have H:=Lib.hid h
 have HF:=Lib.hid hf
 have FO:Hid (Calls Tryz.prog 200 #[.int .u8 c] w fun e w'=>e=.returned (.tuple #[.agg #[.int .u8 c,.int .i64 sz,.func (.func (fPut k)) #[] #[],.func (.func K) #[] #[]],.bool true])/\Below w.heap.size w w'):=by
  rw[<-hK];exact Lib.hid (formOfk_any k c sz w hv)
 clear h hf hK hv
 go_enter Tryz.func208,Tryz.ntmps208
 go_wp2_with fail
 refine(FO.out).mono ?_
 rintro e w1 ⟨rfl,hb1⟩
 have hz1:=hb1.size
 have hb2:∀cs,Below w.heap.size w (w1.alloc (.cells cs 295)):=fun cs=>by(repeat' (first|(with_reducible exact Below.refl _ _)|(with_reducible refine Below.alloc ?_ ?_ _)|(with_reducible refine Below.drew ?_)|(with_reducible refine below_drewN ?_ _)|(with_reducible refine Below.setCell ?_ ?_ _)|(with_reducible refine below_of (by assumption) ?_ ?_)|go_size))
 go_wp2_with (go_at_fn K;refine(HF.out _ (H.out.keep (hb2 _))).mono ?_)
 rintro e w2 hg
 have HG:=Lib.hid (GotO.first (hb2 _) hg)
 obtain⟨rfl,_,_⟩:=hg
 go_wp2_with fail
 go_ret2
 exact HG.out
section
variable {g a : Nat} {bs r : List Int} {n : Int} {w : World}
theorem nextb_own(w:World)(h:RdrAt w g bs a)(hlen:bs.length<=1000000000000)(hd:bs.drop a=n::r)(n0:0<=n)(n1:n<256) :
 Calls Tryz.prog 208 #[.pointer (some ⟨g,0,none⟩),.int .u8 98] w (GotO w g bs (a+1) (.tuple #[.int .u64 n,.int .i64 0])):=
 nextk_own 0 353 98 1 g bs a (a+1) n w h fl_b rfl (fun _ _=>rfl) (fun w h=>rlow1_own w h hlen hd n0 n1)
end
open Go.RowKit Go.Lib
theorem wlow1_any(g base:Nat)(n:Int)(bs:List Int)(w:World)(h:Wr 291 base w g bs)(n0:0<=n)(n1:n<256)(hl:bs.length<=1000000000000) :
 Calls Tryz.prog 352 #[.pointer (some ⟨g,0,none⟩),.int .u64 n,.int .i64 1] w fun e w'=>e=.returned (.tuple #[])/\Wr 291 base w' g (bs++[n])/\Below base w w':=by
 have H:=Lib.hid h
 have hlt:=h.lt
 clear h
 have eb:IntKind.u8.wrap n=n:=by rw[show IntKind.u8.wrap n=n % 256 from rfl];omega
 have EB:=Lib.hid eb
 clear eb
 go_enter Tryz.func352,Tryz.ntmps352
 go_wp2_with fail
 go_loopg [8] 1 (fun q i wr=>∃j:Nat,q=1 - j/\j<=1/\i=.int .i64 j/\Hid (Wr 291 base wr g (bs++[n].take j))/\Below base w wr)
 case atStart=>exact⟨0,rfl,by omega,rfl,by rw[List.take_zero,List.append_nil];exact H,Below.refl _ _⟩
 case round=>
  obtain⟨j,hq,hj,rfl,hw,hb⟩:=hrel
  have HQ:=Lib.hid hq
  have hz:=hb.size
  clear hq
  by_cases hlj:j<1
  ·obtain rfl:j=0:=by omega
   rw[List.take_zero,List.append_nil] at hw
   obtain⟨hbg,v,hB,hO⟩:=hw.out
   have HB:=Lib.hid hB
   have HO:=Lib.hid hO
   have hlen:bs.length+1<=1099511627776:=by omega
   clear hB hO
   have Bd:Blk wr.drew g 291 #[v]:=HB.out.drew
   obtain⟨A0,k0,hv0,_,_,_⟩:=(OwnI.rd HO.out).form
   obtain⟨N0,hN0⟩:∃N,bs.length=N:=⟨_,rfl⟩
   rw[hN0] at hv0
   subst hv0
   have HN0:=Lib.hid hN0
   clear hN0
   have HBa:Hid (Blk (wr.alloc (.cells #[.int .u8 n] 5)).drew g 291 #[.slice A0 N0 k0]):=Lib.hid (HB.out.alloc _).drew
   have HOa:Hid (OwnE bE base (wr.alloc (.cells #[.int .u8 n] 5)).drew (.slice A0 N0 k0) bs):=Lib.hid (OwnE.alloc (ownB_E.1 HO.out) _).drew
   have hba:Below base w (wr.alloc (.cells #[.int .u8 n] 5)).drew:=(hb.alloc (by omega) _).drew
   have eb:=EB.out
   have e0:IntKind.i64.wrap 0=0:=rfl
   go_upto_region 3 with fail
   refine wp_region_planT (fun w'=>Blk w' g 291 #[.slice A0 N0 k0]) 12 [(0,true),(1,true),(2,true),(3,true),(4,true),(5,true),(6,true),(7,true),(8,true),(9,true),(10,false),(11,false)] (by kernel_rfl) (by kernel_rfl) (Bd) ?_
   iterate 10
    refine wpPlanT_read (by rfl) (by rfl) (fun R hR=>?_)
    apply Exists.intro
    refine⟨fun w' hS'=>?_,?_⟩
    ·have c0:=Blk.cell hS' 0
     simp only[List.getElem?_toArray,List.getElem?_cons_zero] at c0
     have e0':=e0
     go_simp
     exact⟨rfl,rfl⟩
    go_simp
    refine hR _ ?_
    clear hR R
   refine wpPlanT_do (by rfl) (by rfl) (fun K hK=>?_)
   go_simp
   refine hK _ _ (Bd.alloc _) ?_
   clear hK K
   refine wpPlanT_do (by rfl) (by rfl) (fun K hK=>?_)
   refine apW tyB (.tmp 15) (.tmp 21) rfl HOa.out rfl _ [n] rfl (OwnE.one (E:=bE) wr.drew n _ rfl _ rfl).rd hlen (by go_size) ?_
   intro v1 w1 o1 g1 _
   have B1:=blk_grown HBa.out HOa.out (by decide) g1
   have hb1:Below base w w1:=hba.grown g1 (by have:=hba.size;omega) (fun k hk=>(OwnE.lt HOa.out k hk).1)
   have P1:=Lib.hid (put_back (i:=0) HBa.out HOa.out (by decide) g1 o1)
   obtain⟨A1,c1,ev1,_,_,_⟩:=o1.form
   obtain⟨N1,hN1⟩:∃N,(bs++[n]).length=N:=⟨_,rfl⟩
   rw[hN1] at ev1
   subst ev1
   clear hN1 o1 g1
   refine hK _ _ (B1) ?_
   clear hK K
   refine wpPlanT_nil ?_
   simp only[List.drop_succ_cons,List.drop_zero]
   have c0:=B1.cell 0
   have f0:=B1.frozen 0
   simp only[List.getElem?_toArray,List.getElem?_cons_zero] at c0
   go_wp2_with fail
   refine calm_normal ?_
   go_wp2_with fail
   go_roundg 0
   case measure=>have:=HQ.out;omega
   case rel=>exact⟨1,rfl,by omega,by go_num,Lib.hid ⟨hbg,_,P1.out.1,ownB_E.2 P1.out.2⟩,hb1.setCell (by omega) _⟩
  ·obtain rfl:j=1:=by omega
   have hw9:=hw
   go_wp2_with fail
   refine bodyPost_end (v:=.tuple #[]) (by simp[results,Tryz.results352,go_sem, *];try rfl) rfl ?_
   exact⟨rfl,hw9.out,hb⟩
theorem wnine_any(g base:Nat)(v s:Int)(bs:List Int)(w:World)(h:Wr 291 base w g bs)(h0:-9223372036854775808<=v)(h1:v<=9223372036854775807)(hl:bs.length<=1000000000000) :
 Calls Tryz.prog 360 #[.pointer (some ⟨g,0,none⟩),.int .u64 (ub v),.int .i64 s] w fun e w'=>e=.returned (.tuple #[])/\Wr 291 base w' g (bs++nn v)/\Below base w w':=by
 have H:=Lib.hid h
 have hlt:=h.lt
 have ew:=wrap_ub h0 h1
 have sb:=sgn_bd h0 h1
 have CS:=Lib.hid (sign_any v w h0 h1)
 clear h
 have HZ:Hid (nn v=lebF 8 (sgn v)):=Lib.hid rfl
 rw[HZ.out]
 generalize sgn v=z at *
 generalize ub v=u at *
 go_enter Tryz.func360,Tryz.ntmps360
 go_wp2_with fail
 refine(CS.out).mono ?_
 rintro e w' ⟨rfl,rfl⟩
 have EWH:=Lib.hid ew
 clear ew
 go_wp2_with fail
 go_loopg [1,9] 8 (fun k x i wr=>∃(m:Int) (acc:List Int) (j:Nat),k+j=8/\i=.int .i64 j/\x=.int .u64 m/\0<=m/\m<256 * 128 ^ k/\acc.length<=8 - k/\Hid (acc++lebF k m=lebF 8 z)/\Hid (Wr 291 base wr g (bs++acc))/\Below base w wr)
 case atStart=>exact⟨z,[],0,by omega,rfl,rfl,sb.1,by omega,by simp,Lib.hid rfl,by rw[List.append_nil];exact H,Below.refl _ _⟩
 case round=>
  obtain⟨m,acc,j,hkj,rfl,rfl,m0,m1,ha,he,hw,hb⟩:=hrel
  obtain⟨hbg,v1,hB,hO⟩:=hw.out
  have HB:=Lib.hid hB
  have HO:=Lib.hid hO
  have c0:=hB.cell 0
  have f0:=hB.frozen 0
  have hlg:=hB.lt
  have hz:=hb.size
  simp only[List.getElem?_toArray,List.getElem?_cons_zero] at c0
  have hlen:(bs++acc).length+1<=1099511627776:=by rw[List.length_append];omega
  obtain⟨A0,k0,hv0,_,_,_⟩:=(OwnI.rd HO.out).form
  obtain⟨N0,hN0⟩:∃N,(bs++acc).length=N:=⟨_,rfl⟩
  rw[hN0] at hv0
  subst hv0
  have HOE:=Lib.hid (ownB_E.1 HO.out)
  clear hB hO hN0
  have HEND:Hid (∀(y:Int) (v2:Value) (w2:World),OwnE bE base w2 v2 (bs++acc++[y])->(wr.alloc (.cells #[.int .u8 y] 5)).grownBy w2 (Value.slice A0 N0 k0).ownBlock->Blk w2 g 291 #[.slice A0 N0 k0]/\Wr 291 base (w2.setCell ⟨g,0,none⟩ v2) g (bs++acc++[y])/\Below base w w2):=Lib.hid (fun y v2 w2 o2 g2=>by
   have P:=put_back (i:=0) (HB.out.alloc _) (HOE.out.alloc _) (by decide) g2 o2
   exact⟨blk_grown (HB.out.alloc _) (HOE.out.alloc _) (by decide) g2,⟨hbg,_,P.1,ownB_E.2 P.2⟩,(hb.alloc (by omega) _).grown g2 (by simp only[World.size_alloc];omega) (fun k hk=>(HOE.out.lt k hk).1)⟩)
  by_cases hk:gk=0
  ·subst hk
   obtain rfl:j=8:=by omega
   have hm8:m % 256=m:=by simp at m1;omega
   have EB:IntKind.u8.wrap m=m:=hm8
   go_wp2_with (at_builtin;refine apL tyB rfl (.tmp 43) (.tmp 46) rfl (HOE.out.alloc _) rfl _ [m] rfl (RdE.one_at (E:=bE) _ m _ rfl _ rfl _ (by simp)) hlen (by go_size) ?_;intro v2 w2 o2 g2 _;obtain⟨A2,c2,ev2,_,_,_⟩:=o2.form;obtain⟨N2,hN2⟩:∃N,(bs++acc++[m]).length=N:=⟨_,rfl⟩;rw[hN2] at ev2;subst ev2;clear hN2;obtain⟨B2,W2,hb2⟩:=HEND.out m _ w2 o2 g2;have W2:=Lib.hid W2;have c0:=B2.cell 0;have f0:=B2.frozen 0;simp only[List.getElem?_toArray,List.getElem?_cons_zero] at c0;clear o2 g2)
   refine bodyPost_end (v:=.tuple #[]) (by simp[results,Tryz.results360,go_sem, *];try rfl) rfl ?_
   exact⟨rfl,by rw[<-he.out,<-List.append_assoc];exact W2.out,hb2.setCell (by omega) _⟩
  ·obtain⟨q,rfl⟩:∃q,gk=q+1:=⟨gk - 1,by omega⟩
   have hj8:(j:Int)<8:=by omega
   by_cases hm:127<m
   ·have hE:=Lib.hid (lebF_more q m hm)
    have hd:m / 128<256 * 128 ^ q:=Int.ediv_lt_of_lt_mul (by omega) (by rw[Int.mul_assoc,<-Int.pow_succ];exact m1)
    have o8:=or128 (m % 256) (by omega) (by omega)
    have e2:m % 256 % 128+128=m % 128+128:=by omega
    have hcm:¬m<=127:=by omega
    have o8':bits .or .u8 (IntKind.u8.wrap m) 128=m % 128+128:=by rw[show IntKind.u8.wrap m=m % 256 from rfl,o8,e2]
    go_wp2_with (at_builtin;refine apL tyB rfl (.tmp 28) (.tmp 32) rfl (HOE.out.alloc _) rfl _ [m % 128+128] rfl (RdE.one_at (E:=bE) _ (m % 128+128) _ rfl _ rfl _ (by simp)) hlen (by go_size) ?_;intro v2 w2 o2 g2 _;obtain⟨A2,c2,ev2,_,_,_⟩:=o2.form;obtain⟨N2,hN2⟩:∃N,(bs++acc++[m % 128+128]).length=N:=⟨_,rfl⟩;rw[hN2] at ev2;subst ev2;clear hN2;obtain⟨B2,W2,hb2⟩:=HEND.out (m % 128+128) _ w2 o2 g2;have W2:=Lib.hid W2;have c0:=B2.cell 0;have f0:=B2.frozen 0;simp only[List.getElem?_toArray,List.getElem?_cons_zero] at c0;clear o2 g2)
    go_roundg q
    case measure=>omega
    case rel=>exact⟨m / 128,acc++[m % 128+128],j+1,by omega,by go_num,rfl,by omega,hd,by simp;omega,by show _=_;rw[List.append_assoc,<-he.out,hE.out];rfl,by rw[<-List.append_assoc];exact W2,hb2.setCell (by omega) _⟩
   ·have hE:=Lib.hid (lebF_last (q+1) m hm)
    have hm8:m % 256=m:=by omega
    have EB:IntKind.u8.wrap m=m:=hm8
    have hcm:m<=127:=by omega
    go_wp2_with (at_builtin;refine apL tyB rfl (.tmp 17) (.tmp 20) rfl (HOE.out.alloc _) rfl _ [m] rfl (RdE.one_at (E:=bE) _ m _ rfl _ rfl _ (by simp)) hlen (by go_size) ?_;intro v2 w2 o2 g2 _;obtain⟨A2,c2,ev2,_,_,_⟩:=o2.form;obtain⟨N2,hN2⟩:∃N,(bs++acc++[m]).length=N:=⟨_,rfl⟩;rw[hN2] at ev2;subst ev2;clear hN2;obtain⟨B2,W2,hb2⟩:=HEND.out m _ w2 o2 g2;have W2:=Lib.hid W2;have c0:=B2.cell 0;have f0:=B2.frozen 0;simp only[List.getElem?_toArray,List.getElem?_cons_zero] at c0;clear o2 g2)
    refine bodyPost_ret (results_none rfl _ _ _) rfl ?_
    exact⟨rfl,by rw[<-he.out,hE.out,<-List.append_assoc];exact W2.out,hb2.setCell (by omega) _⟩
open Go.RowKit Go.Lib
theorem putn_any(x:Int)(v:Value)(w:World)(hr:RdI .u64 w v [ub x])(h0:-9223372036854775808<=x)(h1:x<=9223372036854775807) :
 Calls Tryz.prog 113 #[.string ⟨#[110]⟩,v] w fun e w'=>∃v,e=.returned (.tuple #[v,.int .i64 0])/\OwnB w.heap.size w' v (nn x)/\Below w.heap.size w w':=
 put_any 9 360 110 (ub x) (nn x) v w vz_n hr (ub_bd x).1 (ub_bd x).2 rfl (fun _ _=>rfl) (fun g base w h=>wnine_any g base x 0 [] w h h0 h1 (by simp))
theorem wrightH_any(w:World):Calls Tryz.prog 199 #[.string ⟨#[118,118,118,98]⟩] w fun e w'=>e=.returned (.bool true)/\Below w.heap.size w w':=by
 have FOb:=fun w=>Lib.hid (formOfk_any 0 98 1 w fl_b)
 have FOv:=fun w=>Lib.hid (formOfk_any 7 118 0 w fl_v)
 go_enter Tryz.func199,Tryz.ntmps199
 go_wp2_with fail
 go_loopg [11] 4 (fun q i wr=>∃j:Nat,q=4 - j/\j<=4/\i=.int .i64 j/\Below w.heap.size w wr)
 case atStart=>exact⟨0,rfl,by omega,rfl,Below.refl _ _⟩
 case round=>
  obtain⟨j,hq,hj,rfl,hb⟩:=hrel
  have HQ:=Lib.hid hq
  have hz:=hb.size
  clear hq
  rcases(show j=0\/j=1\/j=2\/j=3\/j=4 by omega) with rfl|rfl|rfl|rfl|rfl
  ·go_wp2_with (go_at_call 200;refine((FOv _).out).mono ?_;rintro e w1 ⟨rfl,hb1⟩;have hz1:=hb1.size)
   go_roundg 3
   case measure=>have:=HQ.out;omega
   case rel=>exact⟨1,rfl,by omega,by go_num,by(repeat' (first|(with_reducible exact Below.refl _ _)|(with_reducible refine Below.alloc ?_ ?_ _)|(with_reducible refine Below.drew ?_)|(with_reducible refine below_drewN ?_ _)|(with_reducible refine Below.setCell ?_ ?_ _)|(with_reducible refine below_of (by assumption) ?_ ?_)|go_size))⟩
  ·go_wp2_with (go_at_call 200;refine((FOv _).out).mono ?_;rintro e w1 ⟨rfl,hb1⟩;have hz1:=hb1.size)
   go_roundg 2
   case measure=>have:=HQ.out;omega
   case rel=>exact⟨2,rfl,by omega,by go_num,by(repeat' (first|(with_reducible exact Below.refl _ _)|(with_reducible refine Below.alloc ?_ ?_ _)|(with_reducible refine Below.drew ?_)|(with_reducible refine below_drewN ?_ _)|(with_reducible refine Below.setCell ?_ ?_ _)|(with_reducible refine below_of (by assumption) ?_ ?_)|go_size))⟩
  ·go_wp2_with (go_at_call 200;refine((FOv _).out).mono ?_;rintro e w1 ⟨rfl,hb1⟩;have hz1:=hb1.size)
   go_roundg 1
   case measure=>have:=HQ.out;omega
   case rel=>exact⟨3,rfl,by omega,by go_num,by(repeat' (first|(with_reducible exact Below.refl _ _)|(with_reducible refine Below.alloc ?_ ?_ _)|(with_reducible refine Below.drew ?_)|(with_reducible refine below_drewN ?_ _)|(with_reducible refine Below.setCell ?_ ?_ _)|(with_reducible refine below_of (by assumption) ?_ ?_)|go_size))⟩
  ·go_wp2_with (go_at_call 200;refine((FOb _).out).mono ?_;rintro e w1 ⟨rfl,hb1⟩;have hz1:=hb1.size)
   go_roundg 0
   case measure=>have:=HQ.out;omega
   case rel=>exact⟨4,rfl,by omega,by go_num,by(repeat' (first|(with_reducible exact Below.refl _ _)|(with_reducible refine Below.alloc ?_ ?_ _)|(with_reducible refine Below.drew ?_)|(with_reducible refine below_drewN ?_ _)|(with_reducible refine Below.setCell ?_ ?_ _)|(with_reducible refine below_of (by assumption) ?_ ?_)|go_size))⟩
  ·go_wp2_with fail
   go_ret
   exact⟨rfl,hb⟩
def outsH(a b c d:Int):Nat->List Int
 | 0=>[]
 | 1=>leb a
 | 2=>leb a++leb b
 | 3=>leb a++leb b++leb c
 | _=>leb a++leb b++leb c++[d]
theorem outsH_len(a b c d:Int)(j:Nat):(outsH a b c d j).length<=40:=by
 have ha:=leb_len a
 have hb:=leb_len b
 have hc:=leb_len c
 match j with
 | 0=>simp[outsH]
 | 1=>simp only[outsH,List.length_append,List.length_cons,List.length_nil];omega
 | 2=>simp only[outsH,List.length_append,List.length_cons,List.length_nil];omega
 | 3=>simp only[outsH,List.length_append,List.length_cons,List.length_nil];omega
 | n+4=>simp only[outsH,List.length_append,List.length_cons,List.length_nil];omega
theorem wputH_any(a b c d:Int)(v:Value)(w:World)(hr:RdI .u64 w v [a,b,c,d])(a0:0<=a)(a1:a<18446744073709551616)(b0:0<=b)(b1:b<18446744073709551616)(c0:0<=c)(c1:c<18446744073709551616)(d0:0<=d)(d1:d<256) :
 Calls Tryz.prog 113 #[.string ⟨#[118,118,118,98]⟩,v] w fun e w'=>∃v,e=.returned (.tuple #[v,.int .i64 0])/\OwnB w.heap.size w' v (outsH a b c d 4)/\Below w.heap.size w w':=by
 obtain⟨AA,cn,rfl,hn,hc,hp⟩:=hr.form
 obtain⟨gn,on,rfl,hgn,hcn0⟩:=hp.at_ (j:=0) (by simp)
 obtain⟨g',o',e',_,hcn1⟩:=hp.at_ (j:=1) (by simp)
 simp only[Option.some.injEq,Addr.mk.injEq,and_true] at e'
 obtain⟨rfl,rfl⟩:=e'
 obtain⟨g',o',e',_,hcn2⟩:=hp.at_ (j:=2) (by simp)
 simp only[Option.some.injEq,Addr.mk.injEq,and_true] at e'
 obtain⟨rfl,rfl⟩:=e'
 obtain⟨g',o',e',_,hcn3⟩:=hp.at_ (j:=3) (by simp)
 simp only[Option.some.injEq,Addr.mk.injEq,and_true] at e'
 obtain⟨rfl,rfl⟩:=e'
 simp only[List.length_cons,List.length_nil,List.getElem_cons_zero,List.getElem_cons_succ,Nat.add_zero] at hn hcn0 hcn1 hcn2 hcn3 |-
 have CN0:=Lib.hid hcn0
 have CN1:=Lib.hid hcn1
 have CN2:=Lib.hid hcn2
 have CN3:=Lib.hid hcn3
 have FOb:=fun w=>Lib.hid (formOfk_any 0 98 1 w fl_b)
 have efb:fPut 0=352:=rfl
 rw[efb] at FOb
 have FOv:=fun w=>Lib.hid (formOfk_any 7 118 0 w fl_v)
 have efv:fPut 7=356:=rfl
 rw[efv] at FOv
 have egleb:∀args w,(callFunc 356 args).run Tryz.prog w=.ok (.enter 356 args) w:=fun _ _=>rfl
 have eglow:∀args w,(callFunc 352 args).run Tryz.prog w=.ok (.enter 352 args) w:=fun _ _=>rfl
 have HO1:Hid (outsH a b c d 0++(leb a)=outsH a b c d 1):=Lib.hid rfl
 have HO2:Hid (outsH a b c d 1++(leb b)=outsH a b c d 2):=Lib.hid rfl
 have HO3:Hid (outsH a b c d 2++(leb c)=outsH a b c d 3):=Lib.hid rfl
 have HO4:Hid (outsH a b c d 3++[d]=outsH a b c d 4):=Lib.hid rfl
 have HOL:=Lib.hid (outsH_len a b c d)
 have D3:Hid (d / 256=0):=Lib.hid (by omega)
 clear hr hp efb efv hcn0 hcn1 hcn2 hcn3
 go_enter Tryz.func113,Tryz.ntmps113
 go_wp2_with fail
 refine(wrightH_any w).mono ?_
 rintro e w1 ⟨rfl,hb1⟩
 have hz1:=hb1.size
 go_wp2_with fail
 obtain⟨g,hg⟩:∃g,w1.heap.size=g:=⟨_,rfl⟩
 have W0:=Lib.hid (Wr.new 291 w1 w.heap.size hz1)
 have hb2:Below w.heap.size w (w1.alloc (.cells #[.slice none 0 0] 291)):=by(repeat' (first|(with_reducible exact Below.refl _ _)|(with_reducible refine Below.alloc ?_ ?_ _)|(with_reducible refine Below.drew ?_)|(with_reducible refine below_drewN ?_ _)|(with_reducible refine Below.setCell ?_ ?_ _)|(with_reducible refine below_of (by assumption) ?_ ?_)|go_size))
 rw[hg] at W0 |-
 generalize w1.alloc (.cells #[.slice none 0 0] 291)=w2 at *
 clear hg
 go_loopg [25] 4 (fun q i wr=>∃j:Nat,q=4 - j/\j<=4/\i=.int .i64 j/\Hid (Wr 291 w.heap.size wr g (outsH a b c d j))/\Below w.heap.size w wr)
 case atStart=>exact⟨0,rfl,by omega,rfl,W0,hb2⟩
 case round=>
  obtain⟨j,hq,hj,rfl,hw,hb⟩:=hrel
  have HQ:=Lib.hid hq
  have hz:=hb.size
  clear hq
  rcases(show j=0\/j=1\/j=2\/j=3\/j=4 by omega) with rfl|rfl|rfl|rfl|rfl
  ·have cn':=(hb.cell (p:=⟨gn,on,none⟩) hgn).trans CN0.out
   go_wp2_with (first
    | (go_at_call 200;refine((FOv _).out).mono ?_;rintro e w3 ⟨rfl,hb3⟩;have hz3:=hb3.size)
    | (go_at_fn 356;refine((wleb_any g w.heap.size a 0 (outsH a b c d 0) _ ((hw.out.keep hb3).keep ((Below.refl _ _).alloc (Nat.le_refl _) _)) a0 a1 (by have:=HOL.out 0;omega)).mono ?_);rintro e w4 ⟨rfl,k1,k2⟩;have hz4:=k2.size;rw[HO1.out] at k1;have K1:=Lib.hid k1;clear k1))
   go_roundg 3
   case measure=>have:=HQ.out;omega
   case rel=>exact⟨1,rfl,by omega,by go_num,K1,by(repeat' (first|(with_reducible exact Below.refl _ _)|(with_reducible refine Below.alloc ?_ ?_ _)|(with_reducible refine Below.drew ?_)|(with_reducible refine below_drewN ?_ _)|(with_reducible refine Below.setCell ?_ ?_ _)|(with_reducible refine below_of (by assumption) ?_ ?_)|go_size))⟩
  ·have cn':=(hb.cell (p:=⟨gn,on+1,none⟩) hgn).trans CN1.out
   go_wp2_with (first
    | (go_at_call 200;refine((FOv _).out).mono ?_;rintro e w3 ⟨rfl,hb3⟩;have hz3:=hb3.size)
    | (go_at_fn 356;refine((wleb_any g w.heap.size b 0 (outsH a b c d 1) _ ((hw.out.keep hb3).keep ((Below.refl _ _).alloc (Nat.le_refl _) _)) b0 b1 (by have:=HOL.out 1;omega)).mono ?_);rintro e w4 ⟨rfl,k1,k2⟩;have hz4:=k2.size;rw[HO2.out] at k1;have K1:=Lib.hid k1;clear k1))
   go_roundg 2
   case measure=>have:=HQ.out;omega
   case rel=>exact⟨2,rfl,by omega,by go_num,K1,by(repeat' (first|(with_reducible exact Below.refl _ _)|(with_reducible refine Below.alloc ?_ ?_ _)|(with_reducible refine Below.drew ?_)|(with_reducible refine below_drewN ?_ _)|(with_reducible refine Below.setCell ?_ ?_ _)|(with_reducible refine below_of (by assumption) ?_ ?_)|go_size))⟩
  ·have cn':=(hb.cell (p:=⟨gn,on+2,none⟩) hgn).trans CN2.out
   go_wp2_with (first
    | (go_at_call 200;refine((FOv _).out).mono ?_;rintro e w3 ⟨rfl,hb3⟩;have hz3:=hb3.size)
    | (go_at_fn 356;refine((wleb_any g w.heap.size c 0 (outsH a b c d 2) _ ((hw.out.keep hb3).keep ((Below.refl _ _).alloc (Nat.le_refl _) _)) c0 c1 (by have:=HOL.out 2;omega)).mono ?_);rintro e w4 ⟨rfl,k1,k2⟩;have hz4:=k2.size;rw[HO3.out] at k1;have K1:=Lib.hid k1;clear k1))
   go_roundg 1
   case measure=>have:=HQ.out;omega
   case rel=>exact⟨3,rfl,by omega,by go_num,K1,by(repeat' (first|(with_reducible exact Below.refl _ _)|(with_reducible refine Below.alloc ?_ ?_ _)|(with_reducible refine Below.drew ?_)|(with_reducible refine below_drewN ?_ _)|(with_reducible refine Below.setCell ?_ ?_ _)|(with_reducible refine below_of (by assumption) ?_ ?_)|go_size))⟩
  ·have cn':=(hb.cell (p:=⟨gn,on+3,none⟩) hgn).trans CN3.out
   have dq1:=D3.out
   have dq2:IntKind.i64.wrap 8=8:=rfl
   go_wp2_with (first
    | (go_at_call 200;refine((FOb _).out).mono ?_;rintro e w3 ⟨rfl,hb3⟩;have hz3:=hb3.size)
    | (go_at_fn 352;refine((wlow1_any g w.heap.size d (outsH a b c d 3) _ ((hw.out.keep hb3).keep ((Below.refl _ _).alloc (Nat.le_refl _) _)) d0 d1 (by have:=HOL.out 3;omega)).mono ?_);rintro e w4 ⟨rfl,k1,k2⟩;have hz4:=k2.size;rw[HO4.out] at k1;have K1:=Lib.hid k1;clear k1))
   go_roundg 0
   case measure=>have:=HQ.out;omega
   case rel=>exact⟨4,rfl,by omega,by go_num,K1,by(repeat' (first|(with_reducible exact Below.refl _ _)|(with_reducible refine Below.alloc ?_ ?_ _)|(with_reducible refine Below.drew ?_)|(with_reducible refine below_drewN ?_ _)|(with_reducible refine Below.setCell ?_ ?_ _)|(with_reducible refine below_of (by assumption) ?_ ?_)|go_size))⟩
  ·obtain⟨hbg,v,hB,hO⟩:=hw.out
   have c0:=hB.cell 0
   simp only[List.getElem?_toArray,List.getElem?_cons_zero] at c0
   have HO:=Lib.hid hO
   clear hB hO
   go_wp2_with fail
   go_ret2
   exact⟨v,rfl,HO.out,hb⟩
end Go.Proofs.YtingnldfpokckaaGreat.D
