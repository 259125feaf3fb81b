/- Parts of a proof: what its theorem reaches, words cut short. No condition of its own. -/
import Derived.Test.YtkiebccnpheloaaGreatPv45
set_option maxRecDepth 100000
set_option maxHeartbeats 16000000
set_option linter.unusedVariables false
set_option linter.unusedSimpArgs false
namespace Go.Proofs.YtkiebccnpheloaaGreat.D
open Go.RowKit Go.Lib Go.Shelf
theorem rjtext1_any{y p lo hi dg u m bk:Nat}{gr:Bool}{l:List Pr}{G:Ft}(w:World)(hy:Blk w y 146 #[.int .u8 1,.int .i64 lo,.int .i64 hi,.int .i64 dg,.bool gr,.int .i64 0,.int .i64 0,.pointer (some ⟨p,0,none⟩),.pointer none,.pointer none,.pointer none])(h:RHdAt p lo hi dg u m gr bk l G w)(ok:HsOk lo hi dg u m gr bk l) :
 Calls Tryz.prog 32 #[.pointer (some ⟨y,0,none⟩)] w fun e w'=>∃v,e=.returned v/\OwnB w.heap.size w' v (hjB lo hi dg (reachN u m hi bk) gr l)/\Below w.heap.size w w':=by
 have S:=rhd_stay p lo hi dg u m gr bk l
 obtain⟨vL,b1,b2,_,_,_⟩:=id h
 have HY:=Lib.hid hy
 have HP:=Lib.hid b1
 have C1:Hid (∀w1,Below w.heap.size w w1->_):=Lib.hid (fun w1 hb=>rhd_reach w1 (S.keep h hb) ok.sh ok.b0 ok.b1)
 have C2:Hid (∀w1,Below w.heap.size w w1->_):=Lib.hid (fun w1 hb=>rwrite19_any vL w1 (b2.rd.keep hb) ok)
 have hlo:lo<=9223372036854775807:=by have:=ok.sh.h0;have:=ok.sh.h1;omega
 have hhi:=ok.sh.h1
 have hdg:=ok.sh.d1
 have hwl:=hwB_len lo (reachN u m hi bk) dg l
 have hcl:=cntA_len l
 have hll:=ok.len
 have hl1:=leb_len (lo:Int)
 have hl2:=leb_len (hi:Int)
 have hl3:=leb_len (dg:Int)
 have HG:=Lib.hid (grN_or gr)
 have HB:Hid (hjB lo hi dg (reachN u m hi bk) gr l=leb lo++leb hi++leb dg++[grN gr]++hwB lo (reachN u m hi bk) dg l):=Lib.hid rfl
 rw[HB.out]
 have EU:Hid (IntKind.u64.wrap (lo:Int)=(lo:Int)/\IntKind.u64.wrap (hi:Int)=(hi:Int)/\IntKind.u64.wrap (dg:Int)=(dg:Int)):=Lib.hid ⟨by rw[u64w];omega,by rw[u64w];omega,by rw[u64w];omega⟩
 have D1:Hid (∀(base:Nat) (vb:Value) (bs:List Int) (w1:World),base<=w1.heap.size->OwnB base w1 vb bs->bs.length<=1000000000000->_):=Lib.hid (fun base vb bs w1 h1 h2 h3=>r27v_any (lo:Int) base vb bs w1 h1 h2 h3 (by omega) (by omega))
 have D2:Hid (∀(base:Nat) (vb:Value) (bs:List Int) (w1:World),base<=w1.heap.size->OwnB base w1 vb bs->bs.length<=1000000000000->_):=Lib.hid (fun base vb bs w1 h1 h2 h3=>r27v_any (hi:Int) base vb bs w1 h1 h2 h3 (by omega) (by omega))
 have D3:Hid (∀(base:Nat) (vb:Value) (bs:List Int) (w1:World),base<=w1.heap.size->OwnB base w1 vb bs->bs.length<=1000000000000->_):=Lib.hid (fun base vb bs w1 h1 h2 h3=>r27v_any (dg:Int) base vb bs w1 h1 h2 h3 (by omega) (by omega))
 have f0:=hy.cell 0
 have f1:=hy.cell 1
 have f2:=hy.cell 2
 have f3:=hy.cell 3
 simp only[List.getElem?_toArray,List.getElem?_cons_zero,List.getElem?_cons_succ] at f0 f1 f2 f3
 clear HB S h ok hy b1 b2
 generalize grN gr=D at *
 generalize leb (lo:Int)=X1 at *
 generalize leb (hi:Int)=X2 at *
 generalize leb (dg:Int)=X3 at *
 generalize hwB (lo:Int) (reachN u m hi bk) dg l=HW at *
 generalize reachN u m hi bk=R at *
 obtain⟨b,hbb⟩:∃b,w.heap.size=b:=⟨_,rfl⟩
 obtain⟨wa,hwa⟩:∃z,(w.alloc (.cells #[.int .i64 0,.int .i64 0,.int .i64 0] 32))=z:=⟨_,rfl⟩
 have ha:Below w.heap.size w wa:=by rw[<-hwa];(repeat' (first|(with_reducible exact Below.refl _ _)|(with_reducible refine Below.alloc ?_ ?_ _)|(with_reducible refine Below.drew ?_)|(with_reducible refine below_drewN ?_ _)|(with_reducible refine Below.setCell ?_ ?_ _)|(with_reducible refine below_of (by assumption) ?_ ?_)|go_size))
 have A0:Hid (Blk wa b 32 #[.int .i64 0,.int .i64 0,.int .i64 0]):=by rw[<-hwa,<-hbb];exact Lib.hid (Blk.new _ _ _)
 have x0:=A0.out.cell 0
 have x1:=A0.out.cell 1
 have x2:=A0.out.cell 2
 simp only[List.getElem?_toArray,List.getElem?_cons_zero,List.getElem?_cons_succ] at x0 x1 x2
 have y0:=A0.out.frozen 0
 have y1:=A0.out.frozen 1
 have y2:=A0.out.frozen 2
 have HBB:=Lib.hid hbb
 clear hbb
 go_enter Tryz.func32,Tryz.ntmps32
 have hbb:=HBB.out
 have k0:wa.cell? ⟨y,0,none⟩=_:=(HY.out.keep ha).cell 0
 go_upto_region 4 with fail
 clear x0 x1 x2 y0 y1 y2 f0 f1 f2 f3 k0 hbb
 obtain⟨w3,hw3⟩:∃z,((wa.setCell ⟨b,0,none⟩ (.int .i64 lo)).setCell ⟨b,1,none⟩ (.int .i64 hi)).setCell ⟨b,2,none⟩ (.int .i64 dg)=z:=⟨_,rfl⟩
 try rw[hwa]
 rw[hw3]
 have hby:w.heap.size<=b:=by have:=HBB.out;omega
 have A3:Hid (Blk w3 b 32 #[.int .i64 lo,.int .i64 hi,.int .i64 dg]):=by rw[<-hw3];exact Lib.hid (((A0.out.set_ 0 _).set_ 1 _).set_ 2 _)
 have h3:Below w.heap.size w w3:=by rw[<-hw3];exact((ha.setCell (p:=⟨b,0,none⟩) hby _).setCell (p:=⟨b,1,none⟩) hby _).setCell (p:=⟨b,2,none⟩) hby _
 clear hw3 hwa A0 ha
 have Bd:Below w3.heap.size w3 w3.drew:=(Below.refl _ _).drew
 have lb:=A3.out.lt
 have J0:=A3.out.cell 0
 have J1:=A3.out.cell 1
 have J2:=A3.out.cell 2
 simp only[List.getElem?_toArray,List.getElem?_cons_zero,List.getElem?_cons_succ] at J0 J1 J2
 have JJ:=Lib.hid (And.intro J0 (And.intro J1 J2))
 clear J0 J1 J2
 refine wp_region_plan (Below w3.heap.size w3) [(0,true),(1,true),(2,true),(4,true),(5,true),(6,true),(8,true),(9,true),(10,true),(3,false),(7,false),(11,false),(12,true)] (by kernel_rfl) (by kernel_rfl) (Bd) ?_
 iterate 9
  refine wpPlan_read (by rfl) (by rfl) (fun R hR=>?_)
  apply Exists.intro
  refine⟨fun w' hS'=>?_,?_⟩
  ·obtain⟨e1,e2,e3⟩:=EU.out
   have j0:w'.cell? ⟨b,0,none⟩=some (.int .i64 lo):=(hS'.cell (p:=⟨b,0,none⟩) lb).trans JJ.out.1
   have j1:w'.cell? ⟨b,1,none⟩=some (.int .i64 hi):=(hS'.cell (p:=⟨b,1,none⟩) lb).trans JJ.out.2.1
   have j2:w'.cell? ⟨b,2,none⟩=some (.int .i64 dg):=(hS'.cell (p:=⟨b,2,none⟩) lb).trans JJ.out.2.2
   go_simp
   exact⟨rfl,rfl⟩
  go_simp
  refine hR _ ?_
  clear hR R
 refine wpPlan_do (by rfl) (by rfl) (fun K hK=>?_)
 go_simp
 refine(D1.out w3.heap.size (.slice none 0 0) [] w3.drew Bd.size (OwnI.nil_ _ _ _ _) (by simp)).mono ?_
 rintro e w4 ⟨v4,rfl,o4,h4⟩
 have B4:Below w3.heap.size w3 w4:=Bd.trans h4
 have O4:=Lib.hid o4
 clear o4
 refine hK _ _ (B4) ?_
 clear hK K
 refine wpPlan_do (by rfl) (by rfl) (fun K hK=>?_)
 go_simp
 refine(D2.out w3.heap.size v4 ([]++X1) w4 B4.size O4.out (by simp;omega)).mono ?_
 rintro e w5 ⟨v5,rfl,o5,h5⟩
 have B5:Below w3.heap.size w3 w5:=B4.trans h5
 have O5:=Lib.hid o5
 clear o5
 refine hK _ _ (B5) ?_
 clear hK K
 refine wpPlan_do (by rfl) (by rfl) (fun K hK=>?_)
 go_simp
 refine(D3.out w3.heap.size v5 ([]++X1++X2) w5 B5.size O5.out (by simp;omega)).mono ?_
 rintro e w6 ⟨v6,rfl,o6,h6⟩
 have B6:Below w3.heap.size w3 w6:=B5.trans h6
 have O6:=Lib.hid o6
 clear o6
 refine hK _ _ (B6) ?_
 clear hK K
 iterate 1
  refine wpPlan_read (by rfl) (by rfl) (fun R hR=>?_)
  apply Exists.intro
  refine⟨fun w' hS'=>?_,?_⟩
  ·obtain⟨e1,e2,e3⟩:=EU.out
   have j0:w'.cell? ⟨b,0,none⟩=some (.int .i64 lo):=(hS'.cell (p:=⟨b,0,none⟩) lb).trans JJ.out.1
   have j1:w'.cell? ⟨b,1,none⟩=some (.int .i64 hi):=(hS'.cell (p:=⟨b,1,none⟩) lb).trans JJ.out.2.1
   have j2:w'.cell? ⟨b,2,none⟩=some (.int .i64 dg):=(hS'.cell (p:=⟨b,2,none⟩) lb).trans JJ.out.2.2
   go_simp
   exact⟨rfl,rfl⟩
  go_simp
  refine hR _ ?_
  clear hR R
 refine wpPlan_nil ?_
 have E6:([]:List Int)++X1++X2++X3=X1++X2++X3:=by simp
 rw[E6] at O6
 have B6w:Below w.heap.size w w6:=h3.trans (B6.mono h3.size)
 have f2:w6.cell? ⟨y,4,none⟩=_:=(HY.out.keep B6w).cell 4
 simp only[List.getElem?_toArray,List.getElem?_cons_zero,List.getElem?_cons_succ] at f2
 have hz36:=B6.size
 have lX:(X1++X2++X3).length<=30:=by simp only[List.length_append];omega
 clear D1 D2 D3 B4 B5 O4 O5 E6 h4 h5 h6
 obtain⟨XX,hXX⟩:∃z,X1++X2++X3=z:=⟨_,rfl⟩
 rw[hXX] at O6 lX
 have HXX:=Lib.hid hXX
 clear hXX
 rcases HG.out with⟨rfl,hD⟩|⟨rfl,hD⟩
 all_goals
  have HD:=Lib.hid hD
  clear hD
  go_wp2_with (at_builtin;refine apL tyB rfl (.tmp 35) (.tmp 37) rfl ((ownB_E.1 O6.out).alloc _) rfl _ [_] rfl (OwnE.one (E:=bE) w6 _ _ rfl _ rfl).rd (by simp;omega) (by rw[World.size_alloc];omega) ?_;intro v7 w7 o7 g7 _;have O7:=Lib.hid o7;have B7:Below w3.heap.size w3 w7:=((B6.alloc hz36 _).grown g7 (by rw[World.size_alloc];omega) (fun k hk=>(O6.out.lt k hk).1));clear o7 g7)
  have hD:=HD.out
  rw[<-hD] at O7
  clear hD
  obtain⟨Z7,hZ7⟩:∃z,XX++[D]=z:=⟨_,rfl⟩
  have hl7:Z7.length<=31:=by rw[<-hZ7];simp;omega
  rw[hZ7] at O7
  have HZ7:=Lib.hid hZ7
  clear hZ7 f2
  have B7w:Below w.heap.size w w7:=h3.trans (B7.mono h3.size)
  have z7:=B7.size
  have ly:=HY.out.lt
  have lp:=HP.out.lt
  have K7:=HY.out.cell 7
  have L7:=HP.out.cell 7
  simp only[List.getElem?_toArray,List.getElem?_cons_zero,List.getElem?_cons_succ] at K7 L7
  have KL:=Lib.hid (And.intro K7 L7)
  clear K7 L7
  have Bd:Below w3.heap.size w3 w7.drew:=B7.drew
  have hw37:=h3.size
  go_upto_region 9 with fail
  refine wp_region_plan (Below w3.heap.size w3) [(0,true),(1,true),(2,true),(3,true),(4,true),(5,true),(6,true),(8,true),(9,true),(10,true),(11,true),(12,true),(13,true),(14,true),(15,true),(16,true),(7,false),(17,false),(18,false),(19,true)] (by kernel_rfl) (by kernel_rfl) (Bd) ?_
  iterate 16
   refine wpPlan_read (by rfl) (by rfl) (fun R hR=>?_)
   apply Exists.intro
   refine⟨fun w' hS'=>?_,?_⟩
   ·have Bw':Below w.heap.size w w':=h3.trans (hS'.mono h3.size)
    have k7:w'.cell? ⟨y,7,none⟩=_:=(Bw'.cell (p:=⟨y,7,none⟩) ly).trans KL.out.1
    have l7:w'.cell? ⟨p,7,none⟩=_:=(Bw'.cell (p:=⟨p,7,none⟩) lp).trans KL.out.2
    have j0:w'.cell? ⟨b,0,none⟩=some (.int .i64 lo):=(hS'.cell (p:=⟨b,0,none⟩) lb).trans JJ.out.1
    have j2:w'.cell? ⟨b,2,none⟩=some (.int .i64 dg):=(hS'.cell (p:=⟨b,2,none⟩) lb).trans JJ.out.2.2
    go_simp
    exact⟨rfl,rfl⟩
   go_simp
   refine hR _ ?_
   clear hR R
  refine wpPlan_do (by rfl) (by rfl) (fun K hK=>?_)
  go_simp
  refine(C1.out w7.drew (h3.trans (Bd.mono h3.size))).mono ?_
  rintro e w8 ⟨rfl,h8⟩
  have B8:Below w3.heap.size w3 w8:=Bd.trans (h8.mono Bd.size)
  have O8:=Lib.hid ((O7.out.drew).keep h8)
  refine hK _ _ (B8) ?_
  clear hK K
  refine wpPlan_do (by rfl) (by rfl) (fun K hK=>?_)
  go_simp
  refine(C2.out w8 (h3.trans (B8.mono h3.size))).mono ?_
  rintro e w9 ⟨v9,rfl,o9,h9⟩
  have B9:Below w3.heap.size w3 w9:=B8.trans (h9.mono B8.size)
  have OH:=Lib.hid (ownB_E.1 o9)
  have O9:=Lib.hid (O8.out.keep h9)
  clear o9
  refine hK _ _ (B9) ?_
  clear hK K
  refine wpPlan_do (by rfl) (by rfl) (fun K hK=>?_)
  refine apW tyB (.tmp 39) (.tmp 56) rfl O9.out rfl _ HW rfl OH.out.rd (by omega) B9.size ?_
  intro vA wA oA gA _
  have BA:Below w3.heap.size w3 wA:=B9.grown gA B9.size (fun k hk=>(O9.out.lt k hk).1)
  have OA:=Lib.hid (ownB_E.2 (oA.more hw37))
  clear oA gA
  go_simp
  refine hK _ _ (BA) ?_
  clear hK K
  iterate 1
   refine wpPlan_read (by rfl) (by rfl) (fun R hR=>?_)
   apply Exists.intro
   refine⟨fun w' hS'=>?_,?_⟩
   ·have Bw':Below w.heap.size w w':=h3.trans (hS'.mono h3.size)
    have k7:w'.cell? ⟨y,7,none⟩=_:=(Bw'.cell (p:=⟨y,7,none⟩) ly).trans KL.out.1
    have l7:w'.cell? ⟨p,7,none⟩=_:=(Bw'.cell (p:=⟨p,7,none⟩) lp).trans KL.out.2
    have j0:w'.cell? ⟨b,0,none⟩=some (.int .i64 lo):=(hS'.cell (p:=⟨b,0,none⟩) lb).trans JJ.out.1
    have j2:w'.cell? ⟨b,2,none⟩=some (.int .i64 dg):=(hS'.cell (p:=⟨b,2,none⟩) lb).trans JJ.out.2.2
    go_simp
    exact⟨rfl,rfl⟩
   go_simp
   refine hR _ ?_
   clear hR R
  refine wpPlan_nil ?_
  go_wp2_with fail
  go_ret
  have r:=OA.out
  rw[<-HZ7.out,<-HXX.out] at r
  exact⟨_,rfl,r,h3.trans (BA.mono h3.size)⟩
open Go.RowKit Go.Lib Go.Shelf
section
variable {sp : Spk} {c t : Js} {x y a o : Nat} {F Fy H : Ft} {cq : Value} {B : List Int}
theorem rjs_add(v n:Int)(w:World)(h:RJsAt sp c x F w)(ok:JsOk sp c)(hc:RCnAt o cq B a H w)(hd:∀k,H k->¬F k)(ho:o<=w.heap.size)(hoF:∀k,F k->o<=k)(v0:-9223372036854775808<=v)(v1:v<=9223372036854775807)(n0:0<=n)(n1:n<18446744073709551616) :
 Calls Tryz.prog 81 #[.pointer (some ⟨x,0,none⟩),.int .i64 v,.int .u64 n,cq] w (MutC (RJsAt sp (jadS sp B v n c a).1 x) (RCnAt o cq B (jadS sp B v n c a).2) F H (jadE sp c v n) w):=by
 obtain⟨p,G,hB,hI,hFx,hGx,hGF,hF⟩:=h
 have hdG:∀k,H k->¬G k:=fun k h1 h2=>hd k h1 (hGF k h2)
 have fin:∀c' a' er e w',MutC (RInAt sp c' p) (RCnAt o cq B a') G H er w e w'->MutC (RJsAt sp c' x) (RCnAt o cq B a') F H er w e w':=fun c' a' er e w' hm=>by
  obtain⟨h1,h2⟩:=rjs_turn hB hFx hGx hGF hF hm.2.1 hm.2.2.2 hd
  exact⟨hm.1,h1,hm.2.2.1,h2⟩
 have hoG:∀k,G k->o<=k:=fun k h=>hoF k (hGF k h)
 have low:=(rin_stay sp c p).low hI
 cases sp with
 | h lo hi dg u m gr=>
  refine(rjadd1_any (Q:=fun v' w'=>MutC (RJsAt (.h lo hi dg u m gr) (jadS (.h lo hi dg u m gr) B v n c a).1 x) (RCnAt o cq B (jadS (.h lo hi dg u m gr) B v n c a).2) F H (jadE (.h lo hi dg u m gr) c v n) w (.returned v') w') hB ?_).mono ?_
  ·refine(rhd_record v n w hI ok v0 v1 n0 n1).mono ?_
   rintro e w' ⟨rfl,h2,h3⟩
   exact⟨_,rfl,fin _ _ _ _ _ (mutc_of ⟨rfl,h2,h3⟩ (hc.far ho h3 hdG hoG))⟩
  ·rintro e w' ⟨v',rfl,hm⟩;exact hm
 | d ac m=>
  refine(rjadd2_any (Q:=fun v' w'=>MutC (RJsAt (.d ac m) (jadS (.d ac m) B v n c a).1 x) (RCnAt o cq B (jadS (.d ac m) B v n c a).2) F H (jadE (.d ac m) c v n) w (.returned v') w') hB ?_).mono ?_
  ·refine(rdd_add v n w hI ok v0 v1 n0 n1).mono ?_
   rintro e w' ⟨rfl,h2,h3⟩
   exact⟨_,rfl,fin _ _ _ _ _ (mutc_of ⟨rfl,h2,h3⟩ (hc.far ho h3 hdG hoG))⟩
  ·rintro e w' ⟨v',rfl,hm⟩;exact hm
 | t d=>
  have ft:=TOk.fit ok
  have hd1:=ft.d1
  refine(rjadd3_any (Q:=fun v' w'=>MutC (RJsAt (.t d) (jadS (.t d) B v n c a).1 x) (RCnAt o cq B (jadS (.t d) B v n c a).2) F H (jadE (.t d) c v n) w (.returned v') w') hB ?_).mono ?_
  ·by_cases hn:n=0\/281474976710656 - Go.Proofs.YtkiebccnpheloaaGreat.tot (c.s.L++c.s.W)<n
   ·refine(radd_no v n w hI ft hn).mono ?_
    rintro e w' ⟨rfl,hb⟩
    have e1:jadE (.t d) c v n=if n=0 then 4 else 6:=by
     simp only[jadE]
     by_cases h0:n=0
     ·rw[if_pos h0,if_pos h0]
     ·rw[if_neg h0,if_neg h0,if_pos (hn.resolve_left h0)]
    have e2:jadS (.t d) B v n c a=(c,a):=by
     simp only[jadS]
     rw[if_neg (by rw[e1];split<;>decide)]
    rw[e1,e2]
    exact⟨_,rfl,fin c a _ _ _ (mutc_same (rin_stay (.t d) c p) hI rfl hb (hc.keep ho hb))⟩
   ·have h0:¬n=0:=fun e=>hn (.inl e)
    have h6:¬281474976710656 - Go.Proofs.YtkiebccnpheloaaGreat.tot (c.s.L++c.s.W)<n:=fun e=>hn (.inr e)
    refine(radd_yes v n w hI ft (by omega) v0 v1 (by omega) (by omega)).mono ?_
    rintro e w' ⟨rfl,F',h2,h3,h4⟩
    have e1:jadE (.t d) c v n=0:=by simp only[jadE];rw[if_neg h0,if_neg h6]
    have e2:jadS (.t d) B v n c a=({c with s:=c.s.add d v n},a):=by simp only[jadS];rw[if_pos e1]
    rw[e1,e2]
    refine⟨_,rfl,fin _ _ _ _ _ ⟨rfl,?_,hc.far ho h4 hdG hoG,h4.mono fun _ h=>.inl h⟩⟩
    exact(rin_stay (.t d) {c with s:=c.s.add d v n} p).gr (F':=F') h3 h2 low h4.size
  ·rintro e w' ⟨v',rfl,hm⟩;exact hm
 | k q=>
  refine(rjadd4_any (Q:=fun v' w'=>MutC (RJsAt (.k q) (jadS (.k q) B v n c a).1 x) (RCnAt o cq B (jadS (.k q) B v n c a).2) F H (jadE (.k q) c v n) w (.returned v') w') hB ?_).mono ?_
  ·have hnn:((n.toNat:Nat):Int)=n:=by omega
   have C:=rk_add v n.toNat hI (KOk.fit ok) hc hdG ho hoG (KOk.q0 ok) (KOk.q1 ok) (by omega)
   rw[hnn] at C
   refine C.mono ?_
   rintro e w' hm
   obtain⟨rfl,h2,h3,h4⟩:=hm
   exact⟨_,rfl,fin _ _ _ _ _ ⟨rfl,h2,h3,h4⟩⟩
  ·rintro e w' ⟨v',rfl,hm⟩;exact hm
theorem rjs_total(w:World)(h:RJsAt sp c x F w)(ok:JsOk sp c):Calls Tryz.prog 53 #[.pointer (some ⟨x,0,none⟩)] w fun e w'=>e=.returned (.int .u64 (jtot sp c))/\Below w.heap.size w w':=by
 obtain⟨p,G,hB,hI,hFx,hGx,hGF,hF⟩:=h
 cases sp with
 | h lo hi dg u m gr=>
  obtain⟨v,b1,b2,b3,b4,b5⟩:=hI
  have b7:=b1.cell 7
  simp only[List.getElem?_toArray,List.getElem?_cons_zero,List.getElem?_cons_succ] at b7
  refine(rjtotal1_any hB b7 (rtot_any v c.l w b2.rd (HsOk.pos ok) (by have:=HsOk.sum ok;omega) (by have:=HsOk.len ok;omega))).mono ?_
  rintro e w' ⟨rfl,rfl⟩;exact⟨rfl,Below.refl _ _⟩
 | d ac m=>
  obtain⟨rv,v,b1,b2,b3,b4⟩:=hI
  have b7:=b1.cell 3
  simp only[List.getElem?_toArray,List.getElem?_cons_zero,List.getElem?_cons_succ] at b7
  refine(rjtotal2_any hB b7 (rtot_any v c.l w b3.rd (DdOk.pos ok) (by have:=DdOk.sum ok;omega) (by have:=DdOk.len ok;omega))).mono ?_
  rintro e w' ⟨rfl,rfl⟩;exact⟨rfl,Below.refl _ _⟩
 | t d=>
  have ft:=TOk.fit ok
  refine rjtotal3_any (Q:=fun v w'=>RdM w' v (c.s.L++c.s.W)) hB ?_ ?_
  ·refine(Go.Proofs.YtkiebccnpheloaaGreat.rall_any p G d c.s.lo c.s.hi c.s.L c.s.W w hI (by have:=ft.ok.len;have:=ft.d1;omega)).mono ?_
   rintro e w' ⟨v,rfl,h1,h2⟩
   exact⟨v,rfl,h1.rd,h2⟩
  ·intro v w1 hv
   exact rtotal_any v _ w1 hv ft.ok.ok (by have:=ft.t;omega)
 | k q=>
  obtain⟨lv,vs,hs⟩:=hI
  refine(rjtotal4_any hB (K.rtotal_any w hs (KOk.fit ok).ok.wtL (KOk.fit ok).ok.lenL)).mono ?_
  rintro e w' ⟨rfl,rfl⟩;exact⟨rfl,Below.refl _ _⟩
theorem rjs_text(w:World)(h:RJsAt sp c x F w)(ok:JsOk sp c):Calls Tryz.prog 32 #[.pointer (some ⟨x,0,none⟩)] w fun e w'=>∃v,e=.returned v/\OwnB w.heap.size w' v (jtxt sp c)/\Below w.heap.size w w':=by
 obtain⟨p,G,hB,hI,hFx,hGx,hGF,hF⟩:=h
 cases sp with
 | h lo hi dg u m gr=>exact rjtext1_any w hB hI ok
 | d ac m=>
  obtain⟨rv,v,b1,b2,b3,b4⟩:=hI
  have c1:=b1.cell 1
  have c2:=b1.cell 2
  have c3:=b1.cell 3
  simp only[List.getElem?_toArray,List.getElem?_cons_zero,List.getElem?_cons_succ] at c1 c2 c3
  exact rjtext2_any (Q:=fun v' w'=>OwnB w.heap.size w' v' (jtxt (.d ac m) c)/\Below w.heap.size w w') hB c1 c2 c3 ((r21of_any v w.drew b3.rd ok).mono fun e w' ⟨v',h1,h2,h3⟩=>⟨v',h1,h2,(Below.refl _ _).drew.trans h3⟩)
 | t d=>
  have ft:=TOk.fit ok
  have hraw:=okL.raw ft.ok.ok (by have:=ft.t;omega)
  refine rjtext3_any (Q:=fun v' w'=>OwnB w.heap.size w' v' (jtxt (.t d) c)/\Below w.heap.size w w') hB ?_
  exact rwrite_any p G d c.s.lo c.s.hi c.s.L c.s.W w hI ft.ok.rise (fun m hm=>hraw m (List.mem_append_left _ hm)) (fun m hm=>hraw m (List.mem_append_right _ hm)) (by have:=ft.ok.len;have:=ft.d1;omega) (by have:=ft.d0;omega) (by have:=ft.d1;omega) ft.ok.lo0 ft.ok.lo1 ft.ok.hi0 ft.ok.hi1
 | k q=>
  obtain⟨lv,vs,hs⟩:=hI
  have hk:=KOk.fit ok
  refine rjtext4_any (Q:=fun v' w'=>OwnB w.heap.size w' v' (jtxt (.k q) c)/\Below w.heap.size w w') hB hs.cell0 hs.cell1 hs.cell2 ?_
  exact(K.rwk_any q lv c.L c.led w.drew hs.llr (by omega) (by have:=KOk.q1 ok;omega) (by have:=hk.ok.led;simp only at this;omega) (by have:=hk.ok.lenL;omega) (by have:=hk.cnt (by have:=KOk.q0 ok;omega) (KOk.q1 ok);omega) (fun j=>⟨hk.ok.srt j,KOk.bd ok j⟩)).mono (fun e w' ⟨v',h1,h2,h3⟩=>⟨v',h1,h2,(Below.refl _ _).drew.trans h3⟩)
end
end Go.Proofs.YtkiebccnpheloaaGreat.D
