/- Parts of a proof: what its theorem reaches, words cut short. No condition of its own. -/
import Derived.Test.YtkiebccnpheloaaGreatPv43
set_option maxRecDepth 100000
set_option maxHeartbeats 16000000
set_option linter.unusedVariables false
set_option linter.unusedSimpArgs false
namespace Go.Proofs.YtkiebccnpheloaaGreat.D
open Go.RowKit Go.Lib Go.Shelf
section
variable {sp : Spk} {now now' a0 a1 x y g n c : Nat} {C : List Js} {ps : List Nat} {Ow : Nat -> Ft} {G F : Ft} {w w1 w2 : World} {s : Wn}
theorem WinB.at_(h:WinB sp now a0 C (.slice (some ⟨g,0,none⟩) n c) ps Ow G x w)(h1:a1<C.length):WinB sp now a1 C (.slice (some ⟨g,0,none⟩) n c) ps Ow G x (w.setCell ⟨x,8,none⟩ (.int .i64 a1)):=by
 have hb:=h.blk.set_ 8 (.int .i64 a1)
 refine⟨by revert hb;cases sp<;>exact id,h.ring.far (H:=fun k=>k=x) (jsP_stay sp) (Touch.setCell (F:=fun k=>k=x) (Touch.refl _ w) (p:=⟨x,8,none⟩) (.inl rfl) _) (fun k hk e=>h.out (by rw[<-show k=x from e];exact hk)),h1,h.n60,h.out⟩
theorem WinB.now_(h:WinB sp now a0 C (.slice (some ⟨g,0,none⟩) n c) ps Ow G x w):WinB sp now' a0 C (.slice (some ⟨g,0,none⟩) n c) ps Ow G x (w.setCell ⟨x,9,none⟩ (.int .u64 now')):=by
 have hb:=h.blk.set_ 9 (.int .u64 now')
 refine⟨by revert hb;cases sp<;>exact id,h.ring.far (H:=fun k=>k=x) (jsP_stay sp) (Touch.setCell (F:=fun k=>k=x) (Touch.refl _ w) (p:=⟨x,9,none⟩) (.inl rfl) _) (fun k hk e=>h.out (by rw[<-show k=x from e];exact hk)),h.at0,h.n60,h.out⟩
theorem WinB.fresh{c':Js}(h:WinB sp now a0 C (.slice (some ⟨g,0,none⟩) n c) ps Ow G x w){i:Nat}(hi:i<C.length)(hj:JsAt sp c' y (Gr (fun _=>False) w w2) w2)(hb:Below w.heap.size w w2) :
 WinB sp now a0 (C.set i c') (.slice (some ⟨g,0,none⟩) n c) (ps.set i y) (updF Ow i (Gr (fun _=>False) w w2)) (fun k=>G k\/Gr (fun _=>False) w w2 k) x (w2.setCell ⟨g,i,none⟩ (ptrV y)):=by
 have h2:=h.keep hb
 have hg:=h.ring.rowF g rfl
 have hx:=h.blk.lt
 refine⟨h2.blk.far (p:=⟨g,i,none⟩) (fun e=>h.out (by rw[show x=g from e];exact hg.1)) _,h2.ring.put (jsP_stay sp) hi hj (fun k hk hG=>hk.elim False.elim (fun h3=>by have:=h.ring.low k hG;omega)) rfl,by rw[List.length_set];exact h.at0,by rw[List.length_set];exact h.n60,fun e=>e.elim h.out (fun e=>e.elim False.elim (fun e=>by omega))⟩
end
structure TcAt(sp:Spk)(now x:Nat)(v:Value)(L:List Js)(N:Nat)(F:Ft)(w:World)(j a:Nat)(C:List Js)(ps:List Nat)(Ow:Nat->Ft)(G:Ft)(wr:World):Prop where
 win:WinB sp now a C v ps Ow G x wr
 eq:rot sp.new a C=tickN sp L j
 len:C.length=N
 sub:∀k,G k->F k\/w.heap.size<=k
 touch:Touch F w wr
theorem win_tick_c{sp:Spk}{kd lo hi dg ac sz:Int}{gr:Bool}(hv:sp.v=specV kd lo hi dg gr ac sz)(hcs:sp.cs=[.int .u8 kd,.int .i64 lo,.int .i64 hi,.int .i64 dg,.bool gr,.int .i64 ac,.int .i64 sz])(ok:SpOk sp){x:Nat}{F:Ft}{s:Wn}(n:Nat)(w:World)(h:WinAt sp s x F w)(hnow:s.now<=9223372036854775807)(hn:n<18446744073709551616) :
 Calls Tryz.prog 49 #[.pointer (some ⟨x,0,none⟩),.int .u64 n] w fun e w'=>e=.returned (.tuple #[])/\WinAt sp (wtick sp n s) x (Gr F w w') w'/\Touch F w w':=by
 obtain⟨a0,C,v,ps,Ow,G,h1,h2,h3,h4,h5⟩:=h
 have CM:Hid (∀w1:World,Calls Tryz.prog 21 #[.agg #[.int .u8 kd,.int .i64 lo,.int .i64 hi,.int .i64 dg,.bool gr,.int .i64 ac,.int .i64 sz]] w1 _):=Lib.hid (fun w1=>by rw[show Value.agg #[.int .u8 kd,.int .i64 lo,.int .i64 hi,.int .i64 dg,.bool gr,.int .i64 ac,.int .i64 sz]=sp.v from hv.symm];exact js_make w1 ok)
 obtain⟨g,c,rfl,_,hc1,hc2,hGg,_⟩:=h1.ring.pos h1.pos
 have c7:=h1.c7
 have c9:=h1.c9
 have z9:=h1.blk.frozen 9
 have hpos:=h1.pos
 have h60:=h1.n60
 have hL:s.L.length=C.length:=by rw[h2,rot_length]
 obtain⟨k,hk⟩:∃k,tkA n s=k:=⟨_,rfl⟩
 have hmin:min (n:Int) (9223372036854775807 - (s.now:Int))=(k:Int):=by rw[<-hk];unfold tkA;omega
 have hkn:s.now+k<=9223372036854775807:=by rw[<-hk];unfold tkA;omega
 have HW1:=Lib.hid (h1.now_ (now':=s.now+k))
 have HEQ:=Lib.hid h2
 have hgx:g≠x:=fun e=>h1.out (by rw[<-e];exact hGg)
 clear h1 h2 hv
 have hs0:¬((9223372036854775807:Int) - (s.now:Int)<0):=by omega
 go_enter Tryz.func49,Tryz.ntmps49
 go_upto_region 2 with fail
 obtain⟨w1,hw1⟩:∃z,w.setCell ⟨x,9,none⟩ (.int .u64 ((s.now:Int)+(k:Int)))=z:=⟨_,rfl⟩
 rw[hw1]
 have HW:Hid (TcAt sp (s.now+k) x (.slice (some ⟨g,0,none⟩) C.length c) s.L C.length F w 0 a0 C ps Ow G w1):=by
  have h:=HW1.out
  rw[Int.natCast_add,hw1] at h
  exact Lib.hid ⟨h,HEQ.out.symm,rfl,fun j hj=>.inl (h4 j hj),by rw[<-hw1];exact Touch.setCell (Touch.refl _ _) (p:=⟨x,9,none⟩) (.inl h3) _⟩
 clear hw1 c7 c9 z9 HW1 HEQ hmin hs0
 have c7:=HW.out.win.c7
 obtain⟨m,hm⟩:∃m,min k C.length=m:=⟨_,rfl⟩
 have hmi:min (k:Int) (C.length:Int)=(m:Int):=by omega
 have hmn:m<=C.length:=by omega
 have HM:=Lib.hid hm
 clear hm
 go_wp2_with fail
 clear c7
 go_loopg [27] m (fun q t27 wr=>∃(j a:Nat) (C1:List Js) (ps1:List Nat) (Ow1:Nat->Ft) (G1:Ft),q=m - j/\j<=m/\t27=.int .u64 j/\Hid (TcAt sp (s.now+k) x (.slice (some ⟨g,0,none⟩) C.length c) s.L C.length F w j a C1 ps1 Ow1 G1 wr))
 case atStart=>exact⟨0,a0,C,ps,Ow,G,rfl,by omega,rfl,HW⟩
 case round=>
  obtain⟨j,a,C1,ps1,Ow1,G1,hq,hj,rfl,HT⟩:=hrel
  have HQ:=Lib.hid hq
  clear hq
  by_cases hlt:j<m
  ·have hji:(j:Int)<(m:Int):=by omega
   have c7:=HT.out.win.c7
   have c8:=HT.out.win.c8
   have f8:=HT.out.win.blk.frozen 8
   have ha0:=HT.out.win.at0
   have hlen:=HT.out.len
   rw[hlen] at ha0
   obtain⟨a1,ha1⟩:∃z,(a+1) % C.length=z:=⟨_,rfl⟩
   have ha1i:((a:Int)+1) % (C.length:Int)=(a1:Int):=by rw[<-ha1,Int.natCast_emod,Int.natCast_add];rfl
   have hwr:IntKind.i64.wrap ((a:Int)+1)=(a:Int)+1:=by rw[IntKind.wrap_i64];omega
   have htm:Int.tmod ((a:Int)+1) (C.length:Int)=(a1:Int):=by rw[Int.tmod_eq_emod_of_nonneg (by omega)];exact ha1i
   have hne:¬C=[]:=fun e=>by rw[e] at hpos;simp at hpos
   have AR:=Lib.hid (And.intro hwr htm)
   clear hwr htm ha1i
   have ha1l:a1<C.length:=by rw[<-ha1];exact Nat.mod_lt _ hpos
   have hn0:¬(C.length:Int)=0:=by omega
   have lx:=HT.out.win.blk.lt
   have W2:=Lib.hid (HT.out.win.at_ (a1:=a1) (by rw[hlen];exact ha1l))
   have HA1:=Lib.hid ha1
   have CC:=Lib.hid (And.intro c7 (And.intro c8 f8))
   clear c7 c8 f8 ha1
   go_upto_region 4 with fail
   refine wp_region_planS (fun w'=>w'=wr.drew) 14 [(0,1),(1,1),(2,1),(3,1),(4,1),(5,1),(6,1),(7,1),(8,1),(9,1),(10,1),(11,1),(12,2),(13,1),(14,0)] (by kernel_rfl) (by kernel_rfl) (rfl) ?_
   iterate 12
    refine wpPlanS_read (by rfl) (by rfl) (fun R hR=>?_)
    apply Exists.intro
    refine⟨fun w' hS'=>?_,?_⟩
    ·subst hS'
     obtain⟨hwr,htm⟩:=AR.out
     have c7:wr.drew.cell? ⟨x,7,none⟩=_:=CC.out.1
     have c8:wr.drew.cell? ⟨x,8,none⟩=_:=CC.out.2.1
     go_simp
     exact⟨rfl,rfl⟩
    go_simp
    refine hR _ ?_
    clear hR R
   iterate 1
    refine wpPlanS_pure (by rfl) (by rfl) (fun R hR=>?_)
    apply Exists.intro
    refine⟨fun w'=>?_,?_⟩
    ·go_simp
     exact⟨rfl,rfl⟩
    go_simp
    refine hR _ ?_
    clear hR R
   iterate 1
    refine wpPlanS_read (by rfl) (by rfl) (fun R hR=>?_)
    apply Exists.intro
    refine⟨fun w' hS'=>?_,?_⟩
    ·subst hS'
     obtain⟨hwr,htm⟩:=AR.out
     have c7:wr.drew.cell? ⟨x,7,none⟩=_:=CC.out.1
     have c8:wr.drew.cell? ⟨x,8,none⟩=_:=CC.out.2.1
     go_simp
     exact⟨rfl,rfl⟩
    go_simp
    refine hR _ ?_
    clear hR R
   refine wpPlanS_end (by rfl) (by rfl) (by rfl) (fun K hK=>?_)
   have c8:wr.drew.cell? ⟨x,8,none⟩=_:=CC.out.2.1
   have f8:wr.drew.frozen? ⟨x,8,none⟩=_:=CC.out.2.2
   go_simp
   refine hK _ _ ?_
   clear hK K
   refine wpPlanS_nil ?_
   obtain⟨w2,hw2⟩:∃z,(wr.setCell ⟨x,8,none⟩ (.int .i64 a1)).drew=z:=⟨_,rfl⟩
   try refine calm_normal ?_
   rw[hw2]
   have V2:Hid (WinB sp (s.now+k) a1 C1 (.slice (some ⟨g,0,none⟩) C.length c) ps1 Ow1 G1 x w2):=by rw[<-hw2];exact Lib.hid (W2.out.keep (Below.refl _ _).drew)
   have T2:Hid (Touch F w w2):=by rw[<-hw2];exact Lib.hid ((HT.out.touch.setCell (p:=⟨x,8,none⟩) (.inl h3) _).drew)
   clear hw2 W2 CC AR
   have lx2:=V2.out.blk.lt
   have nx:¬(x=g):=fun e=>hgx e.symm
   have hblk:=V2.out.blk
   rw[hcs] at hblk
   have s0:=hblk.cell 0
   have s1:=hblk.cell 1
   have s2:=hblk.cell 2
   have s3:=hblk.cell 3
   have s4:=hblk.cell 4
   have s5:=hblk.cell 5
   have s6:=hblk.cell 6
   simp only[List.cons_append,List.nil_append,List.getElem?_toArray,List.getElem?_cons_zero,List.getElem?_cons_succ] at s0 s1 s2 s3 s4 s5 s6
   have SS:=Lib.hid (And.intro s0 (And.intro s1 (And.intro s2 (And.intro s3 (And.intro s4 (And.intro s5 s6))))))
   have CC:=Lib.hid (And.intro V2.out.c7 V2.out.c8)
   have hC1:a1<C1.length:=by rw[hlen];exact ha1l
   have hgx1:=(V2.out.ring.row.lt g rfl).2
   have cg:=pt_cell V2.out.ring.row (j:=a1) (by rw[V2.out.ring.len];exact hC1)
   have fg:=V2.out.ring.row.frozenAt a1
   have GG:=Lib.hid (And.intro cg fg)
   have hai:(a1:Int)<(C.length:Int):=by omega
   have hai0:0<=(a1:Int):=by omega
   clear hblk s0 s1 s2 s3 s4 s5 s6 cg fg
   go_upto_region 5 with fail
   have FBq:=Lib.hid (fun w' (hS':(Touch (fun j=>j=g) w2) w')=>(And.intro ((tcell hS' 0 lx2 nx).trans SS.out.1) (And.intro ((tcell hS' 1 lx2 nx).trans SS.out.2.1) (And.intro ((tcell hS' 2 lx2 nx).trans SS.out.2.2.1) (And.intro ((tcell hS' 3 lx2 nx).trans SS.out.2.2.2.1) (And.intro ((tcell hS' 4 lx2 nx).trans SS.out.2.2.2.2.1) (And.intro ((tcell hS' 5 lx2 nx).trans SS.out.2.2.2.2.2.1) (And.intro ((tcell hS' 6 lx2 nx).trans SS.out.2.2.2.2.2.2) (And.intro ((tcell hS' 7 lx2 nx).trans CC.out.1) ((tcell hS' 8 lx2 nx).trans CC.out.2))))))))))
   refine wp_region_plan (Touch (fun j=>j=g) w2) [(0,true),(1,true),(2,true),(3,true),(4,true),(5,true),(6,true),(7,true),(8,true),(9,true),(10,true),(11,true),(12,false),(13,true),(14,true),(15,true),(16,true),(17,false)] (by kernel_rfl) (by kernel_rfl) ((Touch.refl _ _).drew) ?_
   iterate 12
    refine wpPlan_read (by rfl) (by rfl) (fun R hR=>?_)
    apply Exists.intro
    refine⟨fun w' hS'=>?_,?_⟩
    ·obtain⟨s0,s1,s2,s3,s4,s5,s6,c7,c8⟩:=FBq.out w' hS'
     go_simp
     exact⟨rfl,rfl⟩
    go_simp
    refine hR _ ?_
    clear hR R
   refine wpPlan_do (by rfl) (by rfl) (fun K hK=>?_)
   go_simp
   refine(CM.out w2.drew).mono ?_
   rintro e w3 ⟨y,rfl,hj',hb3⟩
   have B3:Below w2.heap.size w2 w3:=(Below.refl _ _).drew.trans hb3
   have T3:Touch (fun j=>j=g) w2 w3:=Touch.of_below B3 (Nat.le_refl _)
   have FR:=Lib.hid ((V2.out.keep (Below.refl _ _).drew).fresh hC1 hj' hb3)
   have kg:=(B3.cell (p:=⟨g,a1,none⟩) hgx1).trans GG.out.1
   have kf:=(B3.frozen (p:=⟨g,a1,none⟩) hgx1).trans GG.out.2
   have T4:=Touch.setCell T3 (p:=⟨g,a1,none⟩) (.inl rfl) (ptrV y)
   unfold ptrV at T4 FR
   refine hK _ _ (T3) ?_
   clear hK K
   iterate 4
    refine wpPlan_read (by rfl) (by rfl) (fun R hR=>?_)
    apply Exists.intro
    refine⟨fun w' hS'=>?_,?_⟩
    ·obtain⟨s0,s1,s2,s3,s4,s5,s6,c7,c8⟩:=FBq.out w' hS'
     go_simp
     exact⟨rfl,rfl⟩
    go_simp
    refine hR _ ?_
    clear hR R
   refine wpPlan_do (by rfl) (by rfl) (fun K hK=>?_)
   go_simp
   refine hK _ _ (T4) ?_
   clear hK K
   refine wpPlan_nil ?_
   obtain⟨w4,hw4⟩:∃z,w3.setCell ⟨g,a1,none⟩ (.pointer (some ⟨y,0,none⟩))=z:=⟨_,rfl⟩
   try refine calm_normal ?_
   rw[hw4] at T4 FR
   rw[hw4]
   have HT4:Hid (TcAt sp (s.now+k) x (.slice (some ⟨g,0,none⟩) C.length c) s.L C.length F w (j+1) a1 (C1.set a1 sp.new) (ps1.set a1 y) (updF Ow1 a1 (Gr (fun _=>False) w2.drew w3)) (fun k=>G1 k\/Gr (fun _=>False) w2.drew w3 k) w4):=by
    refine Lib.hid ⟨FR.out,?_,by rw[List.length_set];exact hlen,fun i hi=>hi.elim (HT.out.sub i) (fun h=>h.elim False.elim (fun h=>?_)),T2.out.trans T4 (fun i e=>.inl (by rw[show i=g from e];exact h4 g hGg))⟩
    ·have:=rot_tick (sp:=sp) (a0:=a) (C:=C1) (by rw[hlen];exact ha0)
     rw[hlen,HA1.out,HT.out.eq] at this
     exact this
    ·have:=T2.out.size
     have h:w2.heap.size<=i:=h.1
     exact .inr (by omega)
   clear hw4 T3 T4 FR kg kf
   go_wp2_with fail
   go_roundg (m - (j+1))
   case measure=>have:=HQ.out;omega
   case rel=>exact⟨j+1,_,_,_,_,_,rfl,by omega,by go_num,HT4⟩
  ·have hji:¬((j:Int)<(m:Int)):=by omega
   obtain rfl:j=m:=by omega
   go_wp2_with fail
   have hz:=HT.out.touch.size
   have hWN:WinAt sp (wtick sp n s) x (Gr F w wr) wr:=by
    refine⟨a,C1,.slice (some ⟨g,0,none⟩) C.length c,ps1,Ow1,fun i=>G1 i,?_,?_,.inl h3,fun i hi=>?_,gr_lt h5 hz⟩
    ·have:=HT.out.win
     show WinB sp (s.now+tkA n s) a C1 (.slice (some ⟨g,0,none⟩) C.length c) ps1 Ow1 G1 x wr
     rw[hk];exact this
    ·show tickN sp s.L (min (tkA n s) s.L.length)=_
     rw[hk,hL,HM.out];exact HT.out.eq.symm
    ·exact(HT.out.sub i hi).imp id (fun h=>⟨h,HT.out.win.ring.low i hi⟩)
   refine bodyPost_end (v:=.tuple #[]) (by simp[results,Tryz.results49,go_sem, *];try rfl) rfl ?_
   exact⟨rfl,hWN,HT.out.touch⟩
theorem win_tick{sp:Spk}{x:Nat}{F:Ft}{s:Wn}(n:Nat)(w:World)(ok:SpOk sp)(h:WinAt sp s x F w)(hnow:s.now<=9223372036854775807)(hn:n<18446744073709551616) :
 Calls Tryz.prog 49 #[.pointer (some ⟨x,0,none⟩),.int .u64 n] w fun e w'=>e=.returned (.tuple #[])/\WinAt sp (wtick sp n s) x (Gr F w w') w'/\Touch F w w':=by
 cases sp with
 | h lo hi dg u m gr=>exact win_tick_c rfl rfl ok n w h hnow hn
 | d a m=>exact win_tick_c rfl rfl ok n w h hnow hn
 | t d=>exact win_tick_c rfl rfl ok n w h hnow hn
 | k q=>exact win_tick_c rfl rfl ok n w h hnow hn
open Go.RowKit Go.Lib Go.Shelf
open Go.RowKit Go.Lib Go.Shelf
open Go.RowKit Go.Lib Go.Shelf
open Go.RowKit Go.Lib Go.Shelf
section
variable {y : Nat} {p1 p2 p3 p4 : Value} {w : World} {Q : Value -> World -> Prop} {lo hi dg ac sz : Int} {gr : Bool}
theorem rjadd1_any{a n c:Value}(hy:Blk w y 146 #[.int .u8 1,.int .i64 lo,.int .i64 hi,.int .i64 dg,.bool gr,.int .i64 ac,.int .i64 sz,p1,p2,p3,p4])(h:Calls Tryz.prog 174 #[p1,a,n] w fun e w'=>∃v,e=.returned v/\Q v w') :
 Calls Tryz.prog 81 #[.pointer (some ⟨y,0,none⟩),a,n,c] w fun e w'=>∃v,e=.returned v/\Q v w':=by
 have C:=Lib.hid h
 have HY:=Lib.hid hy
 clear h hy
 have f0:=HY.out.cell 0
 have f1:=HY.out.cell 7
 simp only[List.getElem?_toArray,List.getElem?_cons_zero,List.getElem?_cons_succ] at f0 f1
 go_enter Tryz.func81,Tryz.ntmps81
 go_wp2_with fail
 refine(C.out).mono ?_
 rintro e w1 ⟨v,rfl,hq⟩
 have HQ:=Lib.hid hq
 clear hq
 go_wp2_with fail
 go_ret
 exact⟨_,rfl,HQ.out⟩
theorem rjadd2_any{a n c:Value}(hy:Blk w y 146 #[.int .u8 2,.int .i64 lo,.int .i64 hi,.int .i64 dg,.bool gr,.int .i64 ac,.int .i64 sz,p1,p2,p3,p4])(h:Calls Tryz.prog 175 #[p2,a,n] w fun e w'=>∃v,e=.returned v/\Q v w') :
 Calls Tryz.prog 81 #[.pointer (some ⟨y,0,none⟩),a,n,c] w fun e w'=>∃v,e=.returned v/\Q v w':=by
 have C:=Lib.hid h
 have HY:=Lib.hid hy
 clear h hy
 have f0:=HY.out.cell 0
 have f1:=HY.out.cell 8
 simp only[List.getElem?_toArray,List.getElem?_cons_zero,List.getElem?_cons_succ] at f0 f1
 go_enter Tryz.func81,Tryz.ntmps81
 go_wp2_with fail
 refine(C.out).mono ?_
 rintro e w1 ⟨v,rfl,hq⟩
 have HQ:=Lib.hid hq
 clear hq
 go_wp2_with fail
 go_ret
 exact⟨_,rfl,HQ.out⟩
theorem rjadd3_any{a n c:Value}(hy:Blk w y 146 #[.int .u8 3,.int .i64 lo,.int .i64 hi,.int .i64 dg,.bool gr,.int .i64 ac,.int .i64 sz,p1,p2,p3,p4])(h:Calls Tryz.prog 176 #[p3,a,n] w fun e w'=>∃v,e=.returned v/\Q v w') :
 Calls Tryz.prog 81 #[.pointer (some ⟨y,0,none⟩),a,n,c] w fun e w'=>∃v,e=.returned v/\Q v w':=by
 have C:=Lib.hid h
 have HY:=Lib.hid hy
 clear h hy
 have f0:=HY.out.cell 0
 have f1:=HY.out.cell 9
 simp only[List.getElem?_toArray,List.getElem?_cons_zero,List.getElem?_cons_succ] at f0 f1
 go_enter Tryz.func81,Tryz.ntmps81
 go_wp2_with fail
 refine(C.out).mono ?_
 rintro e w1 ⟨v,rfl,hq⟩
 have HQ:=Lib.hid hq
 clear hq
 go_wp2_with fail
 go_ret
 exact⟨_,rfl,HQ.out⟩
theorem rjadd4_any{a n c:Value}(hy:Blk w y 146 #[.int .u8 4,.int .i64 lo,.int .i64 hi,.int .i64 dg,.bool gr,.int .i64 ac,.int .i64 sz,p1,p2,p3,p4])(h:Calls Tryz.prog 177 #[p4,a,n,c] w fun e w'=>∃v,e=.returned v/\Q v w') :
 Calls Tryz.prog 81 #[.pointer (some ⟨y,0,none⟩),a,n,c] w fun e w'=>∃v,e=.returned v/\Q v w':=by
 have C:=Lib.hid h
 have HY:=Lib.hid hy
 clear h hy
 have f0:=HY.out.cell 0
 have f1:=HY.out.cell 10
 simp only[List.getElem?_toArray,List.getElem?_cons_zero,List.getElem?_cons_succ] at f0 f1
 go_enter Tryz.func81,Tryz.ntmps81
 go_wp2_with fail
 refine(C.out).mono ?_
 rintro e w1 ⟨v,rfl,hq⟩
 have HQ:=Lib.hid hq
 clear hq
 go_wp2_with fail
 go_ret
 exact⟨_,rfl,HQ.out⟩
end
open Go.RowKit Go.Lib Go.Shelf
open Go.RowKit Go.Lib
theorem fixedn_any(w:World):Calls Tryz.prog 276 #[.int .u8 110] w fun e w'=>e=.returned (.tuple #[.int .i64 0,.bool false])/\w=w':=by
 go_enter Tryz.func276,Tryz.ntmps276
 go_wp2
 go_ret2
 exact⟨rfl,rfl⟩
theorem fixedW_any(w:World):Calls Tryz.prog 276 #[.int .u8 87] w fun e w'=>e=.returned (.tuple #[.int .i64 4,.bool true])/\w=w':=by
 go_enter Tryz.func276,Tryz.ntmps276
 go_wp2
 go_ret2
 exact⟨rfl,rfl⟩
theorem fixedQ_any(w:World):Calls Tryz.prog 276 #[.int .u8 81] w fun e w'=>e=.returned (.tuple #[.int .i64 8,.bool true])/\w=w':=by
 go_enter Tryz.func276,Tryz.ntmps276
 go_wp2
 go_ret2
 exact⟨rfl,rfl⟩
theorem ronen_any(x:Int)(w:World)(h0:-9223372036854775808<=x)(h1:x<=9223372036854775807) :
 Calls Tryz.prog 181 #[.int .u8 110,.int .u64 (ub x)] w fun e w'=>∃v,e=.returned (.tuple #[v,.bool true])/\OwnB w.heap.size w' v (nn x)/\Below w.heap.size w w':=by
 have sb:=sgn_bd h0 h1
 have FX:=fun w=>Lib.hid (fixedn_any w)
 have SG:=Lib.hid (rsign_any x w h0 h1)
 have HN:Hid (nn x=lebF 8 (sgn x)):=Lib.hid rfl
 rw[HN.out]
 clear HN
 generalize sgn x=m at *
 generalize ub x=n at *
 go_enter Tryz.func181,Tryz.ntmps181
 go_wp2_with (first|(go_at_call 276;refine((FX _).out).mono ?_;rintro e w' ⟨rfl,rfl⟩)|(go_at_call 277;refine(SG.out).mono ?_;rintro e w' ⟨rfl,rfl⟩))
 go_loopg [8,11] 8 (fun k b v wr=>∃(q:Int) (acc:List Int),k+acc.length=8/\v=.int .u64 q/\0<=q/\q<256 * 128 ^ k/\Hid (acc++lebF k q=lebF 8 m)/\Hid (OwnB w.heap.size wr b acc)/\Below w.heap.size w wr)
 case atStart=>exact⟨m,[],rfl,rfl,sb.1,by omega,Lib.hid rfl,Lib.hid (OwnI.nil_ _ _ _ _),Below.refl _ _⟩
 case round=>
  obtain⟨q,acc,hk,rfl,q0,q1,he,HO,hb⟩:=hrel
  have hz:=hb.size
  have hlen:acc.length+1<=1099511627776:=by omega
  obtain⟨A8,k8,hv8,_,_,_⟩:=(OwnI.rd HO.out).form
  obtain⟨n8,hn8⟩:∃z,acc.length=z:=⟨_,rfl⟩
  rw[hn8] at hv8
  subst hv8
  have HOE:=Lib.hid (ownB_E.1 HO.out)
  have HEND:Hid (∀(y:Int) (v2:Value) (w2:World),OwnE bE w.heap.size w2 v2 (acc++[y])->(wr.alloc (.cells #[.int .u8 y] 5)).grownBy w2 (Value.slice A8 n8 k8).ownBlock->Below w.heap.size w w2):=Lib.hid (fun y v2 w2 _ g2=>(hb.alloc hz _).grown g2 (by simp only[World.size_alloc];omega) (fun k hk=>(HOE.out.lt k hk).1))
  by_cases hk0:gk=0
  ·subst hk0
   obtain rfl:n8=8:=by omega
   have hq8:q % 256=q:=by simp at q1;omega
   have EB:Hid (IntKind.u8.wrap q=q):=Lib.hid hq8
   have he0:acc++[q]=lebF 8 m:=he.out
   have HE0:=Lib.hid he0
   clear he he0 hn8 q1 hq8
   have eb:=EB.out
   by_cases hq:127<q
   ·go_wp2_with (at_builtin;refine apL tyB rfl (.tmp 69) (.tmp 72) rfl (HOE.out.alloc _) rfl _ [q] rfl (RdE.one_at (E:=bE) _ q _ rfl _ rfl _ (by simp)) hlen (by go_size) ?_;intro v2 w2 o2 g2 _;have hb2:=HEND.out q _ w2 o2 g2;have O2:=Lib.hid (ownB_E.2 o2);clear o2 g2)
    go_ret2
    exact⟨_,rfl,by rw[<-HE0.out];exact O2.out,hb2⟩
   ·go_wp2_with (at_builtin;refine apL tyB rfl (.tmp 69) (.tmp 72) rfl (HOE.out.alloc _) rfl _ [q] rfl (RdE.one_at (E:=bE) _ q _ rfl _ rfl _ (by simp)) hlen (by go_size) ?_;intro v2 w2 o2 g2 _;have hb2:=HEND.out q _ w2 o2 g2;have O2:=Lib.hid (ownB_E.2 o2);clear o2 g2)
    go_ret2
    exact⟨_,rfl,by rw[<-HE0.out];exact O2.out,hb2⟩
  ·obtain⟨r,rfl⟩:∃r,gk=r+1:=⟨gk - 1,by omega⟩
   have hn88:((n8:Int) == 8)=false:=by simp;omega
   by_cases hq:127<q
   ·have hE:=Lib.hid (lebF_more r q hq)
    have hd:q / 128<256 * 128 ^ r:=Int.ediv_lt_of_lt_mul (by omega) (by rw[Int.mul_assoc,<-Int.pow_succ];exact q1)
    have HCM:=Lib.hid (show q % 128+128=128+q % 128 by omega)
    have hq64:q<18446744073709551616:=by
     have h1:(128:Int) ^ (r+1)<=128 ^ 8:=by
      have h2:(128:Nat) ^ (r+1)<=128 ^ 8:=Nat.pow_le_pow_right (by omega) (by omega)
      exact_mod_cast h2
     omega
    clear q1 hn8
    go_wp2_with (at_builtin;refine apL tyB rfl (.tmp 60) (.tmp 65) rfl (HOE.out.alloc _) rfl _ [128+q % 128] rfl (RdE.one_at (E:=bE) _ (128+q % 128) _ rfl _ rfl _ (by simp)) hlen (by go_size) ?_;intro v2 w2 o2 g2 _;have hb2:=HEND.out _ _ w2 o2 g2;have O2:=Lib.hid (ownB_E.2 o2);clear o2 g2)
    go_roundg r
    case measure=>omega
    case rel=>exact⟨q / 128,acc++[128+q % 128],by simp;omega,rfl,by omega,hd,Lib.hid (by rw[List.append_assoc,<-he.out,hE.out,HCM.out];rfl),O2,hb2⟩
   ·have hE:=Lib.hid (lebF_last (r+1) q hq)
    have hq8:q % 256=q:=by omega
    have EB:Hid (IntKind.u8.wrap q=q):=Lib.hid hq8
    clear q1 hn8 hq8
    have eb:=EB.out
    go_wp2_with (at_builtin;refine apL tyB rfl (.tmp 69) (.tmp 72) rfl (HOE.out.alloc _) rfl _ [q] rfl (RdE.one_at (E:=bE) _ q _ rfl _ rfl _ (by simp)) hlen (by go_size) ?_;intro v2 w2 o2 g2 _;have hb2:=HEND.out q _ w2 o2 g2;have O2:=Lib.hid (ownB_E.2 o2);clear o2 g2)
    go_ret2
    exact⟨_,rfl,by rw[<-he.out,hE.out];exact O2.out,hb2⟩
theorem beN_cons:∀(j:Nat) (n:Int),beN (j+1) n=(n / 2 ^ (8 * j) % 256)::beN j n
 | 0,n=>by simp[beN]
 | j+1,n=>by
  have e:n / 256 / 2 ^ (8 * j)=n / 2 ^ (8 * (j+1)):=by
   rw[Int.ediv_ediv_of_nonneg (by omega)]
   congr 1
   rw[Nat.mul_add,Int.pow_add,Int.mul_comm];rfl
  rw[beN,beN_cons j (n / 256),e]
  rfl
theorem roneh_any(K:Nat)(c n:Int)(w:World)(hf:∀w,Calls Tryz.prog 276 #[.int .u8 c] w fun e w'=>e=.returned (.tuple #[.int .i64 K,.bool true])/\w=w')(k0:0<K)(k1:K<=8)(n0:0<=n)(n1:n<18446744073709551616)(nK:n / 2 ^ (8 * K)=0) :
 Calls Tryz.prog 181 #[.int .u8 c,.int .u64 n] w fun e w'=>∃v,e=.returned (.tuple #[v,.bool true])/\OwnB w.heap.size w' v (beN K n)/\Below w.heap.size w w':=by
 have FX:=fun w=>Lib.hid (hf w)
 have hk0:(0:Int)<(K:Int):=by omega
 have NK:=Lib.hid nK
 clear hf nK
 go_enter Tryz.func181,Tryz.ntmps181
 go_wp2_with (go_at_call 276;refine((FX _).out).mono ?_;rintro e w' ⟨rfl,rfl⟩)
 go_loopg [8,9,10] K (fun k b v i wr=>∃j:Nat,k=K - j/\j<=K/\i=.int .i64 j/\v=.int .u64 (n / 2 ^ (8 * j))/\Hid (OwnB w.heap.size wr b (beN j n))/\Below w.heap.size w wr)
 case atStart=>exact⟨0,rfl,by omega,rfl,by simp,Lib.hid (OwnI.nil_ _ _ _ _),Below.refl _ _⟩
 case round=>
  obtain⟨j,hq,hj,rfl,rfl,HO,hb⟩:=hrel
  have HQ:=Lib.hid hq
  have hz:=hb.size
  clear hq
  by_cases hlt:j<K
  ·have hji:(j:Int)<(K:Int):=by omega
   obtain⟨m,hm⟩:∃m,n / 2 ^ (8 * j)=m:=⟨_,rfl⟩
   have hm0:0<=m:=by rw[<-hm];exact Int.ediv_nonneg n0 (Int.le_of_lt (Int.pow_pos (by omega)))
   have hmn:m<=n:=by rw[<-hm];exact Int.ediv_le_self _ n0
   have HM:Hid (n / 2 ^ (8 * (j+1))=m / 256):=Lib.hid (by
    rw[<-hm,Int.ediv_ediv_of_nonneg (Int.le_of_lt (Int.pow_pos (by omega)))]
    congr 1
    rw[Nat.mul_add,Int.pow_add];rfl)
   have HC:Hid (beN (j+1) n=[m % 256]++beN j n):=Lib.hid (by rw[beN_cons,hm];rfl)
   have EB:Hid (IntKind.u8.wrap (m % 256)=m % 256):=Lib.hid (by rw[show IntKind.u8.wrap (m % 256)=m % 256 % 256 from rfl];omega)
   have hl:=beN_len j n
   rw[hm]
   obtain⟨A8,k8,hv8,_,_,_⟩:=(OwnI.rd HO.out).form
   obtain⟨n8,hn8⟩:∃z,(beN j n).length=z:=⟨_,rfl⟩
   rw[hn8] at hv8
   subst hv8
   have hlen:[m % 256].length+(beN j n).length<=1099511627776:=by simp;omega
   have HR:Hid (RdE bE (wr.alloc (.cells #[.int .u8 (m % 256)] 5)) (.slice A8 n8 k8) (beN j n)):=Lib.hid ((ownB_E.1 HO.out).alloc _).rd
   have HW:Hid (OwnE bE wr.heap.size (wr.alloc (.cells #[.int .u8 (m % 256)] 5)) (.slice (some ⟨wr.heap.size,0,none⟩) 1 1) [m % 256]):=Lib.hid (OwnE.one (E:=bE) wr (m % 256) _ rfl _ rfl)
   have eb:=EB.out
   clear hm hn8
   go_wp2_with (at_builtin;refine apL tyB rfl (.tmp 29) (.tmp 30) rfl HW.out rfl _ (beN j n) rfl HR.out hlen (by go_size) ?_;intro v2 w2 o2 g2 _;have O2:=Lib.hid (ownB_E.2 (o2.more hz));have hb2:Below w.heap.size w w2:=(hb.alloc hz _).grown g2 (by simp only[World.size_alloc];omega) (fun k hk=>by have:=(OwnE.lt HW.out k hk).1;omega);clear o2 g2)
   go_roundg (K - (j+1))
   case measure=>have:=HQ.out;omega
   case rel=>exact⟨j+1,rfl,by omega,by go_num,by rw[HM.out],by rw[HC.out];exact O2,hb2⟩
  ·obtain rfl:j=K:=by omega
   rw[NK.out]
   go_wp2_with fail
   go_ret2
   exact⟨_,rfl,HO.out,hb⟩
end Go.Proofs.YtkiebccnpheloaaGreat.D
