/- Parts of a proof. No condition. -/
import Derived.Test.YtilcnjbpmoijmaaGreatPw44
set_option maxRecDepth 100000
set_option maxHeartbeats 16000000
set_option linter.unusedVariables false
set_option linter.unusedSimpArgs false
namespace Go.Proofs.YtilcnjbpmoijmaaGreat.D
open Tryz
open Go.RowKit Go.Lib Go.Shelf
variable{sp:fG}
theorem w_{kd lo hi dg ac sz:Int}{gr:Bool}(hv:sp.v=dS kd lo hi dg gr ac sz)(hcs:sp.cs=[.int .u8 kd,.int .i64 lo,.int .i64 hi,.int .i64 dg,.bool gr,.int .i64 ac,.int .i64 sz])(ok:jG sp)(n:Nat)(w:World)(h0:1<=n)(h60:n<=60) :
 aH 9 #[dS kd lo hi dg gr ac sz,.int .i64 n] w fun e w'=>∃x,e=.returned (.tuple #[.pointer (some ⟨x,0,none⟩),.int .i64 0])/\gQ sp (kV sp n) x (Gr (fun _=>False) w w') w'/\Below w.heap.size w w':=by
 have CM:Hid (∀w1:World,aH 34 #[.agg #[.int .u8 kd,.int .i64 lo,.int .i64 hi,.int .i64 dg,.bool gr,.int .i64 ac,.int .i64 sz]] w1 _):=aI (fun w1=>by rw[show Value.agg #[.int .u8 kd,.int .i64 lo,.int .i64 hi,.int .i64 dg,.bool gr,.int .i64 ac,.int .i64 sz]=sp.v from hv.symm];exact Md w1 ok)
 have YC:=aI hcs;clear hv hcs ok;unfold dS;obtain⟨b,hbb⟩:=aF (w.heap.size);obtain⟨wa,g_⟩:∃z,w.alloc (.cells #[.int .u8 kd,.int .i64 lo,.int .i64 hi,.int .i64 dg,.bool gr,.int .i64 ac,.int .i64 sz] 25)=z:=⟨_,rfl⟩;have ha:Below w.heap.size w wa:=by rw[<-g_];exact bw
 have B0:Hid (dK wa b 25 #[.int .u8 kd,.int .i64 lo,.int .i64 hi,.int .i64 dg,.bool gr,.int .i64 ac,.int .i64 sz]):=by rw[<-g_,<-hbb];exact aI (dK.new _ _ _)
 have lJ:=aI hbb;have hn1:¬(n:Int)<1:=ae
 have hn2:¬(n:Int) > 60:=ae
 go_enter func9,ntmps9
 go_upto_region 3 with fail;try rw[g_]
 clear g_ hbb;obtain⟨g,hgg⟩:=aF (wa.heap.size);have QO:=aI hgg;have lb:b<wa.heap.size:=B0.o.lt;obtain⟨s0,s1,s2,s3,s4,s5,s6⟩:=B0.o.c7;have SS:=aI (aP s0 (aP s1 (aP s2 (aP s3 (aP s4 (aP s5 s6))))));clear s0 s1 s2 s3 s4 s5 s6;have hmk:=JR n h60;have Ba:Below wa.heap.size wa wa.drew:=(aO _ _).drew;have Bm:Below wa.heap.size wa (wa.drew.alloc (.cells (madeCells #[.pointer none] n) 51)):=Ba.alloc Ba.size _;have mW:=aI (fun(w':World) (hS':(Below wa.heap.size wa) w')=>(aP ((hS'.cell (p:=⟨b,0,none⟩) lb).trans SS.o.1) (aP ((hS'.cell (p:=⟨b,1,none⟩) lb).trans SS.o.2.1) (aP ((hS'.cell (p:=⟨b,2,none⟩) lb).trans SS.o.2.2.1) (aP ((hS'.cell (p:=⟨b,3,none⟩) lb).trans SS.o.2.2.2.1) (aP ((hS'.cell (p:=⟨b,4,none⟩) lb).trans SS.o.2.2.2.2.1) (aP ((hS'.cell (p:=⟨b,5,none⟩) lb).trans SS.o.2.2.2.2.2.1) ((hS'.cell (p:=⟨b,6,none⟩) lb).trans SS.o.2.2.2.2.2.2))))))))
 refine jh (Below wa.heap.size wa) (dV 0 2 (fJ 2 (dV 3 1 (fJ 4 (dV 5 1 []))))) (Ba) ?_
 iterate 2 refine eQ ?_
 refine fO fun K hK=>?_
 go_simp;refine hK _ _ (Bm) ?_
 clear hK K;refine eQ ?_
 refine fO fun K hK=>?_
 go_simp;refine hK _ _ (Bm.alloc Bm.size _) ?_
 clear hK K;refine eQ ?_
 refine dJ ?_
 obtain⟨wc,hwc⟩:∃z,((wa.alloc (.cells (madeCells #[.pointer none] n) 51)).alloc (.cells #[.int .u8 kd,.int .i64 lo,.int .i64 hi,.int .i64 dg,.bool gr,.int .i64 ac,.int .i64 sz,.slice (some ⟨g,0,none⟩) n n,.int .i64 0,.int .u64 0] 89)).drew=z:=⟨_,rfl⟩;try refine dR ?_
 rw[hwc];have Vm:Hid (Uj sp sp.cs n 0 g (g+1) [] (fun _ _=>False) wa wc):=by
  rw[<-hwc];have hr:=av3 51 wa n ae
  rw[hgg] at hr;have hw:=dK.new (wa.alloc (.cells (madeCells #[.pointer none] n) 51)) 89 #[.int .u8 kd,.int .i64 lo,.int .i64 hi,.int .i64 dg,.bool gr,.int .i64 ac,.int .i64 sz,.slice (some ⟨g,0,none⟩) n n,.int .i64 0,.int .u64 0];rw[aV,hgg] at hw;refine aI ⟨rfl,ae,?_,?_,fun j hj=>by omega,fun a b k h=>h.elim,fun j k h=>h.elim,bw⟩
  ·exact((dL.more hr (df _)).alloc _).drew
  ·rw[YC.o];exact hw.drew
 have hgl:g<wc.heap.size:=by rw[<-hwc];show g<((wa.alloc _).alloc _).heap.size;rw[aV,aV,hgg];omega
 clear hwc Ba Bm hmk;have f7:wc.cell? ⟨g+1,7,none⟩=some (.slice (some ⟨g,0,none⟩) n n):=by have:=Vm.o.blk;rw[YC.o] at this;exact this.cell 7
 go_wp2_with fail;clear f7
 go_loopg [7,8,9,26] n (fun q _ _ _ t26 wr=>∃(i:Nat) (ps:List Nat) (Ow:Nat->Ft),q=n - i/\t26=.int .i64 i/\Hid (Uj sp sp.cs n i g (g+1) ps Ow wa wr))
 case atStart=>exact⟨0,_,_,ae,rfl,Vm⟩
 case round=>
  obtain⟨i,ps,Ow,hq,rfl,HN⟩:=hrel;have HQ:=aI hq;clear hq;have hin:=HN.o.le
  by_cases hlt:i<n
  ·have hji:(i:Int)<(n:Int):=ae
   have hb:=HN.o.below;have s0:=(hb.cell (p:=⟨b,0,none⟩) lb).trans SS.o.1;have s1:=(hb.cell (p:=⟨b,1,none⟩) lb).trans SS.o.2.1;have s2:=(hb.cell (p:=⟨b,2,none⟩) lb).trans SS.o.2.2.1;have s3:=(hb.cell (p:=⟨b,3,none⟩) lb).trans SS.o.2.2.2.1;have s4:=(hb.cell (p:=⟨b,4,none⟩) lb).trans SS.o.2.2.2.2.1;have s5:=(hb.cell (p:=⟨b,5,none⟩) lb).trans SS.o.2.2.2.2.2.1;have s6:=(hb.cell (p:=⟨b,6,none⟩) lb).trans SS.o.2.2.2.2.2.2;have af1:g<wr.heap.size:=(HN.o.row.lt g rfl).2;clear hb
   go_wp2_with fail;refine(CM.o wr).mono ?_
   rintro e w1 ⟨y,rfl,hj,hb1⟩;have PH:=aI (HN.o.next hlt (by rw[<-QO.o];exact aS _) ae af1 hj hb1)
   have f7:w1.cell? ⟨g+1,7,none⟩=some (.slice (some ⟨g,0,none⟩) n n):=by have:=HN.o.blk.keep hb1;rw[YC.o] at this;exact this.cell 7
   obtain⟨cg,hcg⟩:∃u,w1.cell? ⟨g,i,none⟩=some u:=by
    have:=(HN.o.row.keep hb1).cellAt (j:=i) (by simp[HN.o.len];omega) 0 (by show 0<1;omega)
    rw[show i * (poE 51).k+0=i by show i * 1+0=i;omega] at this
    exact⟨_,this⟩
   have fg:=(HN.o.row.keep hb1).frozenAt i;clear s0 s1 s2 s3 s4 s5 s6 hj hb1;unfold ji at PH
   go_wp2_with fail
   go_roundg (n - (i+1))
   case measure=>have:=HQ.o;omega
   case rel=>exact⟨i+1,_,_,rfl,ai,PH⟩
  ·have hji:¬((i:Int)<(n:Int)):=ae
   obtain rfl:i=n:=ae
   go_wp2_with fail;refine bodyPost_ret (by simp[results,Tryz.results9,go_sem, *];try rfl) rfl ?_
   have hg:=QO.o;have hz:=ha.size;have hd:=HN.o.done ae h60 ae  ae  ae
   exact⟨g+1,rfl,(jw sp _ _).more hd (fun k hk=>hk.elim False.elim (fun h=>.inr ⟨by omega,h.2⟩)) (fun k hk=>hk.elim False.elim And.right),ha.trans (HN.o.below.mono hz)⟩
theorem VS(n:Nat)(w:World)(ok:jG sp)(h0:1<=n)(h60:n<=60) :
 aH 9 #[sp.v,.int .i64 n] w fun e w'=>∃x,e=.returned (.tuple #[.pointer (some ⟨x,0,none⟩),.int .i64 0])/\gQ sp (kV sp n) x (Gr (fun _=>False) w w') w'/\Below w.heap.size w w':=by
 cases sp with
 | h lo hi dg u m gr=>exact w_ rfl rfl ok n w h0 h60
 | d a m=>exact w_ rfl rfl ok n w h0 h60
 | t d=>exact w_ rfl rfl ok n w h0 h60
 | k q=>exact w_ rfl rfl ok n w h0 h60
open Tryz
open Go.RowKit Go.Lib Go.Shelf
section
variable {sp : fG} {now now' a0 a1 x y g n c : Nat} {C : List Js} {ps : List Nat} {Ow : Nat -> Ft} {G F : Ft} {w w1 w2 : World} {s : Wn}
theorem jk.at_(h:jk sp now a0 C (.slice (some ⟨g,0,none⟩) n c) ps Ow G x w)(h1:a1<C.length):jk sp now a1 C (.slice (some ⟨g,0,none⟩) n c) ps Ow G x (w.setCell ⟨x,8,none⟩ (.int .i64 a1)):=by
 have hb:=h.blk.dQ 8 (.int .i64 a1);refine⟨by revert hb;cases sp<;>exact id,h.ring.far (H:=fun k=>k=x) (mg sp) (Touch.setCell (F:=fun k=>k=x) (Touch.refl _ w) (p:=⟨x,8,none⟩) (.inl rfl) _) (fun k hk e=>h.o (by rw[<-show k=x from e];exact hk)),h1,h.n60,h.o⟩
theorem jk.cc6(h:jk sp now a0 C (.slice (some ⟨g,0,none⟩) n c) ps Ow G x w):jk sp now' a0 C (.slice (some ⟨g,0,none⟩) n c) ps Ow G x (w.setCell ⟨x,9,none⟩ (.int .u64 now')):=by
 have hb:=h.blk.dQ 9 (.int .u64 now');refine⟨by revert hb;cases sp<;>exact id,h.ring.far (H:=fun k=>k=x) (mg sp) (Touch.setCell (F:=fun k=>k=x) (Touch.refl _ w) (p:=⟨x,9,none⟩) (.inl rfl) _) (fun k hk e=>h.o (by rw[<-show k=x from e];exact hk)),h.at0,h.n60,h.o⟩
theorem jk.fresh{c':Js}(h:jk sp now a0 C (.slice (some ⟨g,0,none⟩) n c) ps Ow G x w){i:Nat}(hi:i<C.length)(hj:iK sp c' y (Gr (fun _=>False) w w2) w2)(hb:Below w.heap.size w w2) :
 jk sp now a0 (C.set i c') (.slice (some ⟨g,0,none⟩) n c) (ps.set i y) (BO Ow i (Gr (fun _=>False) w w2)) (fun k=>G k\/Gr (fun _=>False) w w2 k) x (w2.setCell ⟨g,i,none⟩ (ji y)):=by
 have h2:=h.keep hb;have hg:=h.ring.l9 g rfl;have hx:=h.blk.lt;refine⟨h2.blk.far (p:=⟨g,i,none⟩) (fun e=>h.o (by rw[show x=g from e];exact hg.1)) _,h2.ring.put (mg sp) hi hj (fun k hk hG=>hk.elim False.elim (fun h3=>by have:=h.ring.low k hG;omega)) rfl,by rw[bK];exact h.at0,by rw[bK];exact h.n60,fun e=>e.elim h.o (fun e=>e.elim False.elim (fun e=>by omega))⟩
end
variable{sp:fG}{gr:Bool}{x:Nat}{F:Ft}{s:Wn}
structure bi7(sp:fG)(now x:Nat)(v:Value)(L:List Js)(N:Nat)(F:Ft)(w:World)(j a:Nat)(C:List Js)(ps:List Nat)(Ow:Nat->Ft)(G:Ft)(wr:World):Prop where
 win:jk sp now a C v ps Ow G x wr
 eq:Ik sp.new a C=zO sp L j
 len:C.length=N
 sub:∀k,G k->F k\/w.heap.size<=k
 touch:Touch F w wr
theorem tZ{kd lo hi dg ac sz:Int}(hv:sp.v=dS kd lo hi dg gr ac sz)(hcs:sp.cs=[.int .u8 kd,.int .i64 lo,.int .i64 hi,.int .i64 dg,.bool gr,.int .i64 ac,.int .i64 sz])(ok:jG sp)(n:Nat)(w:World)(h:gQ sp s x F w)(Uk:s.now<=9223372036854775807)(hn:n<18446744073709551616) :
 aH 32 #[.pointer (some ⟨x,0,none⟩),.int .u64 n] w fun e w'=>e=.returned (.tuple #[])/\gQ sp (xG sp n s) x (Gr F w w') w'/\Touch F w w':=by
 obtain⟨a0,C,v,ps,Ow,G,h1,h2,h3,h4,h5⟩:=h;have CM:Hid (∀w1:World,aH 34 #[.agg #[.int .u8 kd,.int .i64 lo,.int .i64 hi,.int .i64 dg,.bool gr,.int .i64 ac,.int .i64 sz]] w1 _):=aI (fun w1=>by rw[show Value.agg #[.int .u8 kd,.int .i64 lo,.int .i64 hi,.int .i64 dg,.bool gr,.int .i64 ac,.int .i64 sz]=sp.v from hv.symm];exact Md w1 ok)
 obtain⟨g,c,rfl,_,hc1,hc2,hGg,_⟩:=h1.ring.pos h1.pos;have c7:=h1.c7;have c9:=h1.c9;have z9:=h1.blk.frozen 9;have hpos:=h1.pos;have h60:=h1.n60;have hL:s.L.length=C.length:=by rw[h2,fB]
 obtain⟨k,hk⟩:=aF (tkA n s);have hmin:min (n:Int) (9223372036854775807 - (s.now:Int))=(k:Int):=by rw[<-hk];unfold tkA;omega
 have hkn:s.now+k<=9223372036854775807:=by rw[<-hk];unfold tkA;omega
 have HW1:=aI (h1.cc6 (now':=s.now+k));have HEQ:=aI h2;have hgx:g≠x:=fun e=>h1.o (by rw[<-e];exact hGg)
 clear h1 h2 hv;have hs0:¬((9223372036854775807:Int) - (s.now:Int)<0):=ae
 go_enter func32,ntmps32
 go_upto_region 2 with fail;obtain⟨w1,hw1⟩:∃z,w.setCell ⟨x,9,none⟩ (.int .u64 ((s.now:Int)+(k:Int)))=z:=⟨_,rfl⟩;rw[hw1];have HW:Hid (bi7 sp (s.now+k) x (.slice (some ⟨g,0,none⟩) C.length c) s.L C.length F w 0 a0 C ps Ow G w1):=by
  have h:=HW1.o;rw[dF,hw1] at h;exact aI ⟨h,HEQ.o.symm,rfl,fun j hj=>.inl (h4 j hj),by rw[<-hw1];exact Touch.setCell (Touch.refl _ _) (p:=⟨x,9,none⟩) (.inl h3) _⟩
 clear hw1 c7 c9 z9 HW1 HEQ hmin hs0;have c7:=HW.o.win.c7;obtain⟨m,hm⟩:=aF (min k C.length);have hmi:min (k:Int) (C.length:Int)=(m:Int):=ae
 have hmn:m<=C.length:=ae
 have HM:=aI hm;clear hm
 go_wp2_with fail;clear c7
 go_loopg [27] m (fun q t27 wr=>∃(j a:Nat) (C1:List Js) (ps1:List Nat) (VT:Nat->Ft) (G1:Ft),q=m - j/\j<=m/\t27=.int .u64 j/\Hid (bi7 sp (s.now+k) x (.slice (some ⟨g,0,none⟩) C.length c) s.L C.length F w j a C1 ps1 VT G1 wr))
 case atStart=>exact⟨0,a0,C,ps,Ow,G,rfl,ae,rfl,HW⟩
 case round=>
  obtain⟨j,a,C1,ps1,VT,G1,hq,hj,rfl,HT⟩:=hrel;have HQ:=aI hq;clear hq
  by_cases hlt:j<m
  ·have hji:(j:Int)<(m:Int):=ae
   have c7:=HT.o.win.c7;have c8:=HT.o.win.c8;have f8:=HT.o.win.blk.frozen 8;have ha0:=HT.o.win.at0;have hlen:=HT.o.len;rw[hlen] at ha0;obtain⟨a1,ha1⟩:∃z,(a+1) % C.length=z:=⟨_,rfl⟩;have bs6:((a:Int)+1) % (C.length:Int)=(a1:Int):=by rw[<-ha1,Int.natCast_emod,dF];rfl
   have hwr:IntKind.i64.wrap ((a:Int)+1)=(a:Int)+1:=ak
   have htm:Int.tmod ((a:Int)+1) (C.length:Int)=(a1:Int):=by rw[Int.tmod_eq_emod_of_nonneg ae];exact bs6
   have hne:¬C=[]:=fun e=>by rw[e] at hpos;simp at hpos
   have AR:=aI (aP hwr htm);clear hwr htm bs6;have bs7:a1<C.length:=by rw[<-ha1];exact Nat.mod_lt _ hpos
   have hn0:¬(C.length:Int)=0:=ae
   have lx:=HT.o.win.blk.lt;have W2:=aI (HT.o.win.at_ (a1:=a1) (by rw[hlen];exact bs7))
   have HA1:=aI ha1;have CC:=aI (aP c7 (aP c8 f8));clear c7 c8 f8 ha1
   go_upto_region 4 with fail;refine KO (fun w'=>w'=wr.drew) 14 (KI 0 12 (plp 12 1 (KI 13 1 (KJ 14 [])))) (rfl) ?_
   iterate 12 refine uF (h:=fun w' hS'=>by subst hS';obtain⟨hwr,htm⟩:=AR.o;have c7:wr.drew.cell? ⟨x,7,none⟩=_:=CC.o.1;have c8:wr.drew.cell? ⟨x,8,none⟩=_:=CC.o.2.1;go_simp;exact⟨rfl,rfl⟩) ?_
   refine Rl ?_
   refine uF (h:=fun w' hS'=>by subst hS';obtain⟨hwr,htm⟩:=AR.o;have c7:wr.drew.cell? ⟨x,7,none⟩=_:=CC.o.1;have c8:wr.drew.cell? ⟨x,8,none⟩=_:=CC.o.2.1;go_simp;exact⟨rfl,rfl⟩) ?_
   refine KN fun K hK=>?_
   have c8:wr.drew.cell? ⟨x,8,none⟩=_:=CC.o.2.1;have f8:wr.drew.frozen? ⟨x,8,none⟩=_:=CC.o.2.2
   go_simp;refine hK _ _ ?_
   clear hK K;refine ja ?_
   obtain⟨w2,hw2⟩:∃z,(wr.setCell ⟨x,8,none⟩ (.int .i64 a1)).drew=z:=⟨_,rfl⟩;try refine dR ?_
   rw[hw2];have V2:Hid (jk sp (s.now+k) a1 C1 (.slice (some ⟨g,0,none⟩) C.length c) ps1 VT G1 x w2):=by rw[<-hw2];exact aI (W2.o.keep (aO _ _).drew)
   have T2:Hid (Touch F w w2):=by rw[<-hw2];exact aI ((HT.o.touch.setCell (p:=⟨x,8,none⟩) (.inl h3) _).drew)
   clear hw2 W2 CC AR;have lx2:=V2.o.blk.lt;have nx:¬(x=g):=fun e=>hgx e.symm
   have hblk:=V2.o.blk;rw[hcs] at hblk;have s0:=hblk.cell 0;have s1:=hblk.cell 1;have s2:=hblk.cell 2;have s3:=hblk.cell 3;have s4:=hblk.cell 4;have s5:=hblk.cell 5;have s6:=hblk.cell 6;simp only[List.cons_append,List.nil_append,aK,aJ,aN] at s0 s1 s2 s3 s4 s5 s6;have SS:=aI (aP s0 (aP s1 (aP s2 (aP s3 (aP s4 (aP s5 s6))))));have CC:=aI (aP V2.o.c7 V2.o.c8);have hC1:a1<C1.length:=by rw[hlen];exact bs7
   have bs8:=(V2.o.ring.row.lt g rfl).2;have cg:=VN V2.o.ring.row (j:=a1) (by rw[V2.o.ring.len];exact hC1)
   have fg:=V2.o.ring.row.frozenAt a1;have GG:=aI (aP cg fg);have hai:(a1:Int)<(C.length:Int):=ae
   have ck0:0<=(a1:Int):=ae
   clear hblk s0 s1 s2 s3 s4 s5 s6 cg fg
   go_upto_region 5 with fail;have mW:=aI (fun(w':World) (hS':(Touch (fun j=>j=g) w2) w')=>(aP ((dO hS' 0 lx2 nx).trans SS.o.1) (aP ((dO hS' 1 lx2 nx).trans SS.o.2.1) (aP ((dO hS' 2 lx2 nx).trans SS.o.2.2.1) (aP ((dO hS' 3 lx2 nx).trans SS.o.2.2.2.1) (aP ((dO hS' 4 lx2 nx).trans SS.o.2.2.2.2.1) (aP ((dO hS' 5 lx2 nx).trans SS.o.2.2.2.2.2.1) (aP ((dO hS' 6 lx2 nx).trans SS.o.2.2.2.2.2.2) (aP ((dO hS' 7 lx2 nx).trans CC.o.1) ((dO hS' 8 lx2 nx).trans CC.o.2))))))))))
   refine jh (Touch (fun j=>j=g) w2) (dV 0 12 (fJ 12 (dV 13 4 (fJ 17 [])))) ((Touch.refl _ _).drew) ?_
   iterate 12 refine eQ ?_
   refine fO fun K hK=>?_
   go_simp;refine(CM.o w2.drew).mono ?_
   rintro e w3 ⟨y,rfl,hj',hb3⟩;have B3:Below w2.heap.size w2 w3:=(aO _ _).drew.trans hb3;have T3:Touch (fun j=>j=g) w2 w3:=Touch.of_below B3 (aS _)
   have FR:=aI ((V2.o.keep (aO _ _).drew).fresh hC1 hj' hb3);have kg:=(B3.cell (p:=⟨g,a1,none⟩) bs8).trans GG.o.1;have kf:=(B3.frozen (p:=⟨g,a1,none⟩) bs8).trans GG.o.2;have T4:=Touch.setCell T3 (p:=⟨g,a1,none⟩) (.inl rfl) (ji y);unfold ji at T4 FR;refine hK _ _ (T3) ?_
   clear hK K
   iterate 4 refine eQ ?_
   refine fO fun K hK=>?_
   go_simp;refine hK _ _ (T4) ?_
   clear hK K;refine dJ ?_
   obtain⟨w4,hw4⟩:∃z,w3.setCell ⟨g,a1,none⟩ (.pointer (some ⟨y,0,none⟩))=z:=⟨_,rfl⟩;try refine dR ?_
   rw[hw4] at T4 FR;rw[hw4];have HT4:Hid (bi7 sp (s.now+k) x (.slice (some ⟨g,0,none⟩) C.length c) s.L C.length F w (j+1) a1 (C1.set a1 sp.new) (ps1.set a1 y) (BO VT a1 (Gr (fun _=>False) w2.drew w3)) (fun k=>G1 k\/Gr (fun _=>False) w2.drew w3 k) w4):=by
    refine aI ⟨FR.o,?_,by rw[bK];exact hlen,fun i hi=>hi.elim (HT.o.sub i) (fun h=>h.elim False.elim (fun h=>?_)),T2.o.trans T4 (fun i e=>.inl (by rw[show i=g from e];exact h4 g hGg))⟩
    ·have:=ah8 (sp:=sp) (a0:=a) (C:=C1) (by rw[hlen];exact ha0)
     rw[hlen,HA1.o,HT.o.eq] at this;exact this
    ·have:=T2.o.size
     have h:w2.heap.size<=i:=h.1;exact .inr ae
   clear hw4 T3 T4 FR kg kf
   go_wp2_with fail
   go_roundg (m - (j+1))
   case measure=>have:=HQ.o;omega
   case rel=>exact⟨j+1,_,_,_,_,_,rfl,ae,ai,HT4⟩
  ·have hji:¬((j:Int)<(m:Int)):=ae
   obtain rfl:j=m:=ae
   go_wp2_with fail;have hz:=HT.o.touch.size;have hWN:gQ sp (xG sp n s) x (Gr F w wr) wr:=by
    refine⟨a,C1,.slice (some ⟨g,0,none⟩) C.length c,ps1,VT,fun i=>G1 i,?_,?_,.inl h3,fun i hi=>?_,jU h5 hz⟩
    ·have:=HT.o.win
     show jk sp (s.now+tkA n s) a C1 (.slice (some ⟨g,0,none⟩) C.length c) ps1 VT G1 x wr
     rw[hk];exact this
    ·show zO sp s.L (min (tkA n s) s.L.length)=_
     rw[hk,hL,HM.o];exact HT.o.eq.symm
    ·exact(HT.o.sub i hi).imp id (fun h=>⟨h,HT.o.win.ring.low i hi⟩)
   refine bodyPost_end (v:=.tuple #[]) (by simp[results,Tryz.results32,go_sem, *];try rfl) rfl ?_
   exact⟨rfl,hWN,HT.o.touch⟩
theorem Qd(n:Nat)(w:World)(ok:jG sp)(h:gQ sp s x F w)(Uk:s.now<=9223372036854775807)(hn:n<18446744073709551616) :
 aH 32 #[.pointer (some ⟨x,0,none⟩),.int .u64 n] w fun e w'=>e=.returned (.tuple #[])/\gQ sp (xG sp n s) x (Gr F w w') w'/\Touch F w w':=by
 cases sp with
 | h lo hi dg u m gr=>exact tZ rfl rfl ok n w h Uk hn
 | d a m=>exact tZ rfl rfl ok n w h Uk hn
 | t d=>exact tZ rfl rfl ok n w h Uk hn
 | k q=>exact tZ rfl rfl ok n w h Uk hn
open Tryz
open Go.RowKit Go.Lib Go.Shelf
open Tryz
open Go.RowKit Go.Lib Go.Shelf
open Tryz
open Go.RowKit Go.Lib Go.Shelf
open Tryz
open Go.RowKit Go.Lib
theorem Ul(w:World):aH 224 #[.int .u8 110] w fun e w'=>e=.returned (.tuple #[.int .i64 0,.bool false])/\w=w':=by
 go_enter func224,ntmps224
 go_wp2
 go_ret2
 exact⟨rfl,rfl⟩
theorem Um(w:World):aH 224 #[.int .u8 87] w fun e w'=>e=.returned (.tuple #[.int .i64 4,.bool true])/\w=w':=by
 go_enter func224,ntmps224
 go_wp2
 go_ret2
 exact⟨rfl,rfl⟩
theorem Un(w:World):aH 224 #[.int .u8 81] w fun e w'=>e=.returned (.tuple #[.int .i64 8,.bool true])/\w=w':=by
 go_enter func224,ntmps224
 go_wp2
 go_ret2
 exact⟨rfl,rfl⟩
theorem YD(x:Int)(w:World)(h0:-9223372036854775808<=x)(h1:x<=9223372036854775807) :
 aH 143 #[.int .u8 110,.int .u64 (ub x)] w fun e w'=>∃v,e=.returned (.tuple #[v,.bool true])/\OwnB w.heap.size w' v (nn x)/\Below w.heap.size w w':=by
 have sb:=jl h0 h1;have FX:=fun w=>aI (Ul w)
 have SG:=aI (I_ x w h0 h1);have HN:Hid (nn x=jA 8 (qA x)):=aI rfl;rw[HN.o];clear HN;generalize qA x=m at *;generalize ub x=n at *
 go_enter func143,ntmps143
 go_wp2_with (first|(go_at_call 224;refine((FX _).o).mono ?_;rintro e w' ⟨rfl,rfl⟩)|(go_at_call 225;refine(SG.o).mono ?_;rintro e w' ⟨rfl,rfl⟩))
 go_loopg [8,11] 8 (fun k b v wr=>∃(q:Int) (acc:List Int),k+acc.length=8/\v=.int .u64 q/\0<=q/\q<256 * 128 ^ k/\Hid (acc++jA k q=jA 8 m)/\Hid (OwnB w.heap.size wr b acc)/\Below w.heap.size w wr)
 case atStart=>exact⟨m,[],rfl,rfl,sb.1,ae,aI rfl,aI (dP.nil_ _ _ _ _),aO _ _⟩
 case round=>
  obtain⟨q,acc,hk,rfl,q0,q1,he,HO,hb⟩:=hrel;have hz:=hb.size;have hlen:acc.length+1<=1099511627776:=ae
  obtain⟨A8,k8,Zu,_,_,_⟩:=(dP.rd HO.o).form;obtain⟨n8,LC⟩:∃z,acc.length=z:=⟨_,rfl⟩;rw[LC] at Zu;subst Zu;have YQ:=aI (dX.1 HO.o);have OZ:Hid (∀(y:Int) (v2:Value) (w2:World),dL bE w.heap.size w2 v2 (acc++[y])->(wr.alloc (.cells #[.int .u8 y] 5)).grownBy w2 (Value.slice A8 n8 k8).ownBlock->Below w.heap.size w w2):=aI (fun y v2 w2 _ g2=>(hb.alloc hz _).grown g2 (by simp only[aV];omega) (fun k hk=>(YQ.o.lt k hk).1))
  by_cases hk0:gk=0
  ·subst hk0
   obtain rfl:n8=8:=ae
   have hq8:q % 256=q:=by simp at q1;omega
   have EB:Hid (IntKind.u8.wrap q=q):=aI hq8;have he0:acc++[q]=jA 8 m:=he.o;have HE0:=aI he0;clear he he0 LC q1 hq8;have eb:=EB.o
   by_cases hq:127<q
   ·go_wp2_with (at_builtin;refine uk Ak rfl (.tmp 69) (.tmp 72) rfl (YQ.o.alloc _) rfl _ [q] rfl (iM.fK (E:=bE) _ q _ rfl _ rfl _ ag) hlen aj ?_;intro v2 w2 o2 g2 _;have hb2:=OZ.o q _ w2 o2 g2;have O2:=aI (dX.2 o2);clear o2 g2)
    go_ret2
    exact⟨_,rfl,by rw[<-HE0.o];exact O2.o,hb2⟩
   ·go_wp2_with (at_builtin;refine uk Ak rfl (.tmp 69) (.tmp 72) rfl (YQ.o.alloc _) rfl _ [q] rfl (iM.fK (E:=bE) _ q _ rfl _ rfl _ ag) hlen aj ?_;intro v2 w2 o2 g2 _;have hb2:=OZ.o q _ w2 o2 g2;have O2:=aI (dX.2 o2);clear o2 g2)
    go_ret2
    exact⟨_,rfl,by rw[<-HE0.o];exact O2.o,hb2⟩
  ·obtain⟨r,rfl⟩:∃r,gk=r+1:=⟨gk - 1,ae⟩
   have ck3:((n8:Int) == 8)=false:=ah
   by_cases hq:127<q
   ·have hE:=aI (oU r q hq)
    have hd:q / 128<256 * 128 ^ r:=Int.ediv_lt_of_lt_mul ae (by rw[bU,<-Int.pow_succ];exact q1)
    have HCM:=aI (show q % 128+128=128+q % 128 by omega)
    have ck4:q<18446744073709551616:=by
     have h1:(128:Int) ^ (r+1)<=128 ^ 8:=by
      have h2:(128:Nat) ^ (r+1)<=128 ^ 8:=Nat.pow_le_pow_right ae  ae
      exact_mod_cast h2
     omega
    clear q1 LC
    go_wp2_with (at_builtin;refine uk Ak rfl (.tmp 60) (.tmp 65) rfl (YQ.o.alloc _) rfl _ [128+q % 128] rfl (iM.fK (E:=bE) _ (128+q % 128) _ rfl _ rfl _ ag) hlen aj ?_;intro v2 w2 o2 g2 _;have hb2:=OZ.o _ _ w2 o2 g2;have O2:=aI (dX.2 o2);clear o2 g2)
    go_roundg r
    case measure=>omega
    case rel=>exact⟨q / 128,acc++[128+q % 128],ah,rfl,ae,hd,aI (by rw[aX,<-he.o,hE.o,HCM.o];rfl),O2,hb2⟩
   ·have hE:=aI (oV (r+1) q hq)
    have hq8:q % 256=q:=ae
    have EB:Hid (IntKind.u8.wrap q=q):=aI hq8;clear q1 LC hq8;have eb:=EB.o
    go_wp2_with (at_builtin;refine uk Ak rfl (.tmp 69) (.tmp 72) rfl (YQ.o.alloc _) rfl _ [q] rfl (iM.fK (E:=bE) _ q _ rfl _ rfl _ ag) hlen aj ?_;intro v2 w2 o2 g2 _;have hb2:=OZ.o q _ w2 o2 g2;have O2:=aI (dX.2 o2);clear o2 g2)
    go_ret2
    exact⟨_,rfl,by rw[<-he.o,hE.o];exact O2.o,hb2⟩
theorem Qe:∀(j:Nat) (n:Int),iQ (j+1) n=(n / 2 ^ (8 * j) % 256)::iQ j n
 | 0,n=>by simp[iQ]
 | j+1,n=>by
  have e:n / 256 / 2 ^ (8 * j)=n / 2 ^ (8 * (j+1)):=by
   rw[Int.ediv_ediv_of_nonneg ae]
   congr 1
   rw[Nat.mul_add,Int.pow_add,Int.mul_comm];rfl
  rw[iQ,Qe j (n / 256),e];rfl
theorem JS(K:Nat)(c n:Int)(w:World)(hf:∀w,aH 224 #[.int .u8 c] w fun e w'=>e=.returned (.tuple #[.int .i64 K,.bool true])/\w=w')(k0:0<K)(k1:K<=8)(n0:0<=n)(n1:n<18446744073709551616)(nK:n / 2 ^ (8 * K)=0) :
 aH 143 #[.int .u8 c,.int .u64 n] w fun e w'=>∃v,e=.returned (.tuple #[v,.bool true])/\OwnB w.heap.size w' v (iQ K n)/\Below w.heap.size w w':=by
 have FX:=fun w=>aI (hf w)
 have hk0:(0:Int)<(K:Int):=ae
 have NK:=aI nK;clear hf nK
 go_enter func143,ntmps143
 go_wp2_with (go_at_call 224;refine((FX _).o).mono ?_;rintro e w' ⟨rfl,rfl⟩)
 go_loopg [8,9,10] K (fun k b v i wr=>∃j:Nat,k=K - j/\j<=K/\i=.int .i64 j/\v=.int .u64 (n / 2 ^ (8 * j))/\Hid (OwnB w.heap.size wr b (iQ j n))/\Below w.heap.size w wr)
 case atStart=>exact⟨0,rfl,ae,rfl,ag,aI (dP.nil_ _ _ _ _),aO _ _⟩
 case round=>
  obtain⟨j,hq,hj,rfl,rfl,HO,hb⟩:=hrel;have HQ:=aI hq;have hz:=hb.size;clear hq
  by_cases hlt:j<K
  ·have hji:(j:Int)<(K:Int):=ae
   obtain⟨m,hm⟩:=aF (n / 2 ^ (8 * j));have hm0:0<=m:=by rw[<-hm];exact Int.ediv_nonneg n0 (Int.le_of_lt (Int.pow_pos ae))
   have hmn:m<=n:=by rw[<-hm];exact Int.ediv_le_self _ n0
   have HM:Hid (n / 2 ^ (8 * (j+1))=m / 256):=aI (by
    rw[<-hm,Int.ediv_ediv_of_nonneg (Int.le_of_lt (Int.pow_pos ae))]
    congr 1
    rw[Nat.mul_add,Int.pow_add];rfl)
   have HC:Hid (iQ (j+1) n=[m % 256]++iQ j n):=aI (by rw[Qe,hm];rfl)
   have EB:Hid (IntKind.u8.wrap (m % 256)=m % 256):=aI (by rw[show IntKind.u8.wrap (m % 256)=m % 256 % 256 from rfl];omega)
   have hl:=fD j n;rw[hm];obtain⟨A8,k8,Zu,_,_,_⟩:=(dP.rd HO.o).form;obtain⟨n8,LC⟩:∃z,(iQ j n).length=z:=⟨_,rfl⟩;rw[LC] at Zu;subst Zu;have hlen:[m % 256].length+(iQ j n).length<=1099511627776:=ah
   have HR:Hid (iM bE (wr.alloc (.cells #[.int .u8 (m % 256)] 5)) (.slice A8 n8 k8) (iQ j n)):=aI ((dX.1 HO.o).alloc _).rd;have HW:Hid (dL bE wr.heap.size (wr.alloc (.cells #[.int .u8 (m % 256)] 5)) (.slice (some ⟨wr.heap.size,0,none⟩) 1 1) [m % 256]):=aI (dL.one (E:=bE) wr (m % 256) _ rfl _ rfl);have eb:=EB.o;clear hm LC
   go_wp2_with (at_builtin;refine uk Ak rfl (.tmp 29) (.tmp 30) rfl HW.o rfl _ (iQ j n) rfl HR.o hlen aj ?_;intro v2 w2 o2 g2 _;have O2:=aI (dX.2 (o2.more hz));have hb2:Below w.heap.size w w2:=(hb.alloc hz _).grown g2 (by simp only[aV];omega) (fun k hk=>by have:=(dL.lt HW.o k hk).1;omega);clear o2 g2)
   go_roundg (K - (j+1))
   case measure=>have:=HQ.o;omega
   case rel=>exact⟨j+1,rfl,ae,ai,by rw[HM.o],by rw[HC.o];exact O2,hb2⟩
  ·obtain rfl:j=K:=ae
   rw[NK.o]
   go_wp2_with fail
   go_ret2
   exact⟨_,rfl,HO.o,hb⟩
open Tryz
open Go.RowKit Go.Lib Go.Shelf
theorem yA(c n:Int)(out:List Int)(w:World)(h:aH 143 #[.int .u8 c,.int .u64 n] w fun e w'=>∃v,e=.returned (.tuple #[v,.bool true])/\OwnB w.heap.size w' v out/\Below w.heap.size w w') :
 aH 145 #[.int .u8 c,.int .u64 n] w fun e w'=>∃v,e=.returned v/\OwnB w.heap.size w' v out/\Below w.heap.size w w':=by
 have C:=aI h;clear h
 go_enter func145,ntmps145
 go_wp2_with fail;refine(C.o).mono ?_
 rintro e w1 ⟨v1,rfl,o1,hb1⟩
 go_wp2_with fail
 go_ret;exact⟨v1,rfl,o1,hb1⟩
theorem zS(x n:Int)(w:World)(hn:n=ub x)(h0:-9223372036854775808<=x)(h1:x<=9223372036854775807):aH 145 #[.int .u8 110,.int .u64 n] w fun e w'=>∃v,e=.returned v/\OwnB w.heap.size w' v (nn x)/\Below w.heap.size w w':=by
 subst hn;exact yA 110 _ _ w (YD x w h0 h1)
theorem zT(n:Int)(w:World)(h0:0<=n)(h1:n<4294967296):aH 145 #[.int .u8 87,.int .u64 n] w fun e w'=>∃v,e=.returned v/\OwnB w.heap.size w' v (iQ 4 n)/\Below w.heap.size w w':=
 yA 87 _ _ w (JS 4 87 n w Um ae  ae h0 ae (by show n / 4294967296=0;omega))
theorem H9(n:Int)(w:World)(h0:0<=n)(h1:n<18446744073709551616):aH 145 #[.int .u8 81,.int .u64 n] w fun e w'=>∃v,e=.returned v/\OwnB w.heap.size w' v (iQ 8 n)/\Below w.heap.size w w':=
 yA 81 _ _ w (JS 8 81 n w Un ae  ae h0 ae (by show n / 18446744073709551616=0;omega))
theorem rU{base:Nat}{w w1 w2:World}{v v2:Value}{bs out:List Int}(hb0:base<=w.heap.size)(hb1:Below w.heap.size w w1)(hO:OwnB base w v bs)(o2:dL bE base w2 v2 (bs++out))(g2:w1.grownBy w2 v.ownBlock):OwnB base w2 v2 (bs++out)/\Below base w w2:=
 ⟨dX.2 o2,(hb1.mono hb0).grown g2 (by have:=hb1.size;omega) (fun k hk=>(dP.lt hO k hk).1)⟩
theorem Qg{lo hi dg u m bk:Nat}{l:List Pr}(v:Value)(w:World)(h:iM fZ w v l)(ok:je lo hi dg u m gr bk l):aH 144 #[v] w fun e w'=>∃v',e=.returned v'/\OwnB w.heap.size w' v' (kQ l)/\Below w.heap.size w w':=by
 obtain⟨A,c,rfl,_,_,hf⟩:=h.form;have HF:=aI hf;have PB:=aI ok.pb;have hlen:=ok.len;have KB:=aI ok.kb;clear h hf ok
 go_enter func144,ntmps144
 go_wp2_with fail
 go_loopg [3,4,5] l.length (fun q b s i wr=>∃j:Nat,q=l.length - j/\j<=l.length/\i=.int .i64 j/\s=.int .i64 (ru 0 (l.take j))/\Hid (OwnB w.heap.size wr b (kH (Di 0 (l.take j))))/\Below w.heap.size w wr)
 case atStart=>exact⟨0,rfl,ae,rfl,rfl,aI (dP.nil_ _ _ _ _),aO _ _⟩
 case round=>
  obtain⟨j,hq,hj,rfl,rfl,HO,hb⟩:=hrel;have HQ:=aI hq;have hz:=hb.size;clear hq
  by_cases hlt:j<l.length
  ·obtain⟨gp,off,rfl,Iy,c0,c1⟩:=jQ HF.o hlt
   have hgr:gp<wr.heap.size:=ae
   have CC:=aI (aP ((hb.cell (p:=⟨gp,off+j * 2,none⟩) Iy).trans c0) ((hb.cell (p:=⟨gp,off+j * 2+1,none⟩) Iy).trans c1));have hji:(j:Int)<(l.length:Int):=ae
   have hbd:=PB.o _ (bf hlt);have hed:=Vz (l:=l.take j) (fun p hp=>KB.o p (List.mem_of_mem_take hp)) 0 ae  ae
   have hnl:=zG (Di 0 (l.take j));have hnm:=Eo (l.take j) 0;have htl:(l.take j).length<=16777217:=by rw[bG];omega
   have rZ:Hid (kH (Di 0 (l.take (j+1)))=kH (Di 0 (l.take j))++kH (oJ (l[j].1 - ru 0 (l.take j)))++nn l[j].2/\ru 0 (l.take (j+1))=l[j].1+1):=aI (by
    rw[bg hlt,G6,BD,jW,jW,aX];refine⟨?_,rfl⟩
    congr 2
    simp[kH])
   clear c0 c1;generalize l[j].1=x at *;generalize l[j].2=n at *;generalize ru 0 (l.take j)=at_ at *;generalize kH (Di 0 (l.take j))=BS at *;have EX:Hid (IntKind.i64.wrap (x - at_)=x - at_/\IntKind.i64.wrap (x+1)=x+1):=aI ⟨by rw[aW];omega,ak⟩
   have CN:Hid (∀w1:World,_):=aI (fun w1=>zS n n w1 (by unfold ub;omega) ae  ae)
   have hn9:=Bh n;obtain⟨A8,k8,Zu,_,_,_⟩:=(dP.rd HO.o).form;obtain⟨n8,LC⟩:∃z,BS.length=z:=⟨_,rfl⟩;have hl8:BS.length<=1000000000:=ae
   rw[LC] at Zu;subst Zu;clear LC
   by_cases g1:x - at_=1
   ·have hg1:(x - at_ == 1)=true:=by simpa using g1
    have hg2:¬1<x - at_:=ae
    have HG:Hid (kH (oJ (x - at_))=nn 0):=aI (by rw[g1];decide +kernel)
    have C0:Hid (∀w1:World,_):=aI (fun w1=>zS 0 0 w1 rfl ae  ae)
    have h09:=Bh 0;rw[HG.o] at rZ;clear g1 HG;have cc:=CC.o;obtain⟨c0,c1⟩:=cc;obtain⟨e1,e2⟩:=EX.o
    go_wp2_with fail;refine(C0.o wr).mono ?_
    rintro e w1 ⟨v1,rfl,o1,hb1⟩;have O1:=aI o1;clear o1 c0 c1;generalize nn 0=Z at *
    go_wp2_with (at_builtin;refine uk Ak rfl (.tmp 22) (.tmp 23) rfl ((dX.1 HO.o).keep hb1) rfl _ Z rfl (dX.1 O1.o).rd ae (by have:=hb1.size;omega) ?_;intro v2 w2 o2 g2 _;have P2:=aI (rU hz hb1 HO.o o2 g2);have c1:=(P2.o.2.cell (p:=⟨gp,off+j * 2+1,none⟩) (by show gp<_;omega)).trans CC.o.2;obtain⟨A2,k2,hv2,_,_,_⟩:=o2.form;obtain⟨n2,hn2⟩:∃z,(BS++Z).length=z:=⟨_,rfl⟩;rw[hn2] at hv2;subst hv2;clear o2 g2)
    have hz2:=P2.o.2.size;refine(CN.o w2).mono ?_
    rintro e w3 ⟨v3,rfl,o3,hb3⟩;have O3:=aI o3;clear o3 c1;have c0:=(hb3.cell (p:=⟨gp,off+j * 2,none⟩) (by show gp<_;omega)).trans ((P2.o.2.cell (p:=⟨gp,off+j * 2,none⟩) (by show gp<_;omega)).trans CC.o.1)
    generalize nn n=Y at *;have hl2:(BS++Z).length<=2000000000:=by rw[aQ];omega
    clear hn2
    go_wp2_with (at_builtin;refine uk Ak rfl (.tmp 34) (.tmp 40) rfl ((dX.1 P2.o.1).keep hb3) rfl _ Y rfl (dX.1 O3.o).rd ae (by have:=hb3.size;omega) ?_;intro v4 w4 o4 g4 _;have P4:=aI (rU ae hb3 P2.o.1 o4 g4);have c0:=(P4.o.2.cell (p:=⟨gp,off+j * 2,none⟩) (by show gp<_;omega)).trans ((P2.o.2.cell (p:=⟨gp,off+j * 2,none⟩) (by show gp<_;omega)).trans CC.o.1);clear o4 g4)
    go_roundg (l.length - (j+1))
    case measure=>have:=HQ.o;omega
    case rel=>exact⟨j+1,rfl,ae,ai,by rw[rZ.o.2],by rw[rZ.o.1];exact aI P4.o.1,(hb.trans P2.o.2).trans P4.o.2⟩
   ·have hg1:(x - at_ == 1)=false:=by simpa using g1
    by_cases g2:1<x - at_
    ·have HG:Hid (kH (oJ (x - at_))=nn (-(x - at_))):=aI (by unfold oJ;rw[if_neg g1,if_pos g2];simp[kH])
     have EU:Hid (IntKind.i64.wrap (x - at_ - 1)=x - at_ - 1/\IntKind.u64.wrap (x - at_ - 1)=x - at_ - 1/\IntKind.u64.wrap (18446744073709551615 - (x - at_ - 1))=18446744073709551615 - (x - at_ - 1)):=aI ⟨by rw[aW];omega,by rw[fF];omega,by rw[fF];omega⟩
     have C0:Hid (∀w1:World,_):=aI (fun w1=>zS (-(x - at_)) (18446744073709551615 - (x - at_ - 1)) w1 (by unfold ub;omega) ae  ae)
     have h09:=Bh (-(x - at_));rw[HG.o] at rZ;clear g1 HG;have cc:=CC.o;obtain⟨c0,c1⟩:=cc;obtain⟨e1,e2⟩:=EX.o;obtain⟨e3,e4,e5⟩:=EU.o
     go_wp2_with fail;refine(C0.o wr).mono ?_
     rintro e w1 ⟨v1,rfl,o1,hb1⟩;have O1:=aI o1;clear o1 c0 c1 e3 e4 e5;generalize nn (-(x - at_))=Z at *
     go_wp2_with (at_builtin;refine uk Ak rfl (.tmp 27) (.tmp 32) rfl ((dX.1 HO.o).keep hb1) rfl _ Z rfl (dX.1 O1.o).rd ae (by have:=hb1.size;omega) ?_;intro v2 w2 o2 g2 _;have P2:=aI (rU hz hb1 HO.o o2 g2);have c1:=(P2.o.2.cell (p:=⟨gp,off+j * 2+1,none⟩) (by show gp<_;omega)).trans CC.o.2;obtain⟨A2,k2,hv2,_,_,_⟩:=o2.form;obtain⟨n2,hn2⟩:∃z,(BS++Z).length=z:=⟨_,rfl⟩;rw[hn2] at hv2;subst hv2;clear o2 g2)
     have hz2:=P2.o.2.size;refine(CN.o w2).mono ?_
     rintro e w3 ⟨v3,rfl,o3,hb3⟩;have O3:=aI o3;clear o3 c1;have c0:=(hb3.cell (p:=⟨gp,off+j * 2,none⟩) (by show gp<_;omega)).trans ((P2.o.2.cell (p:=⟨gp,off+j * 2,none⟩) (by show gp<_;omega)).trans CC.o.1)
     generalize nn n=Y at *;have hl2:(BS++Z).length<=2000000000:=by rw[aQ];omega
     clear hn2
     go_wp2_with (at_builtin;refine uk Ak rfl (.tmp 34) (.tmp 40) rfl ((dX.1 P2.o.1).keep hb3) rfl _ Y rfl (dX.1 O3.o).rd ae (by have:=hb3.size;omega) ?_;intro v4 w4 o4 g4 _;have P4:=aI (rU ae hb3 P2.o.1 o4 g4);have c0:=(P4.o.2.cell (p:=⟨gp,off+j * 2,none⟩) (by show gp<_;omega)).trans ((P2.o.2.cell (p:=⟨gp,off+j * 2,none⟩) (by show gp<_;omega)).trans CC.o.1);clear o4 g4)
     go_roundg (l.length - (j+1))
     case measure=>have:=HQ.o;omega
     case rel=>exact⟨j+1,rfl,ae,ai,by rw[rZ.o.2],by rw[rZ.o.1];exact aI P4.o.1,(hb.trans P2.o.2).trans P4.o.2⟩
    ·have HG:Hid (kH (oJ (x - at_))=[]):=aI (by unfold oJ;rw[if_neg g1,if_neg g2];rfl)
     rw[HG.o,List.append_nil] at rZ;clear g1 HG;have cc:=CC.o;obtain⟨c0,c1⟩:=cc;obtain⟨e1,e2⟩:=EX.o
     go_wp2_with fail;refine(CN.o wr).mono ?_
     rintro e w3 ⟨v3,rfl,o3,hb3⟩;have O3:=aI o3;clear o3;have c0:=(hb3.cell (p:=⟨gp,off+j * 2,none⟩) hgr).trans CC.o.1;generalize nn n=Y at *
     go_wp2_with (at_builtin;refine uk Ak rfl (.tmp 34) (.tmp 40) rfl ((dX.1 HO.o).keep hb3) rfl _ Y rfl (dX.1 O3.o).rd ae (by have:=hb3.size;omega) ?_;intro v4 w4 o4 g4 _;have P4:=aI (rU hz hb3 HO.o o4 g4);have c0:=(P4.o.2.cell (p:=⟨gp,off+j * 2,none⟩) (by show gp<_;omega)).trans CC.o.1;clear o4 g4)
     go_roundg (l.length - (j+1))
     case measure=>have:=HQ.o;omega
     case rel=>exact⟨j+1,rfl,ae,ai,by rw[rZ.o.2],by rw[rZ.o.1];exact aI P4.o.1,hb.trans P4.o.2⟩
  ·obtain rfl:j=l.length:=ae
   have Zv:=HO;rw[bP (aS _)] at Zv;clear HO
   by_cases hl0:l.length=0
   ·have e:l=[]:=bz hl0
    subst e;have C0:=aI (zS 0 0 wr rfl ae  ae)
    go_wp2_with fail;refine(C0.o).mono ?_
    rintro e w4 ⟨v4,rfl,o4,hb4⟩
    go_wp2_with fail
    go_ret;exact⟨_,rfl,by rw[show kQ []=nn 0 by decide +kernel];exact dP.lift o4 (fun k hk=>by have:=(dP.lt o4 k hk).1;omega),hb.trans (hb4.mono hz)⟩
   ·have hl1:((l.length:Int) == 0)=false:=by simpa using hl0
    go_wp2_with fail
    go_ret;have hne:l≠[]:=fun e=>hl0 (by rw[e];rfl)
    exact⟨_,rfl,by unfold kQ Jo;rw[if_neg hne];exact Zv.o,hb⟩
end Go.Proofs.YtilcnjbpmoijmaaGreat.D
