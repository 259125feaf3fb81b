/- Parts of a proof: what its theorem reaches, words cut short. No condition of its own. -/
import Derived.Test.YtkiebccnpheloaaGreatPv47
set_option maxRecDepth 100000
set_option maxHeartbeats 16000000
set_option linter.unusedVariables false
set_option linter.unusedSimpArgs false
namespace Go.Proofs.YtkiebccnpheloaaGreat.D
open Go.RowKit Go.Lib Go.Shelf
def shF(Ow:Nat->Ft)(F:Ft):Nat->Ft:=fun i=>match i with
 | 0=>F
 | i+1=>Ow i
theorem RingAt.shift{t:TypeId}{P:Js->Nat->Ft->World->Prop}{L:List Js}{v u v':Value}{ps:List Nat}{Ow:Nat->Ft}{G Fy:Ft}{w w0:World}{y:Nat}{c':Js}(hP:∀c p,Stay (P c p))(h:RingAt t P L v ps Ow G w0)(h0:0<L.length)(hn:P c' y Fy w0)(hf:∀k,Fy k->¬G k)
 (ho:OwnE (ptE t) 0 w v' (y::ps.take (L.length - 1))) (hg:w0.grownBy w u.ownBlock) (hu:∀k,u.ownBlock=some k->¬G k/\¬Fy k) (hw:v'.ownBlock=u.ownBlock\/v'.ownBlock=some w0.heap.size) :
 RingAt t P (c'::L.dropLast) v' (y::ps.take (L.length - 1)) (shF Ow Fy) (fun k=>G k\/Fy k\/v'.ownBlock=some k) w:=by
 have keep:∀k,k<w0.heap.size->u.ownBlock≠some k->w.heap[k]?=w0.heap[k]?:=fun k h1 h2=>hg.block k h1 (fun e=>h2 e.symm)
 have hz:w0.heap.size<=w.heap.size:=hg.size
 have lowY:=(hP _ _).low hn
 have hl:=h.len
 refine⟨ho,by rw[List.length_cons,List.length_cons,List.length_take,List.length_dropLast];omega,fun j hj=>?_,fun a b k ha hb=>?_,fun k e=>⟨.inr (.inr e),fun j hj=>?_⟩,fun j k hj=>?_,fun k hk=>?_⟩
 ·cases j with
  | zero=>exact(hP _ _).stay hn (fun k hk=>keep k (lowY k hk) (fun e=>(hu k e).2 hk)) hz
  | succ i=>
   have hi:i<L.length - 1:=by rw[List.length_cons,List.length_dropLast] at hj;omega
   have e1:(c'::L.dropLast)[i+1]=L[i]'(by omega):=by rw[List.getElem_cons_succ,List.getElem_dropLast]
   have e2:(y::ps.take (L.length - 1)).getD (i+1) 0=ps.getD i 0:=by
    rw[List.getD_cons_succ,List.getD_eq_getElem?_getD,List.getElem?_take,if_pos hi,<-List.getD_eq_getElem?_getD]
   rw[e1,e2]
   exact(hP _ _).stay (h.each i (by omega)) (fun k hk=>keep k (h.low k (h.inn i k hk)) (fun e=>(hu k e).1 (h.inn i k hk))) hz
 ·cases a with
  | zero=>
   cases b with
   | zero=>rfl
   | succ b=>exact absurd (h.inn b k hb) (hf k ha)
  | succ a=>
   cases b with
   | zero=>exact absurd (h.inn a k ha) (hf k hb)
   | succ b=>rw[h.apart a b k ha hb]
 ·have hk:(u.ownBlock=some k)\/k=w0.heap.size:=by
   rcases hw with hw|hw
   ·exact .inl (by rw[<-hw];exact e)
   ·exact .inr (by rw[hw] at e;injection e with e;omega)
  cases j with
  | zero=>
   rcases hk with hk|hk
   ·exact(hu k hk).2 hj
   ·have:=lowY k hj;omega
  | succ j=>
   rcases hk with hk|hk
   ·exact(hu k hk).1 (h.inn j k hj)
   ·have:=h.low k (h.inn j k hj);omega
 ·cases j with
  | zero=>exact .inr (.inl hj)
  | succ j=>exact .inl (h.inn j k hj)
 ·rcases hk with hk|hk|hk
  ·exact Nat.lt_of_lt_of_le (h.low k hk) hz
  ·exact Nat.lt_of_lt_of_le (lowY k hk) hz
  ·exact(ho.lt k hk).2
theorem prI27:(Tryz.prog.info? 41).map (fun i=>(i.zero,i.size,i.bytes))=some (some (.pointer none),1,8):=by kernel_rfl
theorem tyPr27:Ty Tryz.prog (ptE 41) 48:=ty_of prI27 Tryz.underlying48 rfl (by decide) (by decide)
theorem rd_cut{t:TypeId}{b:Nat}{w:World}{g n c:Nat}{ps:List Nat}(h:OwnE (ptE t) b w (.slice (some ⟨g,0,none⟩) n c) ps){M:Nat}(hM:M<=ps.length):RdE (ptE t) w (.slice (some ⟨g,0,none⟩) M c) (ps.take M):=by
 obtain⟨A,c',e,h1,h2,hf⟩:=h.form
 injection e with e1 e2 e3
 subst e1;subst e3
 have hl:(ps.take M).length=M:=by rw[List.length_take];omega
 have:=RdE.of_form (E:=ptE t) (w:=w) (l:=ps.take M) (A:=some ⟨g,0,none⟩) (c:=c) (by omega) h2 (hf.take M)
 rwa [hl] at this
structure RTcAt(sp:Spk)(now x:Nat)(L:List Js)(F:Ft)(w:World)(j:Nat)(v:Value)(ps:List Nat)(Ow:Nat->Ft)(G:Ft)(wr:World):Prop where
 win:RWinB sp now (tickN sp L j) v ps Ow G x wr
 sub:∀k,G k->F k\/w.heap.size<=k
 touch:Touch F w wr
theorem rwin_tick_c{sp:Spk}{kd lo hi dg ac sz:Int}{gr:Bool}(hv:sp.v=specV kd lo hi dg gr ac sz)(hcs:sp.cs=[.int .u8 kd,.int .i64 lo,.int .i64 hi,.int .i64 dg,.bool gr,.int .i64 ac,.int .i64 sz])(ok:SpOk sp){x:Nat}{F:Ft}{s:Wn}(n:Nat)(w:World)(h:RWinAt sp s x F w)(hnow:s.now<=9223372036854775807)(hn:n<18446744073709551616) :
 Calls Tryz.prog 50 #[.pointer (some ⟨x,0,none⟩),.int .u64 n] w fun e w'=>e=.returned (.tuple #[])/\RWinAt sp (wtick sp n s) x (Gr F w w') w'/\Touch F w w':=by
 obtain⟨v,ps,Ow,G,h1,h3,h4,h5⟩:=h
 have CM:Hid (∀w1:World,Calls Tryz.prog 24 #[.agg #[.int .u8 kd,.int .i64 lo,.int .i64 hi,.int .i64 dg,.bool gr,.int .i64 ac,.int .i64 sz]] w1 _):=Lib.hid (fun w1=>by rw[show Value.agg #[.int .u8 kd,.int .i64 lo,.int .i64 hi,.int .i64 dg,.bool gr,.int .i64 ac,.int .i64 sz]=sp.v from hv.symm];exact rjs_make w1 ok)
 have c8:=h1.c8
 have z8:=h1.blk.frozen 8
 have hpos:=h1.pos
 have h60:=h1.n60
 obtain⟨k,hk⟩:∃k,tkA n s=k:=⟨_,rfl⟩
 have hmin:min (n:Int) (9223372036854775807 - (s.now:Int))=(k:Int):=by rw[<-hk];unfold tkA;omega
 have hkn:s.now+k<=9223372036854775807:=by rw[<-hk];unfold tkA;omega
 have hx:=h1.blk.lt
 have HW1:Hid (RWinB sp (s.now+k) s.L v ps Ow G x (w.setCell ⟨x,8,none⟩ (.int .u64 (s.now+k:Nat)))):=Lib.hid (by
  have hb:=h1.blk.set_ 8 (.int .u64 (s.now+k:Nat))
  exact⟨by revert hb;cases sp<;>exact id,h1.ring.far (H:=fun k=>k=x) (rjP_stay sp) (Touch.setCell (F:=fun k=>k=x) (Touch.refl _ w) (p:=⟨x,8,none⟩) (.inl rfl) _) (fun k hk e=>h1.out (by rw[<-show k=x from e];exact hk)),h1.pos,h1.n60,h1.out⟩)
 clear h1 hv
 have hs0:¬((9223372036854775807:Int) - (s.now:Int)<0):=by omega
 go_enter Tryz.func50,Tryz.ntmps50
 go_upto_region 2 with fail
 obtain⟨w1,hw1⟩:∃z,w.setCell ⟨x,8,none⟩ (.int .u64 ((s.now:Int)+(k:Int)))=z:=⟨_,rfl⟩
 rw[hw1]
 obtain⟨N,hN⟩:∃N,s.L.length=N:=⟨_,rfl⟩
 have HNN:=Lib.hid hN
 have HW:Hid (RTcAt sp (s.now+k) x s.L F w 0 v ps Ow G w1):=by
  have h:=HW1.out
  rw[Int.natCast_add,hw1] at h
  exact Lib.hid ⟨h,fun j hj=>.inl (h4 j hj),by rw[<-hw1];exact Touch.setCell (Touch.refl _ _) (p:=⟨x,8,none⟩) (.inl h3) _⟩
 clear hw1 c8 z8 HW1 hmin hs0
 obtain⟨m,hm⟩:∃m,min k N=m:=⟨_,rfl⟩
 have HM:=Lib.hid hm
 have hmk:m<=k:=by omega
 have hmN:m<=N:=by omega
 rw[hN] at hpos h60
 clear hm hN
 go_wp2_with fail
 go_loopg [4,5] m (fun q t4 _ wr=>∃(j:Nat) (v1:Value) (ps1:List Nat) (Ow1:Nat->Ft) (G1:Ft),q=m - j/\j<=m/\t4=.int .u64 j/\Hid (RTcAt sp (s.now+k) x s.L F w j v1 ps1 Ow1 G1 wr))
 case atStart=>exact⟨0,v,ps,Ow,G,rfl,by omega,rfl,HW⟩
 case round=>
  obtain⟨j,v1,ps1,Ow1,G1,hq,hj,rfl,HT⟩:=hrel
  have HQ:=Lib.hid hq
  clear hq
  have hlen:(tickN sp s.L j).length=N:=by rw[tickN_length (by rw[HNN.out];exact hpos),HNN.out]
  have c7:=HT.out.win.c7
  obtain⟨g,c,rfl,hgl,hc1,hc2,hGg,hOg,hcell⟩:=HT.out.win.ring.pos HT.out.win.pos
  rw[hlen] at c7
  have HLN:=Lib.hid hlen
  by_cases hlt:j<m
  ·have hjk:(j:Int)<(k:Int):=by omega
   have hjN:(j:Int)<(N:Int):=by omega
   have hblk:=HT.out.win.blk
   rw[hcs] at hblk
   have s0:=hblk.cell 0
   have s1:=hblk.cell 1
   have s2:=hblk.cell 2
   have s3:=hblk.cell 3
   have s4:=hblk.cell 4
   have s5:=hblk.cell 5
   have s6:=hblk.cell 6
   simp only[List.cons_append,List.nil_append,List.getElem?_toArray,List.getElem?_cons_zero,List.getElem?_cons_succ] at s0 s1 s2 s3 s4 s5 s6
   have C7:=Lib.hid c7
   have Z7:=Lib.hid (HT.out.win.blk.frozen 7)
   have lx:=HT.out.win.blk.lt
   clear hblk hlen hcell
   go_wp2_with fail
   refine(CM.out wr).mono ?_
   rintro e w2 ⟨y,rfl,hj',hb2⟩
   have HJ:=Lib.hid hj'
   have HB2:=Lib.hid hb2
   clear s0 s1 s2 s3 s4 s5 s6 hj' hb2 c7
   obtain⟨M,hM⟩:∃M,N=M+1:=⟨N - 1,by omega⟩
   obtain⟨b,hbb⟩:∃b,w2.heap.size=b:=⟨_,rfl⟩
   obtain⟨w3,hw3⟩:∃z,w2.alloc (.cells #[.pointer (some ⟨y,0,none⟩)] 41)=z:=⟨_,rfl⟩
   have B23:Below w2.heap.size w2 w3:=by rw[<-hw3];(repeat' (first|(with_reducible exact Below.refl _ _)|(with_reducible refine Below.alloc ?_ ?_ _)|(with_reducible refine Below.drew ?_)|(with_reducible refine below_drewN ?_ _)|(with_reducible refine Below.setCell ?_ ?_ _)|(with_reducible refine below_of (by assumption) ?_ ?_)|go_size))
   have B3:Hid (Below wr.heap.size wr w3):=Lib.hid (HB2.out.trans (B23.mono HB2.out.size))
   have OU:Hid (OwnE (ptE 41) b w3 (.slice (some ⟨b,0,none⟩) 1 1) [y]):=by rw[<-hw3,<-hbb];exact Lib.hid (OwnE.one w2 y _ rfl _ rfl)
   have hl3:b<w3.heap.size:=by rw[<-hw3,World.size_alloc,hbb];omega
   have hbr:wr.heap.size<=b:=by have:=HB2.out.size;omega
   have hrow:=HT.out.win.ring.row
   have hpl:ps1.length=N:=by rw[HT.out.win.ring.len,HLN.out]
   have RD:=Lib.hid (rd_cut (hrow.keep B3.out) (M:=M) (by omega))
   have hl1:(ps1.take M).length=M:=by rw[List.length_take];omega
   have R3:=Lib.hid (HT.out.win.keep B3.out)
   have J3:=Lib.hid ((rjs_stay sp _ y).keep HJ.out B23)
   go_upto_region 6 with fail
   try rw[hw3]
   try rw[hbb]
   have HBB:=Lib.hid hbb
   clear hw3 hbb hrow hpl
   have lx3:x<w3.heap.size:=by have:=B3.out.size;omega
   have nx:¬(x=b):=by omega
   have c7':w3.cell? ⟨x,7,none⟩=some (.slice (some ⟨g,0,none⟩) (M+1) c):=by have:=(B3.out.cell (p:=⟨x,7,none⟩) lx).trans C7.out;rw[hM] at this;exact this
   have z7':w3.frozen? ⟨x,7,none⟩=false:=(B3.out.frozen (p:=⟨x,7,none⟩) lx).trans Z7.out
   have CC:=Lib.hid (And.intro c7' z7')
   have hMc:(M:Int)<=(c:Int):=by have:=HLN.out;omega
   have AR:Hid (IntKind.i64.wrap (M:Int)=(M:Int)):=Lib.hid (by rw[IntKind.wrap_i64];omega)
   have HMM:=Lib.hid hM
   have hM60:M<=59:=by omega
   have HL8:Hid (([y]++ps1.take M).length=M+1):=Lib.hid (by rw[List.length_append,hl1];simp;omega)
   clear c7' z7' hM
   refine wp_region_planS (Touch (fun j=>j=b) w3) 16 [(0,1),(1,1),(2,1),(3,1),(4,1),(5,1),(6,1),(7,1),(8,1),(9,1),(10,1),(11,1),(12,1),(13,0),(14,2),(15,1),(16,0)] (by kernel_rfl) (by kernel_rfl) ((Touch.refl _ _).drew) ?_
   iterate 13
    refine wpPlanS_read (by rfl) (by rfl) (fun R hR=>?_)
    apply Exists.intro
    refine⟨fun w' hS'=>?_,?_⟩
    ·have hwM:=AR.out
     have c7:=(tcell hS' 7 lx3 nx).trans CC.out.1
     go_simp
     exact⟨rfl,rfl⟩
    go_simp
    refine hR _ ?_
    clear hR R
   refine wpPlanS_do (by rfl) (by rfl) (by rfl) (fun K hK=>?_)
   refine apW tyPr27 (.tmp 44) (.tmp 55) rfl OU.out.drew rfl _ (ps1.take M) rfl (RD.out.keep (Below.refl _ _).drew) (by rw[hl1];simp;omega) (by show b<=w3.heap.size;omega) ?_
   intro v8 w8 o8 g8 a8
   have T8:Touch (fun j=>j=b) w3 w8:=((Touch.refl _ _).drew).grown g8 (fun j e=>.inl (by injection e with e;exact e.symm))
   have G8:=Lib.hid g8
   have A8':=Lib.hid a8
   have O8:=Lib.hid o8
   obtain⟨A8,c8,e8,_,_,_⟩:=o8.form
   rw[HL8.out] at e8
   subst e8
   clear o8 g8 a8
   go_simp
   refine hK _ _ (T8) ?_
   clear hK K
   iterate 1
    refine wpPlanS_pure (by rfl) (by rfl) (fun R hR=>?_)
    apply Exists.intro
    refine⟨fun w'=>?_,?_⟩
    ·go_simp
     exact⟨rfl,rfl⟩
    go_simp
    refine hR _ ?_
    clear hR R
   iterate 1
    refine wpPlanS_read (by rfl) (by rfl) (fun R hR=>?_)
    apply Exists.intro
    refine⟨fun w' hS'=>?_,?_⟩
    ·have hwM:=AR.out
     have c7:=(tcell hS' 7 lx3 nx).trans CC.out.1
     go_simp
     exact⟨rfl,rfl⟩
    go_simp
    refine hR _ ?_
    clear hR R
   refine wpPlanS_end (by rfl) (by rfl) (by rfl) (fun K hK=>?_)
   have c7:=(tcell T8 7 lx3 nx).trans CC.out.1
   have z7:=(tfroz T8 7 lx3 nx).trans CC.out.2
   go_simp
   refine hK _ _ ?_
   clear hK K
   refine wpPlanS_nil ?_
   obtain⟨w4,hw4⟩:∃q,w8.setCell ⟨x,7,none⟩ (.slice A8 (M+1) c8)=q:=⟨_,rfl⟩
   try refine calm_normal ?_
   try rw[hw4]
   have hLM:(tickN sp s.L j).length - 1=M:=by rw[HLN.out,HMM.out];omega
   have hbv:∀i,(Value.slice (some ⟨b,0,none⟩) 1 1).ownBlock=some i->i=b:=fun i e=>by injection e with e;exact e.symm
   have hbb2:=HBB.out
   have newY:∀i,Gr (fun _=>False) wr w2 i->wr.heap.size<=i/\i<b:=fun i hi=>hi.elim False.elim (fun h=>by omega)
   have lowG:=HT.out.win.ring.low
   have xG:=HT.out.win.out
   have SH:=RingAt.shift (u:=.slice (some ⟨b,0,none⟩) 1 1) (y:=y) (c':=sp.new) (Fy:=Gr (fun _=>False) wr w2) (rjP_stay sp) (R3.out.ring.keep (rjP_stay sp) (Below.refl _ _).drew) HT.out.win.pos ((rjs_stay sp _ y).keep J3.out (Below.refl _ _).drew) (fun i hi hG=>by have:=newY i hi;have:=lowG i hG;omega) (by rw[hLM];exact OwnE.more O8.out (Nat.zero_le _)) G8.out (fun i e=>by rw[hbv i e];exact⟨fun h=>by have:=lowG b h;omega,fun h=>by have:=newY b h;omega⟩) A8'.out
   have hv8:∀i,(Value.slice A8 (M+1) c8).ownBlock=some i->b<=i:=fun i e=>(O8.out.lt i e).1
   have xn:¬(G1 x\/Gr (fun _=>False) wr w2 x\/(Value.slice A8 (M+1) c8).ownBlock=some x):=fun h=>h.elim xG (fun h=>h.elim (fun h=>by have:=newY x h;omega) (fun h=>by have:=hv8 x h;omega))
   have hzr:=HT.out.touch.size
   have hz38:=T8.size
   have HN:Hid (RTcAt sp (s.now+k) x s.L F w (j+1) (.slice A8 (M+1) c8) (y::ps1.take M) (shF Ow1 (Gr (fun _=>False) wr w2)) (fun i=>G1 i\/Gr (fun _=>False) wr w2 i\/(Value.slice A8 (M+1) c8).ownBlock=some i) w4):=by
    have ht:Touch (fun i=>i=x) w8 w4:=by rw[<-hw4];exact Touch.setCell (F:=fun i=>i=x) (Touch.refl _ _) (p:=⟨x,7,none⟩) (.inl rfl) _
    refine Lib.hid ⟨⟨?_,?_,?_,?_,xn⟩,fun i hi=>?_,?_⟩
    ·have hb8:Blk w8 x 102 (sp.cs++[Value.slice (some ⟨g,0,none⟩) (tickN sp s.L j).length c,Value.int .u64 (s.now+k:Nat)]).toArray:=(T8.block x lx3 nx).trans R3.out.blk
     have:=hb8.set_ 7 (.slice A8 (M+1) c8)
     rw[hw4] at this
     revert this
     cases sp<;>exact id
    ·rw[hLM] at SH
     exact SH.far (rjP_stay sp) ht (fun i hi e=>xn (by rw[<-show i=x from e];exact hi))
    ·rw[tickN,tick1];simp
    ·rw[tickN_length (by rw[HNN.out];omega),HNN.out];omega
    ·rcases hi with hi|hi|hi
     ·exact HT.out.sub i hi
     ·have:=newY i hi;exact .inr (by omega)
     ·have:=hv8 i hi;exact .inr (by omega)
    ·exact((HT.out.touch.trans (Touch.of_below (F:=F) B3.out (Nat.le_refl _)) (fun i hi=>.inl hi)).trans T8 (fun i e=>.inr (by rw[show i=b from e];omega))).trans ht (fun i e=>.inl (by rw[show i=x from e];exact h3))
   clear hw4 SH T8 B23
   go_wp2_with fail
   go_roundg (m - (j+1))
   case measure=>have:=HQ.out;omega
   case rel=>exact⟨j+1,_,_,_,_,rfl,by omega,by go_num,HN⟩
  ·obtain rfl:j=m:=by omega
   have hz:=HT.out.touch.size
   have hWN:Hid (RWinAt sp (wtick sp n s) x (Gr F w wr) wr):=by
    have hw':RWinB sp (wtick sp n s).now (wtick sp n s).L (.slice (some ⟨g,0,none⟩) (tickN sp s.L j).length c) ps1 Ow1 G1 x wr:=by
     show RWinB sp (s.now+tkA n s) (tickN sp s.L (min (tkA n s) s.L.length)) _ _ _ _ _ _
     rw[hk,HNN.out,HM.out];exact HT.out.win
    exact Lib.hid ⟨_,ps1,Ow1,G1,hw',.inl h3,fun i hi=>(HT.out.sub i hi).imp id (fun h=>⟨h,HT.out.win.ring.low i hi⟩),gr_lt h5 hz⟩
   have HTT:=Lib.hid HT.out.touch
   by_cases hjk:j<k
   ·have h1:(j:Int)<(k:Int):=by omega
    have h2:¬((j:Int)<(N:Int)):=by have:=HM.out;omega
    clear hlen
    go_wp2_with fail
    refine bodyPost_end (v:=.tuple #[]) (by simp[results,Tryz.results50,go_sem, *];try rfl) rfl ?_
    exact⟨rfl,hWN.out,HTT.out⟩
   ·have h1:¬((j:Int)<(k:Int)):=by omega
    clear hlen
    go_wp2_with fail
    refine bodyPost_end (v:=.tuple #[]) (by simp[results,Tryz.results50,go_sem, *];try rfl) rfl ?_
    exact⟨rfl,hWN.out,HTT.out⟩
theorem rwin_tick{sp:Spk}{x:Nat}{F:Ft}{s:Wn}(n:Nat)(w:World)(ok:SpOk sp)(h:RWinAt sp s x F w)(hnow:s.now<=9223372036854775807)(hn:n<18446744073709551616) :
 Calls Tryz.prog 50 #[.pointer (some ⟨x,0,none⟩),.int .u64 n] w fun e w'=>e=.returned (.tuple #[])/\RWinAt sp (wtick sp n s) x (Gr F w w') w'/\Touch F w w':=by
 cases sp with
 | h lo hi dg u m gr=>exact rwin_tick_c rfl rfl ok n w h hnow hn
 | d a m=>exact rwin_tick_c rfl rfl ok n w h hnow hn
 | t d=>exact rwin_tick_c rfl rfl ok n w h hnow hn
 | k q=>exact rwin_tick_c rfl rfl ok n w h hnow hn
open Go.RowKit Go.Lib Go.Shelf
theorem rright1_any{lo hi dg u m:Nat}{gr:Bool}(w:World)(ok:SpOk (.h lo hi dg u m gr)):Calls Tryz.prog 20 #[(.h lo hi dg u m gr:Spk).v] w fun e w'=>e=.returned (.bool true)/\Below w.heap.size w w':=by
 have CS:Hid (∀w1,_):=Lib.hid (fun w1=>rshape_any w1 ok)
 clear ok
 show Calls Tryz.prog 20 #[.agg #[.int .u8 1,.int .i64 lo,.int .i64 hi,.int .i64 dg,.bool gr,.int .i64 0,.int .i64 0]] w _
 obtain⟨b,hbb⟩:∃b,w.heap.size=b:=⟨_,rfl⟩
 obtain⟨wa,hwa⟩:∃z,w.alloc (.cells #[.int .u8 1,.int .i64 lo,.int .i64 hi,.int .i64 dg,.bool gr,.int .i64 0,.int .i64 0] 34)=z:=⟨_,rfl⟩
 have ha:Below w.heap.size w wa:=by rw[<-hwa];(repeat' (first|(with_reducible exact Below.refl _ _)|(with_reducible refine Below.alloc ?_ ?_ _)|(with_reducible refine Below.drew ?_)|(with_reducible refine below_drewN ?_ _)|(with_reducible refine Below.setCell ?_ ?_ _)|(with_reducible refine below_of (by assumption) ?_ ?_)|go_size))
 have B0:Hid (Blk wa b 34 #[.int .u8 1,.int .i64 lo,.int .i64 hi,.int .i64 dg,.bool gr,.int .i64 0,.int .i64 0]):=by rw[<-hwa,<-hbb];exact Lib.hid (Blk.new _ _ _)
 have hz:wa.heap.size=b+1:=by rw[<-hwa,<-hbb,World.size_alloc]
 have HBB:=Lib.hid hbb
 go_enter Tryz.func20,Tryz.ntmps20
 go_upto_region 1 with fail
 try rw[hwa]
 clear hwa hbb
 obtain⟨wb,hwb⟩:∃z,wa.alloc (.cells #[.int .i64 0,.int .i64 0,.int .i64 0] 32)=z:=⟨_,rfl⟩
 have hb:Below w.heap.size w wb:=by rw[<-hwb];exact ha.alloc ha.size _
 have N0:Hid (Blk wb (b+1) 32 #[.int .i64 0,.int .i64 0,.int .i64 0]):=by rw[<-hwb,<-hz];exact Lib.hid (Blk.new _ _ _)
 have B1:Hid (Blk wb b 34 #[.int .u8 1,.int .i64 lo,.int .i64 hi,.int .i64 dg,.bool gr,.int .i64 0,.int .i64 0]):=by rw[<-hwb];exact Lib.hid (B0.out.keep (by(repeat' (first|(with_reducible exact Below.refl _ _)|(with_reducible refine Below.alloc ?_ ?_ _)|(with_reducible refine Below.drew ?_)|(with_reducible refine below_drewN ?_ _)|(with_reducible refine Below.setCell ?_ ?_ _)|(with_reducible refine below_of (by assumption) ?_ ?_)|go_size))))
 have hby:w.heap.size<=b+1:=by have:=HBB.out;omega
 have x0:=N0.out.cell 0
 have x1:=N0.out.cell 1
 have x2:=N0.out.cell 2
 have y0:=N0.out.frozen 0
 have y1:=N0.out.frozen 1
 have y2:=N0.out.frozen 2
 simp only[List.getElem?_toArray,List.getElem?_cons_zero,List.getElem?_cons_succ] at x0 x1 x2
 go_upto_region 2 with fail
 try rw[hz]
 clear hz
 clear x0 x1 x2 y0 y1 y2
 obtain⟨wc,hwc⟩:∃z,((wb.setCell ⟨b+1,0,none⟩ (.int .i64 0)).setCell ⟨b+1,1,none⟩ (.int .i64 0)).setCell ⟨b+1,2,none⟩ (.int .i64 0)=z:=⟨_,rfl⟩
 have hc:Below w.heap.size w wc:=by rw[<-hwc];exact((hb.setCell (p:=⟨b+1,0,none⟩) hby _).setCell (p:=⟨b+1,1,none⟩) hby _).setCell (p:=⟨b+1,2,none⟩) hby _
 have N1:Hid (Blk wc (b+1) 32 #[.int .i64 0,.int .i64 0,.int .i64 0]):=by rw[<-hwc];exact Lib.hid (((N0.out.set_ 0 _).set_ 1 _).set_ 2 _)
 have B2:Hid (Blk wc b 34 #[.int .u8 1,.int .i64 lo,.int .i64 hi,.int .i64 dg,.bool gr,.int .i64 0,.int .i64 0]):=by rw[<-hwc];exact Lib.hid (((B1.out.far (p:=⟨b+1,0,none⟩) (by simp) _).far (p:=⟨b+1,1,none⟩) (by simp) _).far (p:=⟨b+1,2,none⟩) (by simp) _)
 try rw[hwb]
 rw[hwc]
 clear hwc hwb
 have s0:=B2.out.cell 0
 have s1:=B2.out.cell 1
 have s2:=B2.out.cell 2
 have s3:=B2.out.cell 3
 have s4:=B2.out.cell 4
 have s5:=B2.out.cell 5
 have s6:=B2.out.cell 6
 have n0:=N1.out.cell 0
 have n1:=N1.out.cell 1
 have n2:=N1.out.cell 2
 simp only[List.getElem?_toArray,List.getElem?_cons_zero,List.getElem?_cons_succ] at s0 s1 s2 s3 s4 s5 s6 n0 n1 n2
 go_wp2_with fail
 refine(CS.out wc).mono ?_
 rintro e w' ⟨rfl,hb'⟩
 have hd:=hc.trans (hb'.mono hc.size)
 go_wp2_with fail
 go_ret
 exact⟨rfl,hd⟩
theorem rright2_any{a m:Nat}(w:World)(ok:SpOk (.d a m)):Calls Tryz.prog 20 #[(.d a m:Spk).v] w fun e w'=>e=.returned (.bool true)/\Below w.heap.size w w':=by
 obtain⟨k1,k2,k3,k4⟩:=ok
 have k1':(a:Int)>=100:=by omega
 have k2':(a:Int)<=5000:=by omega
 have k3':(m:Int)>=2:=by omega
 have k4':(m:Int)<=4096:=by omega
 show Calls Tryz.prog 20 #[.agg #[.int .u8 2,.int .i64 0,.int .i64 0,.int .i64 0,.bool false,.int .i64 a,.int .i64 m]] w _
 obtain⟨b,hbb⟩:∃b,w.heap.size=b:=⟨_,rfl⟩
 obtain⟨wa,hwa⟩:∃z,w.alloc (.cells #[.int .u8 2,.int .i64 0,.int .i64 0,.int .i64 0,.bool false,.int .i64 a,.int .i64 m] 34)=z:=⟨_,rfl⟩
 have ha:Below w.heap.size w wa:=by rw[<-hwa];(repeat' (first|(with_reducible exact Below.refl _ _)|(with_reducible refine Below.alloc ?_ ?_ _)|(with_reducible refine Below.drew ?_)|(with_reducible refine below_drewN ?_ _)|(with_reducible refine Below.setCell ?_ ?_ _)|(with_reducible refine below_of (by assumption) ?_ ?_)|go_size))
 have B0:Hid (Blk wa b 34 #[.int .u8 2,.int .i64 0,.int .i64 0,.int .i64 0,.bool false,.int .i64 a,.int .i64 m]):=by rw[<-hwa,<-hbb];exact Lib.hid (Blk.new _ _ _)
 have hz:wa.heap.size=b+1:=by rw[<-hwa,<-hbb,World.size_alloc]
 have HBB:=Lib.hid hbb
 go_enter Tryz.func20,Tryz.ntmps20
 go_upto_region 1 with fail
 try rw[hwa]
 clear hwa hbb
 obtain⟨wb,hwb⟩:∃z,wa.alloc (.cells #[.int .i64 0,.int .i64 0,.int .i64 0] 32)=z:=⟨_,rfl⟩
 have hb:Below w.heap.size w wb:=by rw[<-hwb];exact ha.alloc ha.size _
 have N0:Hid (Blk wb (b+1) 32 #[.int .i64 0,.int .i64 0,.int .i64 0]):=by rw[<-hwb,<-hz];exact Lib.hid (Blk.new _ _ _)
 have B1:Hid (Blk wb b 34 #[.int .u8 2,.int .i64 0,.int .i64 0,.int .i64 0,.bool false,.int .i64 a,.int .i64 m]):=by rw[<-hwb];exact Lib.hid (B0.out.keep (by(repeat' (first|(with_reducible exact Below.refl _ _)|(with_reducible refine Below.alloc ?_ ?_ _)|(with_reducible refine Below.drew ?_)|(with_reducible refine below_drewN ?_ _)|(with_reducible refine Below.setCell ?_ ?_ _)|(with_reducible refine below_of (by assumption) ?_ ?_)|go_size))))
 have hby:w.heap.size<=b+1:=by have:=HBB.out;omega
 have x0:=N0.out.cell 0
 have x1:=N0.out.cell 1
 have x2:=N0.out.cell 2
 have y0:=N0.out.frozen 0
 have y1:=N0.out.frozen 1
 have y2:=N0.out.frozen 2
 simp only[List.getElem?_toArray,List.getElem?_cons_zero,List.getElem?_cons_succ] at x0 x1 x2
 go_upto_region 2 with fail
 try rw[hz]
 clear hz
 clear x0 x1 x2 y0 y1 y2
 obtain⟨wc,hwc⟩:∃z,((wb.setCell ⟨b+1,0,none⟩ (.int .i64 0)).setCell ⟨b+1,1,none⟩ (.int .i64 0)).setCell ⟨b+1,2,none⟩ (.int .i64 0)=z:=⟨_,rfl⟩
 have hc:Below w.heap.size w wc:=by rw[<-hwc];exact((hb.setCell (p:=⟨b+1,0,none⟩) hby _).setCell (p:=⟨b+1,1,none⟩) hby _).setCell (p:=⟨b+1,2,none⟩) hby _
 have N1:Hid (Blk wc (b+1) 32 #[.int .i64 0,.int .i64 0,.int .i64 0]):=by rw[<-hwc];exact Lib.hid (((N0.out.set_ 0 _).set_ 1 _).set_ 2 _)
 have B2:Hid (Blk wc b 34 #[.int .u8 2,.int .i64 0,.int .i64 0,.int .i64 0,.bool false,.int .i64 a,.int .i64 m]):=by rw[<-hwc];exact Lib.hid (((B1.out.far (p:=⟨b+1,0,none⟩) (by simp) _).far (p:=⟨b+1,1,none⟩) (by simp) _).far (p:=⟨b+1,2,none⟩) (by simp) _)
 try rw[hwb]
 rw[hwc]
 clear hwc hwb
 have s0:=B2.out.cell 0
 have s1:=B2.out.cell 1
 have s2:=B2.out.cell 2
 have s3:=B2.out.cell 3
 have s4:=B2.out.cell 4
 have s5:=B2.out.cell 5
 have s6:=B2.out.cell 6
 have n0:=N1.out.cell 0
 have n1:=N1.out.cell 1
 have n2:=N1.out.cell 2
 simp only[List.getElem?_toArray,List.getElem?_cons_zero,List.getElem?_cons_succ] at s0 s1 s2 s3 s4 s5 s6 n0 n1 n2
 go_wp2_with fail
 go_ret
 exact⟨rfl,hc⟩
theorem rright3_any{d:Nat}(w:World)(ok:SpOk (.t d)):Calls Tryz.prog 20 #[(.t d:Spk).v] w fun e w'=>e=.returned (.bool true)/\Below w.heap.size w w':=by
 obtain⟨k1,k2⟩:=ok
 have k1':(d:Int)>=10:=by omega
 have k2':(d:Int)<=1000:=by omega
 show Calls Tryz.prog 20 #[.agg #[.int .u8 3,.int .i64 0,.int .i64 0,.int .i64 0,.bool false,.int .i64 0,.int .i64 d]] w _
 obtain⟨b,hbb⟩:∃b,w.heap.size=b:=⟨_,rfl⟩
 obtain⟨wa,hwa⟩:∃z,w.alloc (.cells #[.int .u8 3,.int .i64 0,.int .i64 0,.int .i64 0,.bool false,.int .i64 0,.int .i64 d] 34)=z:=⟨_,rfl⟩
 have ha:Below w.heap.size w wa:=by rw[<-hwa];(repeat' (first|(with_reducible exact Below.refl _ _)|(with_reducible refine Below.alloc ?_ ?_ _)|(with_reducible refine Below.drew ?_)|(with_reducible refine below_drewN ?_ _)|(with_reducible refine Below.setCell ?_ ?_ _)|(with_reducible refine below_of (by assumption) ?_ ?_)|go_size))
 have B0:Hid (Blk wa b 34 #[.int .u8 3,.int .i64 0,.int .i64 0,.int .i64 0,.bool false,.int .i64 0,.int .i64 d]):=by rw[<-hwa,<-hbb];exact Lib.hid (Blk.new _ _ _)
 have hz:wa.heap.size=b+1:=by rw[<-hwa,<-hbb,World.size_alloc]
 have HBB:=Lib.hid hbb
 go_enter Tryz.func20,Tryz.ntmps20
 go_upto_region 1 with fail
 try rw[hwa]
 clear hwa hbb
 obtain⟨wb,hwb⟩:∃z,wa.alloc (.cells #[.int .i64 0,.int .i64 0,.int .i64 0] 32)=z:=⟨_,rfl⟩
 have hb:Below w.heap.size w wb:=by rw[<-hwb];exact ha.alloc ha.size _
 have N0:Hid (Blk wb (b+1) 32 #[.int .i64 0,.int .i64 0,.int .i64 0]):=by rw[<-hwb,<-hz];exact Lib.hid (Blk.new _ _ _)
 have B1:Hid (Blk wb b 34 #[.int .u8 3,.int .i64 0,.int .i64 0,.int .i64 0,.bool false,.int .i64 0,.int .i64 d]):=by rw[<-hwb];exact Lib.hid (B0.out.keep (by(repeat' (first|(with_reducible exact Below.refl _ _)|(with_reducible refine Below.alloc ?_ ?_ _)|(with_reducible refine Below.drew ?_)|(with_reducible refine below_drewN ?_ _)|(with_reducible refine Below.setCell ?_ ?_ _)|(with_reducible refine below_of (by assumption) ?_ ?_)|go_size))))
 have hby:w.heap.size<=b+1:=by have:=HBB.out;omega
 have x0:=N0.out.cell 0
 have x1:=N0.out.cell 1
 have x2:=N0.out.cell 2
 have y0:=N0.out.frozen 0
 have y1:=N0.out.frozen 1
 have y2:=N0.out.frozen 2
 simp only[List.getElem?_toArray,List.getElem?_cons_zero,List.getElem?_cons_succ] at x0 x1 x2
 go_upto_region 2 with fail
 try rw[hz]
 clear hz
 clear x0 x1 x2 y0 y1 y2
 obtain⟨wc,hwc⟩:∃z,((wb.setCell ⟨b+1,0,none⟩ (.int .i64 0)).setCell ⟨b+1,1,none⟩ (.int .i64 0)).setCell ⟨b+1,2,none⟩ (.int .i64 0)=z:=⟨_,rfl⟩
 have hc:Below w.heap.size w wc:=by rw[<-hwc];exact((hb.setCell (p:=⟨b+1,0,none⟩) hby _).setCell (p:=⟨b+1,1,none⟩) hby _).setCell (p:=⟨b+1,2,none⟩) hby _
 have N1:Hid (Blk wc (b+1) 32 #[.int .i64 0,.int .i64 0,.int .i64 0]):=by rw[<-hwc];exact Lib.hid (((N0.out.set_ 0 _).set_ 1 _).set_ 2 _)
 have B2:Hid (Blk wc b 34 #[.int .u8 3,.int .i64 0,.int .i64 0,.int .i64 0,.bool false,.int .i64 0,.int .i64 d]):=by rw[<-hwc];exact Lib.hid (((B1.out.far (p:=⟨b+1,0,none⟩) (by simp) _).far (p:=⟨b+1,1,none⟩) (by simp) _).far (p:=⟨b+1,2,none⟩) (by simp) _)
 try rw[hwb]
 rw[hwc]
 clear hwc hwb
 have s0:=B2.out.cell 0
 have s1:=B2.out.cell 1
 have s2:=B2.out.cell 2
 have s3:=B2.out.cell 3
 have s4:=B2.out.cell 4
 have s5:=B2.out.cell 5
 have s6:=B2.out.cell 6
 have n0:=N1.out.cell 0
 have n1:=N1.out.cell 1
 have n2:=N1.out.cell 2
 simp only[List.getElem?_toArray,List.getElem?_cons_zero,List.getElem?_cons_succ] at s0 s1 s2 s3 s4 s5 s6 n0 n1 n2
 go_wp2_with fail
 go_ret
 exact⟨rfl,hc⟩
theorem rright4_any{q:Nat}(w:World)(ok:SpOk (.k q)):Calls Tryz.prog 20 #[(.k q:Spk).v] w fun e w'=>e=.returned (.bool true)/\Below w.heap.size w w':=by
 obtain⟨k1,k2⟩:=ok
 have k1':(q:Int)>=8:=by omega
 have k2':(q:Int)<=4096:=by omega
 show Calls Tryz.prog 20 #[.agg #[.int .u8 4,.int .i64 0,.int .i64 0,.int .i64 0,.bool false,.int .i64 0,.int .i64 q]] w _
 obtain⟨b,hbb⟩:∃b,w.heap.size=b:=⟨_,rfl⟩
 obtain⟨wa,hwa⟩:∃z,w.alloc (.cells #[.int .u8 4,.int .i64 0,.int .i64 0,.int .i64 0,.bool false,.int .i64 0,.int .i64 q] 34)=z:=⟨_,rfl⟩
 have ha:Below w.heap.size w wa:=by rw[<-hwa];(repeat' (first|(with_reducible exact Below.refl _ _)|(with_reducible refine Below.alloc ?_ ?_ _)|(with_reducible refine Below.drew ?_)|(with_reducible refine below_drewN ?_ _)|(with_reducible refine Below.setCell ?_ ?_ _)|(with_reducible refine below_of (by assumption) ?_ ?_)|go_size))
 have B0:Hid (Blk wa b 34 #[.int .u8 4,.int .i64 0,.int .i64 0,.int .i64 0,.bool false,.int .i64 0,.int .i64 q]):=by rw[<-hwa,<-hbb];exact Lib.hid (Blk.new _ _ _)
 have hz:wa.heap.size=b+1:=by rw[<-hwa,<-hbb,World.size_alloc]
 have HBB:=Lib.hid hbb
 go_enter Tryz.func20,Tryz.ntmps20
 go_upto_region 1 with fail
 try rw[hwa]
 clear hwa hbb
 obtain⟨wb,hwb⟩:∃z,wa.alloc (.cells #[.int .i64 0,.int .i64 0,.int .i64 0] 32)=z:=⟨_,rfl⟩
 have hb:Below w.heap.size w wb:=by rw[<-hwb];exact ha.alloc ha.size _
 have N0:Hid (Blk wb (b+1) 32 #[.int .i64 0,.int .i64 0,.int .i64 0]):=by rw[<-hwb,<-hz];exact Lib.hid (Blk.new _ _ _)
 have B1:Hid (Blk wb b 34 #[.int .u8 4,.int .i64 0,.int .i64 0,.int .i64 0,.bool false,.int .i64 0,.int .i64 q]):=by rw[<-hwb];exact Lib.hid (B0.out.keep (by(repeat' (first|(with_reducible exact Below.refl _ _)|(with_reducible refine Below.alloc ?_ ?_ _)|(with_reducible refine Below.drew ?_)|(with_reducible refine below_drewN ?_ _)|(with_reducible refine Below.setCell ?_ ?_ _)|(with_reducible refine below_of (by assumption) ?_ ?_)|go_size))))
 have hby:w.heap.size<=b+1:=by have:=HBB.out;omega
 have x0:=N0.out.cell 0
 have x1:=N0.out.cell 1
 have x2:=N0.out.cell 2
 have y0:=N0.out.frozen 0
 have y1:=N0.out.frozen 1
 have y2:=N0.out.frozen 2
 simp only[List.getElem?_toArray,List.getElem?_cons_zero,List.getElem?_cons_succ] at x0 x1 x2
 go_upto_region 2 with fail
 try rw[hz]
 clear hz
 clear x0 x1 x2 y0 y1 y2
 obtain⟨wc,hwc⟩:∃z,((wb.setCell ⟨b+1,0,none⟩ (.int .i64 0)).setCell ⟨b+1,1,none⟩ (.int .i64 0)).setCell ⟨b+1,2,none⟩ (.int .i64 0)=z:=⟨_,rfl⟩
 have hc:Below w.heap.size w wc:=by rw[<-hwc];exact((hb.setCell (p:=⟨b+1,0,none⟩) hby _).setCell (p:=⟨b+1,1,none⟩) hby _).setCell (p:=⟨b+1,2,none⟩) hby _
 have N1:Hid (Blk wc (b+1) 32 #[.int .i64 0,.int .i64 0,.int .i64 0]):=by rw[<-hwc];exact Lib.hid (((N0.out.set_ 0 _).set_ 1 _).set_ 2 _)
 have B2:Hid (Blk wc b 34 #[.int .u8 4,.int .i64 0,.int .i64 0,.int .i64 0,.bool false,.int .i64 0,.int .i64 q]):=by rw[<-hwc];exact Lib.hid (((B1.out.far (p:=⟨b+1,0,none⟩) (by simp) _).far (p:=⟨b+1,1,none⟩) (by simp) _).far (p:=⟨b+1,2,none⟩) (by simp) _)
 try rw[hwb]
 rw[hwc]
 clear hwc hwb
 have s0:=B2.out.cell 0
 have s1:=B2.out.cell 1
 have s2:=B2.out.cell 2
 have s3:=B2.out.cell 3
 have s4:=B2.out.cell 4
 have s5:=B2.out.cell 5
 have s6:=B2.out.cell 6
 have n0:=N1.out.cell 0
 have n1:=N1.out.cell 1
 have n2:=N1.out.cell 2
 simp only[List.getElem?_toArray,List.getElem?_cons_zero,List.getElem?_cons_succ] at s0 s1 s2 s3 s4 s5 s6 n0 n1 n2
 go_wp2_with fail
 go_ret
 exact⟨rfl,hc⟩
theorem rright_yes{sp:Spk}(w:World)(ok:SpOk sp):Calls Tryz.prog 20 #[sp.v] w fun e w'=>e=.returned (.bool true)/\Below w.heap.size w w':=by
 cases sp with
 | h lo hi dg u m gr=>exact rright1_any w ok
 | d a m=>exact rright2_any w ok
 | t d=>exact rright3_any w ok
 | k q=>exact rright4_any w ok
end Go.Proofs.YtkiebccnpheloaaGreat.D
