/- Parts of a proof: what its theorem reaches, words cut short. No condition of its own. -/
import Derived.Test.YtilcnjbpmoijmaaGreatPs41
import Derived.Test.YtilcnjbpmoijmaaGreatPs51
set_option maxRecDepth 100000
set_option maxHeartbeats 16000000
set_option linter.unusedVariables false
set_option linter.unusedSimpArgs false
namespace Go.Proofs.YtilcnjbpmoijmaaGreat.D
open Go.RowKit Go.Lib Go.Maps
theorem fu_do{sb n q:Nat}{H:Ft}{h sz:Int}(hn:n<=255)(h8:8<=q)(hq:q<=4096)(hh:h=7 * n)(hz:sz=q)(w:World)(hF:FuAt sb (min n 64) H w) :
 Calls Tryz.prog 29 #[.pointer (some ⟨sb,0,none⟩),.agg (actC 1 h 4 sz 0 0 0 0)] w fun e w'=>e=.returned (.agg (resC (if n<64 then 0 else 2) 0 false 0))/\Left (FuAt sb (min (n+1) 64)) H w w':=by
 subst hh hz
 by_cases hl:n<64
 ·rw[Nat.min_eq_left (by omega)] at hF
  rw[if_pos hl,Nat.min_eq_left (by omega)]
  exact fu_create hl h8 hq w hF
 ·rw[Nat.min_eq_right (by omega)] at hF
  rw[if_neg hl,Nat.min_eq_right (by omega)]
  exact fu_full (by omega) hn w hF
theorem AS.left2{W w w':World}{Q Q':Ft->World->Prop}{rs:List (Nat × Array Value)}{H:Ft}{b:Nat}{t:TypeId}{cs:Array Value}(h:AS W Q rs H w)(hl:Left Q' H w w')(hB:Blk w b t cs/\¬H b):∃H',AS W Q' rs H' w'/\Blk w' b t cs/\¬H' b:=by
 obtain⟨h1,h2,h3,h4⟩:=h
 obtain⟨H',g1,g2,g3⟩:=hl
 have hlt:=hB.1.lt
 refine⟨H',⟨g1,h2.trans (g3.below h3 h2.size),fun j e=>(g2 j e).elim (h3 j) (fun f=>Nat.le_trans h2.size f),fun p hp=>⟨fun e=>?_,(g3.block _ (h4 p hp).2.lt (h4 p hp).1).trans (h4 p hp).2⟩⟩,(g3.block _ hlt hB.2).trans hB.1,fun e=>?_⟩
 ·have hl:=(h4 p hp).2.lt
  rcases g2 p.1 e with f|f
  ·exact(h4 p hp).1 f
  ·omega
 ·rcases g2 b e with f|f
  ·exact hB.2 f
  ·omega
theorem AS.none{W w:World}{Q:Ft->World->Prop}{rs:List (Nat × Array Value)}{H:Ft}(h:AS W Q rs H w):AS W Q [] H w:=⟨h.1,h.2.1,h.2.2.1,by simp⟩
theorem full28_any{n size drop:Int}(hn0:0<=n)(hn1:n<=255)(hs0:0<=size)(hs1:size<=65535)(hd0:0<=drop)(hd1:drop<=255)(W:World) :
 Calls Tryz.prog 7 #[.int .u8 n,.int .u16 size,.int .u8 drop] W fun e w'=>e=.returned (.bool true)/\Below W.heap.size W w':=by
 have CA:=Lib.hid (alive28_any W)
 go_enter Tryz.func7,Tryz.ntmps7
 go_upto_region 1 with fail
 go_wp2_with fail
 refine(CA.out).mono ?_
 rintro e w1 ⟨rfl,hb⟩
 have HB:=Lib.hid hb
 have CN:=Lib.hid (su_new w1)
 clear hb CA
 go_upto_region 3 with fail
 go_wp2_with fail
 refine(CN.out).mono ?_
 rintro e w2 ⟨sb,rfl,hS,hb2⟩
 have HS:∃H,Hid (AS W (FuAt sb 0) [] H w2):=⟨_,Lib.hid ⟨⟨_,_,hS,Fu.zero,by simp⟩,HB.out.trans (hb2.mono HB.out.size),fun j e=>by simp[Gr] at e;exact Nat.le_trans HB.out.size e.1,by simp⟩⟩
 clear CN hS hb2
 obtain⟨H0,HS⟩:=HS
 go_upto_block 0 with fail
 obtain⟨wp,b8,hwp,hb8,HP,HQ⟩:∃wp b8,(w2.alloc (.cells #[.int .u8 4,.int .i64 0,.int .i64 0,.int .i64 0,.bool false,.int .i64 0,.int .i64 (8+size % 100)] 25))=wp/\w2.heap.size=b8/\Hid (AS W (FuAt sb 0) [] H0 wp)/\Hid (Blk wp b8 25 #[.int .u8 4,.int .i64 0,.int .i64 0,.int .i64 0,.bool false,.int .i64 0,.int .i64 (8+size % 100)]/\¬H0 b8):=
  ⟨_,_,rfl,rfl,Lib.hid (HS.out.keep (fu_stay _ _) ((Below.refl _ _).alloc (Nat.le_refl _) _)),Lib.hid ⟨Blk.new w2 _ _,fun e=>Nat.lt_irrefl _ ((fu_stay _ _).low HS.out.1 _ e)⟩⟩
 rw[hwp,hb8]
 clear hwp hb8 HS
 go_cut [11] (fun _ wx=>∃H,Hid (AS W (FuAt sb (min n.toNat 64)) [] H wx)/\Hid (Blk wx b8 25 #[.int .u8 4,.int .i64 0,.int .i64 0,.int .i64 0,.bool false,.int .i64 0,.int .i64 (8+size % 100)]/\¬H b8))
 case first=>
  go_wp2_with fail
  go_loopg [9,10] n.toNat (fun q vi v10 wx=>∃(i:Nat) (H:Ft),q=n.toNat - i/\(i:Int)<=n/\vi=.int .i64 i/\Hid (AS W (FuAt sb (min i 64)) [] H wx)/\Hid (Blk wx b8 25 #[.int .u8 4,.int .i64 0,.int .i64 0,.int .i64 0,.bool false,.int .i64 0,.int .i64 (8+size % 100)]/\¬H b8))
  case atStart=>exact⟨0,H0,by omega,by omega,rfl,HP,HQ⟩
  case round=>
   obtain⟨i,H,hq,hi,rfl,HA,HB8⟩:=hrel
   by_cases hlt:(i:Int)<n
   ·have s0:wr.cell? ⟨b8,0,none⟩=some (.int .u8 4):=HB8.out.1.cell 0
    have s1:wr.cell? ⟨b8,1,none⟩=some (.int .i64 0):=HB8.out.1.cell 1
    have s2:wr.cell? ⟨b8,2,none⟩=some (.int .i64 0):=HB8.out.1.cell 2
    have s3:wr.cell? ⟨b8,3,none⟩=some (.int .i64 0):=HB8.out.1.cell 3
    have s4:wr.cell? ⟨b8,4,none⟩=some (.bool false):=HB8.out.1.cell 4
    have s5:wr.cell? ⟨b8,5,none⟩=some (.int .i64 0):=HB8.out.1.cell 5
    have s6:wr.cell? ⟨b8,6,none⟩=some (.int .i64 (8+size % 100)):=HB8.out.1.cell 6
    obtain⟨er,her⟩:∃er:Int,(if i<64 then(0:Int) else 2)=er:=⟨_,rfl⟩
    have CD:=Lib.hid (fu_do (sb:=sb) (n:=i) (q:=(8+size % 100).toNat) (H:=H) (h:=i * 7) (sz:=8+size % 100) (by omega) (by omega) (by omega) (by omega) (by omega) wr HA.out.1)
    rw[her] at CD
    have HER:=Lib.hid her
    clear her
    unfold actC at CD
    go_upto_region 8 with fail
    go_cut [10] (fun x wx=>∃r H',x=.pointer (some ⟨r,0,none⟩)/\Hid (AS W (FuAt sb (min (i+1) 64)) [(r,resC er 0 false 0)] H' wx)/\Hid (Blk wx b8 25 #[.int .u8 4,.int .i64 0,.int .i64 0,.int .i64 0,.bool false,.int .i64 0,.int .i64 (8+size % 100)]/\¬H' b8))
    case first=>
     go_wp2_with fail
     refine(CD.out).mono ?_
     rintro e w5 ⟨rfl,hL⟩
     have HL:=Lib.hid hL
     clear hL CD s0 s1 s2 s3 s4 s5 s6
     have hold5:(w5.alloc (.cells #[.int .i64 0,.int .i64 0,.bool false,.int .u64 0,.int .u64 0,.int .u64 0,.int .u64 0,.slice none 0 0] 77)).heap[w5.heap.size]?=some (.cells (resC 0 0 false 0) 77 (0,0)):=heap_alloc_new w5 _
     go_wp2_with (refine wpList_store_row rfl 77 (.tmp 10) (.tmp 36) rfl w5.heap.size (resC er 0 false 0) rfl rfl 77 _ hold5 (by kernel_rfl) rfl (by simp[resC,Value.oneCell']) ?_)
     go_meet
     obtain⟨H',hA,hB,hN⟩:=HA.out.left2 HL.out HB8.out
     exact⟨_,_,rfl,Lib.hid (hA.behind (fu_stay _ _) (resC 0 0 false 0)),Lib.hid ⟨hB.keep (alloc_set w5 _ _),hN⟩⟩
    case rest=>
     obtain⟨r,H',rfl,HA2,HB2⟩:=hcut
     clear s0 s1 s2 s3 s4 s5 s6 CD
     have q0:wc.cell? ⟨r,0,none⟩=some (.int .i64 er):=(HA2.out.2.2.2 (r,(resC er 0 false 0)) (by simp)).2.cell 0
     have HN:=Lib.hid (HA2.out.none)
     clear HA2
     by_cases hl:i<64
     ·obtain rfl:er=0:=by rw[<-HER.out,if_pos hl]
      have hl2:(i:Int)<64:=by omega
      clear HER
      go_wp2_with fail
      go_roundg (n.toNat - (i+1))
      case measure=>omega
      case rel=>exact⟨i+1,H',rfl,by omega,by go_num,HN,HB2⟩
     ·obtain rfl:er=2:=by rw[<-HER.out,if_neg hl]
      have hl2:¬(i:Int)<64:=by omega
      have hl3:(64:Int)<=i:=by omega
      clear HER
      go_wp2_with fail
      go_roundg (n.toNat - (i+1))
      case measure=>omega
      case rel=>exact⟨i+1,H',rfl,by omega,by go_num,HN,HB2⟩
   ·go_wp2_with fail
    go_meet
    exact⟨H,by rw[show n.toNat=i by omega];exact HA,HB8⟩
 case rest=>
  obtain⟨H,HA,HB8⟩:=hcut
  clear HP HQ
  obtain⟨m,hm⟩:∃m,min n.toNat 64=m:=⟨_,rfl⟩
  have hm64:m<=64:=by omega
  rw[hm] at HA
  have hmn:min n 64=(m:Int):=by omega
  obtain⟨d,hd⟩:∃d:Nat,drop % 64=d:=⟨(drop % 64).toNat,by omega⟩
  have hd64:d<64:=by omega
  have CH:Hid (Calls Tryz.prog 30 #[.pointer (some ⟨sb,0,none⟩)] wc _):=Lib.hid (by obtain⟨_,_,h1,_⟩:=HA.out.1;exact su_handles wc h1)
  clear hm
  go_upto_region 12 with fail
  go_wp2_with fail
  refine(CH.out).mono ?_
  rintro e w3 ⟨v,l,rfl,hO,hl,hb3⟩
  obtain⟨A5,c5,rfl,_,_,_⟩:=hO.form
  rw[hl]
  have HA3:=Lib.hid (HA.out.keep (fu_stay _ _) hb3)
  have HB3:Hid (Blk w3 b8 25 #[.int .u8 4,.int .i64 0,.int .i64 0,.int .i64 0,.bool false,.int .i64 0,.int .i64 (8+size % 100)]/\¬H b8):=Lib.hid ⟨HB8.out.1.keep hb3,HB8.out.2⟩
  clear hO hl hb3 HA HB8 CH
  go_upto_region 15 with fail
  trace_state
  by_cases hlt:d<m
  ·obtain⟨c,rfl⟩:∃c,m=c+1:=⟨m - 1,by omega⟩
   have CD:=Lib.hid (fu_drop (d:=d) hlt hm64 w3 HA3.out.1)
   rw[show(7:Int) * d=d * 7 by omega] at CD
   unfold actC at CD
   have hdm:(d:Int)<(c:Int)+1:=by omega
   go_cut [13] (fun x wx=>∃r H',x=.pointer (some ⟨r,0,none⟩)/\Hid (AS W (FrAt sb c (d * 7+1)) [(r,resC 0 0 false 0)] H' wx)/\Hid (Blk wx b8 25 #[.int .u8 4,.int .i64 0,.int .i64 0,.int .i64 0,.bool false,.int .i64 0,.int .i64 (8+size % 100)]/\¬H' b8))
   case first=>
    go_wp2_with fail
    refine(CD.out).mono ?_
    rintro e w5 ⟨rfl,hL⟩
    have HL:=Lib.hid hL
    clear hL CD
    have hold5:(w5.alloc (.cells #[.int .i64 0,.int .i64 0,.bool false,.int .u64 0,.int .u64 0,.int .u64 0,.int .u64 0,.slice none 0 0] 77)).heap[w5.heap.size]?=some (.cells (resC 0 0 false 0) 77 (0,0)):=heap_alloc_new w5 _
    go_wp2_with (refine wpList_store_row rfl 77 (.tmp 13) (.tmp 68) rfl w5.heap.size (resC 0 0 false 0) rfl rfl 77 _ hold5 (by kernel_rfl) rfl (by simp[resC,Value.oneCell']) ?_)
    go_meet
    obtain⟨H',hA,hB,hN⟩:=HA3.out.left2 HL.out HB3.out
    exact⟨_,_,rfl,Lib.hid (hA.behind (fr_stay _ _ _) (resC 0 0 false 0)),Lib.hid ⟨hB.keep (alloc_set w5 _ _),hN⟩⟩
   case rest=>
   obtain⟨r,H',rfl,HA4,HB4⟩:=hcut
   clear CD HA3 HB3
   have q0:wc.cell? ⟨r,0,none⟩=some (.int .i64 0):=(HA4.out.2.2.2 (r,(resC 0 0 false 0)) (by simp)).2.cell 0
   have HA5:=Lib.hid (HA4.out.none)
   clear HA4
   go_upto_region 20 with fail
   have s0:wc.cell? ⟨b8,0,none⟩=some (.int .u8 4):=HB4.out.1.cell 0
   have s1:wc.cell? ⟨b8,1,none⟩=some (.int .i64 0):=HB4.out.1.cell 1
   have s2:wc.cell? ⟨b8,2,none⟩=some (.int .i64 0):=HB4.out.1.cell 2
   have s3:wc.cell? ⟨b8,3,none⟩=some (.int .i64 0):=HB4.out.1.cell 3
   have s4:wc.cell? ⟨b8,4,none⟩=some (.bool false):=HB4.out.1.cell 4
   have s5:wc.cell? ⟨b8,5,none⟩=some (.int .i64 0):=HB4.out.1.cell 5
   have s6:wc.cell? ⟨b8,6,none⟩=some (.int .i64 (8+size % 100)):=HB4.out.1.cell 6
   have CE:=Lib.hid (fr_create (q:=(8+size % 100).toNat) (by omega) (by omega) (by omega) (by omega) (by omega) wc HA5.out.1)
   rw[show(((8+size % 100).toNat:Nat):Int)=8+size % 100 by omega] at CE
   unfold actC at CE
   go_cut [14] (fun x wx=>∃r H',x=.pointer (some ⟨r,0,none⟩)/\Hid (AS W (NuAt sb (c+1)) [(r,resC 0 0 false 0)] H' wx)/\Hid (Blk wx b8 25 #[.int .u8 4,.int .i64 0,.int .i64 0,.int .i64 0,.bool false,.int .i64 0,.int .i64 (8+size % 100)]/\¬H' b8))
   case first=>
    go_wp2_with fail
    refine(CE.out).mono ?_
    rintro e w5 ⟨rfl,hL⟩
    have HL:=Lib.hid hL
    clear hL CE
    have hold5:(w5.alloc (.cells #[.int .i64 0,.int .i64 0,.bool false,.int .u64 0,.int .u64 0,.int .u64 0,.int .u64 0,.slice none 0 0] 77)).heap[w5.heap.size]?=some (.cells (resC 0 0 false 0) 77 (0,0)):=heap_alloc_new w5 _
    go_wp2_with (refine wpList_store_row rfl 77 (.tmp 14) (.tmp 89) rfl w5.heap.size (resC 0 0 false 0) rfl rfl 77 _ hold5 (by kernel_rfl) rfl (by simp[resC,Value.oneCell']) ?_)
    go_meet
    obtain⟨H',hA,hB,hN⟩:=HA5.out.left2 HL.out HB4.out
    exact⟨_,_,rfl,Lib.hid (hA.behind (nu_stay _ _) (resC 0 0 false 0)),Lib.hid ⟨hB.keep (alloc_set w5 _ _),hN⟩⟩
   case rest=>
   obtain⟨r2,H2,rfl,HA6,HB6⟩:=hcut
   clear CE HA5 HB4 s0 s1 s2 s3 s4 s5 s6 q0
   have q0:wc.cell? ⟨r2,0,none⟩=some (.int .i64 0):=(HA6.out.2.2.2 (r2,(resC 0 0 false 0)) (by simp)).2.cell 0
   have CH:Hid (Calls Tryz.prog 30 #[.pointer (some ⟨sb,0,none⟩)] wc _):=Lib.hid (by obtain⟨_,_,h1⟩:=HA6.out.1;exact su_handles wc h1)
   have hr2:=((HA6.out.2.2.2 (r2,(resC 0 0 false 0)) (by simp)).2).lt
   go_upto_region 21 with fail
   go_wp2_with fail
   refine(CH.out).mono ?_
   rintro e w6 ⟨v6,l6,rfl,hO6,hl6,hb6⟩
   obtain⟨A6,c6,rfl,_,_,_⟩:=hO6.form
   rw[hl6]
   have q1:=(hb6.cell (p:=⟨r2,0,none⟩) hr2).trans q0
   have HE:=Lib.hid (HA6.out.2.1.trans (hb6.mono HA6.out.2.1.size))
   clear hO6 hl6 hb6 HA6 HB6 CH q0
   go_wp2_with fail
   refine bodyPost_ret (by simp[results,Tryz.results7,go_sem, *];try rfl) rfl ?_
   exact⟨rfl,HE.out⟩
  ·have CD:=Lib.hid (fu_gone (n:=m) (d:=d) (by omega) hd64 w3 HA3.out.1)
   rw[show(7:Int) * d=d * 7 by omega] at CD
   unfold actC at CD
   have hdm:¬(d:Int)<(m:Int):=by omega
   go_cut [13] (fun x wx=>∃r H',x=.pointer (some ⟨r,0,none⟩)/\Hid (AS W (FuAt sb m) [(r,resC 2 0 false 0)] H' wx)/\Hid (Blk wx b8 25 #[.int .u8 4,.int .i64 0,.int .i64 0,.int .i64 0,.bool false,.int .i64 0,.int .i64 (8+size % 100)]/\¬H' b8))
   case first=>
    go_wp2_with fail
    refine(CD.out).mono ?_
    rintro e w5 ⟨rfl,hL⟩
    have HL:=Lib.hid hL
    clear hL CD
    have hold5:(w5.alloc (.cells #[.int .i64 0,.int .i64 0,.bool false,.int .u64 0,.int .u64 0,.int .u64 0,.int .u64 0,.slice none 0 0] 77)).heap[w5.heap.size]?=some (.cells (resC 0 0 false 0) 77 (0,0)):=heap_alloc_new w5 _
    go_wp2_with (refine wpList_store_row rfl 77 (.tmp 13) (.tmp 68) rfl w5.heap.size (resC 2 0 false 0) rfl rfl 77 _ hold5 (by kernel_rfl) rfl (by simp[resC,Value.oneCell']) ?_)
    go_meet
    obtain⟨H',hA,hB,hN⟩:=HA3.out.left2 HL.out HB3.out
    exact⟨_,_,rfl,Lib.hid (hA.behind (fu_stay _ _) (resC 0 0 false 0)),Lib.hid ⟨hB.keep (alloc_set w5 _ _),hN⟩⟩
   case rest=>
   obtain⟨r,H',rfl,HA4,HB4⟩:=hcut
   clear CD HA3 HB3
   have q0:wc.cell? ⟨r,0,none⟩=some (.int .i64 2):=(HA4.out.2.2.2 (r,(resC 2 0 false 0)) (by simp)).2.cell 0
   go_wp2_with fail
   refine bodyPost_ret (by simp[results,Tryz.results7,go_sem, *];try rfl) rfl ?_
   exact⟨rfl,HA4.out.2.1⟩
end Go.Proofs.YtilcnjbpmoijmaaGreat.D
