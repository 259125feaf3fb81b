/- Parts of a proof: what its theorem reaches, words cut short. No condition of its own. -/
import Derived.Test.YtilcnjbpmoijmaaGreatPs50
import Derived.Test.YtilcnjbpmoijmaaGreatPs08
import Derived.Maps.RangeWalk
import Derived.Maps.OwnOps
set_option maxRecDepth 100000
set_option maxHeartbeats 16000000
set_option linter.unusedVariables false
set_option linter.unusedSimpArgs false
namespace Go.Proofs.YtilcnjbpmoijmaaGreat.D
open Go.RowKit Go.Lib Go.Maps
theorem insertion0(v:Value)(w:World):Calls Tryz.prog 185 #[v,.int .i64 0,.int .i64 0] w fun e w'=>e=.returned (.tuple #[])/\w=w':=by
 go_enter Tryz.func185,Tryz.ntmps185
 go_wp2_with fail
 go_loopg [6] 0 (fun q i wr=>i=.int .i64 1/\wr=w)
 case atStart=>exact⟨rfl,rfl⟩
 case round=>
  obtain⟨rfl,hw⟩:=hrel
  subst hw
  go_wp2_with fail
  go_end0
  exact⟨rfl,rfl⟩
theorem pdq0(v:Value)(l:Nat)(w:World):Calls Tryz.prog 119 #[v,.int .i64 0,.int .i64 0,.int .i64 l] w fun e w'=>e=.returned (.tuple #[])/\w=w':=by
 have CI:=fun w=>Lib.hid (insertion0 v w)
 go_enter Tryz.func119,Tryz.ntmps119
 go_wp2_with fail
 go_loopg [1,2,3,8,9] 0 (fun q va vb vl vp vr wx=>va=.int .i64 0/\vb=.int .i64 0/\wx=w)
 case atStart=>exact⟨rfl,rfl,rfl⟩
 case round=>
  obtain⟨rfl,rfl,hw⟩:=hrel
  subst hw
  go_wp2_with fail
  refine((CI _).out).mono ?_
  rintro e w2 ⟨rfl,hw2⟩
  subst hw2
  go_wp2_with fail
  refine bodyPost_ret (results_none rfl _ _ _) rfl ?_
  exact⟨rfl,rfl⟩
theorem len_u(x:Nat)(w:World)(h:x<18446744073709551616):Calls Tryz.prog 120 #[.int .u64 x] w fun e w'=>e=.returned (.int .i64 (Lib.bitLen x))/\w=w':=by
 refine(Any.bits_Len (SlLaysF0.n15.bits (P:=Tryz.prog) (ρ:=Tryz.sortF_ren) {Tryz.sortF with}) (x:Int) w (by omega) (by omega)).mono ?_
 rintro e w' ⟨rfl,rfl⟩
 exact⟨rfl,rfl⟩
theorem sort_u{base:Nat}{v:Value}{xs:List Int}(w:World)(h:OwnE u32E base w v xs)(hl:xs.length<=1099511627776) :
 Calls Tryz.prog 67 #[v] w fun e w'=>e=.returned (.tuple #[])/\(∃ys:List Int,ys.length=xs.length/\OwnE u32E base w' v ys)/\Touch (fun k=>v.ownBlock=some k) w w':=by
 have h':=Lib.hid h
 obtain⟨A,c,rfl,_,_,_⟩:=h.form
 have CL:=Lib.hid (len_u xs.length w (by omega))
 have ecv:IntKind.u64.wrap (xs.length:Int)=(xs.length:Int):=IntWalk.u64_in _ (by omega)
 obtain⟨bl,hbl⟩:∃bl,Lib.bitLen xs.length=bl:=⟨_,rfl⟩
 have hb:bl<=64:=by rw[<-hbl];exact bl_range _ (by omega)
 rw[hbl] at CL
 clear hbl h
 have CP:Hid (Calls Tryz.prog 119 #[.slice A xs.length c,.int .i64 0,.int .i64 xs.length,.int .i64 bl] w fun e w'=>e=.returned (.tuple #[])/\(∃ys:List Int,ys.length=xs.length/\OwnE u32E base w' (.slice A xs.length c) ys)/\Touch (fun k=>(Value.slice A xs.length c).ownBlock=some k) w w'):=Lib.hid (by
  rcases Nat.eq_zero_or_pos xs.length with h0|h0
  ·have hh:=h'.out
   rw[h0] at hh |-
   refine(pdq0 _ bl w).mono ?_
   rintro e w' ⟨rfl,rfl⟩
   exact⟨rfl,⟨xs,h0,hh⟩,Touch.refl _ _⟩
  ·obtain⟨g,c',hv,_⟩:=h'.out.pos h0
   injection hv with hv1 _ hv3
   subst hv1
   subst hv3
   refine(pdq_u (g:=g) (n:=xs.length) (c:=c) (base:=base) xs.length (a:=0) (b:=xs.length) (l:=bl) (by omega) (by omega) (Nat.le_refl _) (by omega) w ⟨xs,rfl,h'.out⟩ hl).mono ?_
   rintro e w' ⟨rfl,⟨ys,h1,h2⟩,ht⟩
   exact⟨rfl,⟨ys,h1,h2⟩,ht.mono fun k e=>by rw[show k=g from e];rfl⟩)
 clear hl hb
 go_enter Tryz.func67,Tryz.ntmps67
 go_wp2_with fail
 refine(CL.out).mono ?_
 rintro e w1 ⟨rfl,hw⟩
 subst hw
 go_wp2_with fail
 refine(CP.out).mono ?_
 rintro e w2 ⟨rfl,h1,h2⟩
 have H1:=Lib.hid h1
 have H2:=Lib.hid h2
 clear h1 h2
 go_wp2_with fail
 go_end0
 exact⟨rfl,H1.out,H2.out⟩
open Go.RowKit Go.Lib Go.Maps
theorem tyU:Ty Tryz.prog u32E 82:=ty_of (z:=.int .u32 0) (b:=4) (by kernel_rfl) (by kernel_rfl) rfl (by decide) (by decide)
theorem su_handles{sb sz:Nat}{m:Int->Option Nat}{xs:List (Option Nat)}{G:Ft}(w:World)(h:SuAt sb sz m xs G w) :
 Calls Tryz.prog 30 #[.pointer (some ⟨sb,0,none⟩)] w fun e w'=>∃(v:Value) (l:List Int),e=.returned v/\OwnE u32E w.heap.size w' v l/\l.length=sz/\Below w.heap.size w w':=by
 obtain⟨b,o,xv,h,_⟩:=h
 have k0:=h.blk.cell 0
 simp only[List.getElem?_toArray,List.getElem?_cons_zero] at k0
 obtain⟨D,hown,hD⟩:=h.mp
 have hbl:=hown.lt
 have hsz:=h.sl
 have LT:=Lib.hid hD.tidy
 have LS:=Lib.hid hD.sz
 obtain⟨es,hes,_,hky⟩:=hown.entries keySu
 have HST:Hid (leftN D (Maps.has D)=sz):=Lib.hid (by rw[<-hD.sz,hes];exact left_start hky)
 clear h hD hes hky
 obtain⟨r,hr⟩:∃r,w.heap.size=r:=⟨_,rfl⟩
 go_enter Tryz.func30,Tryz.ntmps30
 go_wp2_with (at_range;refine wpList_range_own _ rfl _ 140 rfl 79 3 keySu mapSu _ b _ D rfl hown ?_;intro w0 hrg0 hg0 hs0)
 go_frame
 rw[hr] at hrg0 hs0 |-
 have hb0:Below w.heap.size w w0:=(Below.refl _ _).grown hg0 (Nat.le_refl _) (fun j hj=>by cases hj)
 have hN0:OwnE u32E (r+1) w0 (.slice none 0 0) []:=OwnE.nil_ _ _
 go_loopg [3] (Maps.size D) (fun q s wr=>∃(left:Lit->Bool) (out:List Int),wr.ranges Tryz.prog 79 (plainElem (H:=Unit) Tryz.prog 3) b r sz D left q/\Hid (out.length+leftN D left=sz)/\Hid (OwnE u32E (r+1) wr s out)/\Below w.heap.size w wr/\r+1<=wr.heap.size)
 case atStart=>exact⟨_,[],hrg0,Lib.hid (by rw[HST.out];simp),Lib.hid hN0,hb0,by omega⟩
 case round=>
  obtain⟨left,out,hrg,HR,HO,hb,hz⟩:=hrel
  obtain⟨A5,c5,rfl,_,_,_⟩:=HO.out.form
  go_wp2_with (at_next;refine wpList_next_ranges_ii _ rfl _ rfl 79 3 .u32 .i64 keySu u32U intU' b r _ _ _ _ rfl hrg ?_ ?_)
  ·intro hc0 hl0
   have HP:Hid (out.length=sz):=Lib.hid (by have:=HR.out;rw[left_end hl0] at this;omega)
   have CS:=Lib.hid (sort_u wr HO.out (by have:=HP.out;omega))
   go_wp2_with fail
   refine(CS.out).mono ?_
   rintro e w2 ⟨rfl,⟨ys,hy,o2⟩,t2⟩
   have HY:=Lib.hid (And.intro hy (And.intro o2 t2))
   clear hy o2 t2
   go_wp2_with fail
   go_ret
   obtain⟨hy,o2,t2⟩:=HY.out
   refine⟨_,ys,rfl,o2.more (by omega),by rw[hy];exact HP.out,?_⟩
   exact hb.trans (t2.below (fun k hk=>by have:=(HO.out.lt k hk).1;omega) hb.size)
  ·intro z c w1 cnt1 hwx hwc hlx hat hrg1 hlt hg1 hs1 hen
   have HR1:Hid ((out++[z]).length+leftN D (fun y=>left y && !y.sameKey (uL z))=sz):=Lib.hid (by
    have h1:=left_step LT.out hlx hat
    have h2:=HR.out
    rw[List.length_append,List.length_singleton];omega)
   have hol:out.length<=1000:=by have:=HR.out;omega
   have O1:=Lib.hid (HO.out.grown hg1 (.inr (fun e=>by have:=(HO.out.lt r e).1;omega)))
   have hb1:Below w.heap.size w w1:=hb.grown hg1 hb.size (fun j hj=>by cases hj;omega)
   have hz1:r+1<=w1.heap.size:=by omega
   have hne:∀k,k<=r->(Value.slice A5 out.length c5).ownBlock≠some k:=fun k hk e=>by have:=(HO.out.lt k e).1;omega
   clear hat hlx hg1 hs1
   go_wp2_with (at_builtin;refine apL tyU rfl (.tmp 14) (.tmp 16) rfl (O1.out.alloc _) rfl _ [z] rfl (RdE.one_at (E:=u32E) _ z _ rfl _ rfl _ (by simp)) (by simp;omega) (by go_size) ?_;intro v6 w6 o6 g6 _;have HB6:Hid (Below w.heap.size w w6):=Lib.hid ((hb1.alloc hb1.size _).grown g6 (by simp;have:=hb1.size;omega) (fun k hk=>by have:=(O1.out.lt k hk).1;omega));have O6:=Lib.hid o6;have R6:=Lib.hid ((hrg1.alloc _).kept g6 (fun e=>hne b (by omega) e.symm) (fun e=>hne r (Nat.le_refl _) e.symm));have hz6:=g6.size;clear o6 g6)
   go_roundg cnt1
   case measure=>exact hlt
   case rel=>exact⟨_,out++[z],R6.out,HR1,O6,HB6.out,by simp at hz6;omega⟩
end Go.Proofs.YtilcnjbpmoijmaaGreat.D
