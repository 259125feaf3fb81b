/- Parts of a proof: what its theorem reaches, words cut short. No condition of its own. -/
import Derived.Test.YtilcnjbpmoijmaaGreatPs43
import Derived.Test.YtilcnjbpmoijmaaGreatPs21
import Derived.Shelf.SlSortCmp.Xorshift
set_option maxRecDepth 100000
set_option maxHeartbeats 16000000
set_option linter.unusedVariables false
set_option linter.unusedSimpArgs false
namespace Go.Proofs.YtilcnjbpmoijmaaGreat.D
open Go.RowKit Go.Lib
section
variable {g n c base : Nat}
theorem pow_bl(l:Nat)(h:8<=l)(h1:l<=1099511627776):∃d,1 <<< Sort.bitsLen l=d/\1<=d/\d<=2 * l:=by
 refine⟨_,rfl,?_,?_⟩
 ·rw[Nat.shiftLeft_eq,Nat.one_mul];exact Nat.pos_of_ne_zero (by simp)
 ·rw[Nat.shiftLeft_eq,Nat.one_mul]
  obtain⟨k,hk⟩:∃k,Sort.bitsLen l=k:=⟨_,rfl⟩
  rw[hk]
  cases k with
  | zero=>omega
  | succ k=>
   have h2:=(Sort.bitsLen_le_iff l k)
   rw[hk] at h2
   have h3:¬l<2 ^ k:=fun e=>by have:=h2.2 e;omega
   rw[Nat.pow_succ];omega
theorem break_u{a b:Nat}(hab:a+8<=b)(hb:b<=n)(w:World)(h:UAt g n c base w)(hn:n<=1099511627776) :
 Calls Tryz.prog 187 #[slU g n c,.int .i64 a,.int .i64 b] w fun e w'=>e=.returned (.tuple #[])/\USt g n c base w w':=by
 have hgl:=h.lt
 obtain⟨l,hl⟩:∃l,b - a=l:=⟨_,rfl⟩
 obtain⟨q,hq⟩:∃q,l / 4=q:=⟨_,rfl⟩
 obtain⟨j,hj⟩:∃j,a+2 * q=j+1:=⟨a+2 * q - 1,by omega⟩
 have EL:Hid (IntKind.i64.wrap ((b:Int) - a)=(l:Int)):=Lib.hid (by rw[IntWalk.i64_in _ (by omega)];omega)
 have ECV:Hid (IntKind.u64.wrap (l:Int)=(l:Int)):=Lib.hid (by rw[IntWalk.u64_in _ (by omega)])
 have EQ:Hid (wrap64 ((l:Int) / 4)=(q:Int)):=Lib.hid (by rw[IntWalk.wrap64_in _ (by omega)];omega)
 have M2:Hid (wrap64 ((q:Int) * 2)=(q:Int) * 2):=Lib.hid (IntWalk.wrap64_in _ (by omega))
 have N2:Hid (wrap64 ((a:Int)+(q:Int) * 2)=(j:Int)+1):=Lib.hid (by rw[IntWalk.wrap64_in _ (by omega)];omega)
 have N3:Hid (wrap64 ((j:Int)+1 - 1)=(j:Int)):=Lib.hid (by rw[IntWalk.wrap64_in _ (by omega)];omega)
 have N4:Hid (wrap64 ((j:Int)+1+1)=(j:Int)+1+1):=Lib.hid (IntWalk.wrap64_in _ (by omega))
 have l8:(l:Int)>=8:=by omega
 obtain⟨md,hmd,hm1,hm2⟩:=pow_bl l (by omega) (by omega)
 obtain⟨mm,hmm⟩:∃mm:Nat,md=mm+1:=⟨md - 1,by omega⟩
 have EM:Hid (IntKind.u64.wrap ((md:Int) - 1)=(mm:Int)):=Lib.hid (by rw[IntWalk.u64_in _ (by omega)];omega)
 have CN:Hid (∀w,Calls Tryz.prog 253 #[.int .i64 l] w fun e w'=>e=.returned (.int .u64 md)/\w=w'):=Lib.hid (fun w=>by
  refine(AnyF.nextPowerOfTwo (P:=Tryz.prog) (ρ:=Tryz.sortF_ren) {Tryz.sortF with} l (by omega) w).mono ?_
  rintro e w' ⟨rfl,rfl⟩
  rw[hmd]
  exact⟨rfl,rfl⟩)
 have CX:Hid (∀(r X:Nat) (w:World),X<18446744073709551616->Blk w r 343 #[.int .u64 X]->Calls Tryz.prog 254 #[.pointer (some ⟨r,0,none⟩)] w fun e w'=>∃Y:Nat,Y<18446744073709551616/\e=.returned (.int .u64 Y)/\w'=(w.setCell ⟨r,0,none⟩ (.int .u64 Y)).drewN 3):=Lib.hid (fun r X w hX hB=>by
  refine(AnyF.xorshift_Next (P:=Tryz.prog) (ρ:=Tryz.sortF_ren) {Tryz.sortF with} r 0 X hX w (by rw[hB.cell 0];rfl) (hB.frozen 0)).mono ?_
  rintro e w' ⟨rfl,rfl⟩
  exact⟨_,Sort.xorNextN_lt X hX,rfl,rfl⟩)
 have HV:Hid (USt g n c base w (w.alloc (.cells #[.int .u64 l] 343))):=Lib.hid ⟨h.keep ((Below.refl _ _).alloc (Nat.le_refl _) _),(Touch.refl _ w).alloc _⟩
 obtain⟨r,hr⟩:∃r,w.heap.size=r:=⟨_,rfl⟩
 have HBR:Hid (Blk (w.alloc (.cells #[.int .u64 l] 343)) r 343 #[.int .u64 l]):=Lib.hid (by rw[<-hr];exact Blk.new _ _ _)
 have HR:=Lib.hid hr
 have hgr:g≠r:=by omega
 have hjb:j+3<b:=by omega
 have hml:mm+1<=2 * l:=by omega
 have hlb:a+l=b:=by omega
 have hmb:mm<9223372036854775807:=by omega
 have LB:=Lib.hid hlb
 have HL64:Hid (l<18446744073709551616):=Lib.hid (by omega)
 clear h hmd hl hq hj hmm hm1 hm2 hr hgl hlb
 have el:=EL.out
 have ecv:=ECV.out
 go_enter Tryz.func187,Tryz.ntmps187
 go_wp2_with fail
 refine(CN.out _).mono ?_
 rintro e w1 ⟨rfl,hw1⟩
 subst hw1
 clear el ecv
 go_wp2_with fail
 simp only[EQ.out,M2.out,N2.out,N3.out]
 try rw[HR.out]
 go_loopg [9] 3 (fun q v wx=>∃p X:Nat,q=j+3 - p/\v=.int .i64 p/\j<=p/\p<=j+3/\X<18446744073709551616/\Hid (USt g n c base w wx)/\Hid (Blk wx r 343 #[.int .u64 X]))
 case atStart=>exact⟨j,l,by omega,rfl,Nat.le_refl _,by omega,HL64.out,HV,HBR⟩
 case round=>
  obtain⟨p,X,hq,rfl,hp0,hp1,hX,HI,HX⟩:=hrel
  have HQ:=Lib.hid hq
  clear hq
  go_upto_if 33 with(fail)
  simp only[EQ.out,M2.out,N2.out,N4.out]
  by_cases hlt:(p:Int)<=(j:Int)+1+1
  ·obtain⟨r0,hr0⟩:∃r0:Nat,r0=r:=⟨r,rfl⟩
   have C1:=Lib.hid (CX.out r X wr hX HX.out)
   go_wp2_with fail
   refine(C1.out).mono ?_
   rintro e w2 ⟨Y,hY,rfl,hw2⟩
   obtain⟨o,ho⟩:∃o,Y &&& mm=o:=⟨_,rfl⟩
   have hom:o<=mm:=by rw[<-ho];exact Nat.and_le_right
   have ea:bits .and .u64 (Y:Int) (mm:Int)=(o:Int):=by rw[<-ho];exact bits_and_u64_nat Y mm hY (by omega)
   have ec:IntKind.i64.wrap (o:Int)=(o:Int):=IntWalk.i64_in _ (by omega)
   have H2:Hid (USt g n c base w w2):=Lib.hid (by
    rw[hw2]
    refine USt.drewN ⟨HI.out.1.stay (Below.heap_setCell _ _ _ _ hgr),HI.out.2.setCell (p:=⟨r,0,none⟩) (.inr (by rw[HR.out];exact Nat.le_refl _)) _⟩ 3)
   have B2:Hid (Blk w2 r 343 #[.int .u64 Y]):=Lib.hid (by rw[hw2];exact(HX.out.set_ 0 _).drewN 3)
   have em:=EM.out
   have HO:=Lib.hid hom
   have HY:=Lib.hid hY
   clear hw2 ho hom HI HX C1 hY hX hr0
   go_upto_if 43 with(fail)
   clear em ea ec
   go_cut [10] (fun v wx=>∃o2:Nat,v=.int .i64 o2/\o2<l/\w2=wx)
   case first=>
    by_cases hol:(o:Int)>=l
    ·have ew:IntKind.i64.wrap ((o:Int) - l)=((o - l:Nat):Int):=by have:=HO.out;rw[IntWalk.i64_in _ (by omega)];omega
     go_wp2_with fail
     go_meet
     exact⟨o - l,rfl,by have:=HO.out;clear ew;omega,rfl⟩
    ·go_wp2_with fail
     go_meet
     exact⟨o,rfl,by omega,rfl⟩
   case rest=>
   obtain⟨o2,rfl,ho2,hw2⟩:=hcut
   subst hw2
   obtain⟨t,ht⟩:∃t,a+o2=t:=⟨_,rfl⟩
   have q0:p<n:=by omega
   have q1:t<n:=by have:=LB.out;omega
   have ep:IntKind.i64.wrap ((a:Int)+o2)=(t:Int):=by rw[IntWalk.i64_in _ (by omega)];omega
   have m0:(0:Int)<=p:=by omega
   have m1:(p:Int)<n:=by omega
   have m2:(0:Int)<=t:=by omega
   have m3:(t:Int)<n:=by omega
   have EP1:Hid (IntKind.i64.wrap ((p:Int)+1)=(p:Int)+1):=Lib.hid (IntWalk.i64_in _ (by omega))
   clear ht
   have H22:Hid (USt g n c base w2 w2):=Lib.hid (USt.refl H2.out.1)
   go_upto_region 10 with fail
   obtain⟨zi,kzi⟩:=H22.out.1.at q0
   obtain⟨zj,kzj⟩:=H22.out.1.at q1
   have KI:=Lib.hid kzi
   have KJ:=Lib.hid kzj
   have KF:=Lib.hid (H22.out.1.fz (p))
   have KG:=Lib.hid H22.out.1.lt
   have O5:Hid (USt g n c base w2 (w2.setCell ⟨g,p,none⟩ (.int .u32 zj))):=Lib.hid ⟨H22.out.1.put q0 _,H22.out.2.setCell (.inl rfl) _⟩
   clear kzi kzj
   have FBq:=Lib.hid (fun(w':World) (hS':Below w2.heap.size w2 w')=>(And.intro ((hS'.cell (p:=⟨g,p,none⟩) KG.out).trans KI.out) ((hS'.cell (p:=⟨g,t,none⟩) KG.out).trans KJ.out)))
   refine plSA (fun w'=>Below w2.heap.size w2 w') 17 (pls 0 2 (plp 2 4 (pls 6 6 (plp 12 3 (pls 15 2 (plf 17 (plp 18 1 (plf 19 [])))))))) ((Below.refl _ _).drew) ?_
   iterate 2 refine plSR ?_
   iterate 4 refine plSP ?_
   iterate 6 refine plSR ?_
   iterate 3 refine plSP ?_
   iterate 2 refine plSR ?_
   refine plSE fun K hK=>?_
   have k0:=KI.out
   have k2:=KF.out
   go_simp
   clear k0 k2
   refine hK _ _ ?_
   clear hK K
   refine plSP ?_
   refine plSE fun K hK=>?_
   generalize w2.setCell ⟨g,p,none⟩ (.int .u32 zj)=v5 at O5 |-
   obtain⟨zz,k0⟩:=O5.out.1.at q1
   have k2:=O5.out.1.fz (t)
   go_simp
   clear k0 k2
   refine hK _ _ ?_
   clear hK K
   refine wpPlanS_nil ?_
   have O6:Hid (USt g n c base w2 (v5.setCell ⟨g,t,none⟩ (.int .u32 zi)).drew):=Lib.hid (USt.drew ⟨O5.out.1.put q1 _,O5.out.2.setCell (.inl rfl) _⟩)
   clear O5 KI KJ KF KG
   have B5:Hid (Blk (v5.setCell ⟨g,t,none⟩ (.int .u32 zi)).drew r 343 #[.int .u64 Y]):=Lib.hid ((O6.out.2.block r B2.out.lt (fun e=>hgr e.symm)).trans B2.out)
   have O7:=Lib.hid (H2.out.trans O6.out)
   clear ep
   have ep1:=EP1.out
   go_wp2_with fail
   clear ep1
   go_roundg (j+3 - (p+1))
   case measure=>have:=HQ.out;omega
   case rel=>exact⟨p+1,Y,rfl,by go_num,by omega,by omega,HY.out,O7,B5⟩
  ·go_wp2_with fail
   go_end0
   exact⟨rfl,HI.out⟩
end
end Go.Proofs.YtilcnjbpmoijmaaGreat.D
