/- Parts of a proof: what its theorem reaches, words cut short. No condition of its own. -/
import Derived.Test.YtingnldfpokckaaGreatPm38
set_option maxRecDepth 100000
set_option maxHeartbeats 16000000
set_option linter.unusedVariables false
set_option linter.unusedSimpArgs false
namespace Go.Proofs.YtingnldfpokckaaGreat.K
open Go.RowKit
theorem new_any(k:Nat)(w:World)(h8:8<=k)(hk:k<=4096) :
 Calls Tryz.prog 136 #[.int .i64 k] w fun e w'=>e=.returned (.tuple #[.pointer (some ⟨w.heap.size,0,none⟩),.int .i64 0])/\w'=w.alloc (.cells #[.int .i64 k,.slice none 0 0,.int .u64 0,.int .u64 0] 132):=by
 have h1:¬(k:Int)<8:=by omega
 have h2:¬(k:Int) > 4096:=by omega
 go_enter Tryz.func136,Tryz.ntmps136
 go_wp2_with fail
 go_ret2
 exact⟨rfl,rfl⟩
theorem new_no(k:Int)(w:World)(h:k<8\/4096<k) :
 Calls Tryz.prog 136 #[.int .i64 k] w fun e w'=>e=.returned (.tuple #[.pointer none,.int .i64 1])/\w=w':=by
 by_cases h1:k<8
 ·go_enter Tryz.func136,Tryz.ntmps136
  go_wp2_with fail
  go_ret2
  exact⟨rfl,rfl⟩
 ·have h2:k > 4096:=by omega
  clear h
  go_enter Tryz.func136,Tryz.ntmps136
  go_wp2_with fail
  go_ret2
  exact⟨rfl,rfl⟩
theorem stG_new{t:TypeId}{a:Value}{rest:List Value}{w:World}{g:Nat}(h:Blk w g t (a::.slice none 0 0::rest).toArray):StG t a rest (fun x=>x=g) w g (.slice none 0 0) [] []:=
 ⟨h,⟨OwnE.nil_ _ _,rfl,fun i hi=>absurd hi (by simp),fun i hi=>absurd hi (by simp),fun i j hi=>absurd hi (by simp),fun k e=>by simp[Value.ownBlock] at e,fun i hi=>absurd hi (by simp)⟩,rfl,by simp[Value.ownBlock],fun i hi=>absurd hi (by simp),fun k hk=>by rw[show k=g from hk];exact h.lt⟩
theorem kAt_new(k:Nat)(w:World):KAt (fun x=>x=w.heap.size) (w.alloc (.cells #[.int .i64 k,.slice none 0 0,.int .u64 0,.int .u64 0] 132)) w.heap.size k [] 0:=⟨_,_,stG_new (Blk.new w _ _)⟩
open Go.RowKit
open Go.RowKit
open Go.RowKit
theorem srt_of_next{l:List Int}(h:∀j (hj:j+1<l.length),l[j]<=l[j+1]):Srt l:=by
 refine List.pairwise_iff_getElem.2 fun i j hi hj hij=>?_
 obtain⟨d,rfl⟩:∃d,j=i+1+d:=⟨j - i - 1,by omega⟩
 clear hij
 induction d with
 | zero=>exact h i hj
 | succ d ih=>exact Int.le_trans (ih (by omega)) (h (i+1+d) hj)
theorem srt_next{l:List Int}(h:Srt l){j:Nat}(hj:j+1<l.length):l[j]<=l[j+1]:=List.pairwise_iff_getElem.1 h j (j+1) (by omega) hj (by omega)
theorem isNaN_any(x:Int)(w:World):Calls Tryz.prog 376 #[.int .i64 x] w fun e w'=>e=.returned (.bool false)/\w=w':=by
 have hx:(x == x)=true:=by simp
 go_enter Tryz.func376,Tryz.ntmps376
 go_wp2_with fail
 go_ret
 exact⟨by simp,rfl⟩
theorem less_any(x y:Int)(w:World):Calls Tryz.prog 310 #[.int .i64 x,.int .i64 y] w fun e w'=>e=.returned (.bool (decide (x<y)))/\w=w':=by
 go_enter Tryz.func310,Tryz.ntmps310
 go_wp2_with fail
 refine(isNaN_any x w).mono ?_
 rintro e w1 ⟨rfl,hw1⟩
 subst hw1
 go_wp2_with fail
 refine bodyPost_ret (by simp[results,Tryz.results310,go_sem, *];try rfl) rfl ?_
 exact⟨by simp,rfl⟩
theorem issorted_any(v:Value)(l:List Int)(w:World)(h:RdE i64E w v l)(hl:l.length<=1000000000) :
 Calls Tryz.prog 368 #[v] w fun e w'=>e=.returned (.bool (decide (Srt l)))/\∃q,w'=w.drewN q:=by
 obtain⟨A,c,rfl,h1,h2,hf⟩:=h.form
 have HF:=Lib.hid hf
 clear h hf
 go_enter Tryz.func368,Tryz.ntmps368
 go_wp2_with fail
 go_loopg [3] l.length (fun q i wr=>∃(z:Int) (d:Nat),q=(z+1).toNat/\-1<=z/\z<l.length/\i=.int .i64 z/\wr=w.drewN d/\Hid (∀j (hj:j+1<l.length),z<=j->l[j]<=l[j+1]))
 case atStart=>exact⟨(l.length:Int) - 1,0,by omega,by omega,by omega,by go_num,rfl,Lib.hid fun j hj hz=>absurd hz (by omega)⟩
 case round=>
  obtain⟨z,d,hq,hz1,hz2,rfl,rfl,HI⟩:=hrel
  have HQ:=Lib.hid hq
  clear hq
  by_cases hz:z > 0
  ·obtain⟨n,rfl⟩:∃n:Nat,z=n:=⟨z.toNat,by omega⟩
   obtain⟨m,hm⟩:∃m:Nat,n=m+1:=⟨n - 1,by omega⟩
   have hnl:n<l.length:=by omega
   have hml:m<l.length:=by omega
   obtain⟨ga,oa,eA,hga,ka⟩:=HF.out.i64 hnl
   subst eA
   obtain⟨ga',oa',eA,_,kb⟩:=HF.out.i64 hml
   injection eA with eA
   injection eA with eA1 eA2
   subst eA1;subst eA2
   have HNE:Hid (l[m]<=l[n]->∀j (hj:j+1<l.length),(n:Int) - 1<=j->l[j]<=l[j+1]):=Lib.hid fun hle j hj hz=>by
    rcases Nat.lt_or_ge j n with h3|h3
    ·have e:j=m:=by omega
     subst e
     have e2:n=j+1:=hm
     subst e2;exact hle
    ·exact HI.out j hj (by omega)
   have HNO:Hid (l[n]<l[m]->¬Srt l):=Lib.hid fun hlt hs=>by
    have h3:=srt_next hs (j:=m) (by omega)
    have e:l[m+1]'(by omega)=l[n]:=by congr 1;omega
    rw[e] at h3;omega
   obtain⟨x,hx⟩:∃x,l[n]=x:=⟨_,rfl⟩
   obtain⟨y,hy⟩:∃y,l[m]=y:=⟨_,rfl⟩
   rw[hx] at ka
   rw[hy] at kb
   simp only[hx,hy] at HNE HNO
   have KA:=Lib.hid ka
   have KB:=Lib.hid kb
   have hnm:(n:Int) - 1=(m:Int):=by omega
   have HW:Hid (IntKind.i64.wrap (m:Int)=(m:Int)):=Lib.hid (IntWalk.i64_in _ (by omega))
   have hni:(n:Int)<(l.length:Int):=by omega
   have hmi:(m:Int)<(l.length:Int):=by omega
   clear hx hy ka kb hm HI
   go_upto_region 4 with fail
   refine wp_region_plan (fun w'=>Below w.heap.size w w') [(0,true),(1,true),(2,true),(3,true),(4,true),(5,true),(6,true),(7,true),(8,true),(9,false)] (by kernel_rfl) (by kernel_rfl) ((below_drewN (Below.refl _ _) _).drew) ?_
   iterate 9
    refine wpPlan_read (by rfl) (by rfl) (fun R hR=>?_)
    apply Exists.intro
    refine⟨fun w' hS'=>?_,?_⟩
    ·have z0:=(hS'.cell (p:=⟨ga,oa+n,none⟩) hga).trans KA.out
     have z1:=(hS'.cell (p:=⟨ga,oa+m,none⟩) hga).trans KB.out
     have hw:=HW.out
     go_simp
     exact⟨rfl,rfl⟩
    go_simp
    refine hR _ ?_
    clear hR R
   refine wpPlan_do (by rfl) (by rfl) (fun K hK=>?_)
   go_simp
   refine(less_any x y _).mono ?_
   rintro e w5 ⟨rfl,hw5⟩
   subst hw5
   refine hK _ _ ((below_drewN (Below.refl _ _) _).drew) ?_
   clear hK K
   refine wpPlan_nil ?_
   by_cases hxy:x<y
   ·have HN:=Lib.hid (HNO.out hxy)
    go_wp2_with fail
    refine bodyPost_ret (by simp[results,Tryz.results368,go_sem, *];try rfl) rfl ?_
    exact⟨by rw[decide_eq_false HN.out],by first|exact⟨_,rfl⟩|exact⟨_,drewN_add _ _ _⟩⟩
   ·have HN:=Lib.hid (HNE.out (by omega))
    go_wp2_with fail
    go_roundg n
    case measure=>have:=HQ.out;omega
    case rel=>exact⟨(n:Int) - 1,d+1,by omega,by omega,by omega,by go_num,by first|rfl|exact drewN_add _ _ _,HN⟩
  ·have HS:Hid (Srt l):=Lib.hid (srt_of_next fun j hj=>HI.out j hj (by omega))
   go_wp2_with fail
   refine bodyPost_ret (by simp[results,Tryz.results368,go_sem, *];try rfl) rfl ?_
   exact⟨by rw[decide_eq_true HS.out],_,rfl⟩
structure RightP(k:Int)(L:LL)(led:Nat):Prop where
 k8:8<=k
 k4:k<=4096
 hlen:L.length<=49
 hled:led<=4611686018427387904
 emp:L.length=0->led=0
 top:0<L.length->lvl L (L.length - 1)≠[]
 lev:∀h,h<L.length->(lvl L h).length<=room k.toNat L.length h/\Srt (lvl L h)
 hwt:wt L<=281474976710656
theorem RightP.fit{k:Nat}{L:LL}{led:Nat}(h:RightP k L led):Fit k L led:=by
 have hk:=h.k4
 have h8:=h.k8
 have hlev:=h.lev
 rw[Int.toNat_natCast] at hlev
 have hr:∀j,j<L.length->(lvl L j).length<=k:=fun j hj=>Nat.le_trans (hlev j hj).1 (room_le (by omega))
 refine⟨⟨fun j=>?_,h.top,h.hwt,?_,h.hled⟩,fullN_is_none fun j hj=>(hlev j hj).1⟩
 ·rcases Nat.lt_or_ge j L.length with h1|h1
  ·exact(hlev j h1).2
  ·show Srt (lvl L j)
   rw[lvl_of_ge h1];exact List.Pairwise.nil
 ·have h1:=cnt_rooms L k hr
  have h2:L.length * k<=49 * 4096:=Nat.mul_le_mul h.hlen (by omega)
  show cnt L<=_
  omega
end Go.Proofs.YtingnldfpokckaaGreat.K
