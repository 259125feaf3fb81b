/- Parts of a proof: what its theorem reaches, words cut short. No condition of its own. -/
import Derived.Test.YtilcnjbpmoijmaaGreatPs18
set_option maxRecDepth 100000
set_option maxHeartbeats 16000000
set_option linter.unusedVariables false
set_option linter.unusedSimpArgs false
namespace Go.Proofs.YtilcnjbpmoijmaaGreat.K
abbrev KS:=LL × Nat × Nat
def putB:Nat->Nat->Nat->LL->Int->LL
 | 0,_,_,L,_=>L
 | f+1,h,m,L,v=>if m=0 then L else putB f (h+1) (m / 2) (if m % 2=1 then putL L h [v] else L) v
def addL(L:LL)(v:Int)(n:Nat):LL:=putB 64 0 n L v
theorem putB_zero:∀(f h:Nat) (L:LL) (v:Int),putB f h 0 L v=L
 | 0,_,_,_=>rfl
 | f+1,_,_,_=>by rw[putB,if_pos rfl]
theorem putB_wt:∀(f h m:Nat) (L:LL) (v:Int),m<2 ^ f->wt (putB f h m L v)=wt L+m * 2 ^ h
 | 0,h,m,L,v,hm=>by
  obtain rfl:m=0:=by omega
  simp[putB]
 | f+1,h,m,L,v,hm=>by
  rw[putB]
  by_cases h0:m=0
  ·rw[if_pos h0,h0];simp
  ·rw[if_neg h0,putB_wt f (h+1) (m / 2) _ v (by rw[Nat.pow_succ] at hm;omega)]
   have e:m * 2 ^ h=m % 2 * 2 ^ h+m / 2 * 2 ^ (h+1):=by
    conv=>lhs;rw[<-Nat.mod_add_div m 2]
    rw[Nat.add_mul,Nat.pow_succ,Nat.mul_comm 2 (m / 2),Nat.mul_assoc,Nat.mul_comm 2]
   split
   ·rename_i h1
    rw[wt_put,e,h1]
    simp only[List.length_singleton];omega
   ·have:m % 2=0:=by omega
    rw[e,this];omega
theorem addL_wt{n:Nat}(L:LL)(v:Int)(hn:n<18446744073709551616):wt (addL L v n)=wt L+n:=by
 unfold addL
 rw[putB_wt 64 0 n L v (by omega)];simp
theorem putB_cnt:∀(f h m:Nat) (L:LL) (v:Int),cnt (putB f h m L v)<=cnt L+f
 | 0,h,m,L,v=>Nat.le_refl _
 | f+1,h,m,L,v=>by
  rw[putB]
  split
  ·omega
  ·refine Nat.le_trans (putB_cnt f _ _ _ v) ?_
   split
   ·rw[cnt_put];simp only[List.length_singleton];omega
   ·omega
theorem addL_cnt(L:LL)(v:Int)(n:Nat):cnt (addL L v n)<=cnt L+64:=putB_cnt 64 0 n L v
theorem putB_keep{P:LL->Prop}{v:Int}(step:∀L h,P L->P (putL L h [v])):∀(f h m:Nat) (L:LL),P L->P (putB f h m L v)
 | 0,_,_,_,hp=>hp
 | f+1,h,m,L,hp=>by
  rw[putB]
  split
  ·exact hp
  ·refine putB_keep step f _ _ _ ?_
   split
   ·exact step L h hp
   ·exact hp
def Top(L:LL):Prop:=0<L.length->lvl L (L.length - 1)≠[]
theorem insL_ne{l vs:List Int}(h:vs≠[]\/l≠[]):insL l vs≠[]:=by
 intro e
 have:=congrArg List.length e
 rw[insL_length,List.length_nil] at this
 rcases h with h|h
 ·exact h (List.eq_nil_of_length_eq_zero (by omega))
 ·exact h (List.eq_nil_of_length_eq_zero (by omega))
theorem Top.put{L:LL}(ht:Top L)(h:Nat){vs:List Int}(hv:vs≠[]):Top (putL L h vs):=by
 intro h0
 rw[putL_length,lvl_put]
 split
 ·exact insL_ne (.inl hv)
 ·rename_i hne
  have:max L.length (h+1)=L.length:=by omega
  rw[this]
  exact ht (by omega)
theorem Top.add{L:LL}(ht:Top L)(v:Int)(n:Nat):Top (addL L v n):=putB_keep (fun _ h hp=>hp.put h (by simp)) 64 0 n L ht
theorem top_len{L:LL}(ht:Top L)(hw:wt L<=281474976710656):L.length<=49:=by
 rcases Nat.eq_zero_or_pos L.length with h0|h0
 ·omega
 ·have h1:=lvl_wt L 1 (L.length - 1)
  have h2:1<=(lvl L (L.length - 1)).length:=List.length_pos_iff.2 (ht h0)
  rcases Nat.lt_or_ge 49 L.length with h3|h3
  ·exfalso
   have h4:2 ^ 49<=2 ^ (L.length - 1):=Nat.pow_le_pow_right (by decide) (by omega)
   have h5:1 * (2 ^ (L.length - 1) * 1)<=(lvl L (L.length - 1)).length * (2 ^ (L.length - 1) * 1):=Nat.mul_le_mul_right _ h2
   unfold wt at hw
   omega
  ·exact h3
end Go.Proofs.YtilcnjbpmoijmaaGreat.K
