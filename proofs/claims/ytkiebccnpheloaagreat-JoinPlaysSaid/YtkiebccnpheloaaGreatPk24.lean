/- Parts of a proof: what its theorem reaches, words cut short. No condition of its own. -/
import Derived.Test.YtkiebccnpheloaaGreatPk23
import Derived.Maps.RangeWalk
import Derived.Maps.OwnSet
import Derived.Maps.OwnOps
import Derived.Shelf.SortM.Plain
import Derived.Shelf.SortM.SortNone
import Derived.Shelf.SlicesG.SearchI
import Derived.Shelf.SlicesG.Clone
import Derived.Shelf.SlSortCmp.WholeK
set_option maxRecDepth 100000
set_option maxHeartbeats 16000000
set_option linter.unusedVariables false
set_option linter.unusedSimpArgs false
namespace Go.Proofs.YtkiebccnpheloaaGreat.D
open Go.RowKit Go.Lib Go.Shelf
section
variable {x y : Nat} {p1 p2 p3 p4 q1 q2 q3 q4 c : Value} {w : World} {n : Int} {Q : Value -> World -> Prop}
theorem OM(hy:dH w y 117 #[.int .u8 4,p1,p2,p3,p4])(hx:dH w x 117 #[.int .u8 4,q1,q2,q3,q4])
 (h:∀w1,Below w.heap.size w w1->Calls Tryz.prog 73 #[p4] w1 fun e w'=>e=.returned (.int .i64 n)/\w1=w')
 (h':∀w1,Below w.heap.size w w1->Calls Tryz.prog 73 #[q4] w1 fun e w'=>e=.returned (.int .i64 n)/\w1=w')
 (ht:∀w1,Below w.heap.size w w1->Calls Tryz.prog 78 #[p4,q4,c] w1 fun e w'=>∃v,e=.returned v/\Q v w') :
 Calls Tryz.prog 22 #[.pointer (some ⟨y,0,none⟩),.pointer (some ⟨x,0,none⟩),c] w fun e w'=>∃v,e=.returned v/\Q v w':=by
 have C1:Hid (∀w1,Below w.heap.size w w1->_):=aB (fun w1 hb=>vX (hx.keep hb) (fun w2 hb2=>h' w2 (hb.trans (hb2.mono hb.size))))
 have C2:Hid (∀w1,Below w.heap.size w w1->_):=aB (fun w1 hb=>vX (hy.keep hb) (fun w2 hb2=>h w2 (hb.trans (hb2.mono hb.size))))
 have C3:=aB ht;have HY:=aB hy;have HX:=aB hx;clear h h' ht hy hx;unfold gu at C1 C2
 go_enter Tryz.func22,Tryz.ntmps22
 go_wp2_with fail;refine(C1.out w (aH _ _)).mono ?_
 rintro e w1 ⟨rfl,hb1⟩
 go_wp2_with fail;refine(C2.out w1 hb1).mono ?_
 rintro e w2 ⟨rfl,hb2⟩;have hb:=hb1.trans (hb2.mono hb1.size);have f0:=(HY.out.keep hb).cell 0;have f3:=(HY.out.keep hb).cell 4;have g3:=(HX.out.keep hb).cell 4;simp only[aF,aC,aG] at f0 f3 g3;have FF:=aB (aN f3 g3);have Bd:Below w2.heap.size w2 w2.drew:=(aH _ _).drew;have l2:=(HY.out.keep hb).lt;have m2:=(HX.out.keep hb).lt;have hbd:Below w.heap.size w w2.drew:=hb.drew
 go_upto_region 12 with fail;clear f3 g3;refine dJ (fun w'=>w'=w2.drew) 9 [(0,true),(1,true),(2,true),(3,true),(4,true),(5,true),(6,true),(7,true),(8,true)] (by kernel_rfl) (by kernel_rfl) (rfl) ?_
 iterate 9
  refine dK ax  ax (fun R hR=>?_)
  apply aJ
  refine⟨fun w' hS'=>?_,?_⟩
  ·have f3:w2.drew.cell? ⟨y,4,none⟩=some p4:=FF.out.1
   have g3:w2.drew.cell? ⟨x,4,none⟩=some q4:=FF.out.2;subst hS'
   go_simp;exact⟨rfl,rfl⟩
  go_simp;refine hR _ ?_;clear hR R
 refine dQ ?_
 simp only[bD,bQ]
 go_wp2_with fail;refine(C3.out w2.drew hbd).mono ?_
 rintro e w3 ⟨v,rfl,hq⟩;have HQ:=aB hq;clear hq
 go_wp2_with fail;try refine dO ?_
 go_wp2_with fail
 go_ret;exact⟨_,rfl,HQ.out⟩
end
open Go.RowKit Go.Lib Go.Shelf
section
variable {x y : Nat} {p1 p2 p3 p4 q1 q2 q3 q4 c : Value} {w : World} {a n lo hi dg : Int} {gr : Bool} {Q : Value -> World -> Prop}
theorem OQ(hy:dH w y 117 #[.int .u8 1,p1,p2,p3,p4])(hx:dH w x 117 #[.int .u8 1,q1,q2,q3,q4])
 (h:∀w1,Below w.heap.size w w1->Calls Tryz.prog 68 #[p1] w1 fun e w'=>e=.returned (.agg #[.int .i64 lo,.int .i64 hi,.int .i64 dg])/\Below w1.heap.size w1 w')
 (h2:∀w1,Below w.heap.size w w1->Calls Tryz.prog 69 #[p1] w1 fun e w'=>e=.returned (.bool gr)/\w1=w')
 (h':∀w1,Below w.heap.size w w1->Calls Tryz.prog 68 #[q1] w1 fun e w'=>e=.returned (.agg #[.int .i64 lo,.int .i64 hi,.int .i64 dg])/\Below w1.heap.size w1 w')
 (hq2:∀w1,Below w.heap.size w w1->Calls Tryz.prog 69 #[q1] w1 fun e w'=>e=.returned (.bool gr)/\w1=w')
 (ht:∀w1,Below w.heap.size w w1->Calls Tryz.prog 75 #[p1,q1] w1 fun e w'=>∃v,e=.returned v/\Q v w') :
 Calls Tryz.prog 22 #[.pointer (some ⟨y,0,none⟩),.pointer (some ⟨x,0,none⟩),c] w fun e w'=>∃v,e=.returned v/\Q v w':=by
 have C1:Hid (∀w1,Below w.heap.size w w1->_):=aB (fun w1 hb=>vZ (hx.keep hb) (fun w2 hb2=>h' w2 (hb.trans (hb2.mono hb.size))) (fun w2 hb2=>hq2 w2 (hb.trans (hb2.mono hb.size))))
 have C2:Hid (∀w1,Below w.heap.size w w1->_):=aB (fun w1 hb=>vZ (hy.keep hb) (fun w2 hb2=>h w2 (hb.trans (hb2.mono hb.size))) (fun w2 hb2=>h2 w2 (hb.trans (hb2.mono hb.size))))
 have C3:=aB ht;have HY:=aB hy;have HX:=aB hx;clear h h2 h' hq2 ht hy hx;unfold gu at C1 C2
 go_enter Tryz.func22,Tryz.ntmps22
 go_wp2_with fail;refine(C1.out w (aH _ _)).mono ?_
 rintro e w1 ⟨rfl,hb1⟩
 go_wp2_with fail;refine(C2.out w1 hb1).mono ?_
 rintro e w2 ⟨rfl,hb2⟩;have hb:=hb1.trans (hb2.mono hb1.size);have f0:=(HY.out.keep hb).cell 0;have f3:=(HY.out.keep hb).cell 1;have g3:=(HX.out.keep hb).cell 1;simp only[aF,aC,aG] at f0 f3 g3;have FF:=aB (aN f3 g3);have Bd:Below w2.heap.size w2 w2.drew:=(aH _ _).drew;have l2:=(HY.out.keep hb).lt;have m2:=(HX.out.keep hb).lt;have hbd:Below w.heap.size w w2.drew:=hb.drew
 go_upto_region 7 with fail;clear f3 g3;refine dJ (fun w'=>w'=w2.drew) 8 [(0,true),(1,true),(2,true),(3,true),(4,true),(5,true),(6,true),(7,true)] (by kernel_rfl) (by kernel_rfl) (rfl) ?_
 iterate 8
  refine dK ax  ax (fun R hR=>?_)
  apply aJ
  refine⟨fun w' hS'=>?_,?_⟩
  ·have f3:w2.drew.cell? ⟨y,1,none⟩=some p1:=FF.out.1
   have g3:w2.drew.cell? ⟨x,1,none⟩=some q1:=FF.out.2;subst hS'
   go_simp;exact⟨rfl,rfl⟩
  go_simp;refine hR _ ?_;clear hR R
 refine dQ ?_
 simp only[bD,bQ]
 go_wp2_with fail;refine(C3.out w2.drew hbd).mono ?_
 rintro e w3 ⟨v,rfl,hq⟩;have HQ:=aB hq;clear hq
 go_wp2_with fail;try refine dO ?_
 go_wp2_with fail
 go_ret;exact⟨_,rfl,HQ.out⟩
theorem OT(hy:dH w y 117 #[.int .u8 2,p1,p2,p3,p4])(hx:dH w x 117 #[.int .u8 2,q1,q2,q3,q4])
 (h:∀w1,Below w.heap.size w w1->Calls Tryz.prog 70 #[p2] w1 fun e w'=>e=.returned (.int .i64 a)/\w1=w')
 (h2:∀w1,Below w.heap.size w w1->Calls Tryz.prog 71 #[p2] w1 fun e w'=>e=.returned (.int .i64 n)/\w1=w')
 (h':∀w1,Below w.heap.size w w1->Calls Tryz.prog 70 #[q2] w1 fun e w'=>e=.returned (.int .i64 a)/\w1=w')
 (hq2:∀w1,Below w.heap.size w w1->Calls Tryz.prog 71 #[q2] w1 fun e w'=>e=.returned (.int .i64 n)/\w1=w')
 (ht:∀w1,Below w.heap.size w w1->Calls Tryz.prog 76 #[p2,q2] w1 fun e w'=>∃v,e=.returned v/\Q v w') :
 Calls Tryz.prog 22 #[.pointer (some ⟨y,0,none⟩),.pointer (some ⟨x,0,none⟩),c] w fun e w'=>∃v,e=.returned v/\Q v w':=by
 have C1:Hid (∀w1,Below w.heap.size w w1->_):=aB (fun w1 hb=>vY (hx.keep hb) (fun w2 hb2=>h' w2 (hb.trans (hb2.mono hb.size))) (fun w2 hb2=>hq2 w2 (hb.trans (hb2.mono hb.size))))
 have C2:Hid (∀w1,Below w.heap.size w w1->_):=aB (fun w1 hb=>vY (hy.keep hb) (fun w2 hb2=>h w2 (hb.trans (hb2.mono hb.size))) (fun w2 hb2=>h2 w2 (hb.trans (hb2.mono hb.size))))
 have C3:=aB ht;have HY:=aB hy;have HX:=aB hx;clear h h2 h' hq2 ht hy hx;unfold gu at C1 C2
 go_enter Tryz.func22,Tryz.ntmps22
 go_wp2_with fail;refine(C1.out w (aH _ _)).mono ?_
 rintro e w1 ⟨rfl,hb1⟩
 go_wp2_with fail;refine(C2.out w1 hb1).mono ?_
 rintro e w2 ⟨rfl,hb2⟩;have hb:=hb1.trans (hb2.mono hb1.size);have f0:=(HY.out.keep hb).cell 0;have f3:=(HY.out.keep hb).cell 2;have g3:=(HX.out.keep hb).cell 2;simp only[aF,aC,aG] at f0 f3 g3;have FF:=aB (aN f3 g3);have Bd:Below w2.heap.size w2 w2.drew:=(aH _ _).drew;have l2:=(HY.out.keep hb).lt;have m2:=(HX.out.keep hb).lt;have hbd:Below w.heap.size w w2.drew:=hb.drew
 go_upto_region 9 with fail;clear f3 g3;refine dJ (fun w'=>w'=w2.drew) 8 [(0,true),(1,true),(2,true),(3,true),(4,true),(5,true),(6,true),(7,true)] (by kernel_rfl) (by kernel_rfl) (rfl) ?_
 iterate 8
  refine dK ax  ax (fun R hR=>?_)
  apply aJ
  refine⟨fun w' hS'=>?_,?_⟩
  ·have f3:w2.drew.cell? ⟨y,2,none⟩=some p2:=FF.out.1
   have g3:w2.drew.cell? ⟨x,2,none⟩=some q2:=FF.out.2;subst hS'
   go_simp;exact⟨rfl,rfl⟩
  go_simp;refine hR _ ?_;clear hR R
 refine dQ ?_
 simp only[bD,bQ]
 go_wp2_with fail;refine(C3.out w2.drew hbd).mono ?_
 rintro e w3 ⟨v,rfl,hq⟩;have HQ:=aB hq;clear hq
 go_wp2_with fail;try refine dO ?_
 go_wp2_with fail
 go_ret;exact⟨_,rfl,HQ.out⟩
end
open Go.Maps
abbrev iL(k:Int):Lit:=.int .i64 k
theorem iLk(k:Int):WideAt.IsKeyLit (iL k):=trivial
abbrev uD(n:Int):DataW Unit:=.lit (.int .u64 n)
theorem QY{a b:Int}(h:a≠b):iL a≠iL b:=fun e=>h (by cases e;rfl)
theorem ac1(a b:Int):(iL a).sameKey (iL b)=decide (a=b):=by
 by_cases h:a=b
 ·subst h;rw[WideAt.sameKey_self (iLk _)];simp
 ·rw[sameKey_ne (QY h)];simp[h]
structure ZG(D:DataW Unit)(l:List Pr):Prop where
 tidy:Tidy D
 Xt:∀k:Int,Maps.has D (iL k)=decide (∃p∈l,p.1=k)
 at_:∀(k:Int) (z:DataW Unit),Maps.has D (iL k)=true->D.atKey (iL k) z=uD (kC l k)
 sz:Maps.size D=l.length
theorem am8:ZG (.map []) []:=⟨tidy_empty,fun k=>by simp[Maps.has],fun k z h=>by simp[Maps.has] at h,rfl⟩
theorem ZG.get{D:DataW Unit}{l:List Pr}(h:ZG D l)(k:Int):D.atKey (iL k) (uD 0)=uD (kC l k):=by
 by_cases hk:Maps.has D (iL k)=true
 ·exact h.at_ k _ hk
 ·have h0:=h.Xt k
  have hf:Maps.has D (iL k)=false:=by simpa using hk
  rw[hf] at h0;rw[atKey_of_not_has hf,nH];intro p hp e;exact absurd h0.symm (by simp;exact⟨p.2,by rw[<-e];exact hp⟩)
theorem QZ{k n:Int}:∀{l:List Pr},iD l->(eQ k n l).length=if (∃p∈l,p.1=k) then l.length else l.length+1
 | [],_=>by simp[eQ]
 | p::l,s=>by
  have s1:=aZ.1 s;have ih:=QZ (k:=k) (n:=n) s1.2;unfold eQ
  by_cases h1:p.1<k
  ·have e:(∃q∈p::l,q.1=k)<->(∃q∈l,q.1=k):=⟨fun⟨q,hq,e⟩=>by
    rcases a_.1 hq with rfl|hq
    ·omega
    ·exact⟨q,hq,e⟩,fun⟨q,hq,e⟩=>⟨q,aV _ hq,e⟩⟩
   rw[if_pos h1,aP,ih]
   by_cases hx:∃q∈l,q.1=k
   ·rw[if_pos hx,if_pos (e.2 hx)];simp
   ·rw[if_neg hx,if_neg (fun h=>hx (e.1 h))];simp
  ·rw[if_neg h1]
   by_cases h2:p.1=k
   ·rw[if_pos h2,if_pos ⟨p,aQ ..,h2⟩];simp
   ·rw[if_neg h2,if_neg]
    ·simp
    ·rintro ⟨q,hq,e⟩
     rcases a_.1 hq with rfl|hq
     ·exact h2 e
     ·have:=s1.1 q hq;omega
theorem ZG.put{D:DataW Unit}{l:List Pr}(h:ZG D l)(s:iD l)(hp:gQ l)(k n:Int)(hn:0<n):ZG (D.put (iL k) (uD (kC l k+n))) (eQ k n l):=by
 have hput:=put_pos hn hp (k:=k);refine⟨h.tidy.put (iLk _) _,fun j=>?_,fun j z hj=>?_,?_⟩
 ·have e:=mO hput j
  rw[yR] at e
  by_cases hjk:j=k
  ·subst hjk
   rw[has_put_same h.tidy.isMap (iLk _)];have:=iY (k:=j) hp;simp only[if_pos] at e;exact(decide_eq_true (e.2 ae)).symm
  ·rw[has_put_other (QY hjk),h.Xt j]
   rw[if_neg (fun h=>hjk h.symm),Int.add_zero] at e
   have e0:=mO hp j
   congr 1
   exact propext (e0.trans e.symm)
 ·rw[yR]
  by_cases hjk:j=k
  ·subst hjk
   rw[atKey_put_same h.tidy.isMap (iLk _),if_pos rfl]
  ·rw[has_put_other (QY hjk)] at hj
   rw[atKey_put_other (QY hjk),h.at_ j z hj,if_neg (fun h=>hjk h.symm),Int.add_zero]
 ·rw[size_put h.tidy,h.sz,h.Xt k,QZ s]
  by_cases hx:∃p∈l,p.1=k<;>simp[hx]
theorem Xu{l:List Pr}(s:iD l){p:Pr}(h:p∈l):kC l p.1=p.2:=by
 induction l with
 | nil=>cases h
 | cons q l ih=>
  have s1:=aZ.1 s
  rcases a_.1 h with rfl|h
  ·exact Ii s
  ·have h1:=s1.1 p h
   have:=ih s1.2 h;have e:kC (q::l) p.1=(if q.1=p.1 then q.2 else 0)+kC l p.1:=by simp[kC]
   rw[e,this,if_neg ae];omega
def RgI(l out:List Pr)(left:Lit->Bool):Prop:=(out++l.filter (fun p=>left (iL p.1))).Perm l
theorem Xv{D:DataW Unit}{l:List Pr}(h:ZG D l):RgI l [] (Maps.has D):=by
 show(l.filter (fun p=>Maps.has D (iL p.1))).Perm l
 rw[List.filter_eq_self.2 (fun p hp=>by rw[h.Xt];exact decide_eq_true ⟨p,hp,rfl⟩)]
theorem zL{f:Int->Bool}{p:Pr}:∀{l:List Pr},iD l->p∈l->f p.1=true->(p::l.filter (fun q=>f q.1 && !decide (q.1=p.1))).Perm (l.filter (fun q=>f q.1))
 | [],_,h,_=>by cases h
 | q::l,s,h,hf=>by
  have s1:=aZ.1 s
  rcases a_.1 h with rfl|h
  ·have e:l.filter (fun q=>f q.1 && !decide (q.1=p.1))=l.filter (fun q=>f q.1):=List.filter_congr fun q hq=>by
    have:=s1.1 q hq;have h2:¬q.1=p.1:=ae
    simp[h2]
   simp[hf,e]
  ·have h1:=s1.1 p h
   have h2:¬q.1=p.1:=ae
   have ih:=zL s1.2 h hf
   cases hq:f q.1
   ·simpa[hq,h2] using ih
   ·simp only[List.filter_cons,hq,h2,decide_false,Bool.not_false,Bool.and_self,if_true]
    exact(List.Perm.swap q p _).trans (ih.cons q)
theorem aw1{D:DataW Unit}{l:List Pr}(h:ZG D l)(s:iD l){x c:Int}(hat:∀z,D.atKey (iL x) z=uD c):(x,c)∈l:=by
 have h1:=has_true_of_atKey hat;have h2:=h.at_ x (uD 0) h1;rw[hat] at h2;have h3:=h.Xt x;rw[h1] at h3;obtain⟨p,hp,rfl⟩:=of_decide_eq_true h3.symm;rw[Xu s hp] at h2
 cases h2
 exact hp
theorem ac2{l out:List Pr}{left:Lit->Bool}(s:iD l)(h:RgI l out left){x c:Int}(hx:left (iL x)=true)(hm:(x,c)∈l):RgI l (out++[(x,c)]) (fun z=>left z && !z.sameKey (iL x)):=by
 unfold RgI;have e:l.filter (fun p=>left (iL p.1) && !(iL p.1).sameKey (iL x))=l.filter (fun p=>left (iL p.1) && !decide (p.1=x)):=List.filter_congr fun p _=>by rw[ac1]
 rw[e,aS];refine List.Perm.trans ?_ h
 exact List.Perm.append_left out (zL (f:=fun k=>left (iL k)) (p:=(x,c)) s hm hx)
theorem am9{l out:List Pr}{left:Lit->Bool}(h:RgI l out left)(h0:∀kl,left kl=false):out.Perm l:=by
 unfold RgI at h;rw[List.filter_eq_nil_iff.2 (fun p _=>by rw[h0];simp),List.append_nil] at h
 exact h
theorem an0{l out:List Pr}{left:Lit->Bool}(h:RgI l out left):out.length<=l.length:=by
 have:=h.length_eq;rw[aI] at this;omega
theorem ac3{a b:List Pr}(h:a.Perm b)(k:Int):kC a k=kC b k:=by
 induction h with
 | nil=>rfl
 | cons x _ ih=>simp only[kC,List.map_cons,List.sum_cons] at ih |-;omega
 | swap x y l=>simp only[kC,List.map_cons,List.sum_cons];omega
 | trans _ _ i1 i2=>exact i1.trans i2
theorem Ud{l r:List Pr}(s:iD l)(hp:gQ l)(h:r.Perm l)(hr:r.Pairwise (fun a b=>a.1<=b.1)):r=l:=by
 have hne:r.Pairwise (fun a b=>a.1≠b.1):=(h.pairwise_iff (fun {a b} (h:a.1≠b.1)=>h.symm)).2 (s.imp (fun h=>by omega))
 have hs:iD r:=(hr.and hne).imp (fun h=>by omega)
 exact QJ hs s (fun p hpr=>hp p (h.mem_iff.1 hpr)) hp (fun k=>ac3 h k)
open Go.Lib
theorem Xw:(2:Nat) ^ 64=18446744073709551616:=af
theorem v_{x k:Nat}(hx:x<18446744073709551616):Lib.bitLen x<=k<->x<2 ^ k:=by
 constructor
 ·intro h
  by_cases hk:x<2 ^ k
  ·exact hk
  ·have h1:=Lib.bitLen_shift k x ae (by rw[Xw];exact hx)
   have hp:0<2 ^ k:=Nat.two_pow_pos k;have h2:1<=x / 2 ^ k:=(Nat.le_div_iff_mul_le hp).2 ae
   have h3:x / 2 ^ k<2 ^ 64:=by rw[Xw];exact Nat.lt_of_le_of_lt (Nat.div_le_self ..) hx
   have h4:=Lib.bitLen_half (x / 2 ^ k) ae h3
   omega
 ·intro h
  by_cases hk:k<=64
  ·exact Lib.bitLen_le x k hk h
  ·exact bG (Lib.bitLen_le x 64 (aK _) (by rw[Xw];exact hx)) ae
theorem OV{x k:Nat}(hx:x<18446744073709551616):k<Lib.bitLen x<->2 ^ k<=x:=by
 have:=v_ (k:=k) hx;omega
def jL(u m v:Nat):Nat:=Lib.bitLen v - (u+m)
theorem aw2{u m v:Nat}(hv:v<18446744073709551616):v<2 ^ (u+m+jL u m v):=(v_ hv).1 (by unfold jL;omega)
theorem ai7{u m v b:Nat}(hv:v<18446744073709551616):jL u m v<=b<->v<2 ^ (u+m+b):=by
 rw[<-v_ hv];unfold jL;omega
theorem lH{u m v:Nat}(hv:v<9223372036854775808):u+m+jL u m v<=63\/jL u m v=0:=by
 have h:Lib.bitLen v<=63:=(v_ ae).2 (by rw[show(2:Nat) ^ 63=9223372036854775808 by decide];exact hv)
 unfold jL;omega
def VN(u m v:Nat):Nat:=v / 2 ^ (jL u m v+u)
theorem Xx{u m v:Nat}(hv:v<18446744073709551616):VN u m v<2 ^ m:=by
 unfold VN;rw[Nat.div_lt_iff_lt_mul (Nat.two_pow_pos _),<-Nat.pow_add];rw[show m+(jL u m v+u)=u+m+jL u m v by omega]
 exact aw2 hv
def AV(u m v:Nat):Nat:=jL u m v * 2 ^ (m - 1)+VN u m v
open Go.RowKit Go.Lib
theorem pV{a b:Nat}(h:a<=b):2 ^ a<=2 ^ b:=Nat.pow_le_pow_right ae h
theorem an1{n:Nat}(h:n<=63):0<2 ^ n/\2 ^ n<=9223372036854775808:=⟨Nat.two_pow_pos n,pV h⟩
theorem oz(n:Nat)(w:World)(h:n<=63):Calls Tryz.prog 215 #[.int .i64 n] w fun e w'=>e=.returned (.int .u64 ((2 ^ n:Nat):Int))/\w=w':=by
 obtain⟨R,hR⟩:∃R,2 ^ n=R:=⟨_,rfl⟩;have HR:=aB hR;rw[hR];clear hR
 go_enter Tryz.func215,Tryz.ntmps215
 go_wp2_with fail
 go_loopg [3,4] n (fun q p x wr=>(∃j:Nat,q=n - j/\j<=n/\x=.int .i64 j/\p=.int .u64 ((2 ^ j:Nat):Int))/\w=wr)
 case atStart=>exact⟨⟨0,rfl,ae,rfl,rfl⟩,rfl⟩
 case round=>
  obtain⟨⟨j,hq,hj,rfl,rfl⟩,rfl⟩:=hrel;have HQ:=aB hq;clear hq
  by_cases hlt:j<n
  ·have hji:(j:Int)<(n:Int):=ae
   have HP:=aB (an1 (n:=j+1) ae)
   have HS:Hid (2 ^ (j+1)=2 * 2 ^ j):=aB (by rw[Nat.pow_succ];omega)
   rw[HS.out] at HP;generalize 2 ^ j=p at *;have hp:=HP.out
   go_wp2_with fail
   go_roundg (n - (j+1))
   case measure=>have:=HQ.out;omega
   case rel=>exact⟨⟨j+1,rfl,ae,ai,by rw[HS.out];go_num⟩,rfl⟩
  ·obtain rfl:j=n:=ae
   rw[HR.out]
   go_wp2_with fail
   go_ret;exact⟨rfl,rfl⟩
theorem pG(u m v:Nat)(w:World)(hu:u+m<=62)(hv:v<9223372036854775808):Calls Tryz.prog 172 #[.int .i64 u,.int .i64 m,.int .i64 v] w fun e w'=>e=.returned (.int .i64 (jL u m v))/\w=w':=by
 have HM:=aB (lH (u:=u) (m:=m) hv);have HL:Hid (∀j,jL u m v<=j<->v<2 ^ (u+m+j)):=aB (fun j=>ai7 ae)
 have hmx:=HM.out;generalize jL u m v=B at *
 go_enter Tryz.func172,Tryz.ntmps172
 go_wp2_with fail
 go_loopg [7] B (fun q x wr=>(∃j:Nat,q=B - j/\j<=B/\x=.int .i64 j)/\w=wr)
 case atStart=>exact⟨⟨0,rfl,ae,rfl⟩,rfl⟩
 case round=>
  obtain⟨⟨j,hq,hj,rfl⟩,rfl⟩:=hrel;have HQ:=aB hq;clear hq;obtain⟨t,ht⟩:∃t,u+m=t:=⟨_,rfl⟩;obtain⟨s,hs⟩:∃s,u+m+j=s:=⟨_,rfl⟩;have e1:IntKind.i64.wrap ((u:Int)+(m:Int))=(t:Int):=ak
  have e2:IntKind.i64.wrap ((t:Int)+(j:Int))=(s:Int):=ak
  have ev:IntKind.u64.wrap (v:Int)=(v:Int):=by rw[eH];omega
  have hl:=HL.out j;rw[hs] at hl
  by_cases hlt:j<B
  ·have h63:(s:Int)<63:=ae
   have CP:=aB (oz s w ae)
   have hge:2 ^ s<=v:=by
    rcases bJ v (2 ^ s) with h|h
    ·have:=hl.2 h;omega
    ·exact h
   obtain⟨P,hP⟩:∃P,2 ^ s=P:=⟨_,rfl⟩;rw[hP] at CP hge;have hge':(P:Int)<=(v:Int):=ae
   have bm9:j<63:=ae
   clear hP hs ht hl hmx hge HL HM
   go_wp2_with (go_at_call 215;refine(CP.out).mono ?_;rintro e w' ⟨rfl,rfl⟩)
   go_roundg (B - (j+1))
   case measure=>have:=HQ.out;omega
   case rel=>exact⟨⟨j+1,rfl,ae,ai⟩,rfl⟩
  ·obtain rfl:j=B:=ae
   by_cases h63:(s:Int)<63
   ·have CP:=aB (oz s w ae)
    have hlt':=hl.1 (aK _);obtain⟨P,hP⟩:∃P,2 ^ s=P:=⟨_,rfl⟩;rw[hP] at CP hlt';have hge':¬(P:Int)<=(v:Int):=ae
    clear hP hs ht hl hmx hlt' HL HM
    go_wp2_with (go_at_call 215;refine(CP.out).mono ?_;rintro e w' ⟨rfl,rfl⟩)
    go_ret;exact⟨rfl,rfl⟩
   ·clear hs ht hl hmx HL HM
    go_wp2_with fail
    go_ret;exact⟨rfl,rfl⟩
theorem OW(u m v:Nat)(w:World)(hu:u+m<=62)(m0:1<=m)(m1:m<=18)(hv:v<9223372036854775808):Calls Tryz.prog 109 #[.int .i64 u,.int .i64 m,.int .i64 v] w fun e w'=>e=.returned (.int .i64 (AV u m v))/\w=w':=by
 have CB:=aB (pG u m v w hu hv);have HM:=lH (u:=u) (m:=m) hv;have HC:=Xx (u:=u) (m:=m) (v:=v) ae
 have h18:2 ^ m<=2 ^ 18:=pV m1;have ac4:2 ^ (m - 1)<=2 ^ 17:=pV ae
 have CH:=aB (oz (m - 1) w ae)
 have hb:jL u m v<=63:=ae
 have CP:=aB (oz (u+jL u m v) w ae)
 have HX:Hid (AV u m v=jL u m v * 2 ^ (m - 1)+VN u m v):=aB rfl;have HK:Hid (VN u m v=v / 2 ^ (jL u m v+u)):=aB rfl;rw[HX.out];have hpos:=Nat.two_pow_pos (u+jL u m v);have HKI:Hid ((v:Int).tdiv ((2 ^ (u+jL u m v):Nat):Int)=(VN u m v:Int)):=aB (by rw[HK.out,Nat.add_comm u,Int.tdiv_eq_ediv_of_nonneg ae];rfl)
 generalize VN u m v=k at *;generalize jL u m v=b at *;generalize 2 ^ (m - 1)=H at *;obtain⟨s,hs⟩:∃s,u+b=s:=⟨_,rfl⟩;rw[hs] at CP hpos HKI;have hs63:s<=63:=ae
 have hbu:IntKind.i64.wrap ((u:Int)+(b:Int))=(s:Int):=ak
 generalize 2 ^ s=P at *;have bf7:k<262144:=ae
 have hH:H<=131072:=ae
 obtain⟨M,rfl⟩:∃M,m=M+1:=⟨m - 1,ae⟩
 simp only[Nat.add_sub_cancel] at CH;obtain⟨c,hc⟩:∃c,b * H=c:=⟨_,rfl⟩;have hcb:c<=8257536:=by rw[<-hc];exact Nat.mul_le_mul hb hH
 have hm1:((b:Int)+1) * (H:Int)=(c:Int)+(H:Int):=by rw[<-hc,Int.add_mul,Int.one_mul];simp
 have hd1:=HKI.out;have hd2:(v:Int) / (P:Int)=(k:Int):=by rw[<-HKI.out,Int.tdiv_eq_ediv_of_nonneg ae]
 have hP0:((P:Int) == 0)=false:=ah
 have ev:IntKind.u64.wrap (v:Int)=(v:Int):=by rw[eH];omega
 have ek:IntKind.u64.wrap (k:Int)=(k:Int):=by rw[eH];omega
 have hfin:(c:Int)+(H:Int)+(k:Int) - (H:Int)=(c:Int)+(k:Int):=ae
 rw[hc];have hMw:IntKind.i64.wrap (M:Int)=(M:Int):=ak
 have hHw:IntKind.i64.wrap (H:Int)=(H:Int):=ak
 clear HX HK HC h18 ac4 HM hs hc HKI
 go_enter Tryz.func109,Tryz.ntmps109
 go_wp2_with fail;refine(CB.out).mono ?_
 rintro e w' ⟨rfl,rfl⟩
 go_wp2_with fail;refine(CH.out).mono ?_
 rintro e w' ⟨rfl,rfl⟩
 go_wp2_with fail;refine(CP.out).mono ?_
 rintro e w' ⟨rfl,rfl⟩
 go_wp2_with fail
 go_ret;exact⟨by simp,rfl⟩
def qp(u m n:Nat):Nat:=if 63<=n - 1+u+m then 9223372036854775807 else 2 ^ (n - 1+u+m) - 1
theorem KI(u m n:Nat)(w:World)(hu:u+m<=62)(n0:1<=n)(n1:n<=64):Calls Tryz.prog 184 #[.int .i64 u,.int .i64 m,.int .i64 n] w fun e w'=>e=.returned (.int .i64 (qp u m n))/\w=w':=by
 have HT:Hid (qp u m n=if 63<=n - 1+u+m then 9223372036854775807 else 2 ^ (n - 1+u+m) - 1):=aB rfl
 rw[HT.out];obtain⟨k,rfl⟩:∃k,n=k+1:=⟨n - 1,ae⟩
 simp only[Nat.add_sub_cancel] at HT |-;obtain⟨t,ht⟩:∃t,k+u=t:=⟨_,rfl⟩;obtain⟨s,hs⟩:∃s,k+u+m=s:=⟨_,rfl⟩;have e1:IntKind.i64.wrap ((k:Int)+(u:Int))=(t:Int):=ak
 have e2:IntKind.i64.wrap ((t:Int)+(m:Int))=(s:Int):=ak
 have ek:IntKind.i64.wrap (k:Int)=(k:Int):=ak
 have em:max ((k:Int)+1) 1=(k:Int)+1:=ae
 have em2:min ((k:Int)+1) 64=(k:Int)+1:=ae
 rw[hs]
 by_cases h63:63<=s
 ·have hge:(63:Int)<=(s:Int):=ae
  rw[if_pos h63];clear HT ht hs
  go_enter Tryz.func184,Tryz.ntmps184
  go_wp2_with fail
  go_ret;exact⟨by simp,rfl⟩
 ·have hge:¬(63:Int)<=(s:Int):=ae
  rw[if_neg h63];have CP:=aB (oz s w ae)
  have hp:2 ^ s<=2 ^ 62:=pV ae
  have h0:=Nat.two_pow_pos s;generalize 2 ^ s=P at *;have hp':P<=4611686018427387904:=hp;have eP:IntKind.i64.wrap (P:Int)=(P:Int):=ak
  have eP1:IntKind.i64.wrap ((P:Int) - 1)=(P:Int) - 1:=ak
  have Ue:(((P - 1:Nat)):Int)=(P:Int) - 1:=ae
  rw[Ue];clear HT ht hs hp Ue
  go_enter Tryz.func184,Tryz.ntmps184
  go_wp2_with fail;refine(CP.out).mono ?_
  rintro e w' ⟨rfl,rfl⟩
  go_wp2_with fail
  go_ret;exact⟨rfl,rfl⟩
end Go.Proofs.YtkiebccnpheloaaGreat.D
namespace Go.Proofs
open Go.Shelf
def Tryz.len64L_ren:Go.Shelf.Ren:=⟨fun|129=>372|n=>n,fun|53=>53|3=>3|4=>4|46=>398|5=>5|9=>9|n=>n,fun|n=>n⟩
theorem Tryz.len64L:Go.Proofs.Lays.n129 Tryz.prog Tryz.len64L_ren:={
 mixed:=by kernel_rfl
 f129:=Tryz.func372.trans (congrArg some (by kernel_rfl))
 t3:=Tryz.underlying3
 a3:=Tryz.isAgg3
 z3:=Tryz.sizeOf3
 v3:=Tryz.zeroValue3
 t4:=Tryz.underlying4
 a4:=Tryz.isAgg4
 z4:=Tryz.sizeOf4
 v4:=Tryz.zeroValue4
 t5:=Tryz.underlying5
 a5:=Tryz.isAgg5
 z5:=Tryz.sizeOf5
 v5:=Tryz.zeroValue5
 t9:=Tryz.underlying9
 a9:=Tryz.isAgg9
 z9:=Tryz.sizeOf9
 v9:=Tryz.zeroValue9
 t46:=Tryz.underlying398
 a46:=Tryz.isAgg398
 z46:=Tryz.sizeOf398
 v46:=Tryz.zeroValue398
 t53:=Tryz.underlying53
 a53:=Tryz.isAgg53
 z53:=Tryz.sizeOf53
 v53:=Tryz.zeroValue53}
def Tryz.sortM_ren:Go.Shelf.Ren:=⟨fun|5=>264|8=>357|7=>362|19=>431|20=>372|10=>434|11=>435|12=>436|13=>437|14=>438|15=>439|16=>310|17=>440|18=>441|30=>483|31=>479|32=>480|33=>484|34=>485|35=>389|40=>507|n=>n,fun|23=>236|25=>2|3=>3|32=>398|22=>236|0=>0|44=>327|46=>53|4=>4|36=>509|35=>508|41=>184|5=>5|9=>9|53=>551|57=>554|63=>577|64=>388|n=>n,fun|n=>n⟩
theorem Tryz.sortM:Go.Proofs.SlLaysM.n5 Tryz.prog Tryz.sortM_ren:={
 mixed:=by kernel_rfl
 f5:=⟨Tryz.f264.name,by decide,Tryz.func264.trans (congrArg some (by kernel_rfl))⟩
 f7:=⟨Tryz.f362.name,by decide,Tryz.func362.trans (congrArg some (by kernel_rfl))⟩
 f8:=Tryz.func357.trans (congrArg some (by kernel_rfl))
 f10:=⟨Tryz.f434.name,by decide,Tryz.func434.trans (congrArg some (by kernel_rfl))⟩
 f11:=⟨Tryz.f435.name,by decide,Tryz.func435.trans (congrArg some (by kernel_rfl))⟩
 f12:=⟨Tryz.f436.name,by decide,Tryz.func436.trans (congrArg some (by kernel_rfl))⟩
 f13:=⟨Tryz.f437.name,by decide,Tryz.func437.trans (congrArg some (by kernel_rfl))⟩
 f14:=⟨Tryz.f438.name,by decide,Tryz.func438.trans (congrArg some (by kernel_rfl))⟩
 f15:=⟨Tryz.f439.name,by decide,Tryz.func439.trans (congrArg some (by kernel_rfl))⟩
 f16:=⟨Tryz.f310.name,by decide,Tryz.func310.trans (congrArg some (by kernel_rfl))⟩
 f17:=⟨Tryz.f440.name,by decide,Tryz.func440.trans (congrArg some (by kernel_rfl))⟩
 f18:=⟨Tryz.f441.name,by decide,Tryz.func441.trans (congrArg some (by kernel_rfl))⟩
 f19:=Tryz.func431.trans (congrArg some (by kernel_rfl))
 f20:=Tryz.func372.trans (congrArg some (by kernel_rfl))
 f30:=⟨Tryz.f483.name,by decide,Tryz.func483.trans (congrArg some (by kernel_rfl))⟩
 f31:=Tryz.func479.trans (congrArg some (by kernel_rfl))
 f32:=Tryz.func480.trans (congrArg some (by kernel_rfl))
 f33:=⟨Tryz.f484.name,by decide,Tryz.func484.trans (congrArg some (by kernel_rfl))⟩
 f34:=⟨Tryz.f485.name,by decide,Tryz.func485.trans (congrArg some (by kernel_rfl))⟩
 f35:=⟨Tryz.f389.name,by decide,Tryz.func389.trans (congrArg some (by kernel_rfl))⟩
 f40:=⟨Tryz.f507.name,by decide,Tryz.func507.trans (congrArg some (by kernel_rfl))⟩
 t0:=Tryz.underlying0
 a0:=Tryz.isAgg0
 z0:=Tryz.sizeOf0
 v0:=Tryz.zeroValue0
 t3:=Tryz.underlying3
 a3:=Tryz.isAgg3
 z3:=Tryz.sizeOf3
 v3:=Tryz.zeroValue3
 t4:=Tryz.underlying4
 a4:=Tryz.isAgg4
 z4:=Tryz.sizeOf4
 v4:=Tryz.zeroValue4
 t5:=Tryz.underlying5
 a5:=Tryz.isAgg5
 z5:=Tryz.sizeOf5
 v5:=Tryz.zeroValue5
 t9:=Tryz.underlying9
 a9:=Tryz.isAgg9
 z9:=Tryz.sizeOf9
 v9:=Tryz.zeroValue9
 t22:=Tryz.underlying236
 a22:=Tryz.isAgg236
 z22:=Tryz.sizeOf236
 v22:=Tryz.zeroValue236
 t23:=Tryz.underlying236
 a23:=Tryz.isAgg236
 z23:=Tryz.sizeOf236
 v23:=Tryz.zeroValue236
 t25:=Tryz.underlying2
 a25:=Tryz.isAgg2
 z25:=Tryz.sizeOf2
 v25:=Tryz.zeroValue2
 t32:=Tryz.underlying398
 a32:=Tryz.isAgg398
 z32:=Tryz.sizeOf398
 v32:=Tryz.zeroValue398
 t35:=Tryz.underlying508
 a35:=Tryz.isAgg508
 z35:=Tryz.sizeOf508
 v35:=Tryz.zeroValue508
 t36:=Tryz.underlying509
 a36:=Tryz.isAgg509
 z36:=Tryz.sizeOf509
 v36:=Tryz.zeroValue509
 t41:=Tryz.underlying184
 a41:=Tryz.isAgg184
 z41:=Tryz.sizeOf184
 v41:=Tryz.zeroValue184
 t44:=Tryz.underlying327
 a44:=Tryz.isAgg327
 z44:=Tryz.sizeOf327
 v44:=Tryz.zeroValue327
 t46:=Tryz.underlying53
 a46:=Tryz.isAgg53
 z46:=Tryz.sizeOf53
 v46:=Tryz.zeroValue53
 t53:=Tryz.underlying551
 a53:=Tryz.isAgg551
 z53:=Tryz.sizeOf551
 v53:=Tryz.zeroValue551
 t57:=Tryz.underlying554
 a57:=Tryz.isAgg554
 z57:=Tryz.sizeOf554
 v57:=Tryz.zeroValue554
 t63:=Tryz.underlying577
 a63:=Tryz.isAgg577
 z63:=Tryz.sizeOf577
 v63:=Tryz.zeroValue577
 t64:=Tryz.underlying388
 a64:=Tryz.isAgg388
 z64:=Tryz.sizeOf388
 v64:=Tryz.zeroValue388}
def Tryz.sortF_ren:Go.Shelf.Ren:=⟨fun|6=>255|15=>357|14=>356|28=>431|29=>372|20=>423|21=>424|22=>425|23=>426|24=>427|25=>428|26=>429|27=>430|46=>478|47=>479|48=>480|49=>481|50=>482|57=>506|n=>n,fun|22=>161|24=>222|25=>350|3=>3|39=>398|0=>0|53=>327|55=>53|4=>4|46=>509|45=>508|50=>184|5=>5|9=>9|66=>551|70=>554|76=>577|77=>388|n=>n,fun|n=>n⟩
theorem Tryz.sortF:Go.Proofs.SlLaysF0.n6 Tryz.prog Tryz.sortF_ren:={
 mixed:=by kernel_rfl
 f6:=⟨Tryz.f255.name,by decide,Tryz.func255.trans (congrArg some (by kernel_rfl))⟩
 f14:=⟨Tryz.f356.name,by decide,Tryz.func356.trans (congrArg some (by kernel_rfl))⟩
 f15:=Tryz.func357.trans (congrArg some (by kernel_rfl))
 f20:=⟨Tryz.f423.name,by decide,Tryz.func423.trans (congrArg some (by kernel_rfl))⟩
 f21:=⟨Tryz.f424.name,by decide,Tryz.func424.trans (congrArg some (by kernel_rfl))⟩
 f22:=⟨Tryz.f425.name,by decide,Tryz.func425.trans (congrArg some (by kernel_rfl))⟩
 f23:=⟨Tryz.f426.name,by decide,Tryz.func426.trans (congrArg some (by kernel_rfl))⟩
 f24:=⟨Tryz.f427.name,by decide,Tryz.func427.trans (congrArg some (by kernel_rfl))⟩
 f25:=⟨Tryz.f428.name,by decide,Tryz.func428.trans (congrArg some (by kernel_rfl))⟩
 f26:=⟨Tryz.f429.name,by decide,Tryz.func429.trans (congrArg some (by kernel_rfl))⟩
 f27:=⟨Tryz.f430.name,by decide,Tryz.func430.trans (congrArg some (by kernel_rfl))⟩
 f28:=Tryz.func431.trans (congrArg some (by kernel_rfl))
 f29:=Tryz.func372.trans (congrArg some (by kernel_rfl))
 f46:=⟨Tryz.f478.name,by decide,Tryz.func478.trans (congrArg some (by kernel_rfl))⟩
 f47:=Tryz.func479.trans (congrArg some (by kernel_rfl))
 f48:=Tryz.func480.trans (congrArg some (by kernel_rfl))
 f49:=⟨Tryz.f481.name,by decide,Tryz.func481.trans (congrArg some (by kernel_rfl))⟩
 f50:=⟨Tryz.f482.name,by decide,Tryz.func482.trans (congrArg some (by kernel_rfl))⟩
 f57:=⟨Tryz.f506.name,by decide,Tryz.func506.trans (congrArg some (by kernel_rfl))⟩
 t0:=Tryz.underlying0
 a0:=Tryz.isAgg0
 z0:=Tryz.sizeOf0
 v0:=Tryz.zeroValue0
 t3:=Tryz.underlying3
 a3:=Tryz.isAgg3
 z3:=Tryz.sizeOf3
 v3:=Tryz.zeroValue3
 t4:=Tryz.underlying4
 a4:=Tryz.isAgg4
 z4:=Tryz.sizeOf4
 v4:=Tryz.zeroValue4
 t5:=Tryz.underlying5
 a5:=Tryz.isAgg5
 z5:=Tryz.sizeOf5
 v5:=Tryz.zeroValue5
 t9:=Tryz.underlying9
 a9:=Tryz.isAgg9
 z9:=Tryz.sizeOf9
 v9:=Tryz.zeroValue9
 t22:=Tryz.underlying161
 a22:=Tryz.isAgg161
 z22:=Tryz.sizeOf161
 v22:=Tryz.zeroValue161
 t25:=Tryz.underlying350
 a25:=Tryz.isAgg350
 z25:=Tryz.sizeOf350
 v25:=Tryz.zeroValue350
 t39:=Tryz.underlying398
 a39:=Tryz.isAgg398
 z39:=Tryz.sizeOf398
 v39:=Tryz.zeroValue398
 t45:=Tryz.underlying508
 a45:=Tryz.isAgg508
 z45:=Tryz.sizeOf508
 v45:=Tryz.zeroValue508
 t46:=Tryz.underlying509
 a46:=Tryz.isAgg509
 z46:=Tryz.sizeOf509
 v46:=Tryz.zeroValue509
 t50:=Tryz.underlying184
 a50:=Tryz.isAgg184
 z50:=Tryz.sizeOf184
 v50:=Tryz.zeroValue184
 t53:=Tryz.underlying327
 a53:=Tryz.isAgg327
 z53:=Tryz.sizeOf327
 v53:=Tryz.zeroValue327
 t55:=Tryz.underlying53
 a55:=Tryz.isAgg53
 z55:=Tryz.sizeOf53
 v55:=Tryz.zeroValue53
 t66:=Tryz.underlying551
 a66:=Tryz.isAgg551
 z66:=Tryz.sizeOf551
 v66:=Tryz.zeroValue551
 t70:=Tryz.underlying554
 a70:=Tryz.isAgg554
 z70:=Tryz.sizeOf554
 v70:=Tryz.zeroValue554
 t76:=Tryz.underlying577
 a76:=Tryz.isAgg577
 z76:=Tryz.sizeOf577
 v76:=Tryz.zeroValue577
 t77:=Tryz.underlying388
 a77:=Tryz.isAgg388
 z77:=Tryz.sizeOf388
 v77:=Tryz.zeroValue388}
end Go.Proofs
