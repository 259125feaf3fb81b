/- Parts of a proof: what its theorem reaches, words cut short. No condition of its own. -/
import Derived.Test.YtilcnjbpmoijmaaGreatPs43
set_option maxRecDepth 100000
set_option maxHeartbeats 16000000
set_option linter.unusedVariables false
set_option linter.unusedSimpArgs false
namespace Go.Proofs.YtilcnjbpmoijmaaGreat.D
open Go.RowKit Go.Lib
section
variable {g n c base : Nat}
theorem choose_u{a b:Nat}(hab:a+8<=b)(hb:b<=n)(w:World)(h:UAt g n c base w)(hn:n<=1099511627776) :
 Calls Tryz.prog 188 #[slU g n c,.int .i64 a,.int .i64 b] w fun e w'=>∃(x:Nat) (d:Int),e=.returned (.tuple #[.int .i64 x,.int .i64 d])/\a<=x/\x<b/\USt g n c base w w':=by
 have hgl:=h.lt
 obtain⟨l,hl⟩:∃l,b - a=l:=⟨_,rfl⟩
 obtain⟨q,hq⟩:∃q,l / 4=q:=⟨_,rfl⟩
 obtain⟨i,hi⟩:∃i,a+q=i:=⟨_,rfl⟩
 obtain⟨j,hj⟩:∃j,a+2 * q=j:=⟨_,rfl⟩
 obtain⟨k,hk⟩:∃k,a+3 * q=k:=⟨_,rfl⟩
 have EL:Hid (IntKind.i64.wrap ((b:Int) - a)=(l:Int)):=Lib.hid (by rw[IntWalk.i64_in _ (by omega)];omega)
 have EQ:Hid (wrap64 ((l:Int) / 4)=(q:Int)):=Lib.hid (by rw[IntWalk.wrap64_in _ (by omega)];omega)
 have M1:Hid (wrap64 (q:Int)=(q:Int)):=Lib.hid (IntWalk.wrap64_in _ (by omega))
 have M2:Hid (wrap64 ((q:Int) * 2)=(q:Int) * 2):=Lib.hid (IntWalk.wrap64_in _ (by omega))
 have M3:Hid (wrap64 ((q:Int) * 3)=(q:Int) * 3):=Lib.hid (IntWalk.wrap64_in _ (by omega))
 have N1:Hid (wrap64 ((a:Int)+q)=(i:Int)):=Lib.hid (by rw[IntWalk.wrap64_in _ (by omega)];omega)
 have N2:Hid (wrap64 ((a:Int)+(q:Int) * 2)=(j:Int)):=Lib.hid (by rw[IntWalk.wrap64_in _ (by omega)];omega)
 have N3:Hid (wrap64 ((a:Int)+(q:Int) * 3)=(k:Int)):=Lib.hid (by rw[IntWalk.wrap64_in _ (by omega)];omega)
 have NS:=Lib.hid (And.intro hl (And.intro hq (And.intro hi (And.intro hj hk))))
 have l8:(l:Int)>=8:=by omega
 obtain⟨s,hs⟩:∃s,w.heap.size=s:=⟨_,rfl⟩
 have hgs:g≠s:=by omega
 have hV:UAt g n c base (w.alloc (.cells #[.int .i64 0] 3)):=h.keep ((Below.refl _ _).alloc (Nat.le_refl _) _)
 have HV:Hid (USt g n c base w (w.alloc (.cells #[.int .i64 0] 3))):=Lib.hid ⟨hV,(Touch.refl _ w).alloc _⟩
 have hS:SwC s 0 (w.alloc (.cells #[.int .i64 0] 3)):=⟨0,Nat.le_refl _,by rw[<-hs];exact Blk.new _ _ _⟩
 have CA:=fun(x m:Nat) (h0:1<=x) (h1:x+1<n) (hm:m<=90) wr (HR:UAt g n c base wr) (hr:SwC s m wr)=>adjacent_u (a:=x) (s:=s) h1 h0 hm wr HR hr hn hgs
 have CM3:=fun(x y z m:Nat) (h0:x<n) (h1:y<n) (h2:z<n) (hm:m<=90) wr (HR:UAt g n c base wr) (hr:SwC s m wr)=>median_u (a:=x) (b:=y) (d:=z) (s:=s) h0 h1 h2 hm wr HR hr hn hgs
 have CAH:=Lib.hid CA
 have CMH:=Lib.hid CM3
 clear CA CM3
 by_cases h50:50<=l
 ·have l50:(l:Int)>=50:=by omega
  have C1:=Lib.hid (CAH.out i 0 (by omega) (by omega) (by omega) _ hV hS)
  have TT0:Hid (Touch (fun k=>k=s) (w.alloc (.cells #[.int .i64 0] 3)) (w.alloc (.cells #[.int .i64 0] 3))):=Lib.hid (Touch.refl _ _)
  have BD:a+1<=i/\i+1<n/\a+1<=j/\j+1<n/\a+1<=k/\k+1<n/\a+1<=i/\i+1<b/\j+1<b/\k+1<b:=by omega
  have HBD:=Lib.hid BD
  clear BD hV hS hl hq hi hj hk h
  have el:=EL.out
  have eq:=EQ.out
  have m1:=M1.out
  have m2:=M2.out
  have m3:=M3.out
  have n1:=N1.out
  have n2:=N2.out
  have n3:=N3.out
  go_enter Tryz.func188,Tryz.ntmps188
  go_wp2_with fail
  try simp only[eq,m1,m2,m3,n1,n2,n3]
  clear el eq m1 m2 m3 n1 n2 n3
  have o1:(a:Int)+(l:Int) / 4=(i:Int):=by have:=NS.out;omega
  have o2:(a:Int)+(l:Int) / 4 * 2=(j:Int):=by have:=NS.out;omega
  have o3:(a:Int)+(l:Int) / 4 * 3=(k:Int):=by have:=NS.out;omega
  try simp only[o1,o2,o3]
  clear o1 o2 o3
  try rw[hs]
  refine(C1.out).mono ?_
  rintro e w1 ⟨x1,rfl,hx1,hs1,ht1⟩
  have X1:=Lib.hid hx1
  have T1:=Lib.hid (TT0.out.trans ht1 (fun _ e=>.inl e))
  have C2:=Lib.hid (CAH.out j 3 (by have:=HBD.out;omega) (by have:=HBD.out;omega) (by omega) w1 (HV.out.1.touch T1.out hgs) hs1)
  clear hx1 hs1 ht1 C1
  go_wp2_with fail
  refine(C2.out).mono ?_
  rintro e w2 ⟨x2,rfl,hx2,hs2,ht2⟩
  have X2:=Lib.hid hx2
  have T2:=Lib.hid (T1.out.trans ht2 (fun _ e=>.inl e))
  have C3:=Lib.hid (CAH.out k 6 (by have:=HBD.out;omega) (by have:=HBD.out;omega) (by omega) w2 (HV.out.1.touch T2.out hgs) hs2)
  clear hx2 hs2 ht2 C2
  go_wp2_with fail
  refine(C3.out).mono ?_
  rintro e w3 ⟨x3,rfl,hx3,hs3,ht3⟩
  have X3:=Lib.hid hx3
  have TT:=Lib.hid (T2.out.trans ht3 (fun _ e=>.inl e))
  have CM:=Lib.hid (CMH.out x1 x2 x3 9 (by have:=HBD.out;have:=X1.out;omega) (by have:=HBD.out;have:=X2.out;omega) (by have:=HBD.out;have:=X3.out;omega) (by omega) w3 (HV.out.1.touch TT.out hgs) hs3)
  have BX:Hid (∀x,(x=x1\/x=x2\/x=x3)->a<=x/\x<b):=Lib.hid (fun x hx=>by have h0:=HBD.out;have h1:=X1.out;have h2:=X2.out;have h3:=X3.out;omega)
  clear hx3 hs3 ht3 C3 X1 X2 X3
  go_wp2_with fail
  refine(CM.out).mono ?_
  rintro e w9 ⟨x9,rfl,hx9,⟨k9,hk9,hB9⟩,ht9⟩
  have X9:=Lib.hid hx9
  have T9:=Lib.hid (TT.out.trans ht9 (fun _ e=>.inl e))
  have s9:=hB9.cell 0
  simp only[List.getElem?_toArray,List.getElem?_cons_zero] at s9
  clear hx9 hB9 ht9 CM
  have FIN:a<=x9/\x9<b/\USt g n c base w w9:=by
   have h1:=BX.out x9 X9.out
   have ht:=T9.out
   exact⟨h1.1,h1.2,HV.out.1.touch ht hgs,HV.out.2.trans ht (fun i e=>.inr (by rw[show i=s from e];omega))⟩
  have FN:=Lib.hid FIN
  clear FIN
  by_cases c0:k9=0
  ·subst c0
   go_wp2_with fail
   refine bodyPost_ret (by simp[results,Tryz.results188,go_sem, *];try rfl) rfl ?_
   exact⟨x9,_,rfl,FN.out⟩
  ·have c0':¬(k9:Int)=0:=by omega
   by_cases c1:k9=12
   ·subst c1
    go_wp2_with fail
    refine bodyPost_ret (by simp[results,Tryz.results188,go_sem, *];try rfl) rfl ?_
    exact⟨x9,_,rfl,FN.out⟩
   ·have c1':¬(k9:Int)=12:=by omega
    go_wp2_with fail
    refine bodyPost_ret (by simp[results,Tryz.results188,go_sem, *];try rfl) rfl ?_
    exact⟨x9,_,rfl,FN.out⟩
 ·have l50:¬(l:Int)>=50:=by omega
  have TT:Hid (Touch (fun k=>k=s) (w.alloc (.cells #[.int .i64 0] 3)) (w.alloc (.cells #[.int .i64 0] 3))):=Lib.hid (Touch.refl _ _)
  have CM:=Lib.hid (CMH.out i j k 0 (by omega) (by omega) (by omega) (by omega) _ hV hS)
  have BX:Hid (∀x,(x=i\/x=j\/x=k)->a<=x/\x<b):=Lib.hid (fun x hx=>by omega)
  clear hV hS hl hq hi hj hk h
  have el:=EL.out
  have eq:=EQ.out
  have m1:=M1.out
  have m2:=M2.out
  have m3:=M3.out
  have n1:=N1.out
  have n2:=N2.out
  have n3:=N3.out
  go_enter Tryz.func188,Tryz.ntmps188
  go_wp2_with fail
  try simp only[eq,m1,m2,m3,n1,n2,n3]
  clear el eq m1 m2 m3 n1 n2 n3
  have o1:(a:Int)+(l:Int) / 4=(i:Int):=by have:=NS.out;omega
  have o2:(a:Int)+(l:Int) / 4 * 2=(j:Int):=by have:=NS.out;omega
  have o3:(a:Int)+(l:Int) / 4 * 3=(k:Int):=by have:=NS.out;omega
  try simp only[o1,o2,o3]
  clear o1 o2 o3
  try rw[hs]
  refine(CM.out).mono ?_
  rintro e w9 ⟨x9,rfl,hx9,⟨k9,hk9,hB9⟩,ht9⟩
  have X9:=Lib.hid hx9
  have T9:=Lib.hid (TT.out.trans ht9 (fun _ e=>.inl e))
  have s9:=hB9.cell 0
  simp only[List.getElem?_toArray,List.getElem?_cons_zero] at s9
  clear hx9 hB9 ht9 CM
  have FIN:a<=x9/\x9<b/\USt g n c base w w9:=by
   have h1:=BX.out x9 X9.out
   have ht:=T9.out
   exact⟨h1.1,h1.2,HV.out.1.touch ht hgs,HV.out.2.trans ht (fun i e=>.inr (by rw[show i=s from e];omega))⟩
  have FN:=Lib.hid FIN
  clear FIN
  by_cases c0:k9=0
  ·subst c0
   go_wp2_with fail
   refine bodyPost_ret (by simp[results,Tryz.results188,go_sem, *];try rfl) rfl ?_
   exact⟨x9,_,rfl,FN.out⟩
  ·have c0':¬(k9:Int)=0:=by omega
   by_cases c1:k9=12
   ·subst c1
    go_wp2_with fail
    refine bodyPost_ret (by simp[results,Tryz.results188,go_sem, *];try rfl) rfl ?_
    exact⟨x9,_,rfl,FN.out⟩
   ·have c1':¬(k9:Int)=12:=by omega
    go_wp2_with fail
    refine bodyPost_ret (by simp[results,Tryz.results188,go_sem, *];try rfl) rfl ?_
    exact⟨x9,_,rfl,FN.out⟩
end
end Go.Proofs.YtilcnjbpmoijmaaGreat.D
