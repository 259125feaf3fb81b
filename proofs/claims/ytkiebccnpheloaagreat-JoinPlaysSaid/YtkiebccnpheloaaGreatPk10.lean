/- Parts of a proof: what its theorem reaches, words cut short. No condition of its own. -/
import Derived.Test.YtkiebccnpheloaaGreatPk09
set_option maxRecDepth 100000
set_option maxHeartbeats 16000000
set_option linter.unusedVariables false
set_option linter.unusedSimpArgs false
namespace Go.Proofs.YtkiebccnpheloaaGreat
open Go.RowKit Go.Lib
def yK(w:World)(g:Nat)(F:Nat->Prop)(d:Int)(s:St):Prop:=sU w g F d s.L s.W s.lo s.hi
theorem WJ{g:Nat}{F:Nat->Prop}{d:Int}{s:St}{k:Nat}(a n:Int)(w:World)(h:NU w g F d s)(ft:Fit d s k)(hk:k<100000000)(a0:-9223372036854775808<=a)(a1:a<=9223372036854775807)(n0:0<n)(n1:n<=281474976710656 - tot (s.L++s.W)) :
 Calls Tryz.prog 133 #[.pointer (some ⟨g,0,none⟩),.int .i64 a,.int .u64 n] w fun e w'=>e=.returned (.int .i64 0)/\∃F':Nat->Prop,(∀k,F' k->F k\/w.heap.size<=k)/\NU w' g F' d (s.add d a n)/\Touch F w w':=by
 have:=add_any a n w h ft.ok.ok ⟨ft.ok.We,ft.ok.lo1⟩ ⟨ft.ok.hi0,ft.ok.hi1⟩ ⟨a0,a1⟩ ⟨by omega,by have:=ft.ok.jA;omega⟩ (by have:=ft.ok.len;omega) ft.t (by have:=ft.d0;omega) ft.d1
 refine this.mono ?_
 intro e w' h1;simp only[if_neg (show ¬n=0 by omega),if_neg (show ¬281474976710656 - tot (s.L++s.W)<n by omega)] at h1
 obtain⟨h1,F',h2,h3,h4⟩:=h1;refine⟨h1,F',h2,?_,h4⟩
 unfold NU;rw[St.ah7];exact h3
theorem aa0{g:Nat}{F:Nat->Prop}{d:Int}{s:St}{k:Nat}(a n:Int)(w:World)(h:NU w g F d s)(ft:Fit d s k)(hk:k<100000000)(a0:-9223372036854775808<=a)(a1:a<=9223372036854775807)(n0:0<=n)(n1:n<=18446744073709551615)(hn:n=0\/281474976710656 - tot (s.L++s.W)<n) :
 Calls Tryz.prog 133 #[.pointer (some ⟨g,0,none⟩),.int .i64 a,.int .u64 n] w fun e w'=>e=.returned (.int .i64 (if n=0 then 4 else 6))/\Below w.heap.size w w':=by
 have:=add_any a n w h ft.ok.ok ⟨ft.ok.We,ft.ok.lo1⟩ ⟨ft.ok.hi0,ft.ok.hi1⟩ ⟨a0,a1⟩ ⟨n0,n1⟩ (by have:=ft.ok.len;omega) ft.t (by have:=ft.d0;omega) ft.d1
 refine this.mono ?_
 intro e w' h1
 by_cases h0:n=0
 ·simp only[if_pos h0] at h1 |-;exact h1
 ·simp only[if_neg h0,if_pos (show 281474976710656 - tot (s.L++s.W)<n by omega)] at h1 |-;exact h1
theorem aa1{g:Nat}{F:Nat->Prop}{d:Int}{s:St}{k:Nat}(a n:Int)(w:World)(h:yK w g F d s)(ft:Fit d s k)(hn:n=0\/281474976710656 - tot (s.L++s.W)<n) :
 Calls Tryz.prog 176 #[.pointer (some ⟨g,0,none⟩),.int .i64 a,.int .u64 n] w fun e w'=>e=.returned (.int .i64 (if n=0 then 4 else 6))/\Below w.heap.size w w':=by
 have HD:=aB h;have t0:=ft.ok.jA;have t1:=ft.t;have HL:s.L.length+s.W.length<=1099511627776:=by have:=ft.ok.len;have:=ft.k1;omega
 have HO:=aB ft.ok.ok;clear h
 by_cases hk0:n=0
 ·subst hk0
  go_enter Tryz.func176,Tryz.ntmps176
  go_wp2_with fail;refine bodyPost_ret (by simp[results,Tryz.results176,go_sem, *];try rfl) rfl ?_
  exact⟨rfl,bw⟩
 ·simp only[if_neg hk0]
  have hn':281474976710656 - tot (s.L++s.W)<n:=ae
  have hb0:(n == 0)=false:=by simpa using hk0
  clear hn hk0
  go_enter Tryz.func176,Tryz.ntmps176
  go_wp2_with fail;refine(jC g F d s.lo s.hi s.L s.W _ HD.out HL).mono ?_
  rintro e w1 ⟨v,rfl,o,hb1⟩;have O1:=aB o;have hz1:=hb1.size;clear o
  go_wp2_with fail;refine(fE v _ _ O1.out.rd HO.out ae).mono ?_
  rintro e w2 ⟨rfl,hb2⟩;have hz2:=hb2.size
  go_wp2_with fail;refine bodyPost_ret (by simp[results,Tryz.results176,go_sem, *];try rfl) rfl ?_
  exact⟨rfl,bw⟩
theorem Cj{g:Nat}{F:Nat->Prop}{d:Int}{s:St}{k:Nat}(a n:Int)(w:World)(h:yK w g F d s)(ft:Fit d s k)(hk:k<100000000)(a0:-9223372036854775808<=a)(a1:a<=9223372036854775807)(n0:0<n)(n1:n<=281474976710656 - tot (s.L++s.W)) :
 Calls Tryz.prog 176 #[.pointer (some ⟨g,0,none⟩),.int .i64 a,.int .u64 n] w fun e w'=>e=.returned (.int .i64 0)/\∃F':Nat->Prop,(∀k,F' k->F k\/w.heap.size<=k)/\yK w' g F' d (s.add d a n)/\Touch F w w':=by
 obtain⟨L,W,lo,hi⟩:=s;have HD:Hid (sU w g F d L W lo hi):=aB h;have t0:0<=tot (L++W):=ft.ok.jA;have t1:tot (L++W)<=281474976710656:=ft.t;have hkl:L.length+W.length<=k:=ft.ok.len;replace n1:n<=281474976710656 - tot (L++W):=n1;have HL:L.length+W.length<=1099511627776:=ae
 have hl:L.length+W.length<100000000:=ae
 have HO:Hid (jY (L++W)):=aB ft.ok.ok;have d0:=ft.d0;have d1:=ft.d1;have hb0:(n == 0)=false:=ah
 have EN:Hid (∀w1,Below w.heap.size w w1->Calls Tryz.prog 190 #[.pointer (some ⟨g,0,none⟩),.int .i64 a,.int .i64 a] w1 fun e w'=>e=.returned (.tuple #[])/\sU w' g F d L W (if tot (L++W)=0 then a else min lo a) (if tot (L++W)=0 then a else max hi a)/\Touch (fun k=>k=g) w1 w'):=by
  intro w1 hb;have:=Gf a a w1 (sU.keep HD.out hb) ae
  have e:(L.length+W.length=0)<->tot (L++W)=0:=by
   have hz:=ft.ok.yE;simp only at hz;rw[hz];constructor
   ·intro h;exact aW (by rw[aI];exact h)
   ·intro h;rw[<-aI,h];rfl
  simp only[e] at this;exact this
 have hS:Hid (St.add d ⟨L,W,lo,hi⟩ a n=⟨gW d L W (a,n),ni d W (a,n),if tot (L++W)=0 then a else min lo a,if tot (L++W)=0 then a else max hi a⟩):=rfl
 generalize (if tot (L++W)=0 then a else min lo a)=lo1 at EN hS
 generalize (if tot (L++W)=0 then a else max hi a)=hi1 at EN hS
 clear h ft
 go_enter Tryz.func176,Tryz.ntmps176
 go_wp2_with fail;refine(jC g F d lo hi L W _ HD.out HL).mono ?_
 rintro e w1 ⟨v,rfl,o,hb1⟩;have O1:=aB o;have hz1:=hb1.size;clear o
 go_wp2_with fail;refine(fE v _ _ O1.out.rd HO.out ae).mono ?_
 rintro e w2 ⟨rfl,hb2⟩;have hz2:=hb2.size;have pO:Below w.heap.size w w2:=hb1.trans (hb2.mono hz1)
 go_wp2_with fail;refine(EN.out _ pO).mono ?_
 rintro e w3 ⟨rfl,⟨oP,wv1,b1,l1,x1,hF⟩,T1⟩;obtain⟨B,cb,rfl,nb,mb,fb⟩:=x1.form;have q2:=b1.cell 2;have r2:=b1.frozen 2;simp only[aF,aG,aC] at q2;have hlt3:=b1.lt;have hz3:=T1.size;have NL1:=b1.jU l1 af
 have NR:=b1.jU x1 af
 have B1:=aB b1;have L1:=aB l1;have X1:=aB x1;have HF1:=aB hF;clear b1 l1 x1 hF fb
 go_upto_region 7 with(first|(at_builtin;go_must (refine gm rfl (.tmp 23) (.tmp 27) rfl 0 (.slice B W.length cb) W rfl (X1.out.alloc _) _ [(a,n)] rfl (nN.one _ (a,n)) (by simp only[bK];omega) (bW _) ?_);intro v1 w4 o4 g4 a4;have b4:=(g4.block g (by rw[aO];omega) (fun e=>NR e.symm)).trans (B1.out.alloc (.cells #[.int .i64 a,.int .u64 n] 231));obtain⟨A4,c4,rfl,n4,m4,f4⟩:=o4.form;have s2:=dH.cell b4 2;have s0:=dH.cell b4 0;have u2:=dH.frozen b4 2;simp only[aF,aG,aC] at s0 s2;have B4:Hid (dH w4 g _ _):=aB b4;have O4:=aB o4;clear b4 o4 f4;go_simp))
 have KF:Hid (∃F':Nat->Prop,(∀k,F' k->F k\/w.heap.size<=k)/\sU (w4.setCell ⟨g,2,none⟩ (.slice A4 (W.length+1) c4)) g F' d L (W++[(a,n)]) lo1 hi1/\Touch F w (w4.setCell ⟨g,2,none⟩ (.slice A4 (W.length+1) c4))):=by
  obtain⟨p1,p2,p3,p4,p5⟩:=HF1.out;have hlen3:(W++[(a,n)]).length=W.length+1:=ag
  have O4':=O4.out;rw[hlen3] at O4' a4;have T3:Touch F w w3:=(Touch.of_below (F:=F) pO (aK _)).trans T1 (fun i hi=>by subst hi;exact .inl p1)
  have T4:Touch F w w4:=(T3.alloc (.cells #[.int .i64 a,.int .u64 n] 231)).grown g4 (fun k1 hk1=>.inl (p3 k1 hk1))
  have T5:=T4.setCell (p:=⟨g,2,none⟩) (.inl p1) (.slice A4 (W.length+1) c4);have NS:∀k1,(Value.slice A4 (W.length+1) c4).ownBlock=some k1->F k1\/k1=w3.heap.size+1:=fun k1 e=>by
   rcases a4 with e3|e3
   ·exact .inl (p3 k1 (by rw[<-e3];exact e))
   ·rw[e3] at e;simp only[aO,bC] at e;exact .inr e.symm
  have sz3:w3.heap.size+1<=w4.heap.size:=by have:=g4.size;rw[aO] at this;exact this
  have ng3:(Value.slice A4 (W.length+1) c4).ownBlock≠some g:=fun e=>by
   rcases a4 with e3|e3
   ·exact NR (by rw[<-e3];exact e)
   ·rw[e3] at e;simp only[aO,bC] at e;omega
  have L4:dU 0 w4 oP L:=(L1.out.alloc (.cells #[.int .i64 a,.int .u64 n] 231)).stay fun k1 e=>g4.block k1 (by rw[aO];have:=p5 k1 (p2 k1 e);omega) (fun e2=>p4 k1 e2.symm e)
  refine⟨fun k1=>F k1\/(Value.slice A4 (W.length+1) c4).ownBlock=some k1,?_,⟨oP,_,B4.out.dP 2 _,L4.far (p:=⟨g,2,none⟩) (fun e=>B4.out.jU L4 af e) _,?_,.inl p1,fun k1 e=>.inl (p2 k1 e),fun k1 e=>.inr e,?_,?_⟩,T5⟩
  ·rintro k1 (hf|e)
   ·exact .inl hf
   ·rcases NS k1 e with hf|hf
    ·exact .inl hf
    ·exact .inr ae
  ·have:=O4'.far (p:=⟨g,2,none⟩) ng3 (.slice A4 (W.length+1) c4)
   exact this
  ·intro k1 e e2
   rcases a4 with e3|e3
   ·exact p4 k1 (by rw[<-e3];exact e) e2
   ·rw[e3] at e;simp only[aO,bC] at e
    have:=p5 k1 (p2 k1 e2);omega
  ·intro k1 hk1
   rw[bZ]
   rcases hk1 with hf|e
   ·have:=p5 k1 hf;omega
   ·exact(O4'.lt k1 e).2
 have B5:=B4.out.dP 2 (.slice A4 (W.length+1) c4);have v0:=B5.cell 0;have v2:=B5.cell 2;simp only[aF,aG,aC,bP,List.set_cons_succ,List.set_cons_zero] at v0 v2;clear B5 s0 s2 u2 NL1 NR q2 r2 g4 a4;generalize w4.setCell ⟨g,2,none⟩ (.slice A4 (W.length+1) c4)=w5 at *;clear B4 O4 L1 B1 X1 HF1 T1 HD EN O1;have hok:jY (L++(W++[(a,n)])):=by
  rw[<-aS];exact HO.out.append (fun m hm=>by simp only[List.mem_singleton] at hm;subst hm;exact⟨a0,a1,n0⟩)
 have oN:=aB hok;have HT:Hid (tot (L++(W++[(a,n)]))=tot (L++W)+n):=by show _=_;simp only[dS,tot];omega
 clear hok
 by_cases hd:d<=(W.length:Int)+1
 ·have EL:Hid (gW d L W (a,n)=sF d (L++(W++[(a,n)]))/\ni d W (a,n)=[]):=by unfold gW ni;rw[if_pos hd,if_pos hd];exact⟨rfl,rfl⟩
  obtain⟨F1,f1,f2,f3⟩:=KF.out;have JF:L.length+(W++[(a,n)]).length<=100000000:=by simp only[aI,bK];omega
  have ht4:tot (L++(W++[(a,n)]))<=281474976710656:=by rw[HT.out];omega
  have PC:=aB (fun nq=>Ci g F1 d lo1 hi1 L (W++[(a,n)]) (w5.drewN nq) (f2.keep (below_drewN (aH _ _) nq)) oN.out JF ht4 ae d1)
  have T5:=aB f3;have F5:=aB f1;clear f1 f2 f3 JF ht4 KF
  go_quiet (fail)
  go_wp2_with fail;refine(PC.out _).mono ?_
  rintro e w6 ⟨rfl,F2,g1,g2,g3⟩;have G1:=aB g1;have G2:=aB g2;have G3:=aB g3;have hs5:=T5.out.size;clear g1 g2 g3
  go_wp2_with fail;refine bodyPost_ret (by simp[results,Tryz.results176,go_sem, *];try rfl) rfl ?_
  refine⟨rfl,F2,?_,?_,?_⟩
  ·intro k1 h1
   rcases G1.out k1 h1 with h2|h2
   ·exact F5.out k1 h2
   ·exact .inr (by rw[fG] at h2;omega)
  ·rw[hS.out]
   unfold yK;simp only;rw[EL.out.1,EL.out.2];exact G2.out
  ·exact(T5.out.drewN _).trans G3.out (fun i hi=>F5.out i hi)
 ·have EL:Hid (gW d L W (a,n)=L/\ni d W (a,n)=W++[(a,n)]):=by unfold gW ni;rw[if_neg hd,if_neg hd];exact⟨rfl,rfl⟩
  obtain⟨F1,f1,f2,f3⟩:=KF.out;have D5:=aB f2;have T5:=aB f3;have F5:=aB f1;clear f1 f2 f3 KF
  go_quiet (fail)
  go_wp2_with fail;refine bodyPost_ret (by simp[results,Tryz.results176,go_sem, *];try rfl) rfl ?_
  refine⟨rfl,F1,F5.out,?_,T5.out.drewN _⟩
  rw[hS.out];unfold yK;simp only;rw[EL.out.1,EL.out.2];exact D5.out.keep (below_drewN (aH _ _) _)
open Go.RowKit Go.Lib
end Go.Proofs.YtkiebccnpheloaaGreat
