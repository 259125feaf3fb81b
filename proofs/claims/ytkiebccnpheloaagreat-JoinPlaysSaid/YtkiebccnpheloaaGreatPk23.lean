/- Parts of a proof: what its theorem reaches, words cut short. No condition of its own. -/
import Derived.Test.YtkiebccnpheloaaGreatPk22
set_option maxRecDepth 100000
set_option maxHeartbeats 16000000
set_option linter.unusedVariables false
set_option linter.unusedSimpArgs false
namespace Go.Proofs.YtkiebccnpheloaaGreat.D
open Go.RowKit Go.Lib Go.Shelf
section
variable {y : Nat} {p1 p2 p3 p4 : Value} {w : World} {Q : Value -> World -> Prop}
theorem OD(hy:dH w y 117 #[.int .u8 1,p1,p2,p3,p4])(h:Calls Tryz.prog 64 #[.pointer (some ⟨y,0,none⟩)] w fun e w'=>∃v,e=.returned v/\Q v w') :
 Calls Tryz.prog 18 #[.pointer (some ⟨y,0,none⟩)] w fun e w'=>∃v,e=.returned v/\Q v w':=by
 have C:=aB h;have HY:=aB hy;clear h hy;have f0:=HY.out.cell 0;simp only[aF,aC,aG] at f0
 go_enter Tryz.func18,Tryz.ntmps18
 go_wp2_with fail;refine(C.out).mono ?_
 rintro e w1 ⟨v,rfl,hq⟩;have HQ:=aB hq;clear hq
 go_wp2_with fail
 go_ret;exact⟨_,rfl,HQ.out⟩
theorem OE(hy:dH w y 117 #[.int .u8 2,p1,p2,p3,p4])(h:Calls Tryz.prog 65 #[p2] w fun e w'=>∃v,e=.returned (.tuple #[v,.int .i64 0])/\Q v w') :
 Calls Tryz.prog 18 #[.pointer (some ⟨y,0,none⟩)] w fun e w'=>∃v,e=.returned v/\Q v w':=by
 have C:=aB h;have HY:=aB hy;clear h hy;have f0:=HY.out.cell 0;have f1:=HY.out.cell 2;simp only[aF,aC,aG] at f0 f1
 go_enter Tryz.func18,Tryz.ntmps18
 go_wp2_with fail;refine(C.out).mono ?_
 rintro e w1 ⟨v,rfl,hq⟩;have HQ:=aB hq;clear hq
 go_wp2_with fail
 go_ret;exact⟨_,rfl,HQ.out⟩
theorem OG(hy:dH w y 117 #[.int .u8 3,p1,p2,p3,p4])(h:Calls Tryz.prog 66 #[p3] w fun e w'=>∃v,e=.returned (.tuple #[v,.int .i64 0])/\Q v w') :
 Calls Tryz.prog 18 #[.pointer (some ⟨y,0,none⟩)] w fun e w'=>∃v,e=.returned v/\Q v w':=by
 have C:=aB h;have HY:=aB hy;clear h hy;have f0:=HY.out.cell 0;have f1:=HY.out.cell 3;simp only[aF,aC,aG] at f0 f1
 go_enter Tryz.func18,Tryz.ntmps18
 go_wp2_with fail;refine(C.out).mono ?_
 rintro e w1 ⟨v,rfl,hq⟩;have HQ:=aB hq;clear hq
 go_wp2_with fail
 go_ret;exact⟨_,rfl,HQ.out⟩
theorem OI(hy:dH w y 117 #[.int .u8 4,p1,p2,p3,p4])(h:Calls Tryz.prog 67 #[p4] w fun e w'=>∃v,e=.returned (.tuple #[v,.int .i64 0])/\Q v w') :
 Calls Tryz.prog 18 #[.pointer (some ⟨y,0,none⟩)] w fun e w'=>∃v,e=.returned v/\Q v w':=by
 have C:=aB h;have HY:=aB hy;clear h hy;have f0:=HY.out.cell 0;have f1:=HY.out.cell 4;simp only[aF,aC,aG] at f0 f1
 go_enter Tryz.func18,Tryz.ntmps18
 go_wp2_with fail;refine(C.out).mono ?_
 rintro e w1 ⟨v,rfl,hq⟩;have HQ:=aB hq;clear hq
 go_wp2_with fail
 go_ret;exact⟨_,rfl,HQ.out⟩
theorem Ua{a n c:Value}(hy:dH w y 117 #[.int .u8 1,p1,p2,p3,p4])(h:Calls Tryz.prog 131 #[p1,a,n] w fun e w'=>∃v,e=.returned v/\Q v w') :
 Calls Tryz.prog 56 #[.pointer (some ⟨y,0,none⟩),a,n,c] w fun e w'=>∃v,e=.returned v/\Q v w':=by
 have C:=aB h;have HY:=aB hy;clear h hy;have f0:=HY.out.cell 0;have f1:=HY.out.cell 1;simp only[aF,aC,aG] at f0 f1
 go_enter Tryz.func56,Tryz.ntmps56
 go_wp2_with fail;refine(C.out).mono ?_
 rintro e w1 ⟨v,rfl,hq⟩;have HQ:=aB hq;clear hq
 go_wp2_with fail
 go_ret;exact⟨_,rfl,HQ.out⟩
theorem Ub{a n c:Value}(hy:dH w y 117 #[.int .u8 2,p1,p2,p3,p4])(h:Calls Tryz.prog 132 #[p2,a,n] w fun e w'=>∃v,e=.returned v/\Q v w') :
 Calls Tryz.prog 56 #[.pointer (some ⟨y,0,none⟩),a,n,c] w fun e w'=>∃v,e=.returned v/\Q v w':=by
 have C:=aB h;have HY:=aB hy;clear h hy;have f0:=HY.out.cell 0;have f1:=HY.out.cell 2;simp only[aF,aC,aG] at f0 f1
 go_enter Tryz.func56,Tryz.ntmps56
 go_wp2_with fail;refine(C.out).mono ?_
 rintro e w1 ⟨v,rfl,hq⟩;have HQ:=aB hq;clear hq
 go_wp2_with fail
 go_ret;exact⟨_,rfl,HQ.out⟩
theorem Uc{a n c:Value}(hy:dH w y 117 #[.int .u8 3,p1,p2,p3,p4])(h:Calls Tryz.prog 133 #[p3,a,n] w fun e w'=>∃v,e=.returned v/\Q v w') :
 Calls Tryz.prog 56 #[.pointer (some ⟨y,0,none⟩),a,n,c] w fun e w'=>∃v,e=.returned v/\Q v w':=by
 have C:=aB h;have HY:=aB hy;clear h hy;have f0:=HY.out.cell 0;have f1:=HY.out.cell 3;simp only[aF,aC,aG] at f0 f1
 go_enter Tryz.func56,Tryz.ntmps56
 go_wp2_with fail;refine(C.out).mono ?_
 rintro e w1 ⟨v,rfl,hq⟩;have HQ:=aB hq;clear hq
 go_wp2_with fail
 go_ret;exact⟨_,rfl,HQ.out⟩
theorem Gt{a n c:Value}(hy:dH w y 117 #[.int .u8 4,p1,p2,p3,p4])(h:Calls Tryz.prog 134 #[p4,a,n,c] w fun e w'=>∃v,e=.returned v/\Q v w') :
 Calls Tryz.prog 56 #[.pointer (some ⟨y,0,none⟩),a,n,c] w fun e w'=>∃v,e=.returned v/\Q v w':=by
 have C:=aB h;have HY:=aB hy;clear h hy;have f0:=HY.out.cell 0;have f1:=HY.out.cell 4;simp only[aF,aC,aG] at f0 f1
 go_enter Tryz.func56,Tryz.ntmps56
 go_wp2_with fail;refine(C.out).mono ?_
 rintro e w1 ⟨v,rfl,hq⟩;have HQ:=aB hq;clear hq
 go_wp2_with fail
 go_ret;exact⟨_,rfl,HQ.out⟩
theorem KD(hy:dH w y 117 #[.int .u8 1,p1,p2,p3,p4])(h:Calls Tryz.prog 123 #[p1] w fun e w'=>∃v,e=.returned v/\Q v w') :
 Calls Tryz.prog 52 #[.pointer (some ⟨y,0,none⟩)] w fun e w'=>∃v,e=.returned v/\Q v w':=by
 have hmf:∀(fn:Fn) (first cap:Array Value) (w:World),(Instr.makeFunc fn first cap).run Tryz.prog w=.ok (.func fn first cap) w:=fun _ _ _ _=>rfl
 have C:=aB h;have HY:=aB hy;clear h hy;have f0:=HY.out.cell 0;have f1:=HY.out.cell 1;simp only[aF,aC,aG] at f0 f1
 go_enter Tryz.func52,Tryz.ntmps52
 go_wp2_with fail;refine(C.out).mono ?_
 rintro e w1 ⟨v,rfl,hq⟩;have HQ:=aB hq;clear hq
 go_wp2_with fail
 go_ret;exact⟨_,rfl,HQ.out⟩
theorem KE(hy:dH w y 117 #[.int .u8 2,p1,p2,p3,p4])(h:Calls Tryz.prog 124 #[p2] w fun e w'=>∃v,e=.returned v/\Q v w') :
 Calls Tryz.prog 52 #[.pointer (some ⟨y,0,none⟩)] w fun e w'=>∃v,e=.returned v/\Q v w':=by
 have hmf:∀(fn:Fn) (first cap:Array Value) (w:World),(Instr.makeFunc fn first cap).run Tryz.prog w=.ok (.func fn first cap) w:=fun _ _ _ _=>rfl
 have C:=aB h;have HY:=aB hy;clear h hy;have f0:=HY.out.cell 0;have f1:=HY.out.cell 2;simp only[aF,aC,aG] at f0 f1
 go_enter Tryz.func52,Tryz.ntmps52
 go_wp2_with fail;refine(C.out).mono ?_
 rintro e w1 ⟨v,rfl,hq⟩;have HQ:=aB hq;clear hq
 go_wp2_with fail
 go_ret;exact⟨_,rfl,HQ.out⟩
theorem KG(hy:dH w y 117 #[.int .u8 3,p1,p2,p3,p4])(h:Calls Tryz.prog 125 #[p3] w fun e w'=>∃v,e=.returned v/\Q v w') :
 Calls Tryz.prog 52 #[.pointer (some ⟨y,0,none⟩)] w fun e w'=>∃v,e=.returned v/\Q v w':=by
 have hmf:∀(fn:Fn) (first cap:Array Value) (w:World),(Instr.makeFunc fn first cap).run Tryz.prog w=.ok (.func fn first cap) w:=fun _ _ _ _=>rfl
 have C:=aB h;have HY:=aB hy;clear h hy;have f0:=HY.out.cell 0;have f1:=HY.out.cell 3;simp only[aF,aC,aG] at f0 f1
 go_enter Tryz.func52,Tryz.ntmps52
 go_wp2_with fail;refine(C.out).mono ?_
 rintro e w1 ⟨v,rfl,hq⟩;have HQ:=aB hq;clear hq
 go_wp2_with fail
 go_ret;exact⟨_,rfl,HQ.out⟩
theorem KH(hy:dH w y 117 #[.int .u8 4,p1,p2,p3,p4])(h:Calls Tryz.prog 126 #[p4] w fun e w'=>∃v,e=.returned v/\Q v w') :
 Calls Tryz.prog 52 #[.pointer (some ⟨y,0,none⟩)] w fun e w'=>∃v,e=.returned v/\Q v w':=by
 have hmf:∀(fn:Fn) (first cap:Array Value) (w:World),(Instr.makeFunc fn first cap).run Tryz.prog w=.ok (.func fn first cap) w:=fun _ _ _ _=>rfl
 have C:=aB h;have HY:=aB hy;clear h hy;have f0:=HY.out.cell 0;have f1:=HY.out.cell 4;simp only[aF,aC,aG] at f0 f1
 go_enter Tryz.func52,Tryz.ntmps52
 go_wp2_with fail;refine(C.out).mono ?_
 rintro e w1 ⟨v,rfl,hq⟩;have HQ:=aB hq;clear hq
 go_wp2_with fail
 go_ret;exact⟨_,rfl,HQ.out⟩
end
open Go.RowKit Go.Lib Go.Shelf
section
variable {y : Nat} {p1 p2 p3 p4 : Value} {w : World} {n : Int}
theorem vW(hy:dH w y 117 #[.int .u8 3,p1,p2,p3,p4])(h:∀w1,Below w.heap.size w w1->Calls Tryz.prog 72 #[p3] w1 fun e w'=>e=.returned (.int .i64 n)/\w1=w') :
 Calls Tryz.prog 19 #[.pointer (some ⟨y,0,none⟩)] w fun e w'=>e=.returned (gu 3 0 0 0 false 0 n)/\Below w.heap.size w w':=by
 have C:=aB h;have HY:=aB hy;have f0:=hy.cell 0;simp only[aF,aC,aG] at f0;clear h hy;unfold gu
 go_enter Tryz.func19,Tryz.ntmps19
 obtain⟨b,hbb⟩:∃b,w.heap.size=b:=⟨_,rfl⟩;obtain⟨w0,hw0⟩:∃z,w.alloc (.cells #[.int .u8 0,.int .i64 0,.int .i64 0,.int .i64 0,.bool false,.int .i64 0,.int .i64 0] 34)=z:=⟨_,rfl⟩;have hb0:Below w.heap.size w w0:=by rw[<-hw0];exact bw
 have B1:Hid (dH w0 b 34 #[.int .u8 0,.int .i64 0,.int .i64 0,.int .i64 0,.bool false,.int .i64 0,.int .i64 0]):=by rw[<-hw0,<-hbb];exact aB (dH.new _ _ _)
 have hz0:w0.heap.size=b+1:=by rw[<-hw0,<-hbb,aO]
 have o_:=aB hbb
 go_upto_region 1 with fail;clear hw0 hbb f0;have f0:=(HY.out.keep hb0).cell 0;simp only[aF,aC,aG] at f0;have HZ0:=aB hz0;clear hz0
 go_upto_region 2 with fail;obtain⟨w1,hw1⟩:∃z,w0.alloc (.cells #[.int .u8 3,.int .i64 0,.int .i64 0,.int .i64 0,.bool false,.int .i64 0,.int .i64 0] 34)=z:=⟨_,rfl⟩;have b01:Below w0.heap.size w0 w1:=by rw[<-hw1];exact bw
 have hb1:Below w.heap.size w w1:=hb0.trans (b01.mono hb0.size);have B2:Hid (dH w1 b 34 #[.int .u8 0,.int .i64 0,.int .i64 0,.int .i64 0,.bool false,.int .i64 0,.int .i64 0]):=aB (B1.out.keep b01);have B3:Hid (dH w1 (b+1) 34 #[.int .u8 3,.int .i64 0,.int .i64 0,.int .i64 0,.bool false,.int .i64 0,.int .i64 0]):=by rw[<-hw1,<-HZ0.out];exact aB (dH.new _ _ _)
 clear hb0 b01;rw[hw1];rw[HZ0.out];clear hw1 f0;have f0:=(HY.out.keep hb1).cell 0;have f1:=(HY.out.keep hb1).cell 3;have j0:=B3.out.cell 0;have j1:=B3.out.cell 1;have j2:=B3.out.cell 2;have j3:=B3.out.cell 3;have j4:=B3.out.cell 4;have j5:=B3.out.cell 5;have j6:=B3.out.cell 6;have z6:=B3.out.frozen 6;simp only[aF,aC,aG] at f0 f1 j0 j1 j2 j3 j4 j5 j6
 go_wp2_with fail;refine(C.out w1 hb1).mono ?_
 rintro e w' ⟨rfl,rfl⟩;obtain⟨w2,hw2⟩:∃z,w1.setCell ⟨b+1,6,none⟩ (.int .i64 n)=z:=⟨_,rfl⟩;have D3:Hid (dH w2 (b+1) 34 #[.int .u8 3,.int .i64 0,.int .i64 0,.int .i64 0,.bool false,.int .i64 0,.int .i64 n]):=by rw[<-hw2];exact aB (B3.out.dP 6 _)
 have D2:Hid (dH w2 b 34 #[.int .u8 0,.int .i64 0,.int .i64 0,.int .i64 0,.bool false,.int .i64 0,.int .i64 0]):=by rw[<-hw2];exact aB (B2.out.far (p:=⟨b+1,6,none⟩) ag _)
 have HB2:Hid (Below w.heap.size w w2):=by rw[<-hw2];exact aB (hb1.setCell (p:=⟨b+1,6,none⟩) (by have:=o_.out;show _<=b+1;omega) _)
 clear f0 f1
 go_upto_region 10 with fail;clear j0 j1 j2 j3 j4 j5 j6 z6 hw2;have j0:=D3.out.cell 0;have j1:=D3.out.cell 1;have j2:=D3.out.cell 2;have j3:=D3.out.cell 3;have j4:=D3.out.cell 4;have j5:=D3.out.cell 5;have j6:=D3.out.cell 6;simp only[aF,aC,aG] at j0 j1 j2 j3 j4 j5 j6;have y0:=D2.out.frozen 0;have y1:=D2.out.frozen 1;have y2:=D2.out.frozen 2;have y3:=D2.out.frozen 3;have y4:=D2.out.frozen 4;have y5:=D2.out.frozen 5;have y6:=D2.out.frozen 6;have x0:=D2.out.cell 0;have x1:=D2.out.cell 1;have x2:=D2.out.cell 2;have x3:=D2.out.cell 3;have x4:=D2.out.cell 4;have x5:=D2.out.cell 5;have x6:=D2.out.cell 6;simp only[aF,aC,aG] at x0 x1 x2 x3 x4 x5 x6
 go_wp2_with fail;have hlt:=D2.out.lt;have E:=((((((D2.out.dP 0 (.int .u8 3)).dP 1 (.int .i64 0)).dP 2 (.int .i64 0)).dP 3 (.int .i64 0)).dP 4 (.bool false)).dP 5 (.int .i64 0)).dP 6 (.int .i64 n);have c0:=E.cell 0;have c1:=E.cell 1;have c2:=E.cell 2;have c3:=E.cell 3;have c4:=E.cell 4;have c5:=E.cell 5;have c6:=E.cell 6;simp only[bP,List.set_cons_zero,List.set_cons_succ,aF,aC,aG] at c0 c1 c2 c3 c4 c5 c6;refine bodyPost_ret (by simp[results,Tryz.results19,go_sem, *];try rfl) rfl ?_
 have hbb:=o_.out;exact⟨rfl,((((((HB2.out.setCell (p:=⟨b,0,none⟩) (by show _<=b;omega) _).setCell (p:=⟨b,1,none⟩) (by show _<=b;omega) _).setCell (p:=⟨b,2,none⟩) (by show _<=b;omega) _).setCell (p:=⟨b,3,none⟩) (by show _<=b;omega) _).setCell (p:=⟨b,4,none⟩) (by show _<=b;omega) _).setCell (p:=⟨b,5,none⟩) (by show _<=b;omega) _).setCell (p:=⟨b,6,none⟩) (by show _<=b;omega) _⟩
theorem vX(hy:dH w y 117 #[.int .u8 4,p1,p2,p3,p4])(h:∀w1,Below w.heap.size w w1->Calls Tryz.prog 73 #[p4] w1 fun e w'=>e=.returned (.int .i64 n)/\w1=w') :
 Calls Tryz.prog 19 #[.pointer (some ⟨y,0,none⟩)] w fun e w'=>e=.returned (gu 4 0 0 0 false 0 n)/\Below w.heap.size w w':=by
 have C:=aB h;have HY:=aB hy;have f0:=hy.cell 0;simp only[aF,aC,aG] at f0;clear h hy;unfold gu
 go_enter Tryz.func19,Tryz.ntmps19
 obtain⟨b,hbb⟩:∃b,w.heap.size=b:=⟨_,rfl⟩;obtain⟨w0,hw0⟩:∃z,w.alloc (.cells #[.int .u8 0,.int .i64 0,.int .i64 0,.int .i64 0,.bool false,.int .i64 0,.int .i64 0] 34)=z:=⟨_,rfl⟩;have hb0:Below w.heap.size w w0:=by rw[<-hw0];exact bw
 have B1:Hid (dH w0 b 34 #[.int .u8 0,.int .i64 0,.int .i64 0,.int .i64 0,.bool false,.int .i64 0,.int .i64 0]):=by rw[<-hw0,<-hbb];exact aB (dH.new _ _ _)
 have hz0:w0.heap.size=b+1:=by rw[<-hw0,<-hbb,aO]
 have o_:=aB hbb
 go_upto_region 1 with fail;clear hw0 hbb f0;have f0:=(HY.out.keep hb0).cell 0;simp only[aF,aC,aG] at f0;have HZ0:=aB hz0;clear hz0
 go_upto_region 2 with fail;obtain⟨w1,hw1⟩:∃z,w0.alloc (.cells #[.int .u8 4,.int .i64 0,.int .i64 0,.int .i64 0,.bool false,.int .i64 0,.int .i64 0] 34)=z:=⟨_,rfl⟩;have b01:Below w0.heap.size w0 w1:=by rw[<-hw1];exact bw
 have hb1:Below w.heap.size w w1:=hb0.trans (b01.mono hb0.size);have B2:Hid (dH w1 b 34 #[.int .u8 0,.int .i64 0,.int .i64 0,.int .i64 0,.bool false,.int .i64 0,.int .i64 0]):=aB (B1.out.keep b01);have B3:Hid (dH w1 (b+1) 34 #[.int .u8 4,.int .i64 0,.int .i64 0,.int .i64 0,.bool false,.int .i64 0,.int .i64 0]):=by rw[<-hw1,<-HZ0.out];exact aB (dH.new _ _ _)
 clear hb0 b01;rw[hw1];rw[HZ0.out];clear hw1 f0;have f0:=(HY.out.keep hb1).cell 0;have f1:=(HY.out.keep hb1).cell 4;have j0:=B3.out.cell 0;have j1:=B3.out.cell 1;have j2:=B3.out.cell 2;have j3:=B3.out.cell 3;have j4:=B3.out.cell 4;have j5:=B3.out.cell 5;have j6:=B3.out.cell 6;have z6:=B3.out.frozen 6;simp only[aF,aC,aG] at f0 f1 j0 j1 j2 j3 j4 j5 j6
 go_wp2_with fail;refine(C.out w1 hb1).mono ?_
 rintro e w' ⟨rfl,rfl⟩;obtain⟨w2,hw2⟩:∃z,w1.setCell ⟨b+1,6,none⟩ (.int .i64 n)=z:=⟨_,rfl⟩;have D3:Hid (dH w2 (b+1) 34 #[.int .u8 4,.int .i64 0,.int .i64 0,.int .i64 0,.bool false,.int .i64 0,.int .i64 n]):=by rw[<-hw2];exact aB (B3.out.dP 6 _)
 have D2:Hid (dH w2 b 34 #[.int .u8 0,.int .i64 0,.int .i64 0,.int .i64 0,.bool false,.int .i64 0,.int .i64 0]):=by rw[<-hw2];exact aB (B2.out.far (p:=⟨b+1,6,none⟩) ag _)
 have HB2:Hid (Below w.heap.size w w2):=by rw[<-hw2];exact aB (hb1.setCell (p:=⟨b+1,6,none⟩) (by have:=o_.out;show _<=b+1;omega) _)
 clear f0 f1
 go_upto_region 10 with fail;clear j0 j1 j2 j3 j4 j5 j6 z6 hw2;have j0:=D3.out.cell 0;have j1:=D3.out.cell 1;have j2:=D3.out.cell 2;have j3:=D3.out.cell 3;have j4:=D3.out.cell 4;have j5:=D3.out.cell 5;have j6:=D3.out.cell 6;simp only[aF,aC,aG] at j0 j1 j2 j3 j4 j5 j6;have y0:=D2.out.frozen 0;have y1:=D2.out.frozen 1;have y2:=D2.out.frozen 2;have y3:=D2.out.frozen 3;have y4:=D2.out.frozen 4;have y5:=D2.out.frozen 5;have y6:=D2.out.frozen 6;have x0:=D2.out.cell 0;have x1:=D2.out.cell 1;have x2:=D2.out.cell 2;have x3:=D2.out.cell 3;have x4:=D2.out.cell 4;have x5:=D2.out.cell 5;have x6:=D2.out.cell 6;simp only[aF,aC,aG] at x0 x1 x2 x3 x4 x5 x6
 go_wp2_with fail;have hlt:=D2.out.lt;have E:=((((((D2.out.dP 0 (.int .u8 4)).dP 1 (.int .i64 0)).dP 2 (.int .i64 0)).dP 3 (.int .i64 0)).dP 4 (.bool false)).dP 5 (.int .i64 0)).dP 6 (.int .i64 n);have c0:=E.cell 0;have c1:=E.cell 1;have c2:=E.cell 2;have c3:=E.cell 3;have c4:=E.cell 4;have c5:=E.cell 5;have c6:=E.cell 6;simp only[bP,List.set_cons_zero,List.set_cons_succ,aF,aC,aG] at c0 c1 c2 c3 c4 c5 c6;refine bodyPost_ret (by simp[results,Tryz.results19,go_sem, *];try rfl) rfl ?_
 have hbb:=o_.out;exact⟨rfl,((((((HB2.out.setCell (p:=⟨b,0,none⟩) (by show _<=b;omega) _).setCell (p:=⟨b,1,none⟩) (by show _<=b;omega) _).setCell (p:=⟨b,2,none⟩) (by show _<=b;omega) _).setCell (p:=⟨b,3,none⟩) (by show _<=b;omega) _).setCell (p:=⟨b,4,none⟩) (by show _<=b;omega) _).setCell (p:=⟨b,5,none⟩) (by show _<=b;omega) _).setCell (p:=⟨b,6,none⟩) (by show _<=b;omega) _⟩
end
open Go.RowKit Go.Lib Go.Shelf
section
variable {y : Nat} {p1 p2 p3 p4 : Value} {w : World} {a n : Int}
theorem vY(hy:dH w y 117 #[.int .u8 2,p1,p2,p3,p4])(h:∀w1,Below w.heap.size w w1->Calls Tryz.prog 70 #[p2] w1 fun e w'=>e=.returned (.int .i64 a)/\w1=w')(h':∀w1,Below w.heap.size w w1->Calls Tryz.prog 71 #[p2] w1 fun e w'=>e=.returned (.int .i64 n)/\w1=w') :
 Calls Tryz.prog 19 #[.pointer (some ⟨y,0,none⟩)] w fun e w'=>e=.returned (gu 2 0 0 0 false a n)/\Below w.heap.size w w':=by
 have C:=aB h;have C':=aB h';have HY:=aB hy;have f0:=hy.cell 0;simp only[aF,aC,aG] at f0;clear h h' hy;unfold gu
 go_enter Tryz.func19,Tryz.ntmps19
 obtain⟨b,hbb⟩:∃b,w.heap.size=b:=⟨_,rfl⟩;obtain⟨w0,hw0⟩:∃z,w.alloc (.cells #[.int .u8 0,.int .i64 0,.int .i64 0,.int .i64 0,.bool false,.int .i64 0,.int .i64 0] 34)=z:=⟨_,rfl⟩;have hb0:Below w.heap.size w w0:=by rw[<-hw0];exact bw
 have B1:Hid (dH w0 b 34 #[.int .u8 0,.int .i64 0,.int .i64 0,.int .i64 0,.bool false,.int .i64 0,.int .i64 0]):=by rw[<-hw0,<-hbb];exact aB (dH.new _ _ _)
 have hz0:w0.heap.size=b+1:=by rw[<-hw0,<-hbb,aO]
 have o_:=aB hbb
 go_upto_region 1 with fail;clear hw0 hbb f0;have f0:=(HY.out.keep hb0).cell 0;simp only[aF,aC,aG] at f0;have HZ0:=aB hz0;clear hz0
 go_upto_region 2 with fail;obtain⟨w1,hw1⟩:∃z,w0.alloc (.cells #[.int .u8 2,.int .i64 0,.int .i64 0,.int .i64 0,.bool false,.int .i64 0,.int .i64 0] 34)=z:=⟨_,rfl⟩;have b01:Below w0.heap.size w0 w1:=by rw[<-hw1];exact bw
 have hb1:Below w.heap.size w w1:=hb0.trans (b01.mono hb0.size);have B2:Hid (dH w1 b 34 #[.int .u8 0,.int .i64 0,.int .i64 0,.int .i64 0,.bool false,.int .i64 0,.int .i64 0]):=aB (B1.out.keep b01);have B3:Hid (dH w1 (b+1) 34 #[.int .u8 2,.int .i64 0,.int .i64 0,.int .i64 0,.bool false,.int .i64 0,.int .i64 0]):=by rw[<-hw1,<-HZ0.out];exact aB (dH.new _ _ _)
 clear hb0 b01;rw[hw1];rw[HZ0.out];clear hw1 f0;have f0:=(HY.out.keep hb1).cell 0;have f1:=(HY.out.keep hb1).cell 2;simp only[aF,aC,aG] at f0 f1;have FY:=aB f1;have ly:y<w1.heap.size:=(HY.out.keep hb1).lt;have ny:¬(y=b+1):=by have:=HY.out.lt;have:=o_.out;omega
 have Bd:Below w1.heap.size w1 w1.drew:=(aH _ _).drew;have bd:Below w.heap.size w w1.drew:=hb1.drew;have T0:Touch (fun k=>k=b+1) w1 w1.drew:=(Touch.refl _ w1).drew
 have G3:=aB (B3.out.keep Bd);have G2:=aB (B2.out.keep Bd);clear f1
 go_upto_region 7 with fail;refine dD (Touch (fun k=>k=b+1) w1) [(0,true),(1,true),(2,true),(3,true),(5,true),(6,true),(7,true),(8,true),(4,false),(10,true),(9,false),(11,false),(12,true),(13,false)] (by kernel_rfl) (by kernel_rfl) (T0) ?_
 iterate 8
  refine dC ax  ax (fun R hR=>?_)
  apply aJ
  refine⟨fun w' hS'=>?_,?_⟩
  ·have f1:=(eG hS' 2 ly ny).trans FY.out
   go_simp;exact⟨rfl,rfl⟩
  go_simp;refine hR _ ?_;clear hR R
 refine dE ax  ax (fun K hK=>?_)
 go_simp;refine(C.out w1.drew bd).mono ?_
 rintro e w' ⟨rfl,rfl⟩;refine hK _ _ (T0) ?_
 clear hK K
 iterate 1
  refine dC ax  ax (fun R hR=>?_)
  apply aJ
  refine⟨fun w' hS'=>?_,?_⟩
  ·have f1:=(eG hS' 2 ly ny).trans FY.out
   go_simp;exact⟨rfl,rfl⟩
  go_simp;refine hR _ ?_;clear hR R
 refine dE ax  ax (fun K hK=>?_)
 go_simp;refine(C'.out w1.drew bd).mono ?_
 rintro e w' ⟨rfl,rfl⟩;refine hK _ _ (T0) ?_
 clear hK K;refine dE ax  ax (fun K hK=>?_)
 have y5:=G3.out.frozen 5;have x5:=G3.out.cell 5;simp only[aF,aC,aG] at x5
 go_simp;have T5:Touch (fun k=>k=b+1) w1 ((w1.setCell ⟨b+1,5,none⟩ (.int .i64 a)).drew):=((show Touch (fun k=>k=b+1) w1 w1 from Touch.refl _ w1).setCell (p:=⟨b+1,5,none⟩) (.inl rfl) _).drew
 have G5:=aB ((B3.out.dP 5 (.int .i64 a)).keep ((aH _ _).drew));clear y5 x5;refine hK _ _ (T5) ?_
 clear hK K
 iterate 1
  refine dC ax  ax (fun R hR=>?_)
  apply aJ
  refine⟨fun w' hS'=>?_,?_⟩
  ·have f1:=(eG hS' 2 ly ny).trans FY.out
   go_simp;exact⟨rfl,rfl⟩
  go_simp;refine hR _ ?_;clear hR R
 refine dE ax  ax (fun K hK=>?_)
 have y6:=G5.out.frozen 6;have x6:=G5.out.cell 6;simp only[bP,List.set_cons_zero,List.set_cons_succ,aF,aC,aG] at x6
 go_simp;have T6:Touch (fun k=>k=b+1) w1 (((w1.setCell ⟨b+1,5,none⟩ (.int .i64 a)).setCell ⟨b+1,6,none⟩ (.int .i64 n)).drew):=(((show Touch (fun k=>k=b+1) w1 w1 from Touch.refl _ w1).setCell (p:=⟨b+1,5,none⟩) (.inl rfl) _).setCell (p:=⟨b+1,6,none⟩) (.inl rfl) _).drew
 clear y6 x6;refine hK _ _ (T6) ?_
 clear hK K;refine dF ?_
 obtain⟨w2,hw2⟩:∃z,(((w1.setCell ⟨b+1,5,none⟩ (.int .i64 a)).setCell ⟨b+1,6,none⟩ (.int .i64 n)).drew)=z:=⟨_,rfl⟩;have D3:Hid (dH w2 (b+1) 34 #[.int .u8 2,.int .i64 0,.int .i64 0,.int .i64 0,.bool false,.int .i64 a,.int .i64 n]):=by rw[<-hw2];exact aB (((B3.out.dP 5 _).dP 6 _).keep ((aH _ _).drew))
 have D2:Hid (dH w2 b 34 #[.int .u8 0,.int .i64 0,.int .i64 0,.int .i64 0,.bool false,.int .i64 0,.int .i64 0]):=by rw[<-hw2];exact aB (((B2.out.far (p:=⟨b+1,5,none⟩) ag _).far (p:=⟨b+1,6,none⟩) ag _).keep ((aH _ _).drew))
 have HB2:Hid (Below w.heap.size w w2):=by rw[<-hw2];exact aB (((hb1.setCell (p:=⟨b+1,5,none⟩) (by have:=o_.out;show _<=b+1;omega) _).setCell (p:=⟨b+1,6,none⟩) (by have:=o_.out;show _<=b+1;omega) _).drew)
 try rw[hw2]
 clear f0 T0 T5 T6 Bd bd
 go_upto_region 10 with fail;clear hw2;have j0:=D3.out.cell 0;have j1:=D3.out.cell 1;have j2:=D3.out.cell 2;have j3:=D3.out.cell 3;have j4:=D3.out.cell 4;have j5:=D3.out.cell 5;have j6:=D3.out.cell 6;simp only[aF,aC,aG] at j0 j1 j2 j3 j4 j5 j6;have y0:=D2.out.frozen 0;have y1:=D2.out.frozen 1;have y2:=D2.out.frozen 2;have y3:=D2.out.frozen 3;have y4:=D2.out.frozen 4;have y5:=D2.out.frozen 5;have y6:=D2.out.frozen 6;have x0:=D2.out.cell 0;have x1:=D2.out.cell 1;have x2:=D2.out.cell 2;have x3:=D2.out.cell 3;have x4:=D2.out.cell 4;have x5:=D2.out.cell 5;have x6:=D2.out.cell 6;simp only[aF,aC,aG] at x0 x1 x2 x3 x4 x5 x6
 go_wp2_with fail;have hlt:=D2.out.lt;have E:=((((((D2.out.dP 0 (.int .u8 2)).dP 1 (.int .i64 0)).dP 2 (.int .i64 0)).dP 3 (.int .i64 0)).dP 4 (.bool false)).dP 5 (.int .i64 a)).dP 6 (.int .i64 n);have c0:=E.cell 0;have c1:=E.cell 1;have c2:=E.cell 2;have c3:=E.cell 3;have c4:=E.cell 4;have c5:=E.cell 5;have c6:=E.cell 6;simp only[bP,List.set_cons_zero,List.set_cons_succ,aF,aC,aG] at c0 c1 c2 c3 c4 c5 c6;refine bodyPost_ret (by simp[results,Tryz.results19,go_sem, *];try rfl) rfl ?_
 have hbb:=o_.out;exact⟨rfl,((((((HB2.out.setCell (p:=⟨b,0,none⟩) (by show _<=b;omega) _).setCell (p:=⟨b,1,none⟩) (by show _<=b;omega) _).setCell (p:=⟨b,2,none⟩) (by show _<=b;omega) _).setCell (p:=⟨b,3,none⟩) (by show _<=b;omega) _).setCell (p:=⟨b,4,none⟩) (by show _<=b;omega) _).setCell (p:=⟨b,5,none⟩) (by show _<=b;omega) _).setCell (p:=⟨b,6,none⟩) (by show _<=b;omega) _⟩
end
open Go.RowKit Go.Lib Go.Shelf
theorem DC(k:Int)(w:World)(h1:1<=k)(h4:k<=4):Calls Tryz.prog 57 #[.int .u8 k] w fun e w'=>e=.returned (.bool true)/\w=w':=by
 go_enter Tryz.func57,Tryz.ntmps57
 go_wp2_with fail
 go_ret;exact⟨rfl,rfl⟩
open Go.RowKit Go.Lib Go.Shelf
section
variable {y : Nat} {p1 p2 p3 p4 : Value} {w : World} {lo hi dg : Int} {gr : Bool}
theorem vZ(hy:dH w y 117 #[.int .u8 1,p1,p2,p3,p4])(h:∀w1,Below w.heap.size w w1->Calls Tryz.prog 68 #[p1] w1 fun e w'=>e=.returned (.agg #[.int .i64 lo,.int .i64 hi,.int .i64 dg])/\Below w1.heap.size w1 w')(h':∀w1,Below w.heap.size w w1->Calls Tryz.prog 69 #[p1] w1 fun e w'=>e=.returned (.bool gr)/\w1=w') :
 Calls Tryz.prog 19 #[.pointer (some ⟨y,0,none⟩)] w fun e w'=>e=.returned (gu 1 lo hi dg gr 0 0)/\Below w.heap.size w w':=by
 have C:=aB h;have C':=aB h';have HY:=aB hy;have f0:=hy.cell 0;simp only[aF,aC,aG] at f0;clear h h' hy;unfold gu
 go_enter Tryz.func19,Tryz.ntmps19
 obtain⟨b,hbb⟩:∃b,w.heap.size=b:=⟨_,rfl⟩;obtain⟨w0,hw0⟩:∃z,w.alloc (.cells #[.int .u8 0,.int .i64 0,.int .i64 0,.int .i64 0,.bool false,.int .i64 0,.int .i64 0] 34)=z:=⟨_,rfl⟩;have hb0:Below w.heap.size w w0:=by rw[<-hw0];exact bw
 have B1:Hid (dH w0 b 34 #[.int .u8 0,.int .i64 0,.int .i64 0,.int .i64 0,.bool false,.int .i64 0,.int .i64 0]):=by rw[<-hw0,<-hbb];exact aB (dH.new _ _ _)
 have hz0:w0.heap.size=b+1:=by rw[<-hw0,<-hbb,aO]
 have o_:=aB hbb
 go_upto_region 1 with fail;clear hw0 hbb f0;have f0:=(HY.out.keep hb0).cell 0;simp only[aF,aC,aG] at f0;have HZ0:=aB hz0;clear hz0
 go_upto_region 2 with fail;obtain⟨w1,hw1⟩:∃z,w0.alloc (.cells #[.int .u8 1,.int .i64 0,.int .i64 0,.int .i64 0,.bool false,.int .i64 0,.int .i64 0] 34)=z:=⟨_,rfl⟩;have b01:Below w0.heap.size w0 w1:=by rw[<-hw1];exact bw
 have hb1:Below w.heap.size w w1:=hb0.trans (b01.mono hb0.size);have B2:Hid (dH w1 b 34 #[.int .u8 0,.int .i64 0,.int .i64 0,.int .i64 0,.bool false,.int .i64 0,.int .i64 0]):=aB (B1.out.keep b01);have B3:Hid (dH w1 (b+1) 34 #[.int .u8 1,.int .i64 0,.int .i64 0,.int .i64 0,.bool false,.int .i64 0,.int .i64 0]):=by rw[<-hw1,<-HZ0.out];exact aB (dH.new _ _ _)
 clear hb0 b01;rw[hw1];rw[HZ0.out];clear hw1 f0;have f0:=(HY.out.keep hb1).cell 0;have f1:=(HY.out.keep hb1).cell 1;simp only[aF,aC,aG] at f0 f1;have FY:=aB f1;have ly:y<w1.heap.size:=(HY.out.keep hb1).lt;have ny:¬(y=b+1):=by have:=HY.out.lt;have:=o_.out;omega
 have Bd:Below w1.heap.size w1 w1.drew:=(aH _ _).drew;have bd:Below w.heap.size w w1.drew:=hb1.drew;have T0:Touch (fun k=>k=b+1) w1 w1.drew:=(Touch.refl _ w1).drew
 clear f1
 go_upto_region 5 with fail;refine dD (Touch (fun k=>k=b+1) w1) [(0,true),(1,true),(2,true),(3,true),(5,true),(6,true),(7,true),(8,true),(4,false),(10,true),(9,false),(11,false),(12,true),(13,false)] (by kernel_rfl) (by kernel_rfl) (T0) ?_
 iterate 8
  refine dC ax  ax (fun R hR=>?_)
  apply aJ
  refine⟨fun w' hS'=>?_,?_⟩
  ·have f1:=(eG hS' 1 ly ny).trans FY.out
   go_simp;exact⟨rfl,rfl⟩
  go_simp;refine hR _ ?_;clear hR R
 refine dE ax  ax (fun K hK=>?_)
 go_simp;refine(C.out w1.drew bd).mono ?_
 rintro e ws ⟨rfl,hbs⟩;have Bs:Below w1.heap.size w1 ws:=Bd.trans hbs;have Ts:Touch (fun k=>k=b+1) w1 ws:=Touch.of_below Bs (aK _)
 have G3:=aB (B3.out.keep Bs);have G2:=aB (B2.out.keep Bs);have bs:Below w.heap.size w ws:=hb1.trans (Bs.mono hb1.size);refine hK _ _ (Ts) ?_
 clear hK K
 iterate 1
  refine dC ax  ax (fun R hR=>?_)
  apply aJ
  refine⟨fun w' hS'=>?_,?_⟩
  ·have f1:=(eG hS' 1 ly ny).trans FY.out
   go_simp;exact⟨rfl,rfl⟩
  go_simp;refine hR _ ?_;clear hR R
 refine dE ax  ax (fun K hK=>?_)
 go_simp;refine(C'.out ws bs).mono ?_
 rintro e w' ⟨rfl,rfl⟩;refine hK _ _ (Ts) ?_
 clear hK K;refine dE ax  ax (fun K hK=>?_)
 have y1:=G3.out.frozen 1;have x1:=G3.out.cell 1;have y2:=G3.out.frozen 2;have x2:=G3.out.cell 2;have y3:=G3.out.frozen 3;have x3:=G3.out.cell 3;simp only[aF,aC,aG] at x1 x2 x3
 go_simp;have T5:Touch (fun k=>k=b+1) w1 (((ws.setCell ⟨b+1,1,none⟩ (.int .i64 lo)).setCell ⟨b+1,2,none⟩ (.int .i64 hi)).setCell ⟨b+1,3,none⟩ (.int .i64 dg)):=((Ts.setCell (p:=⟨b+1,1,none⟩) (.inl rfl) _).setCell (p:=⟨b+1,2,none⟩) (.inl rfl) _).setCell (p:=⟨b+1,3,none⟩) (.inl rfl) _
 have G5:=aB (((G3.out.dP 1 (.int .i64 lo)).dP 2 (.int .i64 hi)).dP 3 (.int .i64 dg));clear y1 x1 y2 x2 y3 x3;refine hK _ _ (T5) ?_
 clear hK K
 iterate 1
  refine dC ax  ax (fun R hR=>?_)
  apply aJ
  refine⟨fun w' hS'=>?_,?_⟩
  ·have f1:=(eG hS' 1 ly ny).trans FY.out
   go_simp;exact⟨rfl,rfl⟩
  go_simp;refine hR _ ?_;clear hR R
 refine dE ax  ax (fun K hK=>?_)
 have y4:=G5.out.frozen 4;have x4:=G5.out.cell 4;simp only[bP,List.set_cons_zero,List.set_cons_succ,aF,aC,aG] at x4
 go_simp;have T6:Touch (fun k=>k=b+1) w1 ((((ws.setCell ⟨b+1,1,none⟩ (.int .i64 lo)).setCell ⟨b+1,2,none⟩ (.int .i64 hi)).setCell ⟨b+1,3,none⟩ (.int .i64 dg)).setCell ⟨b+1,4,none⟩ (.bool gr)):=T5.setCell (p:=⟨b+1,4,none⟩) (.inl rfl) _
 clear y4 x4;refine hK _ _ (T6) ?_
 clear hK K;refine dF ?_
 obtain⟨w2,hw2⟩:∃z,(((ws.setCell ⟨b+1,1,none⟩ (.int .i64 lo)).setCell ⟨b+1,2,none⟩ (.int .i64 hi)).setCell ⟨b+1,3,none⟩ (.int .i64 dg)).setCell ⟨b+1,4,none⟩ (.bool gr)=z:=⟨_,rfl⟩;have D3:Hid (dH w2 (b+1) 34 #[.int .u8 1,.int .i64 lo,.int .i64 hi,.int .i64 dg,.bool gr,.int .i64 0,.int .i64 0]):=by rw[<-hw2];exact aB (G5.out.dP 4 _)
 have D2:Hid (dH w2 b 34 #[.int .u8 0,.int .i64 0,.int .i64 0,.int .i64 0,.bool false,.int .i64 0,.int .i64 0]):=by rw[<-hw2];exact aB ((((G2.out.far (p:=⟨b+1,1,none⟩) ag _).far (p:=⟨b+1,2,none⟩) ag _).far (p:=⟨b+1,3,none⟩) ag _).far (p:=⟨b+1,4,none⟩) ag _)
 have hbx:w.heap.size<=b+1:=by have:=o_.out;omega
 have HB2:Hid (Below w.heap.size w w2):=by rw[<-hw2];exact aB ((((bs.setCell (p:=⟨b+1,1,none⟩) hbx _).setCell (p:=⟨b+1,2,none⟩) hbx _).setCell (p:=⟨b+1,3,none⟩) hbx _).setCell (p:=⟨b+1,4,none⟩) hbx _)
 try rw[hw2]
 clear f0 T0 T5 T6 Ts Bd bd
 go_upto_region 10 with fail;clear hw2;have j0:=D3.out.cell 0;have j1:=D3.out.cell 1;have j2:=D3.out.cell 2;have j3:=D3.out.cell 3;have j4:=D3.out.cell 4;have j5:=D3.out.cell 5;have j6:=D3.out.cell 6;simp only[aF,aC,aG] at j0 j1 j2 j3 j4 j5 j6;have y0:=D2.out.frozen 0;have y1:=D2.out.frozen 1;have y2:=D2.out.frozen 2;have y3:=D2.out.frozen 3;have y4:=D2.out.frozen 4;have y5:=D2.out.frozen 5;have y6:=D2.out.frozen 6;have x0:=D2.out.cell 0;have x1:=D2.out.cell 1;have x2:=D2.out.cell 2;have x3:=D2.out.cell 3;have x4:=D2.out.cell 4;have x5:=D2.out.cell 5;have x6:=D2.out.cell 6;simp only[aF,aC,aG] at x0 x1 x2 x3 x4 x5 x6
 go_wp2_with fail;have hlt:=D2.out.lt;have E:=((((((D2.out.dP 0 (.int .u8 1)).dP 1 (.int .i64 lo)).dP 2 (.int .i64 hi)).dP 3 (.int .i64 dg)).dP 4 (.bool gr)).dP 5 (.int .i64 0)).dP 6 (.int .i64 0);have c0:=E.cell 0;have c1:=E.cell 1;have c2:=E.cell 2;have c3:=E.cell 3;have c4:=E.cell 4;have c5:=E.cell 5;have c6:=E.cell 6;simp only[bP,List.set_cons_zero,List.set_cons_succ,aF,aC,aG] at c0 c1 c2 c3 c4 c5 c6;refine bodyPost_ret (by simp[results,Tryz.results19,go_sem, *];try rfl) rfl ?_
 have hbb:=o_.out;exact⟨rfl,((((((HB2.out.setCell (p:=⟨b,0,none⟩) (by show _<=b;omega) _).setCell (p:=⟨b,1,none⟩) (by show _<=b;omega) _).setCell (p:=⟨b,2,none⟩) (by show _<=b;omega) _).setCell (p:=⟨b,3,none⟩) (by show _<=b;omega) _).setCell (p:=⟨b,4,none⟩) (by show _<=b;omega) _).setCell (p:=⟨b,5,none⟩) (by show _<=b;omega) _).setCell (p:=⟨b,6,none⟩) (by show _<=b;omega) _⟩
end
open Go.RowKit Go.Lib Go.Shelf
section
variable {x y : Nat} {p1 p2 p3 p4 q1 q2 q3 q4 c : Value} {w : World} {n : Int} {Q : Value -> World -> Prop}
theorem OJ(hy:dH w y 117 #[.int .u8 3,p1,p2,p3,p4])(hx:dH w x 117 #[.int .u8 3,q1,q2,q3,q4])
 (h:∀w1,Below w.heap.size w w1->Calls Tryz.prog 72 #[p3] w1 fun e w'=>e=.returned (.int .i64 n)/\w1=w')
 (h':∀w1,Below w.heap.size w w1->Calls Tryz.prog 72 #[q3] w1 fun e w'=>e=.returned (.int .i64 n)/\w1=w')
 (ht:∀w1,Below w.heap.size w w1->Calls Tryz.prog 77 #[p3,q3] w1 fun e w'=>∃v,e=.returned v/\Q v w') :
 Calls Tryz.prog 22 #[.pointer (some ⟨y,0,none⟩),.pointer (some ⟨x,0,none⟩),c] w fun e w'=>∃v,e=.returned v/\Q v w':=by
 have C1:Hid (∀w1,Below w.heap.size w w1->_):=aB (fun w1 hb=>vW (hx.keep hb) (fun w2 hb2=>h' w2 (hb.trans (hb2.mono hb.size))))
 have C2:Hid (∀w1,Below w.heap.size w w1->_):=aB (fun w1 hb=>vW (hy.keep hb) (fun w2 hb2=>h w2 (hb.trans (hb2.mono hb.size))))
 have C3:=aB ht;have HY:=aB hy;have HX:=aB hx;clear h h' ht hy hx;unfold gu at C1 C2
 go_enter Tryz.func22,Tryz.ntmps22
 go_wp2_with fail;refine(C1.out w (aH _ _)).mono ?_
 rintro e w1 ⟨rfl,hb1⟩
 go_wp2_with fail;refine(C2.out w1 hb1).mono ?_
 rintro e w2 ⟨rfl,hb2⟩;have hb:=hb1.trans (hb2.mono hb1.size);have f0:=(HY.out.keep hb).cell 0;have f3:=(HY.out.keep hb).cell 3;have g3:=(HX.out.keep hb).cell 3;simp only[aF,aC,aG] at f0 f3 g3;have FF:=aB (aN f3 g3);have Bd:Below w2.heap.size w2 w2.drew:=(aH _ _).drew;have l2:=(HY.out.keep hb).lt;have m2:=(HX.out.keep hb).lt;have hbd:Below w.heap.size w w2.drew:=hb.drew
 go_upto_region 11 with fail;clear f3 g3;refine dJ (fun w'=>w'=w2.drew) 8 [(0,true),(1,true),(2,true),(3,true),(4,true),(5,true),(6,true),(7,true)] (by kernel_rfl) (by kernel_rfl) (rfl) ?_
 iterate 8
  refine dK ax  ax (fun R hR=>?_)
  apply aJ
  refine⟨fun w' hS'=>?_,?_⟩
  ·have f3:w2.drew.cell? ⟨y,3,none⟩=some p3:=FF.out.1
   have g3:w2.drew.cell? ⟨x,3,none⟩=some q3:=FF.out.2;subst hS'
   go_simp;exact⟨rfl,rfl⟩
  go_simp;refine hR _ ?_;clear hR R
 refine dQ ?_
 simp only[bD,bQ]
 go_wp2_with fail;refine(C3.out w2.drew hbd).mono ?_
 rintro e w3 ⟨v,rfl,hq⟩;have HQ:=aB hq;clear hq
 go_wp2_with fail;try refine dO ?_
 go_wp2_with fail
 go_ret;exact⟨_,rfl,HQ.out⟩
end
end Go.Proofs.YtkiebccnpheloaaGreat.D
