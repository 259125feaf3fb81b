/- Parts of a proof: what its theorem reaches, words cut short. No condition of its own. -/
import Derived.Test.YtkiebccnpheloaaGreatPk31
set_option maxRecDepth 100000
set_option maxHeartbeats 16000000
set_option linter.unusedVariables false
set_option linter.unusedSimpArgs false
namespace Go.Proofs.YtkiebccnpheloaaGreat.D
open Go.RowKit Go.Lib Go.Shelf
def grN:Bool->Int
 | true=>1
 | false=>0
theorem Yd(gr:Bool):(gr=true/\grN gr=1)\/(gr=false/\grN gr=0):=by cases gr<;>simp[grN]
def hjB(lo hi dg R:Int)(gr:Bool)(l:List Pr):List Int:=jE lo hi dg (grN gr) 4++hwB lo R dg l
theorem La{y x lo hi dg u m bk:Nat}{gr:Bool}{l:List Pr}{F:Ft}{kd p2 p3 p4:Value}(w:World)(hy:dH w y 117 #[kd,.pointer (some ⟨x,0,none⟩),p2,p3,p4])(h:ry x lo hi dg u m gr bk l F w)(ok:jo lo hi dg u m gr bk l) :
 Calls Tryz.prog 64 #[.pointer (some ⟨y,0,none⟩)] w fun e w'=>∃v,e=.returned v/\OwnB w.heap.size w' v (hjB lo hi dg (ig u m hi bk) gr l)/\Below w.heap.size w w':=by
 have S:=kJ x lo hi dg u m gr bk l;have HY:=aB hy;have C1:=aB (oD w h);have C2:Hid (∀w1,Below w.heap.size w w1->_):=aB (fun w1 hb=>xR w1 (S.keep h hb))
 have C3:Hid (∀w1,Below w.heap.size w w1->_):=aB (fun w1 hb=>Yc w1 (S.keep h hb) ok)
 have hlo:lo<=9223372036854775807:=by have:=ok.sh.h0;have:=ok.sh.h1;omega
 have hhi:=ok.sh.h1;have hdg:=ok.sh.d1;have hwl:=Q7 lo (ig u m hi bk) dg l;have hcl:=xQ l;have hll:=ok.len;have HG:=aB (Yd gr);have HB:Hid (hjB lo hi dg (ig u m hi bk) gr l=jE lo hi dg (grN gr) 4++hwB lo (ig u m hi bk) dg l):=aB rfl;rw[HB.out];have k1:=hy.cell 1;simp only[aF,aC,aG] at k1;clear HB S h ok hy;generalize grN gr=D at *;have hD:0<=D/\D<256:=by have:=HG.out;omega
 have CP:Hid (∀(v:Value) (w1:World),iH .u64 w1 v [(lo:Int),(hi:Int),(dg:Int),D]->_):=aB (fun v w1 hr=>Ux lo hi dg D v w1 hr ae  ae  ae  ae  ae  ae hD.1 hD.2)
 have EU:Hid (IntKind.u64.wrap (lo:Int)=(lo:Int)/\IntKind.u64.wrap (hi:Int)=(hi:Int)/\IntKind.u64.wrap (dg:Int)=(dg:Int)):=aB ⟨by rw[eH];omega,by rw[eH];omega,by rw[eH];omega⟩
 have vC:=GH lo hi dg D 4;generalize jE lo hi dg D 4=OP at *;generalize hwB (lo:Int) (ig u m hi bk) dg l=HW at *
 go_enter Tryz.func64,Tryz.ntmps64
 go_wp2_with fail;refine(C1.out).mono ?_
 rintro e w1 ⟨rfl,hb1⟩
 go_upto_region 2 with fail;obtain⟨b4,hb4⟩:∃z,w1.heap.size=z:=⟨_,rfl⟩;obtain⟨w4,hw4⟩:∃z,w1.alloc (.cells #[.int .i64 lo,.int .i64 hi,.int .i64 dg] 32)=z:=⟨_,rfl⟩;have K4:Hid (dH w4 b4 32 #[.int .i64 lo,.int .i64 hi,.int .i64 dg]):=by rw[<-hw4,<-hb4];exact aB (dH.new _ _ _)
 have b14:Below w1.heap.size w1 w4:=by rw[<-hw4];exact bw
 have B4:Below w.heap.size w w4:=hb1.trans (b14.mono hb1.size);rw[hw4,hb4];clear hw4 hb4 b14 k1;have k1:=(HY.out.keep B4).cell 1;simp only[aF,aC,aG] at k1
 go_wp2_with fail;refine(C2.out w4 B4).mono ?_
 rintro e w' ⟨rfl,rfl⟩;have j0:=K4.out.cell 0;have j1:=K4.out.cell 1;have j2:=K4.out.cell 2;simp only[aF,aC,aG] at j0 j1 j2
 rcases HG.out with⟨rfl,rfl⟩|⟨rfl,rfl⟩
 all_goals
  obtain⟨e1,e2,e3⟩:=EU.out
  go_wp2_with fail;refine(CP.out _ _ (iH.Rt 53 .u64 w4 [(lo:Int),(hi:Int),(dg:Int),_] _ rfl 4 rfl ag _ rfl)).mono ?_
  rintro e w7 ⟨v7,rfl,o7,hb7⟩;have O7:=aB (dR.1 o7);have mG:∀o:Obj,w.heap.size<=(w4.alloc o).heap.size:=fun o=>bG B4.size ag
  have B7:Below w.heap.size w w7:=(B4.alloc B4.size _).trans (hb7.mono (mG _));clear o7 e1 e2 e3 j0 j1 j2 k1;have k1:=(HY.out.keep B7).cell 1;simp only[aF,aC,aG] at k1
  go_wp2_with fail;refine(C3.out w7 B7).mono ?_
  rintro e w8 ⟨v8,rfl,o8,hb8⟩;have O8:=aB (dR.1 o8);have O78:=aB (dI.keep O7.out hb8);have B8:Below w.heap.size w w8:=B7.trans (hb8.mono B7.size);have hop:OP.length+HW.length<=1099511627776:=ae
  obtain⟨A7,c7,ev7,_,_,_⟩:=O78.out.form;obtain⟨n7,hn7⟩:∃z,OP.length=z:=⟨_,rfl⟩;rw[hn7] at ev7;subst ev7;have hz7:w4.heap.size+1<=w8.heap.size:=by have h1:=hb7.size;have h2:=hb8.size;rw[aO] at h1;omega
  clear o8 k1 hn7
  go_wp2_with (at_builtin;refine pY wC rfl (.tmp 42) (.tmp 43) rfl O78.out rfl _ HW rfl (O8.out.rd) hop (by rw[aO];exact hz7) ?_;intro v9 w9 o9 g9 _;have O9:=aB (dR.2 (o9.more (mG _)));have B9:Below w.heap.size w w9:=B8.grown g9 B8.size (fun k hk=>bG (mG _) (O78.out.lt k hk).1);clear o9 g9)
  go_ret;exact⟨_,rfl,O9.out,B9⟩
open Go.RowKit Go.Lib Go.Shelf
open Go.RowKit Go.Lib Go.Shelf
open Go.RowKit Go.Lib Go.Shelf
section
variable {y lo hi dg u m bk : Nat} {gr : Bool} {l : List Pr} {F : Ft}
theorem UB(v n:Int)(w:World)(h:qw y lo hi dg u m gr bk l F w)(ok:jo lo hi dg u m gr bk l)(v0:-9223372036854775808<=v)(v1:v<=9223372036854775807)(n0:0<=n)(n1:n<18446744073709551616) :
 Calls Tryz.prog 268 #[.pointer (some ⟨y,0,none⟩),.int .i64 v,.int .u64 n] w fun e w'=>e=.returned (.int .i64 (hsE u m gr bk l v n))/\Below w.heap.size w w':=by
 have HE:Hid (hsE u m gr bk l v n=if n=0 then 4 else if v<0 then 5 else if gr=false/\(qp u m bk:Int)<v then 5 else if 4611686018427387904<tot l+n then 6 else 0):=aB rfl
 obtain⟨z,hB,hO,_⟩:=h;have CT:Hid (∀w1,_):=aB (fun w1=>KI u m bk w1 ok.sh.um ok.b0 ok.b1)
 have CS:Hid (∀w1,Below w.heap.size w w1->_):=aB (fun w1 hb=>l_ z l w1 ((hO.keep hb).rd) ok.pos (by have:=ok.sum;omega) (by have:=ok.len;omega))
 have HB:=aB hB;have ht0:=dL ok.pos;have ht1:=ok.sum;obtain⟨A,c,rfl,_,_,_⟩:=hO.form;clear hB hO ok;generalize qp u m bk=T at *;generalize tot l=t at *;have EW:Hid (IntKind.u64.wrap (4611686018427387904 - t)=4611686018427387904 - t):=aB (by rw[eH];omega)
 rw[HE.out]
 by_cases hn:n=0
 ·subst hn
  rw[if_pos rfl]
  go_enter Tryz.func268,Tryz.ntmps268
  go_wp2_with fail
  go_ret;exact⟨rfl,aH _ _⟩
 rw[if_neg hn];have hn':(n == 0)=false:=ah
 have Bd:Below w.heap.size w w.drew:=(aH _ _).drew
 by_cases hv:v<0
 ·rw[if_pos hv]
  go_enter Tryz.func268,Tryz.ntmps268
  go_upto_region 3 with fail;refine dD (Below w.heap.size w) [(0,true),(1,true),(2,true),(3,true),(4,true),(5,true),(6,true),(7,true),(8,true),(9,true),(10,true),(11,true),(12,true),(13,true),(14,true),(15,true),(16,true),(17,true),(18,true),(19,true),(20,true),(21,true),(22,true),(23,true),(24,true),(25,true)] (by kernel_rfl) (by kernel_rfl) (Bd) ?_
  iterate 3
   refine dC ax  ax (fun R hR=>?_)
   apply aJ
   refine⟨fun w' hS'=>?_,?_⟩
   ·have hv':=hv
    go_simp;exact⟨rfl,rfl⟩
   go_simp;refine hR _ ?_;clear hR R
  refine dG ax  ax ?_
  try go_simp
  refine dG ax  ax ?_
  try go_simp
  refine dG ax  ax ?_
  try go_simp
  refine dG ax  ax ?_
  try go_simp
  refine dG ax  ax ?_
  try go_simp
  refine dG ax  ax ?_
  try go_simp
  refine dG ax  ax ?_
  try go_simp
  refine dG ax  ax ?_
  try go_simp
  refine dG ax  ax ?_
  try go_simp
  refine dG ax  ax ?_
  try go_simp
  refine dG ax  ax ?_
  try go_simp
  refine dG ax  ax ?_
  try go_simp
  refine dG ax  ax ?_
  try go_simp
  refine dG ax  ax ?_
  try go_simp
  refine dG ax  ax ?_
  try go_simp
  refine dG ax  ax ?_
  try go_simp
  refine dG ax  ax ?_
  try go_simp
  refine dG ax  ax ?_
  try go_simp
  refine dG ax  ax ?_
  try go_simp
  refine dG ax  ax ?_
  try go_simp
  refine dG ax  ax ?_
  try go_simp
  refine dG ax  ax ?_
  try go_simp
  iterate 1
   refine dC ax  ax (fun R hR=>?_)
   apply aJ
   refine⟨fun w' hS'=>?_,?_⟩
   ·have hv':=hv
    go_simp;exact⟨rfl,rfl⟩
   go_simp;refine hR _ ?_;clear hR R
  refine dF ?_
  go_wp2_with fail
  go_ret;exact⟨rfl,Bd⟩
 rw[if_neg hv];obtain⟨er,her⟩:∃er:Int,(if 4611686018427387904<t+n then(6:Int) else 0)=er:=⟨_,rfl⟩
 rw[her];have HR:=aB her;clear her;have HC:Hid (4611686018427387904<t+n<->4611686018427387904 - t<n):=aB ae
 cases gr
 ·by_cases ht:(T:Int)<v
  ·rw[if_pos ⟨rfl,ht⟩]
   clear HC HR
   go_enter Tryz.func268,Tryz.ntmps268
   go_upto_region 3 with fail;refine dD (Below w.heap.size w) [(0,true),(1,true),(2,true),(3,true),(4,true),(5,true),(6,true),(7,true),(8,true),(9,true),(10,true),(11,true),(12,true),(13,true),(14,true),(15,true),(16,true),(17,true),(18,true),(19,true),(20,true),(21,true),(22,false),(23,true),(24,true),(25,true)] (by kernel_rfl) (by kernel_rfl) (Bd) ?_
   iterate 22
    refine dC ax  ax (fun R hR=>?_)
    apply aJ
    refine⟨fun w' hS'=>?_,?_⟩
    ·have hv':=hv
     have ht':=ht;have k3:=(HB.out.keep hS').cell 3;have k4:=(HB.out.keep hS').cell 4;have k5:=(HB.out.keep hS').cell 5;have k6:=(HB.out.keep hS').cell 6;simp only[aF,aC,aG] at k3 k4 k5 k6
     go_simp;exact⟨rfl,rfl⟩
    go_simp;refine hR _ ?_;clear hR R
   refine dE ax  ax (fun K hK=>?_)
   go_simp;refine(CT.out w.drew).mono ?_
   rintro e w3 ⟨rfl,rfl⟩;refine hK _ _ (Bd) ?_
   clear hK K
   iterate 3
    refine dC ax  ax (fun R hR=>?_)
    apply aJ
    refine⟨fun w' hS'=>?_,?_⟩
    ·have hv':=hv
     have ht':=ht;have k3:=(HB.out.keep hS').cell 3;have k4:=(HB.out.keep hS').cell 4;have k5:=(HB.out.keep hS').cell 5;have k6:=(HB.out.keep hS').cell 6;simp only[aF,aC,aG] at k3 k4 k5 k6
     go_simp;exact⟨rfl,rfl⟩
    go_simp;refine hR _ ?_;clear hR R
   refine dF ?_
   go_wp2_with fail
   go_ret;exact⟨rfl,Bd⟩
  ·rw[if_neg (fun h=>ht h.2)]
   go_enter Tryz.func268,Tryz.ntmps268
   go_upto_region 3 with fail;refine dD (Below w.heap.size w) [(0,true),(1,true),(2,true),(3,true),(4,true),(5,true),(6,true),(7,true),(8,true),(9,true),(10,true),(11,true),(12,true),(13,true),(14,true),(15,true),(16,true),(17,true),(18,true),(19,true),(20,true),(21,true),(22,false),(23,true),(24,true),(25,true)] (by kernel_rfl) (by kernel_rfl) (Bd) ?_
   iterate 22
    refine dC ax  ax (fun R hR=>?_)
    apply aJ
    refine⟨fun w' hS'=>?_,?_⟩
    ·have hv':=hv
     have ht':=ht;have k3:=(HB.out.keep hS').cell 3;have k4:=(HB.out.keep hS').cell 4;have k5:=(HB.out.keep hS').cell 5;have k6:=(HB.out.keep hS').cell 6;simp only[aF,aC,aG] at k3 k4 k5 k6
     go_simp;exact⟨rfl,rfl⟩
    go_simp;refine hR _ ?_;clear hR R
   refine dE ax  ax (fun K hK=>?_)
   go_simp;refine(CT.out w.drew).mono ?_
   rintro e w3 ⟨rfl,rfl⟩;refine hK _ _ (Bd) ?_
   clear hK K
   iterate 3
    refine dC ax  ax (fun R hR=>?_)
    apply aJ
    refine⟨fun w' hS'=>?_,?_⟩
    ·have hv':=hv
     have ht':=ht;have k3:=(HB.out.keep hS').cell 3;have k4:=(HB.out.keep hS').cell 4;have k5:=(HB.out.keep hS').cell 5;have k6:=(HB.out.keep hS').cell 6;simp only[aF,aC,aG] at k3 k4 k5 k6
     go_simp;exact⟨rfl,rfl⟩
    go_simp;refine hR _ ?_;clear hR R
   refine dF ?_
   have k7:=(HB.out.keep Bd).cell 7;simp only[aF,aC,aG] at k7
   go_wp2_with fail;refine(CS.out w.drew Bd).mono ?_
   rintro e w3 ⟨rfl,rfl⟩;have ew:=EW.out
   by_cases hc:4611686018427387904<t+n
   ·have hc':4611686018427387904 - t<n:=HC.out.1 hc
    obtain rfl:er=6:=by rw[<-HR.out,if_pos hc]
    clear HC HR hc
    go_wp2_with fail
    go_ret;exact⟨rfl,Bd⟩
   ·have hc':¬4611686018427387904 - t<n:=fun h=>hc (HC.out.2 h)
    obtain rfl:er=0:=by rw[<-HR.out,if_neg hc]
    clear HC HR hc
    go_wp2_with fail
    go_ret;exact⟨rfl,Bd⟩
 ·rw[if_neg (fun h=>by cases h.1)]
  go_enter Tryz.func268,Tryz.ntmps268
  go_upto_region 3 with fail;refine dD (Below w.heap.size w) [(0,true),(1,true),(2,true),(3,true),(4,true),(5,true),(6,true),(7,true),(8,true),(9,true),(10,true),(11,true),(12,true),(13,true),(14,true),(15,true),(16,true),(17,true),(18,true),(19,true),(20,true),(21,true),(22,true),(23,true),(24,true),(25,true)] (by kernel_rfl) (by kernel_rfl) (Bd) ?_
  iterate 9
   refine dC ax  ax (fun R hR=>?_)
   apply aJ
   refine⟨fun w' hS'=>?_,?_⟩
   ·have hv':=hv
    have k5:=(HB.out.keep hS').cell 5;simp only[aF,aC,aG] at k5
    go_simp;exact⟨rfl,rfl⟩
   go_simp;refine hR _ ?_;clear hR R
  refine dG ax  ax ?_
  try go_simp
  refine dG ax  ax ?_
  try go_simp
  refine dG ax  ax ?_
  try go_simp
  refine dG ax  ax ?_
  try go_simp
  refine dG ax  ax ?_
  try go_simp
  refine dG ax  ax ?_
  try go_simp
  refine dG ax  ax ?_
  try go_simp
  refine dG ax  ax ?_
  try go_simp
  refine dG ax  ax ?_
  try go_simp
  refine dG ax  ax ?_
  try go_simp
  refine dG ax  ax ?_
  try go_simp
  refine dG ax  ax ?_
  try go_simp
  refine dG ax  ax ?_
  try go_simp
  refine dG ax  ax ?_
  try go_simp
  refine dG ax  ax ?_
  try go_simp
  iterate 2
   refine dC ax  ax (fun R hR=>?_)
   apply aJ
   refine⟨fun w' hS'=>?_,?_⟩
   ·have hv':=hv
    have k5:=(HB.out.keep hS').cell 5;simp only[aF,aC,aG] at k5
    go_simp;exact⟨rfl,rfl⟩
   go_simp;refine hR _ ?_;clear hR R
  refine dF ?_
  have k7:=(HB.out.keep Bd).cell 7;simp only[aF,aC,aG] at k7
  go_wp2_with fail;refine(CS.out w.drew Bd).mono ?_
  rintro e w3 ⟨rfl,rfl⟩;have ew:=EW.out
  by_cases hc:4611686018427387904<t+n
  ·have hc':4611686018427387904 - t<n:=HC.out.1 hc
   obtain rfl:er=6:=by rw[<-HR.out,if_pos hc]
   clear HC HR hc
   go_wp2_with fail
   go_ret;exact⟨rfl,Bd⟩
  ·have hc':¬4611686018427387904 - t<n:=fun h=>hc (HC.out.2 h)
   obtain rfl:er=0:=by rw[<-HR.out,if_neg hc]
   clear HC HR hc
   go_wp2_with fail
   go_ret;exact⟨rfl,Bd⟩
theorem UC(v:Nat)(n:Int)(w:World)(h:qw y lo hi dg u m gr bk l F w)(ok:jo lo hi dg u m gr bk l)(hv:v<9223372036854775808)(n0:0<n)(hn:tot l+n<=4611686018427387904) :
 Calls Tryz.prog 269 #[.pointer (some ⟨y,0,none⟩),.int .i64 v,.int .u64 n] w fun e w'=>e=.returned (.tuple #[])/\qw y lo hi dg u m gr (max bk (1+jL u m v)) (eQ (AV u m v) n l) (Gr F w w') w'/\Touch F w w':=by
 obtain⟨z,hB,hO,Jj,hz,hF⟩:=h;have CI:Hid (∀w1,_):=aB (fun w1=>OW u m v w1 ok.sh.um ok.sh.mb.1 ok.sh.mb.2 hv)
 have CB:Hid (∀w1,_):=aB (fun w1=>pG u m v w1 ok.sh.um hv)
 have CP:Hid (∀w1,Below w.heap.size w w1->_):=aB (fun w1 hb=>qY z (AV u m v) n l w1 ((hO.keep hb).rd) ok.pos ae  ae (by have:=ok.len;omega))
 have hbk:=ok.b1;have HBK:=lH (u:=u) (m:=m) hv;have hum:=ok.sh.um;have hbv:jL u m v<=63:=ae
 have X:=aB (aN hB (aN hO (aN Jj (aN hz hF))));have hyl:=hB.lt;obtain⟨A,c,rfl,_,_,_⟩:=hO.form;clear hB hO Jj hz hF ok HBK hum;generalize AV u m v=I at *;generalize jL u m v=B at *;have EB:Hid (IntKind.i64.wrap (1+(B:Int))=1+(B:Int)):=aB ak
 have HMX:Hid (max (bk:Int) (1+(B:Int))=((max bk (1+B):Nat):Int)):=aB ae
 have Bd:Below w.heap.size w w.drew:=(aH _ _).drew
 go_enter Tryz.func269,Tryz.ntmps269
 go_wp2_with fail;refine dJ (Below w.heap.size w) 17 [(0,true),(1,true),(2,true),(3,true),(4,true),(5,true),(6,true),(7,true),(8,true),(9,true),(10,true),(11,true),(12,true),(13,true),(15,true),(14,false),(16,false)] (by kernel_rfl) (by kernel_rfl) (Bd) ?_
 iterate 15
  refine dK ax  ax (fun R hR=>?_)
  apply aJ
  refine⟨fun w' hS'=>?_,?_⟩
  ·have k3:=(X.out.1.keep hS').cell 3
   have k4:=(X.out.1.keep hS').cell 4;have k7:=(X.out.1.keep hS').cell 7;simp only[aF,aC,aG] at k3 k4 k7
   go_simp;exact⟨rfl,rfl⟩
  go_simp;refine hR _ ?_;clear hR R
 refine d_ ax  ax (fun K hK=>?_)
 go_simp;refine(CI.out w.drew).mono ?_
 rintro e w3 ⟨rfl,rfl⟩;refine hK _ _ (Bd) ?_
 clear hK K;refine d_ ax  ax (fun K hK=>?_)
 go_simp;refine(CP.out w.drew Bd).mono ?_
 rintro e w3 ⟨v3,rfl,o3,hb3⟩;have O3:=aB o3;have B3:Below w.heap.size w w3:=Bd.trans hb3;clear o3;refine hK _ _ (B3) ?_
 clear hK K;refine dQ ?_
 simp only[bD,bQ];have k7:=(X.out.1.keep B3).cell 7;have f7:=(X.out.1.keep B3).frozen 7;simp only[aF,aC,aG] at k7;obtain⟨A3,c3,rfl,_,_,_⟩:=O3.out.form
 go_wp2_with fail;refine dO ?_
 obtain⟨w4,hw4⟩:∃x,w3.setCell ⟨y,7,none⟩ (.slice A3 (eQ (I:Int) n l).length c3)=x:=⟨_,rfl⟩;have Z4:Hid (dH w4 y 163 #[.int .i64 lo,.int .i64 hi,.int .i64 dg,.int .i64 u,.int .i64 m,.bool gr,.int .i64 bk,.slice A3 (eQ (I:Int) n l).length c3]/\dI fU w.heap.size w4 (.slice A3 (eQ (I:Int) n l).length c3) (eQ (I:Int) n l)/\Touch F w w4):=aB (by
  rw[<-hw4];exact⟨(X.out.1.keep B3).dP 7 _,O3.out.far (own_ne (X.out.1.keep B3) O3.out af) _,(Touch.of_below B3 (aK _)).setCell (p:=⟨y,7,none⟩) (.inl X.out.2.2.1) _⟩)
 rw[hw4];clear hw4 k7 f7;have Rn:Below w4.heap.size w4 w4.drew:=(aH _ _).drew
 go_upto_region 1 with fail;refine dJ (Below w4.heap.size w4) 17 [(0,true),(1,true),(2,true),(3,true),(4,true),(5,true),(6,true),(7,true),(8,true),(9,true),(10,true),(11,true),(12,true),(13,true),(14,false),(15,true),(16,true)] (by kernel_rfl) (by kernel_rfl) (Rn) ?_
 iterate 14
  refine dK ax  ax (fun R hR=>?_)
  apply aJ
  refine⟨fun w' hS'=>?_,?_⟩
  ·have k3:=(Z4.out.1.keep hS').cell 3
   have k4:=(Z4.out.1.keep hS').cell 4;have k6:=(Z4.out.1.keep hS').cell 6;simp only[aF,aC,aG] at k3 k4 k6;have eb:=EB.out
   go_simp;exact⟨rfl,rfl⟩
  go_simp;refine hR _ ?_;clear hR R
 refine d_ ax  ax (fun K hK=>?_)
 go_simp;refine(CB.out w4.drew).mono ?_
 rintro e w5 ⟨rfl,rfl⟩;refine hK _ _ (Rn) ?_
 clear hK K
 iterate 2
  refine dK ax  ax (fun R hR=>?_)
  apply aJ
  refine⟨fun w' hS'=>?_,?_⟩
  ·have k3:=(Z4.out.1.keep hS').cell 3
   have k4:=(Z4.out.1.keep hS').cell 4;have k6:=(Z4.out.1.keep hS').cell 6;simp only[aF,aC,aG] at k3 k4 k6;have eb:=EB.out
   go_simp;exact⟨rfl,rfl⟩
  go_simp;refine hR _ ?_;clear hR R
 refine dQ ?_
 simp only[bD,bQ];have k6:=(Z4.out.1.keep Rn).cell 6;have f6:=(Z4.out.1.keep Rn).frozen 6;simp only[aF,aC,aG] at k6
 go_wp2_with fail;refine dO ?_
 go_wp2_with fail;refine bodyPost_end (v:=.tuple #[]) (by simp[results,Tryz.results269,go_sem, *];try rfl) rfl ?_
 rw[HMX.out];obtain⟨B4,O4,T4⟩:=Z4.out;have T5:Touch F w ((w4.setCell ⟨y,6,none⟩ (.int .i64 ((max bk (1+B):Nat):Int))).drew):=(T4.setCell (p:=⟨y,6,none⟩) (.inl X.out.2.2.1) _).drew;have O5:=O4.far (p:=⟨y,6,none⟩) (own_ne B4 O4 af) (.int .i64 ((max bk (1+B):Nat):Int))
 refine⟨rfl,⟨_,B4.dP 6 _,O5.more (bW _),.inl X.out.2.2.1,fun k e=>.inr ⟨(O4.lt k e).1,?_⟩,jI X.out.2.2.2.2 T5.size⟩,T5⟩
 have:=(O5.lt k e).2;exact this
theorem Px(v n:Int)(w:World)(h:qw y lo hi dg u m gr bk l F w)(ok:jo lo hi dg u m gr bk l)(v0:-9223372036854775808<=v)(v1:v<=9223372036854775807)(n0:0<=n)(n1:n<18446744073709551616) :
 Calls Tryz.prog 174 #[.pointer (some ⟨y,0,none⟩),.int .i64 v,.int .u64 n] w (z_ (qw y lo hi dg u m gr (hsB u m gr bk l v n) (hsL u m gr bk l v n)) F (hsE u m gr bk l v n) w):=by
 have HH:=aB h;have C1:=aB (UB v n w h ok v0 v1 n0 n1);have HEL:Hid (hsL u m gr bk l v n=if hsE u m gr bk l v n=0 then eQ (AV u m v.toNat) n l else l):=aB rfl
 have HEB:Hid (hsB u m gr bk l v n=if hsE u m gr bk l v n=0 then max bk (1+jL u m v.toNat) else bk):=aB rfl
 rw[HEL.out,HEB.out]
 by_cases he:hsE u m gr bk l v n=0
 ·have hz:0<n/\0<=v/\tot l+n<=4611686018427387904:=by
   unfold hsE at he
   (repeat' split at he)<;>omega
  obtain⟨z,rfl⟩:=Int.eq_ofNat_of_zero_le hz.2.1;have C2:Hid (∀w1,Below w.heap.size w w1->_):=aB (fun w1 hb=>UC (y:=y) z n w1 ((oC y lo hi dg u m gr bk l).keep h hb) ok ae hz.1 hz.2.2)
  rw[if_pos he,if_pos he];rw[he] at C1 |-;simp only[bY];have hF:=(oC y lo hi dg u m gr bk l).low h;clear HEL HEB he hz h ok
  go_enter Tryz.func174,Tryz.ntmps174
  go_wp2_with fail;refine(C1.out).mono ?_
  rintro e w1 ⟨rfl,hb1⟩
  go_wp2_with fail;refine(C2.out w1 hb1).mono ?_
  rintro e w2 ⟨rfl,h2,t2⟩
  go_wp2_with fail
  go_ret;refine⟨rfl,?_,Iq hb1 t2⟩
  refine(oC y lo hi dg u m gr _ _).more h2 (fun k hk=>?_) (jI hF (Iq hb1 t2).size)
  rcases hk with hk|⟨a,b⟩
  ·exact .inl hk
  ·exact .inr ⟨bG hb1.size a,b⟩
 ·rw[if_neg he,if_neg he]
  have hd:(hsE u m gr bk l v n == 0)=false:=by simpa using he
  clear HEL HEB h ok;generalize hsE u m gr bk l v n=er at *
  go_enter Tryz.func174,Tryz.ntmps174
  go_wp2_with fail;refine(C1.out).mono ?_
  rintro e w1 ⟨rfl,hb1⟩
  go_wp2_with fail
  go_ret;exact jO (oC y lo hi dg u m gr bk l) HH.out rfl hb1
end
open Go.RowKit Go.Lib Go.Shelf
section
variable {y y2 lo hi dg u m bk bt : Nat} {gr : Bool} {l t : List Pr} {F Fy : Ft}
theorem UD(w:World)(h:qw y lo hi dg u m gr bk l F w)(hy:qw y2 lo hi dg u m gr bt t Fy w)(ok:jo lo hi dg u m gr bk l)(UA:jo lo hi dg u m gr bt t) :
 Calls Tryz.prog 91 #[.pointer (some ⟨y,0,none⟩),.pointer (some ⟨y2,0,none⟩)] w (z_ (qw y lo hi dg u m gr (htB l t bk bt) (htL l t)) F (OZ l t) w):=by
 have HH:=aB h;have HE:Hid (OZ l t=if 4611686018427387904<tot l+tot t then 6 else 0):=aB rfl
 have HL:Hid (htL l t=if OZ l t=0 then fA l t else l):=aB rfl
 have HB:Hid (htB l t bk bt=if OZ l t=0 then max bk bt else bk):=aB rfl
 obtain⟨z,hB,hO,Jj,hz,hF⟩:=h;obtain⟨z2,yB,yO,_⟩:=hy;have t0:=dL ok.pos;have t1:=dL UA.pos;have l0:=ok.len;have l1:=UA.len;have s0:=ok.sum;have s1:=UA.sum;have CX:Hid (∀w1,Below w.heap.size w w1->_):=aB (fun w1 hb=>l_ z l w1 ((hO.keep hb).rd) ok.pos ae  ae)
 have CY:Hid (∀w1,Below w.heap.size w w1->_):=aB (fun w1 hb=>l_ z2 t w1 ((yO.keep hb).rd) UA.pos ae  ae)
 have OK:=aB (aN ok UA);have X:=aB (aN hB (aN hO (aN Jj (aN hz hF))));have Y:=aB (aN yB yO);have hxl:=hB.lt;have hyl:=yB.lt;obtain⟨A,c,rfl,_,_,_⟩:=hO.form;obtain⟨A2,c2,rfl,_,_,yf⟩:=yO.form;have HF2:=aB yf;have hne2:=own_ne hB yO af
 obtain⟨er,her⟩:∃er,OZ l t=er:=⟨_,rfl⟩;rw[her] at HE HL HB |-;obtain⟨L9,hL9⟩:∃x,htL l t=x:=⟨_,rfl⟩;obtain⟨B9,hB9⟩:∃x,htB l t bk bt=x:=⟨_,rfl⟩;rw[hL9] at HL |-;rw[hB9] at HB |-;clear her hL9 hB9 yf;have EW:Hid (IntKind.u64.wrap (4611686018427387904 - tot l)=4611686018427387904 - tot l):=aB (by rw[eH];omega)
 have HC:Hid (4611686018427387904<tot l+tot t<->4611686018427387904 - tot l<tot t):=aB ae
 clear hB hO Jj hz hF ok UA yB yO;have Bd:Below w.heap.size w w.drew:=(aH _ _).drew;have Be:Below w.heap.size w w.drew.drew:=Bd.drew
 go_enter Tryz.func91,Tryz.ntmps91
 go_upto_region 1 with fail;refine dD (Below w.heap.size w) [(0,true),(1,true),(2,true),(3,true),(4,true),(5,true),(6,true),(7,true),(8,true),(9,true),(10,true),(11,true),(12,true),(13,true),(14,true),(15,true),(16,true),(17,true),(18,true),(19,true)] (by kernel_rfl) (by kernel_rfl) (Bd) ?_
 iterate 20
  refine dC ax  ax (fun R hR=>?_)
  apply aJ
  refine⟨fun w' hS'=>?_,?_⟩
  ·have k0:=(X.out.1.keep hS').cell 0
   have k1:=(X.out.1.keep hS').cell 1;have k2:=(X.out.1.keep hS').cell 2;have k5:=(X.out.1.keep hS').cell 5;have j0:=(Y.out.1.keep hS').cell 0;have j1:=(Y.out.1.keep hS').cell 1;have j2:=(Y.out.1.keep hS').cell 2;have j5:=(Y.out.1.keep hS').cell 5;simp only[aF,aC,aG] at k0 k1 k2 k5 j0 j1 j2 j5
   go_simp;exact⟨rfl,rfl⟩
  go_simp;refine hR _ ?_;clear hR R
 refine dF ?_
 go_upto_region 3 with fail;have hcc:(4611686018427387904 - tot l<tot t)\/¬(4611686018427387904 - tot l<tot t):=Classical.em _;refine dD (Below w.heap.size w) [(0,true),(1,true),(2,true),(3,true),(5,true),(6,true),(7,true),(8,true),(4,false),(9,false),(10,true),(11,true)] (by kernel_rfl) (by kernel_rfl) (Be) ?_
 iterate 8
  refine dC ax  ax (fun R hR=>?_)
  apply aJ
  refine⟨fun w' hS'=>?_,?_⟩
  ·have ew:=EW.out
   have k7:=(X.out.1.keep hS').cell 7;have j7:=(Y.out.1.keep hS').cell 7;simp only[aF,aC,aG] at k7 j7
   go_simp;exact⟨rfl,rfl⟩
  go_simp;refine hR _ ?_;clear hR R
 refine dE ax  ax (fun K hK=>?_)
 go_simp;refine(CY.out w.drew.drew Be).mono ?_
 rintro e w3 ⟨rfl,rfl⟩;refine hK _ _ (Be) ?_
 clear hK K;refine dE ax  ax (fun K hK=>?_)
 go_simp;refine(CX.out w.drew.drew Be).mono ?_
 rintro e w3 ⟨rfl,rfl⟩;refine hK _ _ (Be) ?_
 clear hK K
 iterate 2
  refine dC ax  ax (fun R hR=>?_)
  apply aJ
  refine⟨fun w' hS'=>?_,?_⟩
  ·have ew:=EW.out
   have k7:=(X.out.1.keep hS').cell 7;have j7:=(Y.out.1.keep hS').cell 7;simp only[aF,aC,aG] at k7 j7
   go_simp;exact⟨rfl,rfl⟩
  go_simp;refine hR _ ?_;clear hR R
 refine dF ?_
 by_cases hc:4611686018427387904 - tot l<tot t
 ·obtain rfl:er=6:=by rw[HE.out,if_pos (HC.out.2 hc)]
  obtain rfl:L9=l:=by rw[HL.out];rfl
  obtain rfl:B9=bk:=by rw[HB.out];rfl
  clear HC HE HL HB
  go_wp2_with fail
  go_ret;exact jO (oC y lo hi dg u m gr B9 L9) HH.out rfl Be
 obtain rfl:er=0:=by rw[HE.out,if_neg (fun h=>hc (HC.out.1 h))]
 have HSM:Hid (tot l+tot t<=4611686018427387904):=aB (by have:=HC.out;omega)
 obtain rfl:L9=fA l t:=by rw[HL.out];rfl
 obtain rfl:B9=max bk bt:=by rw[HB.out];rfl
 clear HC HE HL HB EW CX CY hcc;have y7:=(Y.out.1.keep Be).cell 7;simp only[aF,aC,aG] at y7
 go_wp2_with fail
 go_loopg [6] t.length (fun q s wr=>∃(j:Nat) (v:Value),q=t.length - j/\j<=t.length/\s=.int .i64 j/\Hid (dH wr y 163 #[.int .i64 lo,.int .i64 hi,.int .i64 dg,.int .i64 u,.int .i64 m,.bool gr,.int .i64 bk,v]/\dI fU 0 wr v (fA l (t.take j))/\(∀k,v.ownBlock=some k->F k\/w.heap.size<=k))/\Hid (Touch (fun k=>k=y) w wr))
 case atStart=>exact⟨0,_,rfl,ae,rfl,aB ⟨X.out.1.keep Be,by rw[List.take_zero,qV];exact X.out.2.1.keep Be,fun k e=>.inl (X.out.2.2.2.1 k e)⟩,aB (Touch.of_below Be (aK _))⟩
 case round=>
  obtain⟨j,v,hq,hj,rfl,HJ,HT⟩:=hrel;have HQ:=aB hq;clear hq
  by_cases hlt:j<t.length
  ·obtain⟨gp,off,rfl,Yb,c0,c1⟩:=kY HF2.out hlt
   have hgy:gp≠y:=fun e=>hne2 (by rw[e];rfl)
   have c0:=(eG HT.out (off+j * 2) Yb hgy).trans c0;have c1:=(eG HT.out (off+j * 2+1) Yb hgy).trans c1;have hgr:gp<wr.heap.size:=by have:=HT.out.size;omega
   have CC:=aB (aN c0 c1);clear c0 c1;have hji:(j:Int)<(t.length:Int):=ae
   have hmem:t[j]∈t:=bu hlt;obtain⟨z,hz⟩:∃z,t[j].1=z:=⟨_,rfl⟩;obtain⟨n,hn⟩:∃n,t[j].2=n:=⟨_,rfl⟩;rw[hz,hn] at CC;have hn0:0<n:=by rw[<-hn];exact OK.out.2.pos _ hmem
   have hpos:gQ (fA l (t.take j)):=kF OK.out.1.pos (fun p hp=>OK.out.2.pos p (List.mem_of_mem_take hp))
   have hlen:(fA l (t.take j)).length<=1000000000:=by
    have h1:=AQ (t.take j) l;have h2:=List.length_take_le j t;omega
   have hts:=iy hlt;rw[hn] at hts;have htl:=jZ OK.out.2.pos (j+1);have hsm:=HSM.out;have hto:tot (fA l (t.take j))+n<=4611686018427387904:=by rw[nG];omega
   have Ro:Hid (fA l (t.take (j+1))=eQ z n (fA l (t.take j))):=aB (by rw[aT hlt,Dh,hz,hn])
   have CP:Hid (∀w1,Below wr.heap.size wr w1->_):=aB (fun w1 hb=>qY v z n (fA l (t.take j)) w1 ((HJ.out.2.1.keep hb).rd) hpos ae  ae hlen)
   obtain⟨A5,c5,rfl,_,_,_⟩:=HJ.out.2.1.form;clear hts htl hsm hpos hlen hto;have Br:Below wr.heap.size wr wr.drew:=(aH _ _).drew;generalize fA l (t.take j)=M at *
   go_upto_region 9 with fail;refine dJ (Below wr.heap.size wr) 16 [(0,true),(1,true),(2,true),(3,true),(4,true),(5,true),(6,true),(7,true),(8,true),(9,true),(10,true),(11,true),(12,true),(13,true),(14,true),(15,false)] (by kernel_rfl) (by kernel_rfl) (Br) ?_
   iterate 15
    refine dK ax  ax (fun R hR=>?_)
    apply aJ
    refine⟨fun w' hS'=>?_,?_⟩
    ·have k7:=(HJ.out.1.keep hS').cell 7
     have p0:=(hS'.cell (p:=⟨gp,off+j * 2,none⟩) hgr).trans CC.out.1;have p1:=(hS'.cell (p:=⟨gp,off+j * 2+1,none⟩) hgr).trans CC.out.2;simp only[aF,aC,aG] at k7
     go_simp;exact⟨rfl,rfl⟩
    go_simp;refine hR _ ?_;clear hR R
   refine d_ ax  ax (fun K hK=>?_)
   go_simp;refine(CP.out wr.drew Br).mono ?_
   rintro e w3 ⟨v3,rfl,o3,hb3⟩;have O3:=aB o3;have B3:Below wr.heap.size wr w3:=Br.trans hb3;clear o3;refine hK _ _ (B3) ?_
   clear hK K;refine dQ ?_
   simp only[bD,bQ];have k7:=(HJ.out.1.keep B3).cell 7;have f7:=(HJ.out.1.keep B3).frozen 7;simp only[aF,aC,aG] at k7;obtain⟨A3,c3,rfl,_,_,_⟩:=O3.out.form
   go_wp2_with fail;refine dO ?_
   go_wp2_with fail
   go_roundg (t.length - (j+1))
   case measure=>have:=HQ.out;omega
   case rel=>
    refine⟨j+1,_,rfl,ae,ai,aB ⟨(HJ.out.1.keep B3).dP 7 _,?_,fun k e=>.inr ?_⟩,aB (((HT.out.trans (Touch.of_below (F:=fun k=>k=y) B3 (aK _)) (fun _ h=>.inl h)).setCell (p:=⟨y,7,none⟩) (.inl rfl) _))⟩
    ·rw[Ro.out];exact(O3.out.far (own_ne (HJ.out.1.keep B3) O3.out af) _).more (bW _)
    ·have:=(O3.out.lt k e).1;have:=HT.out.size;have h4:wr.drew.heap.size=wr.heap.size:=rfl;omega
  ·obtain rfl:j=t.length:=ae
   have ZK:=HJ;rw[bH (aK _)] at ZK;clear HJ;have Br:Below wr.heap.size wr wr.drew:=(aH _ _).drew;have hbb:y2=y->bt=bk:=fun e=>by
    have h1:=X.out.1.cell 6;have h2:=Y.out.1.cell 6;rw[e] at h2;rw[h1] at h2;simp at h2
    omega
   have J6:Hid (wr.cell? ⟨y2,6,none⟩=some (.int .i64 bt)):=aB (by
    by_cases e:y2=y
    ·rw[hbb e,e]
     have k:=ZK.out.1.cell 6
     simpa only[aF,aC,aG] using k
    ·have k:=Y.out.1.cell 6
     simp only[aF,aC,aG] at k;exact(eG HT.out 6 hyl e).trans k)
   clear hbb;have hyr:y2<wr.heap.size:=by have:=HT.out.size;omega
   go_upto_region 10 with fail;refine dJ (Below wr.heap.size wr) 12 [(0,true),(1,true),(2,true),(3,true),(4,true),(5,true),(6,true),(7,true),(8,true),(9,true),(10,true),(11,true)] (by kernel_rfl) (by kernel_rfl) (Br) ?_
   iterate 12
    refine dK ax  ax (fun R hR=>?_)
    apply aJ
    refine⟨fun w' hS'=>?_,?_⟩
    ·have k6:=(ZK.out.1.keep hS').cell 6
     have j6:=(hS'.cell (p:=⟨y2,6,none⟩) hyr).trans J6.out;simp only[aF,aC,aG] at k6
     go_simp;exact⟨rfl,rfl⟩
    go_simp;refine hR _ ?_;clear hR R
   refine dQ ?_
   simp only[bD,bQ];have k6:=(ZK.out.1.keep Br).cell 6;have f6:=(ZK.out.1.keep Br).frozen 6;simp only[aF,aC,aG] at k6
   go_wp2_with fail;refine dO ?_
   go_wp2_with fail
   go_ret;rw[show max (bk:Int) (bt:Int)=((max bk bt:Nat):Int) by omega]
   have T9:Touch F w ((wr.setCell ⟨y,6,none⟩ (.int .i64 ((max bk bt:Nat):Int))).drew):=((HT.out.trans (Touch.refl _ _) (fun _ h=>.inl h):Touch (fun k=>k=y) w wr).setCell (p:=⟨y,6,none⟩) (.inl rfl) _ |>.drew).mono (fun k h=>by cases h;exact X.out.2.2.1)
   have O9:=ZK.out.2.1.far (p:=⟨y,6,none⟩) (own_ne ZK.out.1 ZK.out.2.1 af) (.int .i64 ((max bk bt:Nat):Int))
   refine⟨rfl,⟨_,ZK.out.1.dP 6 _,O9,.inl X.out.2.2.1,fun k e=>(ZK.out.2.2 k e).imp id (fun h=>⟨h,?_⟩),jI X.out.2.2.2.2 T9.size⟩,T9⟩
   exact(O9.lt k e).2
end
end Go.Proofs.YtkiebccnpheloaaGreat.D
