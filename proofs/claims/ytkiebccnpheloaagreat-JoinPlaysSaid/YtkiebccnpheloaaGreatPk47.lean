/- Parts of a proof: what its theorem reaches, words cut short. No condition of its own. -/
import Derived.Test.YtkiebccnpheloaaGreatPk46
set_option maxRecDepth 100000
set_option maxHeartbeats 16000000
set_option linter.unusedVariables false
set_option linter.unusedSimpArgs false
namespace Go.Proofs.YtkiebccnpheloaaGreat.D
open Go.RowKit Go.Lib Go.Shelf
theorem bb5{sp:iM}{o0 wb vb i j:Nat}{S:Nat->Js}{X Y:Nat->Nat}{Ow:Nat->Ft}{w:World}{cv:Value}{B:List Int}(kd c:Nat)(who:Bool)(v:Int)(oks:uX sp)(hsm:sp.small)(hbz:o0<=w.heap.size)(hD:mD sp o0 S S X Y Ow wb vb w)
 (hij:(who=false/\i=0/\j=1)\/(who=true/\i=1/\j=0)) (hkd:kd<=255) (hc:c<18446744073709551616) (v0:-9223372036854775808<=v) (v1:v<=9223372036854775807) (hB:Y5 o0 w cv B) (hbt:K.Byt B) :
 Calls Tryz.prog 28 #[.slice (some ⟨wb,0,none⟩) 2 2,.slice (some ⟨vb,0,none⟩) 2 2,.agg #[.int .u8 kd,.bool who,.int .i64 v,.int .u64 c,cv]] w fun e w'=>e=.returned (.bool true)/\∃Za,mD sp o0 (doJ sp ⟨kd,who,v,c,B⟩ S) (doJ sp ⟨kd,who,v,c,B⟩ S) X Y Za wb vb w'/\wP Ow Za w w':=by
 obtain⟨A4,c4,rfl,_,_,_⟩:=hB.rd.form;have hi:i<2:=ae
 have hj:j<2:=ae
 have ar8:Hid (∀s',Eo sp ⟨kd,who,v,c,B⟩ (S i) (S j)=s'->LV S i s'=doJ sp ⟨kd,who,v,c,B⟩ S):=aB (fun s' e=>by
  subst e;unfold doJ ag7
  rcases hij with⟨rfl,rfl,rfl⟩|⟨rfl,rfl,rfl⟩<;>rfl)
 have qF:Hid (jg sp (Eo sp ⟨kd,who,v,c,B⟩ (S i) (S j))):=aB (ag8 hsm ⟨by show(0:Int)<=(kd:Int);omega,by show(kd:Int)<=255;omega,v0,v1,by show(0:Int)<=(c:Int);omega,by show(c:Int)<18446744073709551616;omega,hbt.2⟩ (hD.ok i hi) (hD.ok j hj))
 have hbx:Below w.heap.size w (w.alloc (.cells #[.int .u8 kd,.bool who,.int .i64 v,.int .u64 c,(.slice A4 B.length c4)] 55)):=(aH _ _).alloc (aK _) _;have hzx:(w.alloc (.cells #[.int .u8 kd,.bool who,.int .i64 v,.int .u64 c,(.slice A4 B.length c4)] 55)).heap.size=w.heap.size+1:=ag
 have hbl:=dH.new w 55 #[.int .u8 kd,.bool who,.int .i64 v,.int .u64 c,(.slice A4 B.length c4)];have hD1:=hD.keep hbx;have hB1:=hB.keep hbz (hbx.mono hbz);have hnb:∀a,¬Ow a w.heap.size:=fun a e=>by have:=(hD.low a _ e).2;omega
 have X0:=hD1.cw i hi;have X1:=hD1.cw j hj;have Y0:=hD1.cv i hi;have Y1:=hD1.cv j hj;have hmod:((kd:Int) % 7)=((kd % 7:Nat):Int):=ae
 have hji:(1:Int) - (i:Int)=(j:Int):=ae
 have bo8:(i:Int)<2:=ae
 have bo9:(j:Int)<2:=ae
 have HBX:=aB hbx;have HNB:=aB hnb;have HD1:=aB hD1;have HB1:=aB hB1;have HBZ:=aB hbz;have Nv:=aB hbt;have HZX:=aB hzx;clear hD hD1 hB hB1 hbz hbt hbx hnb hzx
 go_enter Tryz.func28,Tryz.ntmps28
 go_upto_region 1 with fail;obtain⟨u,hu⟩:∃u,w.alloc (.cells #[.int .u8 kd,.bool who,.int .i64 v,.int .u64 c,(.slice A4 B.length c4)] 55)=u:=⟨_,rfl⟩;rw[hu] at HBX HD1 HB1 HZX X0 X1 Y0 Y1 hbl |-;obtain⟨bx,ar9⟩:∃bx,w.heap.size=bx:=⟨_,rfl⟩;have HBE:=aB ar9;rw[ar9] at hbl |-;have f0:=hbl.cell 0;have b1:=hbl.cell 1;have f2:=hbl.cell 2;have f3:=hbl.cell 3;have f4:=hbl.cell 4;have hbx:=hbl.lt;simp only[aF,aG,aC] at f0 b1 f2 f3 f4;have FO:Hid (jK wb vb bx i j (X i) (X j) (Y i) (Y j) kd c who v (.slice A4 B.length c4) u):=aB ⟨X0,X1,Y0,Y1,f0,b1,f2,f3,f4⟩;clear hu ar9 f0 f2 f3 f4 X0 X1 Y0 Y1 hbl
 go_upto_if 11 with(fail)
 go_cut [7] (fun x wx=>x=.int .i64 (i:Int)/\u=wx)
 case first=>
  rcases hij with⟨rfl,rfl,rfl⟩|⟨rfl,rfl,rfl⟩
  ·go_wp2_with fail
   go_meet
   exact⟨rfl,rfl⟩
  ·go_wp2_with fail
   go_meet
   exact⟨rfl,rfl⟩
 case rest=>
 obtain⟨rfl,rfl⟩:=hcut;clear b1 hij;have FIN:Hid (∀(wx:World) (cg dg:Nat) (H:Ft),Below u.heap.size u wx->jb (.pointer (some ⟨cg,0,none⟩)) B 0 H wx->gI o0 (.pointer (some ⟨dg,0,none⟩)) B 0 (fun k=>k=dg) wx->(∀k,H k->u.heap.size<=k)->u.heap.size<=dg->(∀k,H k->k≠dg) ->
  Hid (jb (.pointer (some ⟨cg,0,none⟩)) B 0 H wx)/\Hid (wQ sp o0 S S X Y Ow Ow wb vb bx B (.pointer (some ⟨dg,0,none⟩)) H (fun k=>k=dg) w wx)/\Hid (jK wb vb bx i j (X i) (X j) (Y i) (Y j) kd c who v (.slice A4 B.length c4) wx)):=aB (fun wx cg dg H hb hcn hrc hH hdg hne=>by
  have e1:=HBE.out;have e2:=HZX.out;have e3:=HBZ.out;have hlo:=HD1.out.low;have hcl:=hcn.low;have hrl:=hrc.low dg rfl;refine⟨aB hcn,aB ⟨HD1.out.keep hb,(wP.refl HBX.out).keep hb,fun k e=>?_,fun k e=>?_,fun k e e4=>hne k e e4,hrc,⟨by omega,by have:=hb.size;omega,fun a e=>HNB.out a (by rw[e1];exact e)⟩,e3⟩,aB ?_⟩
  ·have h1:=hH k e;have h2:=hcl k e
   exact⟨by omega,h2,fun a e6=>by have:=(hlo a k e6).2;omega⟩
  ·rw[show k=dg from e]
   exact⟨by omega,hrl,fun a e6=>by have:=(hlo a _ e6).2;omega⟩
  ·exact FO.out.same (fun k hk=>hb.block k (by
    simp only[a_,List.not_mem_nil,or_false] at hk
    rcases hk with rfl|rfl|rfl
    ·exact(hlo 4 _ HD1.out.rw).2
    ·exact(hlo 4 _ HD1.out.rv).2
    ·exact hbx)))
 have tC:Hid (∀wx,Below u.heap.size u wx->Y5 o0 wx (.slice A4 B.length c4) B):=aB (fun wx hb=>HB1.out.keep (by have:=HZX.out;have:=HBZ.out;omega) (hb.mono (by have:=HZX.out;have:=HBZ.out;omega)))
 have ho0:o0<=u.heap.size:=by have:=HZX.out;have:=HBZ.out;omega
 clear HB1
 go_upto_region 4 with fail
 go_cut [8,9] (fun x y wx=>∃(cg dg:Nat) (H:Ft),x=.pointer (some ⟨cg,0,none⟩)/\y=.pointer (some ⟨dg,0,none⟩)/\Hid (jb (.pointer (some ⟨cg,0,none⟩)) B 0 H wx)/\Hid (wQ sp o0 S S X Y Ow Ow wb vb bx B (.pointer (some ⟨dg,0,none⟩)) H (fun k=>k=dg) w wx)/\Hid (jK wb vb bx i j (X i) (X j) (Y i) (Y j) kd c who v (.slice A4 B.length c4) wx))
 case first=>
  refine oM (fun w'=>Below u.heap.size u w') (.rd 0 (.rd 1 (.rd 3 (.rd 4 (.rd 5 (.two 2 6 (.rd 7 (.ef 6 (.rd 8 .nil))) (.ef 2 (.rd 7 (.rd 8 .nil))))))))) (by kernel_rfl) (by kernel_rfl) ((aH _ _).drew) ?_
  iterate 5
   refine fK ax  ax (fun R hR=>?_)
   apply aJ
   refine⟨fun w' hS'=>?_,?_⟩
   ·have b4:=(hS'.cell (p:=⟨bx,4,none⟩) hbx).trans FO.out.o4
    go_simp;exact⟨rfl,rfl⟩
   go_simp;refine hR _ ?_;clear hR R
  refine qK ax  ax  ax  ax (fun K hK=>?_) (fun K hK=>?_)
  go_simp;refine(Hg (.slice A4 B.length c4) B _ (tC.out _ (aH _ u).drew).rd Nv.out).mono ?_
  rintro e w1 ⟨cg,rfl,⟨H,hcn,hH⟩,hb1⟩;have B1:Below u.heap.size u w1:=(aH _ u).drew.trans hb1;refine hK _ _ (B1) ?_
  clear hK K
  iterate 1
   refine fK ax  ax (fun R hR=>?_)
   apply aJ
   refine⟨fun w' hS'=>?_,?_⟩
   ·have b4:=(hS'.cell (p:=⟨bx,4,none⟩) hbx).trans FO.out.o4
    go_simp;exact⟨rfl,rfl⟩
   go_simp;refine hR _ ?_;clear hR R
  refine iT ax  ax (fun K hK=>?_)
  go_simp;refine hK _ _ ((B1.alloc B1.size _)) ?_
  clear hK K
  iterate 1
   refine fK ax  ax (fun R hR=>?_)
   apply aJ
   refine⟨fun w' hS'=>?_,?_⟩
   ·have b4:=(hS'.cell (p:=⟨bx,4,none⟩) hbx).trans FO.out.o4
    go_simp;exact⟨rfl,rfl⟩
   go_simp;refine hR _ ?_;clear hR R
  refine kN ?_
  rotate_left
  go_simp;have A1:Below u.heap.size u (u.drew.alloc (.cells #[(.slice A4 B.length c4),.int .i64 0] 69)):=(aH _ u).drew.alloc (aK _) _;refine hK _ _ (A1) ?_
  clear hK K;refine iT ax  ax (fun K hK=>?_)
  go_simp;refine(Hg (.slice A4 B.length c4) B _ (tC.out _ A1).rd Nv.out).mono ?_
  rintro e w1 ⟨cg,rfl,⟨H,hcn,hH⟩,hb1⟩;have B1:Below u.heap.size u w1:=A1.trans (hb1.mono A1.size);refine hK _ _ (B1) ?_
  clear hK K
  iterate 2
   refine fK ax  ax (fun R hR=>?_)
   apply aJ
   refine⟨fun w' hS'=>?_,?_⟩
   ·have b4:=(hS'.cell (p:=⟨bx,4,none⟩) hbx).trans FO.out.o4
    go_simp;exact⟨rfl,rfl⟩
   go_simp;refine hR _ ?_;clear hR R
  refine kN ?_
  ·have hq:=Ep (o:=o0) (tC.out u.drew (aH _ u).drew).rd Nv.out ho0 (tC.out u.drew (aH _ u).drew).own
   have hz1:(u.drew.alloc (.cells #[(.slice A4 B.length c4),.int .i64 0] 69)).heap.size=u.heap.size+1:=ag
   have hq2:=hq.keep ae hb1
   have hH2:∀k,H k->u.heap.size+1<=k:=fun k e=>by have:=hH k e;omega
   obtain⟨q1,q2,q3⟩:=FIN.out w1 cg u.heap.size H B1 hcn hq2 (fun k e=>by have:=hH2 k e;omega) (aK _) (fun k e=>by have:=hH2 k e;omega)
   go_wp2_with fail
   go_meet
   exact⟨cg,u.heap.size,H,rfl,rfl,q1,q2,q3⟩
  ·have hz1:=B1.size
   have hq:=Ep (o:=o0) (tC.out w1 B1).rd Nv.out ae (tC.out w1 B1).own
   have hb2:Below w1.heap.size w1 (w1.alloc (.cells #[(.slice A4 B.length c4),.int .i64 0] 69)):=(aH _ _).alloc (aK _) _;obtain⟨q1,q2,q3⟩:=FIN.out _ cg w1.heap.size H (B1.trans (hb2.mono hz1)) (hcn.keep hb2) hq (fun k e=>hH k e) hz1 (fun k e=>by have:=hcn.low k e;omega)
   go_wp2_with fail
   go_meet
   exact⟨cg,w1.heap.size,H,rfl,rfl,q1,q2,q3⟩
 case rest=>
 obtain⟨cg,dg,H,rfl,rfl,HCN,HD2,FO2⟩:=hcut;have HD3:Hid (wQ sp o0 S S X Y Ow Ow wb vb bx B (.pointer (some ⟨dg,0,none⟩)) H (fun k=>k=dg) w wc.drew):=aB (HD2.out.keep (aH _ _).drew)
 have as1:Hid (jb (.pointer (some ⟨cg,0,none⟩)) B 0 H wc.drew):=aB (HCN.out.keep (aH _ _).drew);have FO3:Hid (jK wb vb bx i j (X i) (X j) (Y i) (Y j) kd c who v (.slice A4 B.length c4) wc.drew):=aB (FO2.out.same (fun _ _=>rfl))
 have b0:=FO2.out.o0;have bp0:bx<wc.heap.size:=HD2.out.hb.2.1;clear HCN tC HD1 HBX HZX HNB FO hbx HBE FIN;have MO:=aB (HD2.out.du.ok i hi);have bb6:=aB (HD2.out.du.ok j hj);have HDS:Hid (∀k,H k->¬Ow i k/\¬Ow j k):=aB (fun k e=>⟨(HD2.out.hH k e).2.2 i,(HD2.out.hH k e).2.2 j⟩)
 obtain⟨m,hm⟩:∃m,kd % 7=m:=⟨_,rfl⟩;have hm7:m<7:=ae
 rw[hm] at hmod;have Rz:Hid ((kd:Int) % 7=(m:Int)):=aB hmod;clear hm
 by_cases e5:m=5
 ·subst e5
  have MP:Hid (Eo sp ⟨kd,who,v,c,B⟩ (S i) (S j)=(jh sp B (S j) (S i) 0).1):=aB (by
   unfold Eo;show(if (kd:Int) % 7=5 then _ else _)=_
   rw[Rz.out];rw[if_pos af])
  have oN:Hid (jg sp ((jh sp B (S j) (S i) 0).1)):=aB (by rw[<-MP.out];exact qF.out)
  have CT:=aB (RV wc.drew (HD3.out.du.win i hi) (HD3.out.du.win j hj) (.inr (fun k e e2=>by have:=HD3.out.du.uniq _ _ k e e2;omega)) MO.out bb6.out as1.out (fun q _ e=>by cases e) (fun k e=>(HDS.out k e).1))
  obtain⟨er,her⟩:∃q,uY sp (S i) (S j)=q:=⟨_,rfl⟩;rw[her] at CT;have HER:=aB her;have hee:(er == er)=true:=ag
  have Ov:Hid (IntKind.i64.wrap (j:Int)=(j:Int)):=aB (IntWalk.i64_in _ ae)
  clear her
  go_upto_region 7 with fail;clear b0;refine dD (fun w'=>jK wb vb bx i j (X i) (X j) (Y i) (Y j) kd c who v (.slice A4 B.length c4) w') [(0,true),(1,true),(2,true),(3,true),(4,true),(5,true),(6,true),(7,true),(8,true),(9,true),(11,true),(12,true),(13,true),(14,true),(15,true),(16,true),(17,true),(18,true),(19,true),(20,true),(10,false),(21,false),(22,true),(23,true)] (by kernel_rfl) (by kernel_rfl) (FO3.out) ?_
  iterate 20
   refine dC ax  ax (fun R hR=>?_)
   apply aJ
   refine⟨fun w' hS'=>?_,?_⟩
   ·have hwr:=Ov.out
    have z0:=hS'.p0;have z1:=hS'.p1;have z2:=hS'.q0;have z3:=hS'.q1
    go_simp;exact⟨rfl,rfl⟩
   go_simp;refine hR _ ?_;clear hR R
  refine dE ax  ax (fun K hK=>?_)
  go_simp;refine(CT.out).mono ?_
  rintro e w6 hm;obtain⟨rfl,hm1,hm2,Ez⟩:=hm;have D6:=aB (HD3.out.MK hi hm1 oN.out Ez);have F6:Hid (jK wb vb bx i j (X i) (X j) (Y i) (Y j) kd c who v (.slice A4 B.length c4) w6):=aB (FO3.out.same (HD3.out.Zb hi Ez));clear hm1 hm2 Ez;refine hK _ _ (F6.out) ?_
  clear hK K;refine dE ax  ax (fun K hK=>?_)
  go_simp;refine(MJ w6 (D6.out.du.ref i hi) (D6.out.du.ref j hj) (.inr (fun k e e2=>by have:=D6.out.du.uniq _ _ k e e2;omega)) MO.out bb6.out D6.out.rc (fun k e=>(D6.out.hR k e).2.2 _) (by have:=D6.out.got.2.size;have:=D6.out.bz;omega) (fun k e=>(D6.out.du.low _ k e).1)).mono ?_
  rintro e w8 hm;obtain⟨rfl,hm1,hm2,Ez⟩:=hm;rw[HER.out];have DD:=aB (D6.out.ML hi hm1 oN.out Ez);have F8:Hid (jK wb vb bx i j (X i) (X j) (Y i) (Y j) kd c who v (.slice A4 B.length c4) w8):=aB (F6.out.same (D6.out.Zc hi Ez));clear hm1 hm2 Ez;refine hK _ _ (F8.out) ?_
  clear hK K
  iterate 2
   refine dC ax  ax (fun R hR=>?_)
   apply aJ
   refine⟨fun w' hS'=>?_,?_⟩
   ·have hwr:=Ov.out
    have z0:=hS'.p0;have z1:=hS'.p1;have z2:=hS'.q0;have z3:=hS'.q1
    go_simp;exact⟨rfl,rfl⟩
   go_simp;refine hR _ ?_;clear hR R
  refine dF ?_
  try refine dO ?_
  go_wp2_with fail;refine bodyPost_ret (by simp[results,Tryz.results28,go_sem, *];try rfl) rfl ?_
  rw[<-ar8.out _ MP.out];exact⟨by simp,_,DD.out.1,DD.out.2⟩
 by_cases e6:m=6
 ·subst e6
  have MP:Hid (Eo sp ⟨kd,who,v,c,B⟩ (S i) (S j)=(jh sp B (S i) (S i) 0).1):=aB (by
   unfold Eo;show(if (kd:Int) % 7=5 then _ else _)=_
   rw[Rz.out];rw[if_neg af,if_pos af])
  have oN:Hid (jg sp ((jh sp B (S i) (S i) 0).1)):=aB (by rw[<-MP.out];exact qF.out)
  have CT:=aB (RV wc.drew (HD3.out.du.win i hi) (HD3.out.du.win i hi) (.inl ⟨rfl,rfl⟩) MO.out MO.out as1.out (fun q _ e=>by cases e) (fun k e=>(HDS.out k e).1))
  obtain⟨er,her⟩:∃q,uY sp (S i) (S i)=q:=⟨_,rfl⟩;rw[her] at CT;have HER:=aB her;have hee:(er == er)=true:=ag
  have Ov:Hid (IntKind.i64.wrap (j:Int)=(j:Int)):=aB (IntWalk.i64_in _ ae)
  clear her
  go_upto_region 9 with fail;clear b0;refine dD (fun w'=>jK wb vb bx i j (X i) (X j) (Y i) (Y j) kd c who v (.slice A4 B.length c4) w') [(0,true),(1,true),(2,true),(3,true),(4,true),(5,true),(6,true),(7,true),(8,true),(10,true),(11,true),(12,true),(13,true),(14,true),(15,true),(16,true),(17,true),(18,true),(9,false),(19,false),(20,true),(21,true)] (by kernel_rfl) (by kernel_rfl) (FO3.out) ?_
  iterate 18
   refine dC ax  ax (fun R hR=>?_)
   apply aJ
   refine⟨fun w' hS'=>?_,?_⟩
   ·have hwr:=Ov.out
    have z0:=hS'.p0;have z1:=hS'.p1;have z2:=hS'.q0;have z3:=hS'.q1
    go_simp;exact⟨rfl,rfl⟩
   go_simp;refine hR _ ?_;clear hR R
  refine dE ax  ax (fun K hK=>?_)
  go_simp;refine(CT.out).mono ?_
  rintro e w6 hm;obtain⟨rfl,hm1,hm2,Ez⟩:=hm;have D6:=aB (HD3.out.MK hi hm1 oN.out Ez);have F6:Hid (jK wb vb bx i j (X i) (X j) (Y i) (Y j) kd c who v (.slice A4 B.length c4) w6):=aB (FO3.out.same (HD3.out.Zb hi Ez));clear hm1 hm2 Ez;refine hK _ _ (F6.out) ?_
  clear hK K;refine dE ax  ax (fun K hK=>?_)
  go_simp;refine(MJ w6 (D6.out.du.ref i hi) (D6.out.du.ref i hi) (.inl ⟨rfl,rfl⟩) MO.out MO.out D6.out.rc (fun k e=>(D6.out.hR k e).2.2 _) (by have:=D6.out.got.2.size;have:=D6.out.bz;omega) (fun k e=>(D6.out.du.low _ k e).1)).mono ?_
  rintro e w8 hm;obtain⟨rfl,hm1,hm2,Ez⟩:=hm;rw[HER.out];have DD:=aB (D6.out.ML hi hm1 oN.out Ez);have F8:Hid (jK wb vb bx i j (X i) (X j) (Y i) (Y j) kd c who v (.slice A4 B.length c4) w8):=aB (F6.out.same (D6.out.Zc hi Ez));clear hm1 hm2 Ez;refine hK _ _ (F8.out) ?_
  clear hK K
  iterate 2
   refine dC ax  ax (fun R hR=>?_)
   apply aJ
   refine⟨fun w' hS'=>?_,?_⟩
   ·have hwr:=Ov.out
    have z0:=hS'.p0;have z1:=hS'.p1;have z2:=hS'.q0;have z3:=hS'.q1
    go_simp;exact⟨rfl,rfl⟩
   go_simp;refine hR _ ?_;clear hR R
  refine dF ?_
  try refine dO ?_
  go_wp2_with fail;refine bodyPost_ret (by simp[results,Tryz.results28,go_sem, *];try rfl) rfl ?_
  rw[<-ar8.out _ MP.out];exact⟨by simp,_,DD.out.1,DD.out.2⟩
 ·have MP:Hid (Eo sp ⟨kd,who,v,c,B⟩ (S i) (S j)=(jQ sp B v c (S i) 0).1):=aB (by
   unfold Eo;show(if (kd:Int) % 7=5 then _ else _)=_
   rw[Rz.out,if_neg ae,if_neg ae])
  have oN:Hid (jg sp (jQ sp B v c (S i) 0).1):=aB (by rw[<-MP.out];exact qF.out)
  have CT:=aB (ar5 v c wc.drew (HD3.out.du.win i hi) MO.out as1.out (fun _ e=>by cases e) (fun k e=>(HDS.out k e).1) v0 v1 ae  ae)
  obtain⟨er,her⟩:∃q,oL sp (S i) v c=q:=⟨_,rfl⟩;rw[her] at CT;have HER:=aB her;have hee:(er == er)=true:=ag
  have e5i:¬((m:Int)=5):=ae
  have e6i:¬((m:Int)=6):=ae
  clear her
  go_upto_region 10 with fail;clear b0;refine dD (fun w'=>jK wb vb bx i j (X i) (X j) (Y i) (Y j) kd c who v (.slice A4 B.length c4) w') [(0,true),(1,true),(2,true),(3,true),(4,true),(5,true),(6,true),(7,true),(8,true),(10,true),(11,true),(12,true),(13,true),(14,true),(15,true),(16,true),(17,true),(18,true),(9,false),(19,false),(20,true),(21,true)] (by kernel_rfl) (by kernel_rfl) (FO3.out) ?_
  iterate 18
   refine dC ax  ax (fun R hR=>?_)
   apply aJ
   refine⟨fun w' hS'=>?_,?_⟩
   ·have z0:=hS'.p0
    have z2:=hS'.q0;have z4:=hS'.o2;have z5:=hS'.o3
    go_simp;exact⟨rfl,rfl⟩
   go_simp;refine hR _ ?_;clear hR R
  refine dE ax  ax (fun K hK=>?_)
  go_simp;refine(CT.out).mono ?_
  rintro e w6 hm;obtain⟨rfl,hm1,hm2,Ez⟩:=hm;have D6:=aB (HD3.out.MK hi hm1 oN.out Ez);have F6:Hid (jK wb vb bx i j (X i) (X j) (Y i) (Y j) kd c who v (.slice A4 B.length c4) w6):=aB (FO3.out.same (HD3.out.Zb hi Ez));clear hm1 hm2 Ez;refine hK _ _ (F6.out) ?_
  clear hK K;refine dE ax  ax (fun K hK=>?_)
  go_simp;refine(ag9 v c w6 (D6.out.du.ref i hi) MO.out D6.out.rc (fun k e=>(D6.out.hR k e).2.2 _) (by have:=D6.out.got.2.size;have:=D6.out.bz;omega) (fun k e=>(D6.out.du.low _ k e).1) v0 v1 ae  ae).mono ?_
  rintro e w8 hm;obtain⟨rfl,hm1,hm2,Ez⟩:=hm;rw[HER.out];have DD:=aB (D6.out.ML hi hm1 oN.out Ez);have F8:Hid (jK wb vb bx i j (X i) (X j) (Y i) (Y j) kd c who v (.slice A4 B.length c4) w8):=aB (F6.out.same (D6.out.Zc hi Ez));clear hm1 hm2 Ez;refine hK _ _ (F8.out) ?_
  clear hK K
  iterate 2
   refine dC ax  ax (fun R hR=>?_)
   apply aJ
   refine⟨fun w' hS'=>?_,?_⟩
   ·have z0:=hS'.p0
    have z2:=hS'.q0;have z4:=hS'.o2;have z5:=hS'.o3
    go_simp;exact⟨rfl,rfl⟩
   go_simp;refine hR _ ?_;clear hR R
  refine dF ?_
  try refine dO ?_
  go_wp2_with fail;refine bodyPost_ret (by simp[results,Tryz.results28,go_sem, *];try rfl) rfl ?_
  rw[<-ar8.out _ MP.out];exact⟨by simp,_,DD.out.1,DD.out.2⟩
open Go.RowKit Go.Lib Go.Shelf
theorem Zd{sp:iM}{o0 wb vb:Nat}{S:Nat->Js}{X Y:Nat->Nat}{Ow:Nat->Ft}{w:World}{cv:Value}(o:I4)(oks:uX sp)(hsm:sp.small)(hbz:o0<=w.heap.size)(hD:mD sp o0 S S X Y Ow wb vb w)(ho:o.fits)(hB:Y5 o0 w cv o.B)(hlen:o.B.length<=200) :
 Calls Tryz.prog 28 #[.slice (some ⟨wb,0,none⟩) 2 2,.slice (some ⟨vb,0,none⟩) 2 2,.agg #[.int .u8 o.kd,.bool o.who,.int .i64 o.v,.int .u64 o.n,cv]] w fun e w'=>e=.returned (.bool true)/\∃Za,mD sp o0 (doJ sp o S) (doJ sp o S) X Y Za wb vb w'/\wP Ow Za w w':=by
 obtain⟨kd,who,v,n,B⟩:=o;obtain⟨k0,k1,v0,v1,n0,n1,hb⟩:=ho;simp only at k0 k1 v0 v1 n0 n1 hb hB hlen |-;obtain⟨kd,rfl⟩:∃q:Nat,kd=(q:Int):=⟨kd.toNat,ae⟩
 obtain⟨n,rfl⟩:∃q:Nat,n=(q:Int):=⟨n.toNat,ae⟩
 cases who with
 | false=>exact bb5 (i:=0) (j:=1) kd n false v oks hsm hbz hD (.inl ⟨rfl,rfl,rfl⟩) ae  ae v0 v1 hB ⟨by omega,hb⟩
 | true=>exact bb5 (i:=1) (j:=0) kd n true v oks hsm hbz hD (.inr ⟨rfl,rfl,rfl⟩) ae  ae v0 v1 hB ⟨by omega,hb⟩
theorem wP.below{Ow Za:Nat->Ft}{w w':World}{b:Nat}(h:wP Ow Za w w')(hl:∀a k,Ow a k->b<=k)(hz:b<=w.heap.size):Below b w w':=h.2.below (fun k ⟨a,e⟩=>hl a k e) hz
structure VV(W:World)(sp:iM)(S:Nat->Js)(X Y:Nat->Nat)(wb vb:Nat)(w:World):Prop where
 duo:∃Ow,mD sp W.heap.size S S X Y Ow wb vb w
 below:Below W.heap.size W w
theorem VV.keep{W w w':World}{sp:iM}{S:Nat->Js}{X Y:Nat->Nat}{wb vb:Nat}(h:VV W sp S X Y wb vb w)(hb:Below w.heap.size w w'):VV W sp S X Y wb vb w':=
 ⟨h.duo.imp fun _ d=>d.keep hb,h.below.trans (hb.mono h.below.size)⟩
theorem VV.act{W w:World}{sp:iM}{S:Nat->Js}{X Y:Nat->Nat}{wb vb:Nat}{cv:Value}(h:VV W sp S X Y wb vb w)(o:I4)(oks:uX sp)(hsm:sp.small)(ho:o.fits)(hB:Y5 W.heap.size w cv o.B)(hlen:o.B.length<=200) :
 Calls Tryz.prog 28 #[.slice (some ⟨wb,0,none⟩) 2 2,.slice (some ⟨vb,0,none⟩) 2 2,.agg #[.int .u8 o.kd,.bool o.who,.int .i64 o.v,.int .u64 o.n,cv]] w fun e w'=>e=.returned (.bool true)/\VV W sp (doJ sp o S) X Y wb vb w':=by
 obtain⟨⟨Ow,d⟩,hb⟩:=h;refine(Zd o oks hsm hb.size d ho hB hlen).mono ?_
 rintro e w' ⟨rfl,Za,d',g⟩;exact⟨rfl,⟨Za,d'⟩,hb.trans (g.below (fun a k e=>(d.low a k e).1) hb.size)⟩
theorem VV.win{W w:World}{sp:iM}{i:Nat}{S:Nat->Js}{X Y:Nat->Nat}{wb vb:Nat}(h:VV W sp S X Y wb vb w)(hi:i<2) :
 (∃F,iE sp (S i) (X i) F w)/\(∃F,gG sp (S i) (Y i) F w)/\jg sp (S i)/\w.cell? ⟨wb,i,none⟩=some (.pointer (some ⟨X i,0,none⟩))/\w.cell? ⟨vb,i,none⟩=some (.pointer (some ⟨Y i,0,none⟩))/\wb<w.heap.size/\vb<w.heap.size:=by
 obtain⟨⟨Ow,d⟩,hb⟩:=h;exact⟨⟨_,d.win i hi⟩,⟨_,d.ref i hi⟩,d.ok i hi,d.cw i hi,d.cv i hi,(d.low 4 _ d.rw).2,(d.low 4 _ d.rv).2⟩
theorem Jc.act{o0:Nat}{w:World}{A:Option Addr}{c i:Nat}{l:List I4}(h:Jc o0 w (.slice A l.length c) l)(hi:i<l.length):∃g off cv,A=some ⟨g,off,none⟩/\g<o0/\Y5 o0 w cv l[i].B /\
 w.cell? ⟨g,off+i * 5,none⟩=some (.int .u8 l[i].kd)/\w.cell? ⟨g,off+i * 5+1,none⟩=some (.bool l[i].who)/\w.cell? ⟨g,off+i * 5+2,none⟩=some (.int .i64 l[i].v)/\w.cell? ⟨g,off+i * 5+3,none⟩=some (.int .u64 l[i].n)/\w.cell? ⟨g,off+i * 5+4,none⟩=some cv:=by
 obtain⟨_,A',c',e,_,_,hf⟩:=h;injection e with e1 e2 e3;subst e1;obtain⟨g,off,rfl,hg,hj⟩:=hf ae
 obtain⟨cv,h1,h2,h3,h4,h5,h6⟩:=hj i hi;exact⟨g,off,cv,rfl,hg,h6,h1,h2,h3,h4,h5⟩
open Go.RowKit Go.Lib Go.Shelf
theorem yj{sp:iM}{c:Js}{x y:Nat}{F G:Ft}{kd lo hi dg ac sz:Int}{gr:Bool}(hv:sp.v=gu kd lo hi dg gr ac sz)(hcs:sp.cs=[.int .u8 kd,.int .i64 lo,.int .i64 hi,.int .i64 dg,.bool gr,.int .i64 ac,.int .i64 sz])(w:World)(h:iE sp c x F w)(h2:gG sp c y G w)(ok:jg sp c) :
 Calls Tryz.prog 23 #[.pointer (some ⟨x,0,none⟩),.pointer (some ⟨y,0,none⟩)] w fun e w'=>e=.returned (.bool true)/\Below w.heap.size w w':=by
 have XS:=aB (fun W (hb:Below w.heap.size w W)=>RS W ((fO sp c x).keep h hb) ok)
 have XT:=aB (fun W (hb:Below w.heap.size w W)=>LX W ((fO sp c x).keep h hb) ok)
 have XR:=aB (fun W (hb:Below w.heap.size w W)=>Vq W ((iG sp c y).keep h2 hb) ok)
 have XX:=aB (fun W (hb:Below w.heap.size w W)=>yc W ((fO sp c x).keep h hb) ok)
 have XY:=aB (fun W (hb:Below w.heap.size w W)=>Y_ W ((iG sp c y).keep h2 hb) ok)
 obtain⟨p,G2,hB,_⟩:=h2;have ly:=hB.lt;rw[hcs] at hB;have f0:=hB.cell 0;have f1:=hB.cell 1;have f2:=hB.cell 2;have f3:=hB.cell 3;have f4:=hB.cell 4;have f5:=hB.cell 5;have f6:=hB.cell 6;simp only[List.cons_append,List.nil_append,aF,aC,aG] at f0 f1 f2 f3 f4 f5 f6;have FF:=aB (aN f0 (aN f1 (aN f2 (aN f3 (aN f4 (aN f5 f6))))));rw[hv] at XS;unfold gu at XS;obtain⟨tt,htt⟩:∃q,LU sp c=q:=⟨_,rfl⟩;obtain⟨tx,htx⟩:∃q,jR sp c=q:=⟨_,rfl⟩;rw[htt] at XT XR;rw[htx] at XX XY;obtain⟨st,hst⟩:∃q,strOfNums tx=q:=⟨_,rfl⟩;have HST:=aB hst;have bp1:(tt == tt)=true:=ag
 clear h hB hv hcs ok htt htx hst f0 f1 f2 f3 f4 f5 f6
 go_enter Tryz.func23,Tryz.ntmps23
 go_upto_region 1 with fail;have lS:=aB (fun w' (hS':(fun w'=>Below w.heap.size w w') w')=>(aN ((hS'.cell (p:=⟨y,0,none⟩) ly).trans FF.out.1) (aN ((hS'.cell (p:=⟨y,1,none⟩) ly).trans FF.out.2.1) (aN ((hS'.cell (p:=⟨y,2,none⟩) ly).trans FF.out.2.2.1) (aN ((hS'.cell (p:=⟨y,3,none⟩) ly).trans FF.out.2.2.2.1) (aN ((hS'.cell (p:=⟨y,4,none⟩) ly).trans FF.out.2.2.2.2.1) (aN ((hS'.cell (p:=⟨y,5,none⟩) ly).trans FF.out.2.2.2.2.2.1) ((hS'.cell (p:=⟨y,6,none⟩) ly).trans FF.out.2.2.2.2.2.2))))))))
 refine oM (fun w'=>Below w.heap.size w w') (.rd 0 (.rd 2 (.rd 3 (.rd 4 (.rd 5 (.ef 1 (.rd 6 (.rd 7 (.rd 8 (.rd 10 (.ef 9 (.ef 11 (.rd 12 (.rd 13 (.rd 14 (.rd 15 (.rd 18 (.ef 16 (.two 17 19 (.ef 19 (.ef 20 (.rd 21 (.rd 22 (.rd 23 .nil))))) (.two 17 20 (.ef 20 (.rd 21 (.rd 22 (.rd 23 .nil)))) (.ef 17 (.rd 21 (.rd 22 (.rd 23 .nil)))))))))))))))))))))))) (by kernel_rfl) (by kernel_rfl) ((aH _ _).drew) ?_
 iterate 5
  refine fK ax  ax (fun R hR=>?_)
  apply aJ
  refine⟨fun w' hS'=>?_,?_⟩
  ·obtain⟨f0,f1,f2,f3,f4,f5,f6⟩:=lS.out w' hS'
   go_simp;exact⟨rfl,rfl⟩
  go_simp;refine hR _ ?_;clear hR R
 refine iT ax  ax (fun K hK=>?_)
 go_simp;refine(XS.out _ (aH _ _).drew).mono ?_
 rintro e w1 ⟨rfl,hb1⟩;have B1:Below w.heap.size w w1:=(aH _ _).drew.trans hb1;refine hK _ _ (B1) ?_
 clear hK K
 iterate 4
  refine fK ax  ax (fun R hR=>?_)
  apply aJ
  refine⟨fun w' hS'=>?_,?_⟩
  ·obtain⟨f0,f1,f2,f3,f4,f5,f6⟩:=lS.out w' hS'
   go_simp;exact⟨rfl,rfl⟩
  go_simp;refine hR _ ?_;clear hR R
 refine iT ax  ax (fun K hK=>?_)
 go_simp;refine(XT.out w1 B1).mono ?_
 rintro e w2 ⟨rfl,rfl⟩;refine hK _ _ (B1) ?_
 clear hK K;refine iT ax  ax (fun K hK=>?_)
 go_simp;refine(XR.out w1 B1).mono ?_
 rintro e w3 ⟨rfl,hb3⟩;have B3:Below w.heap.size w w3:=B1.trans (hb3.mono B1.size);refine hK _ _ (B3) ?_
 clear hK K
 iterate 5
  refine fK ax  ax (fun R hR=>?_)
  apply aJ
  refine⟨fun w' hS'=>?_,?_⟩
  ·obtain⟨f0,f1,f2,f3,f4,f5,f6⟩:=lS.out w' hS'
   go_simp;exact⟨rfl,rfl⟩
  go_simp;refine hR _ ?_;clear hR R
 refine iT ax  ax (fun K hK=>?_)
 go_simp;refine(XX.out w3 B3).mono ?_
 rintro e w4 ⟨v4,rfl,o4,hb4⟩;have B4:Below w.heap.size w w4:=B3.trans (hb4.mono B3.size);have ca:=zq (dN.rd o4);rw[HST.out] at ca;refine hK _ _ (B4) ?_
 clear hK K;refine qK ax  ax  ax  ax (fun K hK=>?_) (fun K hK=>?_)
 go_simp;refine hK _ _ (B4) ?_
 clear hK K;refine iT ax  ax (fun K hK=>?_)
 go_simp;refine(XY.out w4 B4).mono ?_
 rintro e w5 ⟨v5,rfl,o5,hb5⟩;have B5:Below w.heap.size w w5:=B4.trans (hb5.mono B4.size);have cb:=zq (dN.rd o5);rw[HST.out] at cb;refine hK _ _ (B5) ?_
 clear hK K;refine iT ax  ax (fun K hK=>?_)
 go_simp;refine hK _ _ (B5) ?_
 clear hK K
 iterate 3
  refine fK ax  ax (fun R hR=>?_)
  apply aJ
  refine⟨fun w' hS'=>?_,?_⟩
  ·obtain⟨f0,f1,f2,f3,f4,f5,f6⟩:=lS.out w' hS'
   go_simp;exact⟨rfl,rfl⟩
  go_simp;refine hR _ ?_;clear hR R
 refine kN ?_
 rotate_left
 go_simp;refine(XY.out w4 B4).mono ?_
 rintro e w5 ⟨v5,rfl,o5,hb5⟩;have B5:Below w.heap.size w w5:=B4.trans (hb5.mono B4.size);have cb:=zq (dN.rd o5);rw[HST.out] at cb;have cc:=zq (iH.keep (dN.rd o4) hb5);rw[HST.out] at cc;refine hK _ _ (B5) ?_
 clear hK K;refine qK ax  ax  ax  ax (fun K hK=>?_) (fun K hK=>?_)
 go_simp;refine hK _ _ (B5) ?_
 clear hK K;refine iT ax  ax (fun K hK=>?_)
 go_simp;refine hK _ _ (B5) ?_
 clear hK K
 iterate 3
  refine fK ax  ax (fun R hR=>?_)
  apply aJ
  refine⟨fun w' hS'=>?_,?_⟩
  ·obtain⟨f0,f1,f2,f3,f4,f5,f6⟩:=lS.out w' hS'
   go_simp;exact⟨rfl,rfl⟩
  go_simp;refine hR _ ?_;clear hR R
 refine kN ?_
 rotate_left
 go_simp;refine hK _ _ (B5) ?_
 clear hK K;refine iT ax  ax (fun K hK=>?_)
 go_simp;refine hK _ _ (B5) ?_
 clear hK K
 iterate 3
  refine fK ax  ax (fun R hR=>?_)
  apply aJ
  refine⟨fun w' hS'=>?_,?_⟩
  ·obtain⟨f0,f1,f2,f3,f4,f5,f6⟩:=lS.out w' hS'
   go_simp;exact⟨rfl,rfl⟩
  go_simp;refine hR _ ?_;clear hR R
 refine kN ?_
 all_goals
  try refine dO ?_
  go_wp2_with fail;refine bodyPost_ret (by simp[results,Tryz.results23,go_sem, *];try rfl) rfl ?_
  exact⟨by simp,B5⟩
theorem Qk{sp:iM}{c:Js}{x y:Nat}{F G:Ft}(w:World)(h:iE sp c x F w)(h2:gG sp c y G w)(ok:jg sp c) :
 Calls Tryz.prog 23 #[.pointer (some ⟨x,0,none⟩),.pointer (some ⟨y,0,none⟩)] w fun e w'=>e=.returned (.bool true)/\Below w.heap.size w w':=by
 cases sp with
 | h lo hi dg u m gr=>exact yj rfl rfl w h h2 ok
 | d a m=>exact yj rfl rfl w h h2 ok
 | t d=>exact yj rfl rfl w h h2 ok
 | k q=>exact yj rfl rfl w h h2 ok
open Go.RowKit Go.Lib Go.Shelf
theorem MQ{o0:Nat}{v:Value}{l:List I4}(w:World)(h:Jc o0 w v l) :
 Calls Tryz.prog 25 #[v] w fun e w'=>(∃g:Bool,e=.returned (.bool g)/\(g=false->∀i,i<100->(hi:i<l.length)->l[i].B.length<=200))/\Below w.heap.size w w':=by
 obtain⟨_,A,c,rfl,hc1,hc2,hf⟩:=h;have HF:=aB hf;clear hf
 go_enter Tryz.func25,Tryz.ntmps25
 go_wp2_with fail
 go_loopg [3] (l.length) (fun q t3 wr=>∃i:Nat,q=l.length - i/\i<=l.length/\i<=100/\t3=.int .i64 (i:Int)/\w=wr/\Hid (∀j,j<i->(hj:j<l.length)->l[j].B.length<=200))
 case atStart=>exact⟨0,ae,ae,ae,rfl,rfl,aB (fun j hj=>by omega)⟩
 case round=>
  obtain⟨i,hq,hi,hi2,rfl,rfl,HB⟩:=hrel;have HQ:=aB hq;clear hq
  by_cases hlt:i<l.length
  ·have ZI:(i:Int)<(l.length:Int):=ae
   by_cases bp2:i<100
   ·have h1:(i:Int)<100:=ae
    obtain⟨g,off,rfl,hg,hc⟩:=HF.out ae
    obtain⟨cv,_,_,_,_,c4,hin⟩:=hc i hlt;obtain⟨A4,c5,rfl,b1,b2,_⟩:=hin.rd.form;obtain⟨x,hx⟩:∃x,l[i].B.length=x:=⟨_,rfl⟩;rw[hx] at c4 b1;have HX:=aB hx;have C4:=aB c4;clear hc hin hx c4;have c4:w.cell? ⟨g,off+i * 5+4,none⟩=_:=C4.out
    by_cases hgt:200<x
    ·have hg2:(x:Int) > 200:=ae
     go_wp2_with fail;refine bodyPost_ret (by simp[results,Tryz.results25,go_sem, *];try rfl) rfl ?_
     exact⟨⟨true,rfl,fun e=>by cases e⟩,aH _ _⟩
    ·have hg2:¬((x:Int) > 200):=ae
     go_wp2_with fail
     go_roundg (l.length - (i+1))
     case measure=>have:=HQ.out;omega
     case rel=>exact⟨i+1,rfl,ae,ae,ai,rfl,aB (fun j hj hjl=>by
      by_cases e:j=i
      ·subst e;rw[HX.out];omega
      ·exact HB.out j ae hjl)⟩
   ·have h1:¬((i:Int)<100):=ae
    go_wp2_with fail;refine bodyPost_ret (by simp[results,Tryz.results25,go_sem, *];try rfl) rfl ?_
    first
     | exact⟨⟨false,rfl,fun _ j h2 h3=>HB.out j ae h3⟩,aH _ _⟩
     | exact⟨.inl ⟨rfl,fun j h2 h3=>HB.out j ae h3⟩,aH _ _⟩
  ·have ZI:¬((i:Int)<(l.length:Int)):=ae
   go_wp2_with fail;refine bodyPost_ret (by simp[results,Tryz.results25,go_sem, *];try rfl) rfl ?_
   first
    | exact⟨⟨false,rfl,fun _ j h2 h3=>HB.out j ae h3⟩,aH _ _⟩
    | exact⟨.inl ⟨rfl,fun j h2 h3=>HB.out j ae h3⟩,aH _ _⟩
open Go.RowKit Go.Lib
def crS(c:Int):Int:=if bits .and .u32 c 1=1 then bits .xor .u32 (c / 2) 3988292384 else c / 2
def crN:Nat->Int->Int
 | 0,c=>c
 | k+1,c=>crS (crN k c)
def ZO(i:Int):Int:=crN 8 i
def RX(c:Int):List Int->Int
 | []=>c
 | x::l=>RX (bits .xor .u32 (c / 256) (ZO (bits .xor .u8 (c % 256) x))) l
def Vs(l:List Int):Int:=bits .xor .u32 4294967295 (RX (bits .xor .u32 4294967295 0) l)
theorem mF(op:BinOp)(a b:Int):0<=bits op .u32 a b/\bits op .u32 a b<4294967296:=by
 unfold bits;simp only[IntKind.wrap_u32];omega
theorem Ql(op:BinOp)(a b:Int):0<=bits op .u8 a b/\bits op .u8 a b<256:=by
 unfold bits;simp only[show ∀n:Int,IntKind.u8.wrap n=n % 256 from fun _=>rfl]
 omega
theorem Ze:∀(l:List Int) {c:Int},0<=c->c<4294967296->0<=RX c l/\RX c l<4294967296
 | [],_,h0,h1=>⟨h0,h1⟩
 | _::l,_,_,_=>Ze l (mF _ _ _).1 (mF _ _ _).2
theorem MR:∀(l:List Int) (c x:Int),RX c (l++[x])=bits .xor .u32 (RX c l / 256) (ZO (bits .xor .u8 (RX c l % 256) x))
 | [],_,_=>rfl
 | y::l,c,x=>MR l _ x
def qL(k:Nat):List Int:=(List.range k).map (fun i:Nat=>ZO (i:Int))++List.replicate (256 - k) 0
theorem Ho{k:Nat}(h:k<=256):(qL k).length=256:=by unfold qL;simp;omega
theorem Vt{k:Nat}(h:k<256):(qL k).set k (ZO (k:Int))=qL (k+1):=by
 unfold qL;have e:List.replicate (256 - k) (0:Int)=0::List.replicate (256 - (k+1)) 0:=by
  rw[show 256 - k=(256 - (k+1))+1 by omega,List.replicate_succ]
 rw[e,List.set_append,if_neg ag,List.range_succ,List.map_append,aS]
 simp
theorem Zf{i:Nat}(h:i<256):(qL 256)[i]?.getD 0=ZO (i:Int):=by
 unfold qL;rw[List.getElem?_append_left ah]
 simp[h]
end Go.Proofs.YtkiebccnpheloaaGreat.D
