/- Parts of a proof. No condition. -/
import Derived.Test.YtilcnjbpmoijmaaGreatPw48
set_option maxRecDepth 100000
set_option maxHeartbeats 16000000
set_option linter.unusedVariables false
set_option linter.unusedSimpArgs false
namespace Go.Proofs.YtilcnjbpmoijmaaGreat.D
open Tryz
open Go.RowKit Go.Lib Go.Shelf
variable{sp:fG}{ac dg hi kd lo sz:Int}{gr:Bool}{w wr:World}{c:Js}{a0 i now z:Nat}{C:List Js}{v:Value}{ps:List Nat}{Ow:Nat->Ft}{G:Ft}
theorem av5(lo hi dg:Int)(gr:Bool)(w:World)(C:∀W,aH 265 #[.agg #[.int .i64 lo,.int .i64 hi,.int .i64 dg]] W fun e w'=>e=.returned (.tuple #[.pointer none,.int .i64 1])/\Below W.heap.size W w') :
 aH 200 #[.agg #[.int .i64 lo,.int .i64 hi,.int .i64 dg],.bool gr] w (aG w (.tuple #[.pointer none,.int .i64 1])):=by
 have HC:=aI C;obtain⟨w0,hw0⟩:=aF (w.alloc (.cells #[.int .i64 lo,.int .i64 hi,.int .i64 dg] 23));have hb0:Below w.heap.size w w0:=by rw[<-hw0];exact bw
 have B0:dK w0 w.heap.size 23 #[.int .i64 lo,.int .i64 hi,.int .i64 dg]:=by rw[<-hw0];exact dK.new _ _ _
 obtain⟨k0,k1,k2⟩:=B0.c3;have X:=aI hb0;clear B0 hb0 C
 go_enter func200,ntmps200
 go_upto_region 1 with fail;clear hw0
 go_wp2_with fail;refine(HC.o w0).mono ?_
 rintro e w1 ⟨rfl,hb1⟩;have Y:=aI (X.o.trans (hb1.mono X.o.size));clear hb1 k0 k1 k2
 go_wp2_with fail
 go_ret2
 exact⟨rfl,Y.o⟩
theorem YG(kd:Int)(w:World)(h:kd<1\/4<kd):aH 69 #[.int .u8 kd] w fun e w'=>e=.returned (.bool false)/\w=w':=by
 by_cases h1:kd<1
 ·have h2:¬1<=kd:=ae
  clear h
  go_enter func69,ntmps69
  go_wp2_with fail
  go_ret;exact⟨rfl,rfl⟩
 ·have h2:1<=kd:=ae
  have h3:¬kd<=4:=ae
  clear h h1
  go_enter func69,ntmps69
  go_wp2_with fail
  go_ret;exact⟨rfl,rfl⟩
theorem ak0(kd lo hi dg ac sz:Int)(gr:Bool)(w:World)(h:kd<1\/4<kd):aH 34 #[dS kd lo hi dg gr ac sz] w (aG w (.tuple #[.pointer none,.int .i64 1])):=by
 have C:=fun W=>aI (YG kd W h)
 unfold dS;clear h
 go_enter func34,ntmps34
 go_wp2_with fail;refine((C _).o).mono ?_
 rintro e w' ⟨rfl,rfl⟩
 go_wp2_with fail;refine bodyPost_ret (by simp[results,Tryz.results34,go_sem, *];try rfl) rfl ?_
 exact⟨rfl,bw⟩
def ak1(kd lo hi dg:Int)(gr:Bool)(ac sz:Int)(w:World)(e:Ending)(w':World):Prop:=
 ((∃sp x,jG sp/\sp.v=dS kd lo hi dg gr ac sz/\e=.returned (.tuple #[.pointer (some ⟨x,0,none⟩),.int .i64 0])/\iK sp sp.new x (Gr (fun _=>False) w w') w')\/(¬kX kd lo hi dg gr ac sz/\e=.returned (.tuple #[.pointer none,.int .i64 1])))/\Below w.heap.size w w'
theorem zX(ok:jG sp){lo2 hi2 dg2 ac2 sz2:Int}{gr2:Bool}{mf:Nat}(hkm:(kd=1/\mf=125)\/(kd=2/\mf=127)\/(kd=3/\mf=129)\/(kd=4/\mf=131))(w:World)(hv:sp.v=dS kd lo2 hi2 dg2 gr2 ac2 sz2)(hne:¬(lo2=lo/\hi2=hi/\dg2=dg/\gr2=gr/\ac2=ac/\sz2=sz))
 (hm:∀y w1,Below w.heap.size w w1->w.heap.size<=y->dK w1 y 126 #[.int .u8 kd,.pointer none,.pointer none,.pointer none,.pointer none]->Calls prog mf #[.pointer (some ⟨y,0,none⟩),dS kd lo hi dg gr ac sz] w1 fun e w'=>e=.returned (.int .i64 0)/\(∃F,iK sp sp.new y F w'/\∀k,F k->w.heap.size<=k)/\Touch (fun j=>j=y) w1 w') :
 aH 34 #[dS kd lo hi dg gr ac sz] w (aG w (.tuple #[.pointer none,.int .i64 1])):=by
 have hs:∀y w1,(∃F,iK sp sp.new y F w1/\∀k,F k->w.heap.size<=k)->aH 53 #[.pointer (some ⟨y,0,none⟩)] w1 (aG w1 (dS kd lo2 hi2 dg2 gr2 ac2 sz2)):=fun y w1 ⟨F,h,_⟩=>hv▸Mc w1 h (tN ok)
 have hk:∀y w1 w',(∃F,iK sp sp.new y F w1/\∀k,F k->w.heap.size<=k)->Below w1.heap.size w1 w'->(∃F,iK sp sp.new y F w'/\∀k,F k->w.heap.size<=k):=fun y w1 w' ⟨F,h,h2⟩ hb=>⟨F,(kz sp _ y).keep h hb,h2⟩
 exact aj9 hkm w hm hs hk hne
open Tryz
open Go.RowKit Go.Lib Go.Shelf
theorem oQ{w':World}{e:Ending}(hn:¬kX kd lo hi dg gr ac sz)(h:e=.returned (.tuple #[.pointer none,.int .i64 1])/\Below w.heap.size w w'):ak1 kd lo hi dg gr ac sz w e w':=⟨.inr ⟨hn,h.1⟩,h.2⟩
theorem YH(kd lo hi dg ac sz:Int)(gr:Bool)(w:World)(h0:-9223372036854775808<=hi)(h1:hi<=9223372036854775807) :
 aH 34 #[dS kd lo hi dg gr ac sz] w (ak1 kd lo hi dg gr ac sz w):=by
 by_cases hs:kX kd lo hi dg gr ac sz
 ·obtain⟨sp,ok,hv⟩:=hs
  have C:=Md w ok;rw[hv] at C;exact C.mono fun e w' ⟨x,h1,h2,h3⟩=>⟨.inl ⟨sp,x,ok,hv,h1,h2⟩,h3⟩
 by_cases k0:kd<1\/4<kd
 ·exact(ak0 kd lo hi dg ac sz gr w k0).mono fun _ _ h=>oQ hs h
 rcases(by omega:kd=1\/kd=2\/kd=3\/kd=4) with rfl|rfl|rfl|rfl
 ·have bad:(∀W,aH 265 #[.agg #[.int .i64 lo,.int .i64 hi,.int .i64 dg]] W fun e w'=>e=.returned (.tuple #[.pointer none,.int .i64 1])/\Below W.heap.size W w')->aH 34 #[dS 1 lo hi dg gr ac sz] w (ak1 1 lo hi dg gr ac sz w):=fun C=>
   (zW (.inl ⟨rfl,rfl⟩) w (fun y w1 hb hy hB=>Uw hB (fun wa _=>av5 lo hi dg gr wa C))).mono fun _ _ h=>oQ hs h
  rcases DF lo hi dg h1 with hn|⟨l,h,d,u,m,rfl,rfl,rfl,hp⟩
  ·exact bad fun W=>aj7 lo hi dg W hn h0 h1
  ·by_cases hu:u+m<=62
   ·have ok:jG (.h l h d u m gr):=hp.ok hu
    have hne:¬((l:Int)=l/\(h:Int)=h/\(d:Int)=d/\gr=gr/\(0:Int)=ac/\(0:Int)=sz):=fun⟨_,_,_,_,e5,e6⟩=>hs (rV.2 ⟨e5.symm,e6.symm,l,h,d,u,m,rfl,rfl,rfl,hp.ok hu⟩)
    refine(zX ok (.inl ⟨rfl,rfl⟩) w rfl hne fun y w1 hb hy hB=>?_).mono fun _ _ h=>oQ hs h
    refine(Dc hB (Q:=fun p w'=>∃x G,p=ji x/\rO (.h l h d u m gr) (fG.h l h d u m gr).new x G w'/\∀k,G k->w1.heap.size<=k) (fun wa g_=>?_)).mono (fun e w' h=>jv h (fun x=>rfl) hB.lt hy)
    refine(Ld gr wa (hp.ok hu)).mono ?_
    rintro e w' ⟨x,rfl,h1,h2⟩;exact⟨x,rfl,⟨x,_,rfl,h1,fun k hk=>hk.elim False.elim (fun h=>bJ g_.size h.1)⟩,h2⟩
   ·exact bad fun W=>aj6 W hp ae
 ·by_cases hd:ac<100\/5000<ac\/sz<2\/4096<sz
  ·exact(zW (.inr (.inl ⟨rfl,rfl⟩)) w (fun y w1 hb hy hB=>YF hB (fun wa _=>bl7 ac sz wa hd))).mono fun _ _ h=>oQ hs h
  ·obtain⟨a,rfl⟩:=Int.eq_ofNat_of_zero_le (a:=ac) ae
   obtain⟨m,rfl⟩:=Int.eq_ofNat_of_zero_le (a:=sz) ae
   have ok:jG (.d a m):=(show 100<=a/\a<=5000/\2<=m/\m<=4096 from⟨by omega,ae,ae,ae⟩)
   have hne:¬((0:Int)=lo/\(0:Int)=hi/\(0:Int)=dg/\false=gr/\(a:Int)=a/\(m:Int)=m):=fun⟨e1,e2,e3,e4,_,_⟩=>hs (qj.2 ⟨e1.symm,e2.symm,e3.symm,e4.symm,ae,ae,ae,ae⟩)
   refine(zX ok (.inr (.inl ⟨rfl,rfl⟩)) w rfl hne fun y w1 hb hy hB=>?_).mono fun _ _ h=>oQ hs h
   refine(Gu hB (Q:=fun p w'=>∃x G,p=ji x/\rO (.d a m) (fG.d a m).new x G w'/\∀k,G k->w1.heap.size<=k) (fun wa g_=>?_)).mono (fun e w' h=>jv h (fun x=>rfl) hB.lt hy)
   refine(RH a m wa ok.1 ok.2.1 ok.2.2.1 ok.2.2.2).mono ?_
   rintro e w' ⟨x,rfl,h1,h2⟩;exact⟨x,rfl,⟨x,_,rfl,h1,fun k hk=>hk.elim False.elim (fun h=>bJ g_.size h.1)⟩,h2⟩
 ·by_cases hd:sz<10\/1000<sz
  ·exact(zW (.inr (.inr (.inl ⟨rfl,rfl⟩))) w (fun y w1 hb hy hB=>IG hB (fun wa _=>Fv sz wa hd))).mono fun _ _ h=>oQ hs h
  ·obtain⟨d,rfl⟩:=Int.eq_ofNat_of_zero_le (a:=sz) ae
   have ok:jG (.t d):=(show 10<=d/\d<=1000 from⟨by omega,ae⟩)
   have hne:¬((0:Int)=lo/\(0:Int)=hi/\(0:Int)=dg/\false=gr/\(0:Int)=ac/\(d:Int)=d):=fun⟨e1,e2,e3,e4,e5,_⟩=>hs (rW.2 ⟨e1.symm,e2.symm,e3.symm,e4.symm,e5.symm,ae,ae⟩)
   refine(zX ok (.inr (.inr (.inl ⟨rfl,rfl⟩))) w rfl hne fun y w1 hb hy hB=>?_).mono fun _ _ h=>oQ hs h
   refine(vG hB (Q:=fun p w'=>∃x G,p=ji x/\rO (.t d) (fG.t d).new x G w'/\∀k,G k->w1.heap.size<=k) (fun wa g_=>?_)).mono (fun e w' h=>jv h (fun x=>rfl) hB.lt hy)
   refine(Ef d wa ae  ae).mono ?_
   rintro e w' ⟨x,rfl,h0,h1,h2⟩;exact⟨x,rfl,⟨x,fun k=>k=x,rfl,h1,fun k hk=>by rw[show k=x from hk];exact bJ g_.size h0⟩,h2⟩
 ·by_cases hd:sz<8\/4096<sz
  ·exact(zW (.inr (.inr (.inr ⟨rfl,rfl⟩))) w (fun y w1 hb hy hB=>Ux hB (fun wa _=>(K.Fv sz wa hd).mono fun _ _ h=>⟨h.1,h.2▸aO _ _⟩))).mono fun _ _ h=>oQ hs h
  ·obtain⟨q,rfl⟩:=Int.eq_ofNat_of_zero_le (a:=sz) ae
   have ok:jG (.k q):=(show 8<=q/\q<=4096 from⟨by omega,ae⟩)
   have hne:¬((0:Int)=lo/\(0:Int)=hi/\(0:Int)=dg/\false=gr/\(0:Int)=ac/\(q:Int)=q):=fun⟨e1,e2,e3,e4,e5,_⟩=>hs (rX.2 ⟨e1.symm,e2.symm,e3.symm,e4.symm,e5.symm,ae,ae⟩)
   refine(zX ok (.inr (.inr (.inr ⟨rfl,rfl⟩))) w rfl hne fun y w1 hb hy hB=>?_).mono fun _ _ h=>oQ hs h
   refine(C_ hB (Q:=fun p w'=>∃x G,p=ji x/\rO (.k q) (fG.k q).new x G w'/\∀k,G k->w1.heap.size<=k) (fun wa g_=>?_)).mono (fun e w' h=>jv h (fun x=>rfl) hB.lt hy)
   refine(K.new_any q wa ok.1 ok.2).mono ?_
   rintro e w' ⟨rfl,rfl⟩;exact⟨_,rfl,⟨_,_,rfl,K.VH q wa,fun k hk=>by rw[show k=wa.heap.size from hk];exact g_.size⟩,bw⟩
open Tryz
open Go.RowKit Go.Lib Go.Shelf
def xH(kd lo hi dg:Int)(gr:Bool)(ac sz n:Int):Prop:=kX kd lo hi dg gr ac sz/\1<=n/\n<=60
theorem Qq(kd lo hi dg ac sz n:Int)(gr:Bool)(w:World)(h:n<1\/60<n) :
 aH 9 #[dS kd lo hi dg gr ac sz,.int .i64 n] w (aG w (.tuple #[.pointer none,.int .i64 1])):=by
 unfold dS
 go_enter func9,ntmps9
 rcases h with h|h
 ·go_wp2_with fail
  refine bodyPost_ret (by simp[results,Tryz.results9,go_sem, *];try rfl) rfl ?_
  exact⟨rfl,bw⟩
 ·have h1:¬n<1:=ae
  have h2:n > 60:=h;clear h
  go_wp2_with fail;refine bodyPost_ret (by simp[results,Tryz.results9,go_sem, *];try rfl) rfl ?_
  exact⟨rfl,bw⟩
theorem Qr(kd lo hi dg ac sz:Int)(gr:Bool)(n:Nat)(w:World)(h0:1<=n)(h60:n<=60)
 (hm:∀w1:World,aH 34 #[dS kd lo hi dg gr ac sz] w1 fun e w'=>e=.returned (.tuple #[.pointer none,.int .i64 1])/\Below w1.heap.size w1 w') :
 aH 9 #[dS kd lo hi dg gr ac sz,.int .i64 n] w (aG w (.tuple #[.pointer none,.int .i64 1])):=by
 unfold dS at hm |-;have CM:=aI hm;clear hm;obtain⟨b,hbb⟩:=aF (w.heap.size);obtain⟨wa,g_⟩:∃z,w.alloc (.cells #[.int .u8 kd,.int .i64 lo,.int .i64 hi,.int .i64 dg,.bool gr,.int .i64 ac,.int .i64 sz] 25)=z:=⟨_,rfl⟩;have ha:Below w.heap.size w wa:=by rw[<-g_];exact bw
 have B0:Hid (dK wa b 25 #[.int .u8 kd,.int .i64 lo,.int .i64 hi,.int .i64 dg,.bool gr,.int .i64 ac,.int .i64 sz]):=by rw[<-g_,<-hbb];exact aI (dK.new _ _ _)
 have hn1:¬(n:Int)<1:=ae
 have hn2:¬(n:Int) > 60:=ae
 go_enter func9,ntmps9
 go_upto_region 3 with fail;try rw[g_]
 clear g_ hbb;obtain⟨g,hgg⟩:=aF (wa.heap.size);have QO:=aI hgg;have lb:b<wa.heap.size:=B0.o.lt;have SS:=aI B0.o.c7;have hmk:=JR n h60;have Ba:Below wa.heap.size wa wa.drew:=(aO _ _).drew;have Bm:Below wa.heap.size wa (wa.drew.alloc (.cells (madeCells #[.pointer none] n) 51)):=Ba.alloc Ba.size _;have mW:=aI (fun(w':World) (hS':(Below wa.heap.size wa) w')=>((B0.o.keep hS').c7))
 refine jh (Below wa.heap.size wa) (dV 0 2 (fJ 2 (dV 3 1 (fJ 4 (dV 5 1 []))))) (Ba) ?_
 iterate 2 refine eQ ?_
 refine fO fun K hK=>?_
 go_simp;refine hK _ _ (Bm) ?_
 clear hK K;refine eQ ?_
 refine fO fun K hK=>?_
 go_simp;refine hK _ _ (Bm.alloc Bm.size _) ?_
 clear hK K;refine eQ ?_
 refine dJ ?_
 obtain⟨wc,hwc⟩:∃z,((wa.alloc (.cells (madeCells #[.pointer none] n) 51)).alloc (.cells #[.int .u8 kd,.int .i64 lo,.int .i64 hi,.int .i64 dg,.bool gr,.int .i64 ac,.int .i64 sz,.slice (some ⟨g,0,none⟩) n n,.int .i64 0,.int .u64 0] 89)).drew=z:=⟨_,rfl⟩;try refine dR ?_
 rw[hwc];have hw:=(dK.new (wa.alloc (.cells (madeCells #[.pointer none] n) 51)) 89 #[.int .u8 kd,.int .i64 lo,.int .i64 hi,.int .i64 dg,.bool gr,.int .i64 ac,.int .i64 sz,.slice (some ⟨g,0,none⟩) n n,.int .i64 0,.int .u64 0]).drew;rw[aV,hgg,hwc] at hw;have HB:Hid (Below wa.heap.size wa wc):=aI (by rw[<-hwc];exact bw)
 clear hwc Ba Bm hmk;have f7:wc.cell? ⟨g+1,7,none⟩=some (.slice (some ⟨g,0,none⟩) n n):=hw.cell 7;clear hw
 go_wp2_with fail;clear f7
 go_loopg [7,8,9,26] 0 (fun q _ _ _ t26 wr=>t26=.int .i64 0/\Hid (Below wa.heap.size wa wr))
 case atStart=>exact⟨rfl,HB⟩
 case round=>
  obtain⟨rfl,HR⟩:=hrel;have hji:(0:Int)<(n:Int):=ae
  obtain⟨s0,s1,s2,s3,s4,s5,s6⟩:=(B0.o.keep HR.o).c7
  go_wp2_with fail;refine(CM.o wr).mono ?_
  rintro e w1 ⟨rfl,hb1⟩;have HE:=aI (ha.trans ((HR.o.trans (hb1.mono HR.o.size)).mono ha.size));clear hb1 s0 s1 s2 s3 s4 s5 s6
  go_wp2_with fail;refine bodyPost_ret (by simp[results,Tryz.results9,go_sem, *];try rfl) rfl ?_
  exact⟨rfl,HE.o⟩
def cd0(kd lo hi dg:Int)(gr:Bool)(ac sz n:Int)(w:World)(p:Value)(er:Int)(w':World):Prop:=
 (∃(sp:fG) (x m:Nat),jG sp/\sp.v=dS kd lo hi dg gr ac sz/\n=m/\1<=m/\m<=60/\p=.pointer (some ⟨x,0,none⟩)/\er=0/\gQ sp (kV sp m) x (Gr (fun _=>False) w w') w')\/(¬xH kd lo hi dg gr ac sz n/\p=.pointer none/\er=1)
theorem DI(kd lo hi dg ac sz n:Int)(gr:Bool)(w:World)(h0:-9223372036854775808<=hi)(h1:hi<=9223372036854775807) :
 aH 9 #[dS kd lo hi dg gr ac sz,.int .i64 n] w fun e w'=>∃p er,e=.returned (.tuple #[p,.int .i64 er])/\cd0 kd lo hi dg gr ac sz n w p er w'/\Below w.heap.size w w':=by
 by_cases hn:1<=n/\n<=60
 ·obtain⟨m,rfl⟩:=Int.eq_ofNat_of_zero_le (a:=n) ae
  by_cases hs:kX kd lo hi dg gr ac sz
  ·obtain⟨sp,ok,hv⟩:=hs
   have C:=VS m w ok ae  ae
   rw[hv] at C;refine C.mono ?_
   rintro e w' ⟨x,rfl,h3,h4⟩;exact⟨_,_,rfl,.inl ⟨sp,x,m,ok,hv,rfl,ae,ae,rfl,rfl,h3⟩,h4⟩
  ·refine(Qr kd lo hi dg ac sz gr m w ae  ae (fun w1=>(YH kd lo hi dg ac sz gr w1 h0 h1).mono ?_)).mono ?_
   ·rintro e w' ⟨⟨sp,x,ok,hv,_⟩|⟨_,h3⟩,h4⟩
    ·exact absurd ⟨sp,ok,hv⟩ hs
    ·exact⟨h3,h4⟩
   ·rintro e w' ⟨rfl,h4⟩
    exact⟨_,_,rfl,.inr ⟨fun h=>hs h.1,rfl,rfl⟩,h4⟩
 ·refine(Qq kd lo hi dg ac sz n gr w ae).mono ?_
  rintro e w' ⟨rfl,h4⟩;exact⟨_,_,rfl,.inr ⟨fun h=>hn h.2,rfl,rfl⟩,h4⟩
theorem MJ(kd lo hi dg ac sz n:Int)(gr:Bool)(w:World)(h:¬xH kd lo hi dg gr ac sz n)
 (hr:∀w1:World,aH 10 #[dS kd lo hi dg gr ac sz] w1 (Qp kd lo hi dg gr ac sz w1)) :
 aH 11 #[dS kd lo hi dg gr ac sz,.int .i64 n] w (aG w (.pointer none)):=by
 unfold dS at hr |-;have CR:=aI hr;clear hr;obtain⟨b,hbb⟩:=aF (w.heap.size);obtain⟨wa,g_⟩:∃z,w.alloc (.cells #[.int .u8 kd,.int .i64 lo,.int .i64 hi,.int .i64 dg,.bool gr,.int .i64 ac,.int .i64 sz] 25)=z:=⟨_,rfl⟩;have ha:Below w.heap.size w wa:=by rw[<-g_];exact bw
 have B0:Hid (dK wa b 25 #[.int .u8 kd,.int .i64 lo,.int .i64 hi,.int .i64 dg,.bool gr,.int .i64 ac,.int .i64 sz]):=by rw[<-g_,<-hbb];exact aI (dK.new _ _ _)
 have HW:=aI h;clear h
 go_enter func11,ntmps11
 go_upto_region 1 with fail;try rw[g_]
 clear g_ hbb;obtain⟨s0,s1,s2,s3,s4,s5,s6⟩:=B0.o.c7
 go_wp2_with fail;refine(CR.o wa).mono ?_
 rintro e w1 ⟨⟨q,rfl,hq⟩,hb1⟩;have HE:=aI (ha.trans (hb1.mono ha.size));clear hb1 s0 s1 s2 s3 s4 s5 s6
 cases q with
 | false=>
  go_wp2_with fail
  go_ret;exact⟨rfl,HE.o⟩
 | true=>
  have hn:n<1\/60<n:=by
   have h1:=hq.1 rfl;have h2:=HW.o;unfold xH at h2;have:¬(1<=n/\n<=60):=fun e=>h2 ⟨h1,e⟩
   omega
  clear hq
  rcases hn with hn|hn
  ·go_wp2_with fail
   go_ret;exact⟨rfl,HE.o⟩
  ·have h1:¬n<1:=ae
   have h2:n > 60:=hn;clear hn
   go_wp2_with fail
   go_ret;exact⟨rfl,HE.o⟩
def bt9(kd lo hi dg:Int)(gr:Bool)(ac sz n:Int)(w:World)(p:Value)(w':World):Prop:=
 (∃(sp:fG) (x m:Nat),jG sp/\sp.v=dS kd lo hi dg gr ac sz/\n=m/\1<=m/\m<=60/\p=.pointer (some ⟨x,0,none⟩)/\yD sp (kV sp m) x (Gr (fun _=>False) w w') w')\/(¬xH kd lo hi dg gr ac sz n/\p=.pointer none)
theorem zY(kd lo hi dg ac sz n:Int)(gr:Bool)(w:World)(h0:-9223372036854775808<=hi)(h1:hi<=9223372036854775807) :
 aH 11 #[dS kd lo hi dg gr ac sz,.int .i64 n] w fun e w'=>∃p,e=.returned p/\bt9 kd lo hi dg gr ac sz n w p w'/\Below w.heap.size w w':=by
 by_cases hw:xH kd lo hi dg gr ac sz n
 ·obtain⟨⟨sp,ok,hv⟩,hn1,hn2⟩:=hw
  obtain⟨m,rfl⟩:=Int.eq_ofNat_of_zero_le (a:=n) ae
  have C:=aj8 m w ok ae  ae
  rw[hv] at C;refine C.mono ?_
  rintro e w' ⟨x,rfl,h3,h4⟩;exact⟨_,rfl,.inl ⟨sp,x,m,ok,hv,rfl,ae,ae,rfl,h3⟩,h4⟩
 ·refine(MJ kd lo hi dg ac sz n gr w hw (fun w1=>vY kd lo hi dg ac sz gr w1 h0 h1)).mono ?_
  rintro e w' ⟨rfl,h4⟩;exact⟨_,rfl,.inr ⟨hw,rfl⟩,h4⟩
open Tryz
open Go.RowKit Go.Lib Go.Shelf
theorem Qs(h:iT sp c):D8 sp sp.new c=0:=by
 have hb:=LW h
 cases sp with
 | h lo hi dg u m gr=>
  show Xu [] c.l=0
  unfold Xu;rw[if_neg];have:vT (.h lo hi dg u m gr) c=tot c.l:=rfl;have h0:tot ([]:List Pr)=0:=rfl;omega
 | d a m=>
  show jm [] c.l=0
  unfold jm;rw[if_neg];have:vT (.d a m) c=tot c.l:=rfl;have h0:tot ([]:List Pr)=0:=rfl;omega
 | t d=>
  show iJ St.zero c.s=0
  unfold iJ;rw[if_neg];have h1:=h.fit.t;have h0:Go.Proofs.YtilcnjbpmoijmaaGreat.tot (St.zero.L++St.zero.W)=0:=rfl;omega
 | k q=>
  show K.iJ [] c.L=0
  unfold K.iJ;rw[if_neg];have h1:=h.fit.ok.wtL;have h0:K.wt []=0:=rfl;omega
open Tryz
open Go.RowKit Go.Lib Go.Shelf
open Tryz
open Go.RowKit Go.Lib Go.Shelf
open Tryz
open Go.RowKit Go.Lib Go.Shelf
structure II(sp:fG)(now a0:Nat)(C:List Js)(w:World)(z i:Nat)(v:Value)(ps:List Nat)(Ow:Nat->Ft)(G:Ft)(wr:World):Prop where
 blk:dK wr z 89 (sp.cs++[v,.int .i64 a0,.int .u64 now]).toArray
 ring:RingAt 51 (JsP sp) (C.take i) v ps Ow G wr
 new:∀k,G k->w.heap.size<=k/\k≠z
 below:Below w.heap.size w wr
theorem II.start(hb:dK wr z 89 (sp.cs++[Value.slice none 0 0,Value.int .i64 a0,Value.int .u64 now]).toArray)(h:Below w.heap.size w wr):II sp now a0 C w z 0 (.slice none 0 0) [] (fun _ _=>False) (fun _=>False) wr:=
 ⟨hb,⟨dL.nil_ _ _,rfl,fun i hi=>absurd hi ag,fun _ _ _ h=>h.elim,fun k e=>by simp[Value.ownBlock] at e,fun _ _ h=>h.elim,fun _ h=>h.elim⟩,fun _ h=>h.elim,h⟩
theorem II.next{y:Nat}{w1 w2 w3:World}{v':Value}(h:II sp now a0 C w z i v ps Ow G wr)(hi:i<C.length)(hz:w.heap.size<=z)(hy:iK sp C[i] y (Gr (fun _=>False) wr w1) w1)(hb:Below wr.heap.size wr w1)(hb2:Below w1.heap.size w1 w2)
 (ho:dL (Ud 51) 0 w3 v' (ps++[y])) (hg:w2.grownBy w3 v.ownBlock) (hn:v'.ownBlock=v.ownBlock\/v'.ownBlock=some w2.heap.size) :
 II sp now a0 C w z (i+1) v' (ps++[y]) (BO Ow (C.take i).length (Gr (fun _=>False) wr w1)) (fun k=>G k\/Gr (fun _=>False) wr w1 k\/v'.ownBlock=some k) (w3.setCell ⟨z,7,none⟩ v'):=by
 have jD:Below wr.heap.size wr w2:=hb.trans (hb2.mono hb.size);have hzl:=h.blk.lt;have cc9:=jD.size;have hs:=h.below.size;have r2:=h.ring.keep (mg sp) jD;have y2:=(kz sp _ y).keep hy hb2;have new:∀k,Gr (fun _=>False) wr w1 k->wr.heap.size<=k/\k<w1.heap.size:=fun k hk=>hk.elim False.elim id
 have hf:∀k,Gr (fun _=>False) wr w1 k->¬G k:=fun k hk hG=>by have:=new k hk;have:=h.ring.low k hG;omega
 have hz2:v.ownBlock≠some z:=fun e=>(h.new z (h.ring.l9 z e).1).2 rfl
 have hvz:v'.ownBlock≠some z:=fun e=>by
  rcases AY hn z e with e|e
  ·exact hz2 e
  ·omega
 have hpush:=r2.push (mg sp) y2 hf ho hg hn;have zK:∀k,(G k\/Gr (fun _=>False) wr w1 k\/v'.ownBlock=some k)->k≠z:=fun k hk=>by
  rcases hk with hk|hk|hk
  ·exact(h.new k hk).2
  ·have:=new k hk;omega
  ·intro e;rw[e] at hk;exact hvz hk
 have ht:Touch (fun k=>k=z) w3 (w3.setCell ⟨z,7,none⟩ v'):=Touch.setCell (F:=fun k=>k=z) (Touch.refl _ w3) (p:=⟨z,7,none⟩) (.inl rfl) _
 refine⟨?_,?_,fun k hk=>⟨?_,zK k hk⟩,?_⟩
 ·have hb3:dK w3 z 89 (sp.cs++[v,.int .i64 a0,.int .u64 now]).toArray:=(hg.block z ae (fun e=>hz2 e.symm)).trans (h.blk.keep jD)
  have:=hb3.dQ 7 v'
  revert this
  cases sp<;>exact id
 ·have:=hpush.far (mg sp) ht (fun k hk e=>zK k hk e)
  rw[bg hi];exact this
 ·rcases hk with hk|hk|hk
  ·exact(h.new k hk).1
  ·have:=new k hk;omega
  ·rcases AY hn k hk with e|e
   ·exact(h.new k (h.ring.l9 k e).1).1
   ·omega
 ·refine dI (p:=⟨z,7,none⟩) ?_ hz _
  refine Below.grown (h.below.trans (jD.mono hs)) hg ae (fun k e=>(h.new k (h.ring.l9 k e).1).1)
theorem II.done{s:Wn}(h:II sp s.now a0 C w z C.length v ps Ow G wr)(hL:s.L=Ik sp.new a0 C)(hz:w.heap.size<=z)(h0:a0<C.length)(h60:C.length<=60):gQ sp s z (Gr (fun _=>False) w wr) wr:=by
 have hr:=h.ring;rw[bP (aS _)] at hr;exact⟨a0,C,v,ps,Ow,G,⟨h.blk,hr,h0,h60,fun e=>(h.new z e).2 rfl⟩,hL,.inr ⟨hz,h.blk.lt⟩,fun k hk=>.inr ⟨(h.new k hk).1,hr.low k hk⟩,fun k hk=>hk.elim False.elim And.right⟩
structure av6(sp:fG)(B:List Int)(late:Nat)(o:Wn)(r:List Js × Nat × Int)(N:Nat)(cq:Value)(H:Ft)(w:World)(z now k:Nat)(L:List Js)(a:Nat)(F:Ft)(wr:World):Prop where
 win:gQ sp ⟨L,now⟩ z F wr
 ok:∀c∈L,iT sp c
 len:L.length=N
 cn:jf cq B a H wr
 new:∀j,F j->w.heap.size<=j
 touch:Touch H w wr
 eq:Hz sp B late o.L k L a=r
 idle:∀q,sp=.k q->cq=.pointer none->∀c∈L,c.L=[]
theorem Ia{T:TypeId}{g:Nat}:∀(us cs:List Value) (p:Nat) (w:World),dK w g T cs.toArray->dK (stores w g p us) g T (Ri cs p us).toArray
 | [],_,_,_,h=>h
 | u::us,cs,p,w,h=>by
  have h1:=h.dQ p u;rw[bY] at h1;exact Ia us _ _ _ h1
theorem zZ{g:Nat}{a:World}:∀(us:List Value) (p:Nat) (w:World),Touch (fun j=>j=g) a w->Touch (fun j=>j=g) a (stores w g p us)
 | [],_,_,h=>h
 | u::us,p,w,h=>zZ us _ _ (Touch.setCell (F:=fun j=>j=g) h (p:=⟨g,p,none⟩) (.inl rfl) u)
theorem av7{x:Nat}{cs:List Value}(hx:dK w x 89 cs.toArray)(hl:cs.length=10)(h:jk sp now a0 C v ps Ow G z w)(ho:¬G x) :
 jk sp now a0 C v ps Ow G x (stores w x 0 (sp.cs++[v,.int .i64 a0,.int .u64 now]))/\Touch (fun j=>j=x) w (stores w x 0 (sp.cs++[v,.int .i64 a0,.int .u64 now])):=by
 have hus:(sp.cs++[v,.int .i64 a0,.int .u64 now]).length=10:=by cases sp<;>rfl
 have ht:=zZ (a:=w) (sp.cs++[v,.int .i64 a0,.int .u64 now]) 0 w (Touch.refl _ _) (g:=x);have hb:=Ia (sp.cs++[v,.int .i64 a0,.int .u64 now]) cs 0 w hx;rw[KE _ _ _ ae,List.take_zero,List.nil_append,List.drop_eq_nil_of_le ae,List.append_nil] at hb
 exact⟨⟨hb,h.ring.far (mg sp) ht (fun j hj e=>ho (by rw[<-show j=x from e];exact hj)),h.at0,h.n60,ho⟩,ht⟩
theorem Uy(w:World)(x:Nat)(a0 a1 a2 a3 a4 a5 a6 a7 a8 a9:Value):stores w x 0 [a0,a1,a2,a3,a4,a5,a6,a7,a8,a9]=((((((((((w).setCell ⟨x,0,none⟩ a0).setCell ⟨x,1,none⟩ a1).setCell ⟨x,2,none⟩ a2).setCell ⟨x,3,none⟩ a3).setCell ⟨x,4,none⟩ a4).setCell ⟨x,5,none⟩ a5).setCell ⟨x,6,none⟩ a6).setCell ⟨x,7,none⟩ a7).setCell ⟨x,8,none⟩ a8).setCell ⟨x,9,none⟩ a9:=by
 simp only[stores,Nat.zero_add,Nat.reduceAdd]
theorem cd1:Ty prog (Ud 51) 87:=CQ pjI underlying87 rfl af  af
theorem av8{n:Nat}(h:a0<n)(hi:i<n):qI a0 n (qI a0 n i)=i:=by
 rw[vV h hi]
 split
 ·rw[vV h ae];split<;>omega
 ·rw[vV h ae];split<;>omega
theorem av9{d:Js}(h0:a0<C.length)(hc:c∈C):c∈Ik d a0 C:=by
 obtain⟨i,hi,rfl⟩:=List.getElem_of_mem hc;have hp:=tV (a0:=a0) (n:=C.length) (a:=i) ae
 have e:(Ik d a0 C)[qI a0 C.length i]'(by rw[fB];exact hp)=C[i]:=by
  rw[qJ,av8 h0 hi,bD,a_ hi,Option.getD_some]
 rw[<-e];exact bf _
end Go.Proofs.YtilcnjbpmoijmaaGreat.D
