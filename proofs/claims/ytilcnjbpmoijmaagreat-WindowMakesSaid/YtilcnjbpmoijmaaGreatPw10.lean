/- Parts of a proof. No condition. -/
import Derived.Test.YtilcnjbpmoijmaaGreatPw08
import Derived.Test.YtilcnjbpmoijmaaGreatPw09
set_option maxRecDepth 100000
set_option maxHeartbeats 16000000
set_option linter.unusedVariables false
set_option linter.unusedSimpArgs false
namespace Go.Proofs.YtilcnjbpmoijmaaGreat
open Tryz
section
open Go.RowKit Go.Lib
theorem put_any(k K:Nat)(c:UInt8)(n:Int)(out:List Int)(v:Value)(w:World)(h:VZ k (c.toNat:Int))(hr:iY .u64 w v [n])(_n0:0<=n)(_n1:n<18446744073709551616)(hK:sF k=K)
 (eg:∀args w,(callFunc K args).run prog w=.ok (.enter K args) w)
 (hf:∀(g base:Nat) (w:World),Wr 325 base w g []->Calls prog K #[.pointer (some ⟨g,0,none⟩),.int .u64 n,.int .i64 0] w fun e w'=>e=.returned (.tuple #[])/\Wr 325 base w' g out/\Below base w w') :
 aH 164 #[.string ⟨#[c]⟩,v] w fun e w'=>∃v,e=.returned (.tuple #[v,.int .i64 0])/\OwnB w.heap.size w' v out/\Below w.heap.size w w':=by
 obtain⟨A,cn,rfl,hn,hc,hp⟩:=hr.form;obtain⟨gn,on,rfl,hgn,hcn⟩:=hp.at_ (j:=0) (by simp)
 simp only[bW,List.getElem_cons_zero,Nat.add_zero] at hn hcn |-;have CN:=aI hcn;have H:=aI h;have HF:=aI hf;clear hr hp hcn h hf;have FO:Hid (∀w,aH 236 #[.int .u8 (c.toNat:Int)] w fun e w'=>e=.returned (.tuple #[.agg #[.int .u8 (c.toNat:Int),.int .i64 0,.func (.func K) #[] #[],.func (.func (Aq k)) #[] #[]],.bool true])/\Below w.heap.size w w'):=fun w=>by
  rw[<-hK];exact jS k (c.toNat:Int) w H.o
 clear hK
 go_enter func164,ntmps164
 go_wp2_with fail;refine(E_ k c w H.o).mono ?_
 rintro e w1 ⟨rfl,hb1⟩;have hz1:=hb1.size
 go_wp2_with fail;obtain⟨g,hg⟩:=aF (w1.heap.size);have W0:=aI (Wr.new 325 w1 w.heap.size hz1);have hb2:Below w.heap.size w (w1.alloc (.cells #[.slice none 0 0] 325)):=bw;rw[hg] at W0 |-;generalize w1.alloc (.cells #[.slice none 0 0] 325)=w2 at *;clear hg
 go_loopg [25] 1 (fun q i wr=>∃j:Nat,q=1 - j/\j<=1/\i=.int .i64 j/\Hid (Wr 325 w.heap.size wr g (if j=0 then [] else out))/\Below w.heap.size w wr)
 case atStart=>exact⟨0,rfl,ae,rfl,W0,hb2⟩
 case round=>
  obtain⟨j,hq,hj,rfl,hw,hb⟩:=hrel;have HQ:=aI hq;have hz:=hb.size;clear hq
  by_cases hlt:j<1
  ·obtain rfl:j=0:=ae
   have Kt:=(hb.cell (p:=⟨gn,on,none⟩) hgn).trans CN.o
   go_wp2_with (first
    | (go_at_call 236;refine(FO.o _).mono ?_;rintro e w3 ⟨rfl,hb3⟩;have hz3:=hb3.size)
    | (go_at_fn K;refine((HF.o g w.heap.size _ ((hw.o.keep hb3).keep ((aO _ _).alloc (aS _) _))).mono ?_);rintro e w4 ⟨rfl,k1,k2⟩;have oC:=k2.size;have K1:=aI k1;clear k1))
   go_roundg 0
   case measure=>have:=HQ.o;omega
   case rel=>exact⟨1,rfl,ae,ai,K1,bw⟩
  ·have hj1:j=1:=ae
   subst hj1;obtain⟨hbg,v,hB,hO⟩:=hw.o;have c0:=hB.cell 0;simp only[aK,aJ] at c0;rw[if_neg ae] at hO
   have HO:=aI hO;clear hB hO
   go_wp2_with fail
   go_ret2
   exact⟨v,rfl,HO.o,hb⟩
end
section
open Go.RowKit Go.Lib
variable{w w':World}{g:Nat}{F:Nat->Prop}{bs:List Int}
def Ig(w:World)(g:Nat)(F:Nat->Prop)(bs:List Int):Prop:=
 ∃v,dK w g 244 #[v]/\OwnB 0 w v bs/\F g/\(∀k,v.ownBlock=some k->F k)/\(∀k,F k->k<w.heap.size)
theorem Ig.low(h:Ig w g F bs):∀k,F k->k<w.heap.size:=by
 obtain⟨_,_,_,_,_,h5⟩:=h;exact h5
theorem Ig.stay{w w':World}{g:Nat}{F:Nat->Prop}{bs:List Int}(h:Ig w g F bs)(hk:∀k,F k->w'.heap[k]?=w.heap[k]?)(hz:w.heap.size<=w'.heap.size):Ig w' g F bs:=by
 obtain⟨v,h1,h2,h3,h4,h5⟩:=h;exact⟨v,(hk g h3).trans h1,dP.stay h2 (fun k e=>hk k (h4 k e)),h3,h4,fun k hf=>bF (h5 k hf) hz⟩
theorem Ig.keep(h:Ig w g F bs)(hb:Below w.heap.size w w'):Ig w' g F bs:=
 h.stay (fun k hk=>hb.block k (h.low k hk)) hb.size
theorem Ig.new(w:World):Ig (w.alloc (.cells #[.slice none 0 0] 244)) w.heap.size (fun k=>k=w.heap.size) []:=
 ⟨_,dK.new _ _ _,dP.nil_ _ _ _ _,rfl,fun k e=>by simp[Value.ownBlock] at e,fun k e=>by subst e;simp⟩
def oG(w:World)(g:Nat)(F:Nat->Prop)(bs:List Int)(w':World):Prop:=
 ∃F':Nat->Prop,(∀k,F' k->F k\/w.heap.size<=k)/\Ig w' g F' bs/\Touch F w w'
theorem oG.trans{w w1 w2:World}{g:Nat}{F F1:Nat->Prop}{bs:List Int}(h1:∀k,F1 k->F k\/w.heap.size<=k)(t1:Touch F w w1)(h:oG w1 g F1 bs w2):oG w g F bs w2:=by
 obtain⟨F',h2,h3,h4⟩:=h;refine⟨F',fun k hk=>?_,h3,t1.trans h4 (fun i hi=>h1 i hi)⟩
 rcases h2 k hk with h|h
 ·exact h1 k h
 ·exact .inr (bJ t1.size h)
theorem oG.first{w1 w2:World}(hb:Below w.heap.size w w1)(h:oG w1 g F bs w2):oG w g F bs w2:=
 oG.trans (fun _ hk=>.inl hk) (Touch.of_below hb (aS _)) h
theorem oG.put{v v':Value}{bs':List Int}(h:dK w g 244 #[v])(ho:OwnB 0 w v bs)(h3:F g)(h4:∀k,v.ownBlock=some k->F k)(h5:∀k,F k->k<w.heap.size)
 (ho':OwnB 0 w' v' bs') (hg:w.grownBy w' v.ownBlock) (ha:v'.ownBlock=v.ownBlock\/v'.ownBlock=some w.heap.size):oG w g F bs' (w'.setCell ⟨g,0,none⟩ v'):=by
 have h1:dK w' g 244 #[v]:=(hg.block g h.lt (fun e=>h.J9 ho af e.symm)).trans h
 have hz:=hg.size;refine⟨fun k=>F k\/v'.ownBlock=some k,?_,⟨v',h1.dQ 0 v',ho'.far (fun e=>h1.J9 ho' af e) _,.inl h3,fun k e=>.inr e,?_⟩,?_⟩
 ·rintro k (hk|hk)
  ·exact .inl hk
  ·rcases ha with ha|ha
   ·exact .inl (h4 k (by rw[<-ha];exact hk))
   ·rw[ha] at hk;simp only[bH] at hk;exact .inr ae
 ·rintro k (hk|hk)
  ·have:=h5 k hk;simp only[dA];omega
  ·have:=(dP.lt ho' k hk).2;simpa using this
 ·exact((Touch.refl F w).grown hg (fun k e=>.inl (h4 k e))).setCell (.inl h3) _
theorem Ny(c:UInt8)(m:Int)(out:List Int)(g:Nat)(F:Nat->Prop)(bs:List Int)(w:World)(h:Ig w g F bs)(hl:bs.length+out.length<=1000000000000)
 (hp:∀(v:Value) (w:World),iY .u64 w v [m]->aH 164 #[.string ⟨#[c]⟩,v] w fun e w'=>∃v,e=.returned (.tuple #[v,.int .i64 0])/\OwnB w.heap.size w' v out/\Below w.heap.size w w') :
 aH 170 #[.pointer (some ⟨g,0,none⟩),.string ⟨#[c]⟩,.int .u64 m] w fun e w'=>e=.returned (.tuple #[])/\oG w g F (bs++out) w':=by
 have H:=aI h;have HP:=aI hp;clear h hp
 go_enter func170,ntmps170
 go_wp2_with fail;refine(HP.o _ _ (iY.fK _ _ _ _ _ rfl)).mono ?_
 rintro e w1 ⟨v1,rfl,o1,hb1⟩;have O1:=aI o1;have hb0:Below w.heap.size w w1:=((aO _ _).alloc (aS _) _).trans (hb1.mono ag)
 have hz1:=hb0.size;obtain⟨v,h1,h2,h3,h4,h5⟩:=H.o.keep hb0;have H1:=aI h1;have H2:=aI h2;have H3:=aI h3;have H4:=aI h4;have H5:=aI h5;have c0:=h1.cell 0;simp only[aK,aJ] at c0;clear o1 h1 h2 h3 h4 h5
 go_wp2_with (first
  | (at_builtin
     go_must (refine jH rfl (.tmp 19) (.tmp 20) rfl 0 v bs rfl H2.o v1 out rfl (dP.rd O1.o) ae (df _) ?_)
     intro v2 w2 o2 g2 a2;obtain⟨A2,k2,hv2,_,_,_⟩:=(dP.rd o2).form;generalize (bs++out).length=N at hv2;subst hv2;have W2:=aI (oG.put H1.o H2.o H3.o H4.o H5.o o2 g2 a2);have B2:dK w2 g 244 #[v]:=(g2.block g H1.o.lt (fun e=>H1.o.J9 H2.o af e.symm)).trans H1.o
     have c1:=B2.cell 0;have f1:=B2.frozen 0;simp only[aK,aJ] at c1;clear o2 g2 a2 B2))
 refine bodyPost_end (v:=.tuple #[]) (by simp[results,Tryz.results170,go_sem, *];try rfl) rfl ?_
 exact⟨rfl,oG.first hb0 W2.o⟩
theorem oZ(n:Int)(g:Nat)(F:Nat->Prop)(bs:List Int)(w:World)(h:Ig w g F bs)(hl:bs.length<=900000000000)(n0:0<=n)(n1:n<18446744073709551616) :
 aH 170 #[.pointer (some ⟨g,0,none⟩),.string ⟨#[118]⟩,.int .u64 n] w fun e w'=>e=.returned (.tuple #[])/\oG w g F (bs++eG n) w':=
 Ny 118 n (eG n) g F bs w h (by have:=dM n;omega) (fun v w hr=>FC n v w hr n0 n1)
theorem AO(x m:Int)(g:Nat)(F:Nat->Prop)(bs:List Int)(w:World)(h:Ig w g F bs)(hl:bs.length<=900000000000)(hm:m=ub x)(h0:-9223372036854775808<=x)(h1:x<=9223372036854775807) :
 aH 170 #[.pointer (some ⟨g,0,none⟩),.string ⟨#[122]⟩,.int .u64 m] w fun e w'=>e=.returned (.tuple #[])/\oG w g F (bs++zg x) w':=by
 subst hm;exact Ny 122 (ub x) (zg x) g F bs w h (by have:=dM (qA x);unfold zg;omega) (fun v w hr=>FD x v w hr h0 h1)
end
section
open Go.RowKit Go.Lib
theorem Ig.drew{w:World}{g:Nat}{F:Nat->Prop}{bs:List Int}(h:Ig w g F bs):Ig w.drew g F bs:=h
theorem FH(x n:Int)(g:Nat)(F:Nat->Prop)(bs:List Int)(w:World)(h:Ig w g F bs)(hl:bs.length<=800000000000)(x0:-9223372036854775808<=x)(x1:x<=9223372036854775807)(n0:0<=n)(n1:n<18446744073709551616) :
 aH 172 #[.pointer (some ⟨g,0,none⟩),.agg #[.int .i64 x,.int .u64 n],.pointer none] w fun e w'=>e=.returned (.tuple #[])/\oG w g F (bs++(zg x++eG n)) w':=by
 have hb0:Below w.heap.size w (w.alloc (.cells #[.int .i64 x,.int .u64 n] 203)):=(aO _ _).alloc (aS _) _;have H0:=aI (h.keep hb0);have low:=aI h.low;clear h
 go_enter func172,ntmps172
 go_wp2_with fail;refine(AO x _ g F bs _ H0.o ae (by rw[fF];rfl) x0 x1).mono ?_
 rintro e w1 ⟨rfl,F1,k1,k2,k3⟩;have C1:w1.cell? ⟨w.heap.size,1,none⟩=some (.int .u64 n):=(k3.cell ag (fun hf=>by have:=low.o _ hf;omega)).trans (by simp[World.cell?_alloc_new])
 have hzg:(bs++zg x).length<=900000000000:=by rw[aQ];have:=dM (qA x);unfold zg;omega
 have K1:=aI k1;have K2:=aI k2;have K3:=aI k3;clear k1 k2 k3
 go_wp2_with fail;refine(oZ n g F1 (bs++zg x) w1 K2.o hzg n0 n1).mono ?_
 rintro e w2 ⟨rfl,k4⟩
 go_wp2_with fail;refine bodyPost_end (v:=.tuple #[]) (by simp[results,Tryz.results172,go_sem, *];try rfl) rfl ?_
 refine⟨rfl,oG.first hb0 (oG.trans K1.o K3.o ?_)⟩
 rw[<-aX];exact k4
theorem QY(x n y:Int)(ga oa:Nat)(g:Nat)(F:Nat->Prop)(bs:List Int)(w:World)(h:Ig w g F bs)(hl:bs.length<=800000000000)(x1:x<=9223372036854775807)(n0:0<=n)(n1:n<18446744073709551616)
 (hy:w.cell? ⟨ga,oa,none⟩=some (.int .i64 y)) (hga:ga<w.heap.size) (hF:¬F ga) (y0:-9223372036854775808<=y) (yx:y<=x) :
 aH 172 #[.pointer (some ⟨g,0,none⟩),.agg #[.int .i64 x,.int .u64 n],.pointer (some ⟨ga,oa,none⟩)] w fun e w'=>e=.returned (.tuple #[])/\oG w g F (bs++(eG (x - y)++eG n)) w':=by
 obtain⟨w0,hw0⟩:∃w0,w0=w.alloc (.cells #[.int .i64 x,.int .u64 n] 203):=⟨_,rfl⟩;have hb0:Below w.heap.size w w0:=by rw[hw0];exact(aO _ _).alloc (aS _) _
 have H0:=aI (h.keep hb0);have low:=aI h.low;have B0:Hid (dK w0 w.heap.size 203 #[.int .i64 x,.int .u64 n]):=by show dK _ _ _ _;rw[hw0];exact dK.new _ _ _
 have HY:=aI ((hb0.cell (p:=⟨ga,oa,none⟩) hga).trans hy);have HW0:=aI hw0;have hz0:=hb0.size;have hlt0:=B0.o.lt;obtain⟨b0,b1⟩:=B0.o.c2;have X0:=aI b0;have X1:=aI b1;have HF:=aI hF;have NF:Hid (¬F w.heap.size):=aI (fun hf=>by have:=low.o _ hf;omega)
 have EW:=aI (show IntKind.u64.wrap (IntKind.u64.wrap x - IntKind.u64.wrap y)=x - y by simp only[fF];omega)
 have bv2:ga<w0.heap.size:=ae
 have hzg:(bs++eG (x - y)).length<=900000000000:=by rw[aQ];have:=dM (x - y);omega
 clear h hw0 b0 b1 hy hF
 go_enter func172,ntmps172
 go_wp2_with fail;rw[<-HW0.o];have mW:=aI (fun(w':World) (hS':(Touch F w0) w')=>(aP ((hS'.cell (o:=0) hlt0 NF.o).trans X0.o) (aP ((hS'.cell (o:=oa) bv2 HF.o).trans HY.o) (EW.o))))
 refine jh (Touch F w0) (dV 0 10 (fJ 10 [])) ((Touch.refl F w0).drew) ?_
 iterate 10 refine eQ ?_
 refine fO fun K hK=>?_
 go_simp;refine(oZ (x - y) g F bs w0.drew H0.o.drew ae  ae  ae).mono ?_
 rintro e w1 ⟨rfl,F1,k1,k2,k3⟩;have K1:=aI k1;have K2:=aI k2;have K3:Hid (Touch F w0 w1):=aI ((Touch.refl F w0).drew.trans k3 (fun i hi=>.inl hi))
 clear k1 k2 k3;refine hK _ _ (K3.o) ?_
 clear hK K;refine dJ ?_
 have C1:w1.cell? ⟨w.heap.size,1,none⟩=some (.int .u64 n):=(K3.o.cell hlt0 NF.o).trans X1.o
 go_wp2_with fail;refine(oZ n g F1 (bs++eG (x - y)) w1 K2.o hzg n0 n1).mono ?_
 rintro e w2 ⟨rfl,k4⟩
 go_wp2_with fail;refine bodyPost_end (v:=.tuple #[]) (by simp[results,Tryz.results172,go_sem, *];try rfl) rfl ?_
 refine⟨rfl,oG.first hb0 (oG.trans (F1:=F1) (fun k hk=>?_) K3.o ?_)⟩
 ·exact K1.o k hk
 ·rw[<-aX];exact k4
end
section
open Go.RowKit Go.Lib
theorem Nz(c n x:Int)(base:Nat)(vb:Value)(bs:List Int)(w:World)(hb0:base<=w.heap.size)(hO:OwnB base w vb bs)(hl:bs.length<=1000000000000)(hc:(c=118/\x=n/\0<=n/\n<18446744073709551616)\/(c=122/\n=ub x/\-9223372036854775808<=x/\x<=9223372036854775807)) :
 aH 149 #[vb,.int .u8 c,.int .u64 n] w fun e w'=>∃v,e=.returned v/\OwnB base w' v (bs++(if c=118 then eG x else zg x))/\Below base w w':=by
 have HO:=aI hO;have C1:=aI (yV c n x w hc);have hlen:(if c=118 then eG x else zg x).length<=10:=by split;exact(dM _).2;exact(dM _).2
 generalize (if c=118 then eG x else zg x)=out at *
 clear hO hc
 go_enter func149,ntmps149
 go_wp2_with fail;refine(C1.o).mono ?_
 rintro e w1 ⟨v1,rfl,o1,hb1⟩;have O1:=aI o1;have hz1:=hb1.size;clear o1
 go_wp2_with (first
  | (at_builtin
     go_must (refine jH rfl (.tmp 15) (.tmp 16) rfl base vb bs rfl (dP.keep HO.o hb1) v1 out rfl (dP.rd O1.o) ae  ae ?_)
     intro v2 w2 o2 g2 a2;have hb2:Below base w w2:=(hb1.mono hb0).grown g2 ae (fun k hk=>(dP.lt HO.o k hk).1)
     have O2:=aI o2;clear o2 g2 a2))
 go_ret;exact⟨v2,rfl,O2.o,hb2⟩
theorem mY(n:Int)(base:Nat)(vb:Value)(bs:List Int)(w:World)(hb0:base<=w.heap.size)(hO:OwnB base w vb bs)(hl:bs.length<=1000000000000)(n0:0<=n)(n1:n<18446744073709551616) :
 aH 149 #[vb,.int .u8 118,.int .u64 n] w fun e w'=>∃v,e=.returned v/\OwnB base w' v (bs++eG n)/\Below base w w':=by
 have h:=Nz 118 n n base vb bs w hb0 hO hl (.inl ⟨rfl,rfl,n0,n1⟩)
 rwa [if_pos rfl] at h
theorem wI(x n:Int)(base:Nat)(vb:Value)(bs:List Int)(w:World)(hb0:base<=w.heap.size)(hO:OwnB base w vb bs)(hl:bs.length<=1000000000000)(hn:n=ub x)(h0:-9223372036854775808<=x)(h1:x<=9223372036854775807) :
 aH 149 #[vb,.int .u8 122,.int .u64 n] w fun e w'=>∃v,e=.returned v/\OwnB base w' v (bs++zg x)/\Below base w w':=by
 have h:=Nz 122 n x base vb bs w hb0 hO hl (.inr ⟨rfl,hn,h0,h1⟩)
 rwa [if_neg ae] at h
theorem QZ(g:Nat)(F:Nat->Prop)(d lo hi:Int)(L W:List Mn)(w:World)(h:RDg w g F d L W lo hi)(hr:iE L)(hL:qK L)(hW:qK W)(hlen:L.length+W.length<=1000000000)(d0:0<=d)(d1:d<=9223372036854775807)
 (l0:-9223372036854775808<=lo) (l1:lo<=9223372036854775807) (h0:-9223372036854775808<=hi) (h1:hi<=9223372036854775807) :
 aH 81 #[.pointer (some ⟨g,0,none⟩)] w fun e w'=>∃v,e=.returned v/\OwnB w.heap.size w' v (IY d L W lo hi)/\Below w.heap.size w w':=by
 obtain⟨lv,wv,hb,hl,hw,hg,_,_,_,_⟩:=h;have hlt:=hb.lt;obtain⟨A,ca,rfl,na,ma,fa⟩:=hl.form;obtain⟨B,cb,rfl,nb,mb,fb⟩:=hw.form;obtain⟨c0,c1,c2,c3,c4⟩:=hb.c5;have C0:=aI c0;have C1:=aI c1;have C2:=aI c2;have C3:=aI c3;have C4:=aI c4;have FA:=aI fa;have FB:=aI fb;have HR:=aI hr;have HL:=aI hL;have HW:=aI hW;have b1:=dM d;have b2:=dM (qA lo);have b3:=dM (qA hi);have b4:=dM (L.length:Int);have b5:=dM (W.length:Int);clear hb hl hw hg fa fb hr hL hW c1 c2 c3 c4
 go_enter func81,ntmps81
 go_wp2_with fail;refine(mY d w.heap.size _ [] w (aS _) (dP.nil_ _ _ _ _) ag d0 ae).mono ?_
 rintro e w1 ⟨v1,rfl,o1,hb1⟩;have O1:=aI o1;have hz1:=hb1.size;have k:=(hb1.cell (p:=⟨g,3,none⟩) hlt).trans C3.o;clear o1 c0
 go_wp2_with fail;clear k;refine(wI lo _ w.heap.size v1 ([]++eG d) w1 hz1 O1.o ah (by rw[fF];rfl) l0 l1).mono ?_
 rintro e w2 ⟨v2,rfl,o2,hb2⟩;have O2:=aI o2;have hbw2:=hb1.trans hb2;have hz2:=hbw2.size;have k:=(hbw2.cell (p:=⟨g,4,none⟩) hlt).trans C4.o;clear o2
 go_wp2_with fail;clear k;refine(wI hi _ w.heap.size v2 ([]++eG d++zg lo) w2 hz2 O2.o (by unfold zg;simp;omega) (by rw[fF];rfl) h0 h1).mono ?_
 rintro e w3 ⟨v3,rfl,o3,hb3⟩;have O3:=aI o3;have hbw3:=hbw2.trans hb3;have hz3:=hbw3.size;have k:=(hbw3.cell (p:=⟨g,1,none⟩) hlt).trans C1.o;clear o3
 go_wp2_with fail;clear k;refine(mY (L.length:Int) w.heap.size v3 ([]++eG d++zg lo++zg hi) w3 hz3 O3.o (by unfold zg;simp;omega) ae  ae).mono ?_
 rintro e w4 ⟨v4,rfl,o4,hb4⟩;obtain⟨H,hH⟩:=aF ([]++eG d++zg lo++zg hi++eG (L.length:Int));have hHl:H.length<=40:=by rw[<-hH];unfold zg;simp;omega
 rw[hH] at o4;have HH:=aI hH;have O4:=aI o4;have WI:=hbw3.trans hb4;have oC:=WI.size;clear o4 hH b1 b2 b3 b4
 go_wp2_with fail
 go_loopg [3,4] L.length (fun q v i wr=>∃j:Nat,q=L.length - j/\j<=L.length/\i=.int .i64 j/\Hid (OwnB w.heap.size wr v (H++uz none (L.take j)))/\Below w.heap.size w wr)
 case atStart=>exact⟨0,rfl,ae,rfl,aI (by simpa[uz] using O4.o),WI⟩
 case round=>
  obtain⟨j,hq,hj,rfl,ho,hbr⟩:=hrel;have HQ:=aI hq;have hzr:=hbr.size;have k1:=(hbr.cell (p:=⟨g,1,none⟩) hlt).trans C1.o;have tl:=yS L j;clear hq
  by_cases hlt2:j<L.length
  ·obtain⟨gl,off,rfl,hgl,e0,e1⟩:=FA.o.at_ hlt2
   have hm:=HL.o L[j] (bf hlt2);have r0:=(hbr.cell (p:=⟨gl,off+j * 2,none⟩) hgl).trans e0;have R1:=aI e1;have hji:(j:Int)<(L.length:Int):=ae
   rcases bQ j with rfl|hj0
   ·have HT:=aI (I4 L hlt2)
    have z0:((0:Nat):Int)=0:=rfl;simp only[Nat.zero_mul,Nat.add_zero] at r0;generalize L[0].1=x at *;generalize L[0].2=y at *;simp only[Nat.zero_mul,Nat.add_zero] at e1 R1;rw[z0];clear z0 e0 e1
    go_wp2_with fail;refine(wI x _ w.heap.size u3 (H++uz none (L.take 0)) wr hzr ho.o (by rw[aQ];omega) (by rw[fF];rfl) hm.1 hm.2.1).mono ?_
    rintro e w5 ⟨v5,rfl,o5,hb5⟩;have O5:=aI o5;have sK:=hbr.trans hb5;have WJ:=sK.size;have k2:=(sK.cell (p:=⟨g,1,none⟩) hlt).trans C1.o;have k3:=(sK.cell (p:=⟨gl,off+1,none⟩) hgl).trans R1.o;have hx:=dM (qA x);clear o5 k1 r0
    go_wp2_with fail;refine(mY y w.heap.size v5 (H++uz none (L.take 0)++zg x) w5 WJ O5.o (by unfold zg;rw[aQ,aQ];omega) hm.2.2.1 ae).mono ?_
    rintro e w6 ⟨v6,rfl,o6,hb6⟩;have O6:=aI o6;have AP:=sK.trans hb6;clear o6 k2 k3
    go_wp2_with fail
    go_roundg (L.length - (0+1))
    case measure=>have:=HQ.o;omega
    case rel=>exact⟨1,rfl,ae,rfl,aI (by rw[HT.o];simpa[aX] using O6.o),AP⟩
   ·obtain⟨m,rfl⟩:∃m,j=m+1:=⟨j - 1,ae⟩
    have hms:m<L.length:=ae
    have HT:=aI (Np L m hlt2);obtain⟨gl',off',hA',_,f0,_⟩:=FA.o.at_ hms;simp only[bH,Addr.mk.injEq,and_true] at hA';obtain⟨rfl,rfl⟩:=hA';have hrs:=List.pairwise_iff_getElem.1 HR.o m (m+1) hms hlt2 ae
    have hm':=HL.o L[m] (bf hms);have Q1:=aI e0;have Q2:=aI f0;generalize L[m+1].1=x at *;generalize L[m+1].2=y at *;generalize L[m].1=p at *;have EW:=aI (show IntKind.u64.wrap (IntKind.u64.wrap x - IntKind.u64.wrap p)=x - p by simp only[fF];omega)
    have jne:(((m:Int)+1) == 0)=false:=beq_eq_false_iff_ne.2 ae
    have hj1:(0:Int)<=(m:Int)+1:=ae
    have hj2:(m:Int)+1<(L.length:Int):=ae
    have hj3:(m:Int)<(L.length:Int):=ae
    have J3:=aI (show((m:Int)+1).toNat=m+1 by omega)
    have J4:=aI (show IntKind.i64.wrap (m:Int)=(m:Int) from IntWalk.i64_in _ ae)
    clear e0 f0 e1 r0
    go_wp2_with fail;clear k1;have mW:=aI (fun(w':World) (hS':Below w.heap.size w w')=>(aP ((hS'.cell (p:=⟨g,1,none⟩) hlt).trans C1.o) (aP ((hS'.cell (p:=⟨gl,off+(m+1) * 2,none⟩) hgl).trans Q1.o) (aP ((hS'.cell (p:=⟨gl,off+m * 2,none⟩) hgl).trans Q2.o) (aP (EW.o) (aP (J3.o) (J4.o)))))))
    refine jh (fun w'=>Below w.heap.size w w') (dV 0 21 (fJ 21 (dV 22 1 []))) (hbr.drew) ?_
    iterate 21 refine eQ ?_
    refine fO fun K hK=>?_
    go_simp;refine(mY (x - p) w.heap.size u3 (H++uz none (L.take (m+1))) _ aj (dP.drew ho.o) (by rw[aQ];omega) ae  ae).mono ?_
    rintro e w5 ⟨v5,rfl,o5,hb5⟩;have O5:=aI o5;have sK:Below w.heap.size w w5:=hbr.drew.trans hb5;clear o5;refine hK _ _ (sK) ?_
    clear hK K;refine eQ ?_
    refine dJ ?_
    have WJ:=sK.size;have k2:=(sK.cell (p:=⟨g,1,none⟩) hlt).trans C1.o;have k3:=(sK.cell (p:=⟨gl,off+(m+1) * 2+1,none⟩) hgl).trans R1.o;have hx:=dM (x - p)
    go_wp2_with fail;refine(mY y w.heap.size v5 (H++uz none (L.take (m+1))++eG (x - p)) w5 WJ O5.o (by rw[aQ,aQ];omega) hm.2.2.1 ae).mono ?_
    rintro e w6 ⟨v6,rfl,o6,hb6⟩;have O6:=aI o6;have AP:=sK.trans hb6;clear o6 k2 k3
    go_wp2_with fail
    go_roundg (L.length - (m+1+1))
    case measure=>have:=HQ.o;omega
    case rel=>exact⟨m+1+1,rfl,ae,ai,aI (by rw[HT.o];simpa[aX] using O6.o),AP⟩
  ·have hE:Hid (L.take j=L):=by show _=_;rw[bP ae]
   rw[hE.o] at ho;have k2:=(hbr.cell (p:=⟨g,2,none⟩) hlt).trans C2.o;have wl:=(sG none L).2
   go_wp2_with fail;clear k1 k2;refine(mY (W.length:Int) w.heap.size u3 (H++uz none L) wr hzr ho.o (by rw[aQ];omega) ae  ae).mono ?_
   rintro e w5 ⟨v5,rfl,o5,hb5⟩;obtain⟨K,hK⟩:=aF (H++uz none L++eG (W.length:Int));have hKl:K.length<=21000000000:=by rw[<-hK,aQ,aQ];omega
   rw[hK] at o5;have HK:=aI hK;have O5:=aI o5;have sK:=hbr.trans hb5;clear o5 hK
   go_wp2_with fail
   go_loopg [3,5] W.length (fun q v i wr=>∃j:Nat,q=W.length - j/\j<=W.length/\i=.int .i64 j/\Hid (OwnB w.heap.size wr v (K++xM (W.take j)))/\Below w.heap.size w wr)
   case atStart=>exact⟨0,rfl,ae,rfl,aI (by simpa[xM] using O5.o),sK⟩
   case round=>
    obtain⟨n,hq,hn,rfl,ho2,hbs⟩:=hrel;have Cf:=aI hq;have hzs:=hbs.size;have k1:=(hbs.cell (p:=⟨g,2,none⟩) hlt).trans C2.o;have tl2:=yT W n;clear hq
    by_cases hlt3:n<W.length
    ·obtain⟨gl,off,rfl,hgl,e0,e1⟩:=FB.o.at_ hlt3
     have hm:=HW.o W[n] (bf hlt3);have r0:=(hbs.cell (p:=⟨gl,off+n * 2,none⟩) hgl).trans e0;have R1:=aI e1;have HT:=aI (Nq W n hlt3);have hni:(n:Int)<(W.length:Int):=ae
     generalize W[n].1=x at *;generalize W[n].2=y at *;clear e0 e1
     go_wp2_with fail;refine(wI x _ w.heap.size u3 (K++xM (W.take n)) wr hzs ho2.o (by rw[aQ];omega) (by rw[fF];rfl) hm.1 hm.2.1).mono ?_
     rintro e w6 ⟨v6,rfl,o6,hb6⟩;have O6:=aI o6;have AP:=hbs.trans hb6;have WM:=AP.size;have k2:=(AP.cell (p:=⟨g,2,none⟩) hlt).trans C2.o;have k3:=(AP.cell (p:=⟨gl,off+n * 2+1,none⟩) hgl).trans R1.o;have hx:=dM (qA x);clear o6 k1 r0
     go_wp2_with fail;refine(mY y w.heap.size v6 (K++xM (W.take n)++zg x) w6 WM O6.o (by unfold zg;rw[aQ,aQ];omega) hm.2.2.1 ae).mono ?_
     rintro e w7 ⟨v7,rfl,o7,hb7⟩;have O7:=aI o7;have yZ:=AP.trans hb7;clear o7 k2 k3
     go_wp2_with fail
     go_roundg (W.length - (n+1))
     case measure=>have:=Cf.o;omega
     case rel=>exact⟨n+1,rfl,ae,ai,aI (by rw[HT.o];simpa[aX] using O7.o),yZ⟩
    ·have hE2:Hid (W.take n=W):=by show _=_;rw[bP ae]
     rw[hE2.o] at ho2
     go_wp2_with fail
     go_ret;refine⟨_,rfl,?_,hbs⟩
     have:=ho2.o;rw[<-HK.o,<-HH.o] at this
     simpa[IY,aX] using this
end
section
open Go.RowKit Go.Lib
variable{w w' wr:World}{A:Option Addr}{l:List Mn}{F F':Nat->Prop}
def FI(w:World)(A:Option Addr)(l:List Mn)(F:Nat->Prop):Prop:=0<l.length->∃g off,A=some ⟨g,off,none⟩/\g<w.heap.size/\¬F g/\∀j (h:j<l.length),w.cell? ⟨g,off+j * 2,none⟩=some (.int .i64 l[j].1)/\w.cell? ⟨g,off+j * 2+1,none⟩=some (.int .u64 l[j].2)
theorem FI.of{c base:Nat}(h:fA base w (.slice A l.length c) l)(hF:∀k,F k->k<base):FI w A l F:=fun h0=>by
 obtain⟨g,c',hv,hb,hg,_,_⟩:=h.pos h0;simp only[Value.slice.injEq,true_and] at hv;obtain⟨rfl,rfl⟩:=hv;refine⟨g,0,rfl,hg,fun hf=>by have:=hF g hf;omega,fun j hj=>?_⟩
 have:=h.at_ hj;rw[Nat.zero_add];exact⟨this.1,this.2.1⟩
theorem FI.go(h:FI w A l F)(h1:∀k,F' k->F k\/w.heap.size<=k)(ht:Touch F w w'):FI w' A l F':=fun h0=>by
 obtain⟨g,off,hA,hg,hF,hc⟩:=h h0;refine⟨g,off,hA,bF hg ht.size,fun hf=>?_,fun j hj=>?_⟩
 ·rcases h1 g hf with h2|h2
  ·exact hF h2
  ·omega
 ·exact⟨(ht.cell hg hF).trans (hc j hj).1,(ht.cell hg hF).trans (hc j hj).2⟩
theorem FI.at_(h:FI w A l F){j:Nat}(hj:j<l.length):∃g off,A=some ⟨g,off,none⟩/\g<w.heap.size/\¬F g/\w.cell? ⟨g,off+j * 2,none⟩=some (.int .i64 l[j].1)/\w.cell? ⟨g,off+j * 2+1,none⟩=some (.int .u64 l[j].2):=by
 obtain⟨g,off,hA,hg,hF,hc⟩:=h ae
 exact⟨g,off,hA,hg,hF,hc j hj⟩
def bl0(s:St):Int:=if tot (s.L++s.W)=0 then 8 else 0
theorem az9{g:Nat}{d:Int}{s:St}{k:Nat}(w:World)(h:Ie w g F d s)(ft:Fit d s k) :
 aH 169 #[.pointer (some ⟨g,0,none⟩)] w (aG w (.tuple #[.int .i64 s.lo,.int .i64 s.hi,.int .i64 (bl0 s)])):=by
 unfold bl0
 by_cases hz:tot (s.L++s.W)=0
 ·rw[if_pos hz]
  have he:=ft.ok.emp (ft.ok.J6.1 hz);rw[he.1,he.2];unfold Ie at h;rw[hz] at h;exact WB w h
 ·rw[if_neg hz]
  exact WC w h (by have:=ft.ok.qR;omega)
theorem nN(hb:Below w.heap.size w wr)(hF:∀k,F k->w.heap.size<=k)(ht:Touch F wr w'):Below w.heap.size w w':=hb.trans (ht.below hF hb.size)
theorem uX(hb:Below w.heap.size w wr)(hF:∀k,F k->w.heap.size<=k)(h1:∀k,F' k->F k\/wr.heap.size<=k):∀k,F' k->w.heap.size<=k:=fun k hk=>by
 have:=hb.size
 rcases h1 k hk with h|h
 ·exact hF k h
 ·omega
theorem FK(g:Nat)(F:Nat->Prop)(d:Int)(s:St)(k:Nat)(w:World)(h:Ie w g F d s)(ft:Fit d s k) :
 aH 104 #[.pointer (some ⟨g,0,none⟩)] w fun e w'=>∃v,e=.returned (.tuple #[v,.int .i64 0])/\OwnB w.heap.size w' v (IY d s.L s.W s.lo s.hi)/\Below w.heap.size w w':=by
 have HD:=aI h;have FT:=aI ft;have hlen:s.L.length+s.W.length<=100000000:=by have:=ft.ok.len;have:=ft.k1;omega
 have d0:=ft.d0;have d1:=ft.d1;have l0:=ft.ok.Y6;have l1:=ft.ok.lo1;have i0:=ft.ok.hi0;have i1:=ft.ok.hi1;have ht:=ft.t;have HO:=aI ft.ok.ok;have HR:=aI ft.ok.rise;have hlt:=Dg.lt h;have b1:=dM d;have b2:=dM (qA s.lo);have b3:=dM (qA s.hi);have b4:=dM (s.L.length:Int);have b5:=dM (s.W.length:Int);have HWB:∀m∈s.L++s.W,Hid (-9223372036854775808<=m.1/\m.1<=9223372036854775807/\0<=m.2/\m.2<18446744073709551616):=fun m hm=>by
  have h1:=ft.ok.ok m hm;obtain⟨j,hj,rfl⟩:=List.getElem_of_mem hm;have h2:=ft.ok.ok.J5 hj;have h3:=(ft.ok.ok.yL j).1;exact aI ⟨h1.1,h1.2.1,by have:=h1.2.2;omega,ae⟩
 have HWM:=aI HWB;clear h ft HWB
 go_enter func104,ntmps104
 go_wp2_with fail;obtain⟨gw,hgw⟩:=aF (w.heap.size);have W0:=aI (Ig.new w);have hb0:Below w.heap.size w (w.alloc (.cells #[.slice none 0 0] 244)):=(aO _ _).alloc (aS _) _;have F0:Hid (∀k,(fun k=>k=w.heap.size) k->w.heap.size<=k):=aI (fun k hk=>by simp only at hk;omega)
 generalize (fun k=>k=w.heap.size:Nat->Prop)=FW at *
 generalize w.alloc (.cells #[.slice none 0 0] 244)=w0 at *;rw[hgw] at W0 |-;have HGW:=aI hgw;clear hgw;refine(az9 w0 (Dg.keep HD.o hb0) FT.o).mono ?_
 rintro e w1 ⟨rfl,hb1⟩;have Ip:=hb0.trans (hb1.mono hb0.size);have W1:=aI (W0.o.keep hb1);clear W0 hb1
 go_wp2_with fail;refine(oD w1 (Dg.keep HD.o Ip)).mono ?_
 rintro e w' ⟨rfl,rfl⟩
 go_wp2_with fail;refine(oZ d gw FW [] w1 W1.o ag ae  ae).mono ?_
 rintro e w2 ⟨rfl,F2,p1,p2,p3⟩;have W2:=aI p2;have hbw2:=nN Ip F0.o p3;have F02:=aI (uX Ip F0.o p1);clear p1 p2 p3
 go_wp2_with fail;refine(AO s.lo _ gw F2 ([]++eG d) w2 W2.o ah (by rw[fF];rfl) l0 l1).mono ?_
 rintro e w3 ⟨rfl,F3,p1,p2,p3⟩;have W3:=aI p2;have hbw3:=nN hbw2 F02.o p3;have F03:=aI (uX hbw2 F02.o p1);clear p1 p2 p3
 go_wp2_with fail;refine(AO s.hi _ gw F3 ([]++eG d++zg s.lo) w3 W3.o (by unfold zg;simp;omega) (by rw[fF];rfl) i0 i1).mono ?_
 rintro e w4 ⟨rfl,F4,p1,p2,p3⟩;have W4:=aI p2;have WI:=nN hbw3 F03.o p3;have F04:=aI (uX hbw3 F03.o p1);clear p1 p2 p3
 go_wp2_with fail;refine(Zr w4 (Dg.keep HD.o WI) ae).mono ?_
 rintro e w5 ⟨v5,rfl,o5,hb5⟩;obtain⟨A5,c5,rfl,n5,m5,_⟩:=o5.form;have M5:=aI (FI.of o5 W4.o.low);have W5:=aI (W4.o.keep hb5);have sK:=WI.trans (hb5.mono WI.size);clear o5 hb5
 go_wp2_with fail;refine(oZ (s.L.length:Int) gw F4 ([]++eG d++zg s.lo++zg s.hi) w5 W5.o (by unfold zg;simp;omega) ae  ae).mono ?_
 rintro e w6 ⟨rfl,F6,p1,p2,p3⟩;obtain⟨H,hH⟩:=aF ([]++eG d++zg s.lo++zg s.hi++eG (s.L.length:Int));have hHl:H.length<=40:=by rw[<-hH];unfold zg;simp;omega
 rw[hH] at p2;have HH:=aI hH;have W6:=aI p2;have AP:=nN sK F04.o p3;have F06:=aI (uX sK F04.o p1);have M6:=aI (M5.o.go p1 p3);clear p1 p2 p3 hH b1 b2 b3 b4
 go_wp2_with fail
 go_loopg [46] s.L.length (fun q i wr=>∃(j:Nat) (FX:Nat->Prop),q=s.L.length - j/\j<=s.L.length/\i=.int .i64 j/\Hid (Ig wr gw FX (H++uz none (s.L.take j)))/\Hid (FI wr A5 s.L FX)/\Hid (∀k,FX k->w.heap.size<=k)/\Below w.heap.size w wr)
 case atStart=>exact⟨0,F6,rfl,ae,rfl,aI (by simpa[uz] using W6.o),M6,F06,AP⟩
 case round=>
  obtain⟨j,FX,hq,hj,rfl,hw,hm,hf,hb⟩:=hrel;have HQ:=aI hq;have hzr:=hb.size;have tl:=yS s.L j;clear hq
  by_cases hlt2:j<s.L.length
  ·obtain⟨gl,off,rfl,hgl,yG,e0,e1⟩:=hm.o.at_ hlt2
   have hmb:=HWM.o s.L[j] (List.mem_append_left _ (bf hlt2));have HF:=aI yG
   rcases bQ j with rfl|hj0
   ·have HT:=aI (I4 s.L hlt2)
    have z0:((0:Nat):Int)=0:=rfl;simp only[Nat.zero_mul,Nat.add_zero] at e0 e1;generalize s.L[0].1=x at *;generalize s.L[0].2=y at *;rw[z0];clear z0 yG
    go_wp2_with fail;have hba:Below wr.heap.size wr (wr.alloc (.cells #[.int .i64 x,.int .u64 y] 203)):=(aO _ _).alloc (aS _) _;refine(FH x y gw FX (H++uz none (s.L.take 0)) _ (hw.o.keep hba) (by rw[aQ];omega) hmb.o.1 hmb.o.2.1 hmb.o.2.2.1 hmb.o.2.2.2).mono ?_
    rintro e w7 ⟨rfl,k0⟩;obtain⟨F7,p1,p2,p3⟩:=oG.first hba k0;have W7:=aI p2;have M7:=aI (hm.o.go p1 p3);have yZ:=nN hb hf.o p3;have F07:=aI (uX hb hf.o p1);clear k0 p1 p2 p3
    go_wp2_with fail
    go_roundg (s.L.length - (0+1))
    case measure=>have:=HQ.o;omega
    case rel=>exact⟨1,F7,rfl,ae,rfl,aI (by rw[HT.o];simpa[aX] using W7.o),M7,F07,yZ⟩
   ·obtain⟨m,rfl⟩:∃m,j=m+1:=⟨j - 1,ae⟩
    have hms:m<s.L.length:=ae
    have HT:=aI (Np s.L m hlt2);obtain⟨gl',off',hA',_,_,f0,_⟩:=hm.o.at_ hms;simp only[bH,Addr.mk.injEq,and_true] at hA';obtain⟨rfl,rfl⟩:=hA';have hrs:=List.pairwise_iff_getElem.1 HR.o m (m+1) hms hlt2 ae
    have bv3:=HWM.o s.L[m] (List.mem_append_left _ (bf hms));have Q2:=aI f0;generalize s.L[m+1].1=x at *;generalize s.L[m+1].2=y at *;generalize s.L[m].1=p at *;have jne:(((m:Int)+1) == 0)=false:=beq_eq_false_iff_ne.2 ae
    have hj1:(0:Int)<=(m:Int)+1:=ae
    have hj2:(m:Int)+1<(s.L.length:Int):=ae
    have hj3:(m:Int)<(s.L.length:Int):=ae
    have J3:=aI (show((m:Int)+1).toNat=m+1 by omega)
    have J4:=aI (show IntKind.i64.wrap (m:Int)=(m:Int) from IntWalk.i64_in _ ae)
    clear f0 yG
    go_wp2_with fail;obtain⟨wa,g_⟩:∃wa,wa=wr.alloc (.cells #[.int .i64 x,.int .u64 y] 203):=⟨_,rfl⟩;have hba:Below wr.heap.size wr wa:=by rw[g_];exact(aO _ _).alloc (aS _) _
    have B0:Hid (dK wa wr.heap.size 203 #[.int .i64 x,.int .u64 y]):=by show dK _ _ _ _;rw[g_];exact dK.new _ _ _
    have hlt0:=B0.o.lt;obtain⟨b0,b1⟩:=B0.o.c2;have X0:=aI b0;have X1:=aI b1;have NF:Hid (¬FX wr.heap.size):=aI (fun hx=>by have:=hw.o.low _ hx;omega)
    have WA:=aI (hw.o.keep hba);have QA:=aI ((hba.cell (p:=⟨gl,off+m * 2,none⟩) hgl).trans Q2.o);have bv4:gl<wa.heap.size:=bF hgl hba.size;rw[<-g_];clear g_ b0 b1 e0 e1;have mW:=aI (fun(w':World) (hS':(Touch FX wa) w')=>(aP ((hS'.cell (o:=0) hlt0 NF.o).trans X0.o) (aP ((hS'.cell (o:=1) hlt0 NF.o).trans X1.o) (aP (J3.o) (J4.o)))))
    refine jh (Touch FX wa) (dV 0 6 (fJ 6 [])) ((Touch.refl FX wa).drew) ?_
    iterate 6 refine eQ ?_
    refine fO fun K hK=>?_
    go_simp;refine(QY x y p gl (off+m * 2) gw FX (H++uz none (s.L.take (m+1))) wa.drew WA.o.drew (by rw[aQ];omega) hmb.o.2.1 hmb.o.2.2.1 hmb.o.2.2.2 QA.o bv4 HF.o bv3.o.1 hrs).mono ?_
    rintro e w7 ⟨rfl,k0⟩;have K0:=aI k0;have K1:Hid (Touch FX wa w7):=aI (by obtain⟨_,_,_,t⟩:=k0;exact((Touch.refl FX wa).drew).trans t (fun i hi=>.inl hi))
    clear k0;refine hK _ _ (K1.o) ?_
    clear hK K;refine dJ ?_
    obtain⟨F7,p1,p2,p3⟩:=oG.first (hba.trans ((below_drewN (aO wa.heap.size wa) 0).mono hba.size)) (show oG (wa.drewN 0) gw FX (H++uz none (s.L.take (m+1))++(eG (x - p)++eG y)) w7 from by
     obtain⟨F',q1,q2,q3⟩:=K0.o;exact⟨F',q1,q2,⟨q3.os,K1.o.tape,q3.output,q3.size,q3.block⟩⟩)
    have W7:=aI p2;have M7:=aI (hm.o.go p1 p3);have yZ:=nN hb hf.o p3;have F07:=aI (uX hb hf.o p1);clear p1 p2 p3
    go_wp2_with fail
    go_roundg (s.L.length - (m+1+1))
    case measure=>have:=HQ.o;omega
    case rel=>exact⟨m+1+1,F7,rfl,ae,ai,aI (by rw[HT.o];simpa[aX] using W7.o),M7,F07,yZ⟩
  ·have hE:Hid (s.L.take j=s.L):=by show _=_;rw[bP ae]
   rw[hE.o] at hw;have wl:=(sG none s.L).2
   go_wp2_with fail;refine(WE wr (Dg.keep HD.o hb) ae).mono ?_
   rintro e w7 ⟨v7,rfl,o7,hb7⟩;obtain⟨A7,c7,rfl,n7,m7,_⟩:=o7.form;have M7:=aI (FI.of o7 hw.o.low);have W7:=aI (hw.o.keep hb7);have yZ:=hb.trans (hb7.mono hzr);clear o7 hb7
   go_wp2_with fail;refine(oZ (s.W.length:Int) gw FX (H++uz none s.L) w7 W7.o (by rw[aQ];omega) ae  ae).mono ?_
   rintro e w8 ⟨rfl,F8,p1,p2,p3⟩;obtain⟨K,hK⟩:=aF (H++uz none s.L++eG (s.W.length:Int));have hKl:K.length<=2100000000:=by rw[<-hK,aQ,aQ];omega
   rw[hK] at p2;have HK:=aI hK;have W8:=aI p2;have Zx:=nN yZ hf.o p3;have F08:=aI (uX yZ hf.o p1);have M8:=aI (M7.o.go p1 p3);clear p1 p2 p3 hK
   go_wp2_with fail
   go_loopg [73] s.W.length (fun q i wr=>∃(j:Nat) (FX:Nat->Prop),q=s.W.length - j/\j<=s.W.length/\i=.int .i64 j/\Hid (Ig wr gw FX (K++xM (s.W.take j)))/\Hid (FI wr A7 s.W FX)/\Hid (∀k,FX k->w.heap.size<=k)/\Below w.heap.size w wr)
   case atStart=>exact⟨0,F8,rfl,ae,rfl,aI (by simpa[xM] using W8.o),M8,F08,Zx⟩
   case round=>
    obtain⟨n,FY,hq,hn,rfl,hw2,hm2,hf2,hb2⟩:=hrel;have Cf:=aI hq;have tl2:=yT s.W n;clear hq
    by_cases hlt3:n<s.W.length
    ·obtain⟨gl,off,rfl,hgl,yG,e0,e1⟩:=hm2.o.at_ hlt3
     have hmb:=HWM.o s.W[n] (List.mem_append_right _ (bf hlt3));have HT:=aI (Nq s.W n hlt3);have hni:(n:Int)<(s.W.length:Int):=ae
     generalize s.W[n].1=x at *;generalize s.W[n].2=y at *;clear yG
     go_wp2_with fail;have hba:Below wr.heap.size wr (wr.alloc (.cells #[.int .i64 x,.int .u64 y] 203)):=(aO _ _).alloc (aS _) _;refine(FH x y gw FY (K++xM (s.W.take n)) _ (hw2.o.keep hba) (by rw[aQ];omega) hmb.o.1 hmb.o.2.1 hmb.o.2.2.1 hmb.o.2.2.2).mono ?_
     rintro e w9 ⟨rfl,k0⟩;obtain⟨F9,p1,p2,p3⟩:=oG.first hba k0;have W9:=aI p2;have M9:=aI (hm2.o.go p1 p3);have bv5:=nN hb2 hf2.o p3;have F09:=aI (uX hb2 hf2.o p1);clear k0 p1 p2 p3
     go_wp2_with fail
     go_roundg (s.W.length - (n+1))
     case measure=>have:=Cf.o;omega
     case rel=>exact⟨n+1,F9,rfl,ae,ai,aI (by rw[HT.o];simpa[aX] using W9.o),M9,F09,bv5⟩
    ·have hE2:Hid (s.W.take n=s.W):=by show _=_;rw[bP ae]
     rw[hE2.o] at hw2;obtain⟨v,q1,q2,q3,q4,q5⟩:=hw2.o;have c0:=q1.cell 0;simp only[aK,aJ] at c0;have Q2:=aI q2;have Q4:=aI q4;clear q1 q2 q3 q4 q5
     go_wp2_with fail
     go_ret2
     refine⟨_,rfl,?_,hb2⟩
     have h1:=dP.lift Q2.o (fun k hk=>hf2.o k (Q4.o k hk))
     rw[<-HK.o,<-HH.o] at h1
     simpa[IY,aX,OwnB] using h1
end
end Go.Proofs.YtilcnjbpmoijmaaGreat
