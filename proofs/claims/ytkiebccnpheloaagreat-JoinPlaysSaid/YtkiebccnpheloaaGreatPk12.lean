/- Parts of a proof: what its theorem reaches, words cut short. No condition of its own. -/
import Derived.Test.YtkiebccnpheloaaGreatPk10
import Derived.Test.YtkiebccnpheloaaGreatPk11
set_option maxRecDepth 100000
set_option maxHeartbeats 16000000
set_option linter.unusedVariables false
set_option linter.unusedSimpArgs false
namespace Go.Proofs.YtkiebccnpheloaaGreat
section
open Go.RowKit Go.Lib
theorem put_any(k K:Nat)(c:UInt8)(n:Int)(out:List Int)(v:Value)(w:World)(h:VZ k (c.toNat:Int))(hr:iH .u64 w v [n])(_n0:0<=n)(_n1:n<18446744073709551616)(hK:oO k=K)
 (eg:∀args w,(callFunc K args).run Tryz.prog w=.ok (.enter K args) w)
 (hf:∀(g base:Nat) (w:World),Wr 332 base w g []->Calls Tryz.prog K #[.pointer (some ⟨g,0,none⟩),.int .u64 n,.int .i64 0] w fun e w'=>e=.returned (.tuple #[])/\Wr 332 base w' g out/\Below base w w') :
 Calls Tryz.prog 147 #[.string ⟨#[c]⟩,v] w fun e w'=>∃v,e=.returned (.tuple #[v,.int .i64 0])/\OwnB w.heap.size w' v out/\Below w.heap.size w w':=by
 obtain⟨A,cn,rfl,hn,hc,hp⟩:=hr.form;obtain⟨gn,on,rfl,hgn,hcn⟩:=hp.at_ (j:=0) (by simp)
 simp only[bK,List.getElem_cons_zero,Nat.add_zero] at hn hcn |-;have CN:=aB hcn;have H:=aB h;have HF:=aB hf;clear hr hp hcn h hf;have FO:Hid (∀w,Calls Tryz.prog 248 #[.int .u8 (c.toNat:Int)] w fun e w'=>e=.returned (.tuple #[.agg #[.int .u8 (c.toNat:Int),.int .i64 0,.func (.func K) #[] #[],.func (.func (yH k)) #[] #[]],.bool true])/\Below w.heap.size w w'):=fun w=>by
  rw[<-hK];exact jB k (c.toNat:Int) w H.out
 clear hK
 go_enter Tryz.func147,Tryz.ntmps147
 go_wp2_with fail;refine(BL k c w H.out).mono ?_
 rintro e w1 ⟨rfl,hb1⟩;have hz1:=hb1.size
 go_wp2_with fail;obtain⟨g,hg⟩:∃g,w1.heap.size=g:=⟨_,rfl⟩;have W0:=aB (Wr.new 332 w1 w.heap.size hz1);have hb2:Below w.heap.size w (w1.alloc (.cells #[.slice none 0 0] 332)):=bw;rw[hg] at W0 |-;generalize w1.alloc (.cells #[.slice none 0 0] 332)=w2 at *;clear hg
 go_loopg [25] 1 (fun q i wr=>∃j:Nat,q=1 - j/\j<=1/\i=.int .i64 j/\Hid (Wr 332 w.heap.size wr g (if j=0 then [] else out))/\Below w.heap.size w wr)
 case atStart=>exact⟨0,rfl,ae,rfl,W0,hb2⟩
 case round=>
  obtain⟨j,hq,hj,rfl,hw,hb⟩:=hrel;have HQ:=aB hq;have hz:=hb.size;clear hq
  by_cases hlt:j<1
  ·obtain rfl:j=0:=ae
   have CQ:=(hb.cell (p:=⟨gn,on,none⟩) hgn).trans CN.out
   go_wp2_with (first
    | (go_at_call 248;refine(FO.out _).mono ?_;rintro e w3 ⟨rfl,hb3⟩;have hz3:=hb3.size)
    | (go_at_fn K;refine((HF.out g w.heap.size _ ((hw.out.keep hb3).keep ((aH _ _).alloc (aK _) _))).mono ?_);rintro e w4 ⟨rfl,k1,k2⟩;have mG:=k2.size;have K1:=aB k1;clear k1))
   go_roundg 0
   case measure=>have:=HQ.out;omega
   case rel=>exact⟨1,rfl,ae,ai,K1,bw⟩
  ·have hj1:j=1:=ae
   subst hj1;obtain⟨hbg,v,hB,hO⟩:=hw.out;have c0:=hB.cell 0;simp only[aF,aC] at c0;rw[if_neg ae] at hO
   have HO:=aB hO;clear hB hO
   go_wp2_with fail
   go_ret2
   exact⟨v,rfl,HO.out,hb⟩
end
section
open Go.RowKit Go.Lib
def EM(w:World)(g:Nat)(F:Nat->Prop)(bs:List Int):Prop:=
 ∃v,dH w g 226 #[v]/\OwnB 0 w v bs/\F g/\(∀k,v.ownBlock=some k->F k)/\(∀k,F k->k<w.heap.size)
theorem EM.low{w:World}{g:Nat}{F:Nat->Prop}{bs:List Int}(h:EM w g F bs):∀k,F k->k<w.heap.size:=by
 obtain⟨_,_,_,_,_,h5⟩:=h;exact h5
theorem EM.stay{w w':World}{g:Nat}{F:Nat->Prop}{bs:List Int}(h:EM w g F bs)(hk:∀k,F k->w'.heap[k]?=w.heap[k]?)(hz:w.heap.size<=w'.heap.size):EM w' g F bs:=by
 obtain⟨v,h1,h2,h3,h4,h5⟩:=h;exact⟨v,(hk g h3).trans h1,dN.stay h2 (fun k e=>hk k (h4 k e)),h3,h4,fun k hf=>aU (h5 k hf) hz⟩
theorem EM.keep{w w':World}{g:Nat}{F:Nat->Prop}{bs:List Int}(h:EM w g F bs)(hb:Below w.heap.size w w'):EM w' g F bs:=
 h.stay (fun k hk=>hb.block k (h.low k hk)) hb.size
theorem EM.new(w:World):EM (w.alloc (.cells #[.slice none 0 0] 226)) w.heap.size (fun k=>k=w.heap.size) []:=
 ⟨_,dH.new _ _ _,dN.nil_ _ _ _ _,rfl,fun k e=>by simp[Value.ownBlock] at e,fun k e=>by subst e;simp⟩
def nD(w:World)(g:Nat)(F:Nat->Prop)(bs:List Int)(w':World):Prop:=
 ∃F':Nat->Prop,(∀k,F' k->F k\/w.heap.size<=k)/\EM w' g F' bs/\Touch F w w'
theorem nD.trans{w w1 w2:World}{g:Nat}{F F1:Nat->Prop}{bs:List Int}(h1:∀k,F1 k->F k\/w.heap.size<=k)(t1:Touch F w w1)(h:nD w1 g F1 bs w2):nD w g F bs w2:=by
 obtain⟨F',h2,h3,h4⟩:=h;refine⟨F',fun k hk=>?_,h3,t1.trans h4 (fun i hi=>h1 i hi)⟩
 rcases h2 k hk with h|h
 ·exact h1 k h
 ·exact .inr (bG t1.size h)
theorem nD.first{w w1 w2:World}{g:Nat}{F:Nat->Prop}{bs:List Int}(hb:Below w.heap.size w w1)(h:nD w1 g F bs w2):nD w g F bs w2:=
 nD.trans (fun _ hk=>.inl hk) (Touch.of_below hb (aK _)) h
theorem nD.put{w w':World}{g:Nat}{F:Nat->Prop}{v v':Value}{bs bs':List Int}(h:dH w g 226 #[v])(ho:OwnB 0 w v bs)(h3:F g)(h4:∀k,v.ownBlock=some k->F k)(h5:∀k,F k->k<w.heap.size)
 (ho':OwnB 0 w' v' bs') (hg:w.grownBy w' v.ownBlock) (ha:v'.ownBlock=v.ownBlock\/v'.ownBlock=some w.heap.size):nD w g F bs' (w'.setCell ⟨g,0,none⟩ v'):=by
 have h1:dH w' g 226 #[v]:=(hg.block g h.lt (fun e=>h.BJ ho af e.symm)).trans h
 have hz:=hg.size;refine⟨fun k=>F k\/v'.ownBlock=some k,?_,⟨v',h1.dP 0 v',ho'.far (fun e=>h1.BJ ho' af e) _,.inl h3,fun k e=>.inr e,?_⟩,?_⟩
 ·rintro k (hk|hk)
  ·exact .inl hk
  ·rcases ha with ha|ha
   ·exact .inl (h4 k (by rw[<-ha];exact hk))
   ·rw[ha] at hk;simp only[bC] at hk;exact .inr ae
 ·rintro k (hk|hk)
  ·have:=h5 k hk;simp only[bZ];omega
  ·have:=(dN.lt ho' k hk).2;simpa using this
 ·exact((Touch.refl F w).grown hg (fun k e=>.inl (h4 k e))).setCell (.inl h3) _
theorem JM(c:UInt8)(m:Int)(out:List Int)(g:Nat)(F:Nat->Prop)(bs:List Int)(w:World)(h:EM w g F bs)(hl:bs.length+out.length<=1000000000000)
 (hp:∀(v:Value) (w:World),iH .u64 w v [m]->Calls Tryz.prog 147 #[.string ⟨#[c]⟩,v] w fun e w'=>∃v,e=.returned (.tuple #[v,.int .i64 0])/\OwnB w.heap.size w' v out/\Below w.heap.size w w') :
 Calls Tryz.prog 153 #[.pointer (some ⟨g,0,none⟩),.string ⟨#[c]⟩,.int .u64 m] w fun e w'=>e=.returned (.tuple #[])/\nD w g F (bs++out) w':=by
 have H:=aB h;have HP:=aB hp;clear h hp
 go_enter Tryz.func153,Tryz.ntmps153
 go_wp2_with fail;refine(HP.out _ _ (iH.dY _ _ _ _ _ rfl)).mono ?_
 rintro e w1 ⟨v1,rfl,o1,hb1⟩;have O1:=aB o1;have hb0:Below w.heap.size w w1:=((aH _ _).alloc (aK _) _).trans (hb1.mono ag)
 have hz1:=hb0.size;obtain⟨v,h1,h2,h3,h4,h5⟩:=H.out.keep hb0;have H1:=aB h1;have H2:=aB h2;have H3:=aB h3;have H4:=aB h4;have H5:=aB h5;have c0:=h1.cell 0;simp only[aF,aC] at c0;clear o1 h1 h2 h3 h4 h5
 go_wp2_with (first
  | (at_builtin
     go_must (refine ji rfl (.tmp 19) (.tmp 20) rfl 0 v bs rfl H2.out v1 out rfl (dN.rd O1.out) ae (bW _) ?_)
     intro v2 w2 o2 g2 a2;obtain⟨A2,k2,hv2,_,_,_⟩:=(dN.rd o2).form;generalize (bs++out).length=N at hv2;subst hv2;have W2:=aB (nD.put H1.out H2.out H3.out H4.out H5.out o2 g2 a2);have B2:dH w2 g 226 #[v]:=(g2.block g H1.out.lt (fun e=>H1.out.BJ H2.out af e.symm)).trans H1.out
     have c1:=B2.cell 0;have f1:=B2.frozen 0;simp only[aF,aC] at c1;clear o2 g2 a2 B2))
 refine bodyPost_end (v:=.tuple #[]) (by simp[results,Tryz.results153,go_sem, *];try rfl) rfl ?_
 exact⟨rfl,nD.first hb0 W2.out⟩
theorem nS(n:Int)(g:Nat)(F:Nat->Prop)(bs:List Int)(w:World)(h:EM w g F bs)(hl:bs.length<=900000000000)(n0:0<=n)(n1:n<18446744073709551616) :
 Calls Tryz.prog 153 #[.pointer (some ⟨g,0,none⟩),.string ⟨#[118]⟩,.int .u64 n] w fun e w'=>e=.returned (.tuple #[])/\nD w g F (bs++fC n) w':=
 JM 118 n (fC n) g F bs w h (by have:=dM n;omega) (fun v w hr=>CV n v w hr n0 n1)
theorem yN(x m:Int)(g:Nat)(F:Nat->Prop)(bs:List Int)(w:World)(h:EM w g F bs)(hl:bs.length<=900000000000)(hm:m=ub x)(h0:-9223372036854775808<=x)(h1:x<=9223372036854775807) :
 Calls Tryz.prog 153 #[.pointer (some ⟨g,0,none⟩),.string ⟨#[122]⟩,.int .u64 m] w fun e w'=>e=.returned (.tuple #[])/\nD w g F (bs++zg x) w':=by
 subst hm;exact JM 122 (ub x) (zg x) g F bs w h (by have:=dM (vg x);unfold zg;omega) (fun v w hr=>CZ x v w hr h0 h1)
end
section
open Go.RowKit Go.Lib
theorem EM.drew{w:World}{g:Nat}{F:Nat->Prop}{bs:List Int}(h:EM w g F bs):EM w.drew g F bs:=h
theorem C9(x n:Int)(g:Nat)(F:Nat->Prop)(bs:List Int)(w:World)(h:EM w g F bs)(hl:bs.length<=800000000000)(x0:-9223372036854775808<=x)(x1:x<=9223372036854775807)(n0:0<=n)(n1:n<18446744073709551616) :
 Calls Tryz.prog 155 #[.pointer (some ⟨g,0,none⟩),.agg #[.int .i64 x,.int .u64 n],.pointer none] w fun e w'=>e=.returned (.tuple #[])/\nD w g F (bs++(zg x++fC n)) w':=by
 have hb0:Below w.heap.size w (w.alloc (.cells #[.int .i64 x,.int .u64 n] 231)):=(aH _ _).alloc (aK _) _;have H0:=aB (h.keep hb0);have low:=aB h.low;clear h
 go_enter Tryz.func155,Tryz.ntmps155
 go_wp2_with fail;refine(yN x _ g F bs _ H0.out ae (by rw[eH];rfl) x0 x1).mono ?_
 rintro e w1 ⟨rfl,F1,k1,k2,k3⟩;have C1:w1.cell? ⟨w.heap.size,1,none⟩=some (.int .u64 n):=(k3.cell ag (fun hf=>by have:=low.out _ hf;omega)).trans (by simp[World.cell?_alloc_new])
 have hzg:(bs++zg x).length<=900000000000:=by rw[aI];have:=dM (vg x);unfold zg;omega
 have K1:=aB k1;have K2:=aB k2;have K3:=aB k3;clear k1 k2 k3
 go_wp2_with fail;refine(nS n g F1 (bs++zg x) w1 K2.out hzg n0 n1).mono ?_
 rintro e w2 ⟨rfl,k4⟩
 go_wp2_with fail;refine bodyPost_end (v:=.tuple #[]) (by simp[results,Tryz.results155,go_sem, *];try rfl) rfl ?_
 refine⟨rfl,nD.first hb0 (nD.trans K1.out K3.out ?_)⟩
 rw[<-aS];exact k4
theorem NY(x n y:Int)(ga oa:Nat)(g:Nat)(F:Nat->Prop)(bs:List Int)(w:World)(h:EM w g F bs)(hl:bs.length<=800000000000)(x1:x<=9223372036854775807)(n0:0<=n)(n1:n<18446744073709551616)
 (hy:w.cell? ⟨ga,oa,none⟩=some (.int .i64 y)) (hga:ga<w.heap.size) (hF:¬F ga) (y0:-9223372036854775808<=y) (yx:y<=x) :
 Calls Tryz.prog 155 #[.pointer (some ⟨g,0,none⟩),.agg #[.int .i64 x,.int .u64 n],.pointer (some ⟨ga,oa,none⟩)] w fun e w'=>e=.returned (.tuple #[])/\nD w g F (bs++(fC (x - y)++fC n)) w':=by
 obtain⟨w0,hw0⟩:∃w0,w0=w.alloc (.cells #[.int .i64 x,.int .u64 n] 231):=⟨_,rfl⟩;have hb0:Below w.heap.size w w0:=by rw[hw0];exact(aH _ _).alloc (aK _) _
 have H0:=aB (h.keep hb0);have low:=aB h.low;have B0:Hid (dH w0 w.heap.size 231 #[.int .i64 x,.int .u64 n]):=by show dH _ _ _ _;rw[hw0];exact dH.new _ _ _
 have HY:=aB ((hb0.cell (p:=⟨ga,oa,none⟩) hga).trans hy);have HW0:=aB hw0;have hz0:=hb0.size;have hlt0:=B0.out.lt;have b0:=B0.out.cell 0;have b1:=B0.out.cell 1;simp only[aF,aG,aC] at b0 b1;have X0:=aB b0;have X1:=aB b1;have HF:=aB hF;have NF:Hid (¬F w.heap.size):=aB (fun hf=>by have:=low.out _ hf;omega)
 have EW:=aB (show IntKind.u64.wrap (IntKind.u64.wrap x - IntKind.u64.wrap y)=x - y by simp only[eH];omega)
 have be0:ga<w0.heap.size:=ae
 have hzg:(bs++fC (x - y)).length<=900000000000:=by rw[aI];have:=dM (x - y);omega
 clear h hw0 b0 b1 hy hF
 go_enter Tryz.func155,Tryz.ntmps155
 go_wp2_with fail;rw[<-HW0.out];refine dD (Touch F w0) [(0,true),(1,true),(2,true),(3,true),(4,true),(5,true),(6,true),(7,true),(8,true),(9,true),(10,false)] (by kernel_rfl) (by kernel_rfl) ((Touch.refl F w0).drew) ?_
 iterate 10
  refine dC ax  ax (fun R hR=>?_)
  apply aJ
  refine⟨fun w' hS'=>?_,?_⟩
  ·have k0:=(hS'.cell (o:=0) hlt0 NF.out).trans X0.out
   have k1:=(hS'.cell (o:=oa) be0 HF.out).trans HY.out;have ew:=EW.out
   go_simp;exact⟨rfl,rfl⟩
  go_simp;refine hR _ ?_;clear hR R
 refine dE ax  ax (fun K hK=>?_)
 go_simp;refine(nS (x - y) g F bs w0.drew H0.out.drew ae  ae  ae).mono ?_
 rintro e w1 ⟨rfl,F1,k1,k2,k3⟩;have K1:=aB k1;have K2:=aB k2;have K3:Hid (Touch F w0 w1):=aB ((Touch.refl F w0).drew.trans k3 (fun i hi=>.inl hi))
 clear k1 k2 k3;refine hK _ _ (K3.out) ?_
 clear hK K;refine dF ?_
 have C1:w1.cell? ⟨w.heap.size,1,none⟩=some (.int .u64 n):=(K3.out.cell hlt0 NF.out).trans X1.out
 go_wp2_with fail;refine(nS n g F1 (bs++fC (x - y)) w1 K2.out hzg n0 n1).mono ?_
 rintro e w2 ⟨rfl,k4⟩
 go_wp2_with fail;refine bodyPost_end (v:=.tuple #[]) (by simp[results,Tryz.results155,go_sem, *];try rfl) rfl ?_
 refine⟨rfl,nD.first hb0 (nD.trans (F1:=F1) (fun k hk=>?_) K3.out ?_)⟩
 ·exact K1.out k hk
 ·rw[<-aS];exact k4
end
section
open Go.RowKit Go.Lib
theorem ql(c n x:Int)(base:Nat)(vb:Value)(bs:List Int)(w:World)(hb0:base<=w.heap.size)(hO:OwnB base w vb bs)(hl:bs.length<=1000000000000)(hc:(c=118/\x=n/\0<=n/\n<18446744073709551616)\/(c=122/\n=ub x/\-9223372036854775808<=x/\x<=9223372036854775807)) :
 Calls Tryz.prog 186 #[vb,.int .u8 c,.int .u64 n] w fun e w'=>∃v,e=.returned v/\OwnB base w' v (bs++(if c=118 then fC x else zg x))/\Below base w w':=by
 have HO:=aB hO;have C1:=aB (xw c n x w hc);have hlen:(if c=118 then fC x else zg x).length<=10:=by split;exact(dM _).2;exact(dM _).2
 generalize (if c=118 then fC x else zg x)=out at *
 clear hO hc
 go_enter Tryz.func186,Tryz.ntmps186
 go_wp2_with fail;refine(C1.out).mono ?_
 rintro e w1 ⟨v1,rfl,o1,hb1⟩;have O1:=aB o1;have hz1:=hb1.size;clear o1
 go_wp2_with (first
  | (at_builtin
     go_must (refine ji rfl (.tmp 15) (.tmp 16) rfl base vb bs rfl (dN.keep HO.out hb1) v1 out rfl (dN.rd O1.out) ae  ae ?_)
     intro v2 w2 o2 g2 a2;have hb2:Below base w w2:=(hb1.mono hb0).grown g2 ae (fun k hk=>(dN.lt HO.out k hk).1)
     have O2:=aB o2;clear o2 g2 a2))
 go_ret;exact⟨v2,rfl,O2.out,hb2⟩
theorem lD(n:Int)(base:Nat)(vb:Value)(bs:List Int)(w:World)(hb0:base<=w.heap.size)(hO:OwnB base w vb bs)(hl:bs.length<=1000000000000)(n0:0<=n)(n1:n<18446744073709551616) :
 Calls Tryz.prog 186 #[vb,.int .u8 118,.int .u64 n] w fun e w'=>∃v,e=.returned v/\OwnB base w' v (bs++fC n)/\Below base w w':=by
 have h:=ql 118 n n base vb bs w hb0 hO hl (.inl ⟨rfl,rfl,n0,n1⟩)
 rwa [if_pos rfl] at h
theorem uw(x n:Int)(base:Nat)(vb:Value)(bs:List Int)(w:World)(hb0:base<=w.heap.size)(hO:OwnB base w vb bs)(hl:bs.length<=1000000000000)(hn:n=ub x)(h0:-9223372036854775808<=x)(h1:x<=9223372036854775807) :
 Calls Tryz.prog 186 #[vb,.int .u8 122,.int .u64 n] w fun e w'=>∃v,e=.returned v/\OwnB base w' v (bs++zg x)/\Below base w w':=by
 have h:=ql 122 n x base vb bs w hb0 hO hl (.inr ⟨rfl,hn,h0,h1⟩)
 rwa [if_neg ae] at h
theorem NZ(g:Nat)(F:Nat->Prop)(d lo hi:Int)(L W:List Mn)(w:World)(h:sU w g F d L W lo hi)(hr:mV L)(hL:ak7 L)(hW:ak7 W)(hlen:L.length+W.length<=1000000000)(d0:0<=d)(d1:d<=9223372036854775807)
 (l0:-9223372036854775808<=lo) (l1:lo<=9223372036854775807) (h0:-9223372036854775808<=hi) (h1:hi<=9223372036854775807) :
 Calls Tryz.prog 88 #[.pointer (some ⟨g,0,none⟩)] w fun e w'=>∃v,e=.returned v/\OwnB w.heap.size w' v (wrD d L W lo hi)/\Below w.heap.size w w':=by
 obtain⟨lv,wv,hb,hl,hw,hg,_,_,_,_⟩:=h;have hlt:=hb.lt;obtain⟨A,ca,rfl,na,ma,fa⟩:=hl.form;obtain⟨B,cb,rfl,nb,mb,fb⟩:=hw.form;have c0:=hb.cell 0;have c1:=hb.cell 1;have c2:=hb.cell 2;have c3:=hb.cell 3;have c4:=hb.cell 4;simp only[aF,aG,aC] at c0 c1 c2 c3 c4;have C0:=aB c0;have C1:=aB c1;have C2:=aB c2;have C3:=aB c3;have C4:=aB c4;have FA:=aB fa;have FB:=aB fb;have HR:=aB hr;have HL:=aB hL;have HW:=aB hW;have b1:=dM d;have b2:=dM (vg lo);have b3:=dM (vg hi);have b4:=dM (L.length:Int);have b5:=dM (W.length:Int);clear hb hl hw hg fa fb hr hL hW c1 c2 c3 c4
 go_enter Tryz.func88,Tryz.ntmps88
 go_wp2_with fail;refine(lD d w.heap.size _ [] w (aK _) (dN.nil_ _ _ _ _) ag d0 ae).mono ?_
 rintro e w1 ⟨v1,rfl,o1,hb1⟩;have O1:=aB o1;have hz1:=hb1.size;have k:=(hb1.cell (p:=⟨g,3,none⟩) hlt).trans C3.out;clear o1 c0
 go_wp2_with fail;clear k;refine(uw lo _ w.heap.size v1 ([]++fC d) w1 hz1 O1.out ah (by rw[eH];rfl) l0 l1).mono ?_
 rintro e w2 ⟨v2,rfl,o2,hb2⟩;have O2:=aB o2;have hbw2:=hb1.trans hb2;have hz2:=hbw2.size;have k:=(hbw2.cell (p:=⟨g,4,none⟩) hlt).trans C4.out;clear o2
 go_wp2_with fail;clear k;refine(uw hi _ w.heap.size v2 ([]++fC d++zg lo) w2 hz2 O2.out (by unfold zg;simp;omega) (by rw[eH];rfl) h0 h1).mono ?_
 rintro e w3 ⟨v3,rfl,o3,hb3⟩;have O3:=aB o3;have hbw3:=hbw2.trans hb3;have hz3:=hbw3.size;have k:=(hbw3.cell (p:=⟨g,1,none⟩) hlt).trans C1.out;clear o3
 go_wp2_with fail;clear k;refine(lD (L.length:Int) w.heap.size v3 ([]++fC d++zg lo++zg hi) w3 hz3 O3.out (by unfold zg;simp;omega) ae  ae).mono ?_
 rintro e w4 ⟨v4,rfl,o4,hb4⟩;obtain⟨H,hH⟩:∃H,[]++fC d++zg lo++zg hi++fC (L.length:Int)=H:=⟨_,rfl⟩;have hHl:H.length<=40:=by rw[<-hH];unfold zg;simp;omega
 rw[hH] at o4;have HH:=aB hH;have O4:=aB o4;have uS:=hbw3.trans hb4;have mG:=uS.size;clear o4 hH b1 b2 b3 b4
 go_wp2_with fail
 go_loopg [3,4] L.length (fun q v i wr=>∃j:Nat,q=L.length - j/\j<=L.length/\i=.int .i64 j/\Hid (OwnB w.heap.size wr v (H++wS none (L.take j)))/\Below w.heap.size w wr)
 case atStart=>exact⟨0,rfl,ae,rfl,aB (by simpa[wS] using O4.out),uS⟩
 case round=>
  obtain⟨j,hq,hj,rfl,ho,hbr⟩:=hrel;have HQ:=aB hq;have hzr:=hbr.size;have k1:=(hbr.cell (p:=⟨g,1,none⟩) hlt).trans C1.out;have tl:=xn L j;clear hq
  by_cases hlt2:j<L.length
  ·obtain⟨gl,off,rfl,hgl,e0,e1⟩:=FA.out.at_ hlt2
   have hm:=HL.out L[j] (bu hlt2);have r0:=(hbr.cell (p:=⟨gl,off+j * 2,none⟩) hgl).trans e0;have R1:=aB e1;have hji:(j:Int)<(L.length:Int):=ae
   rcases bT j with rfl|hj0
   ·have HT:=aB (FV L hlt2)
    have z0:((0:Nat):Int)=0:=rfl;simp only[Nat.zero_mul,Nat.add_zero] at r0;generalize L[0].1=x at *;generalize L[0].2=y at *;simp only[Nat.zero_mul,Nat.add_zero] at e1 R1;rw[z0];clear z0 e0 e1
    go_wp2_with fail;refine(uw x _ w.heap.size u3 (H++wS none (L.take 0)) wr hzr ho.out (by rw[aI];omega) (by rw[eH];rfl) hm.1 hm.2.1).mono ?_
    rintro e w5 ⟨v5,rfl,o5,hb5⟩;have O5:=aB o5;have vP:=hbr.trans hb5;have JO:=vP.size;have k2:=(vP.cell (p:=⟨g,1,none⟩) hlt).trans C1.out;have k3:=(vP.cell (p:=⟨gl,off+1,none⟩) hgl).trans R1.out;have hx:=dM (vg x);clear o5 k1 r0
    go_wp2_with fail;refine(lD y w.heap.size v5 (H++wS none (L.take 0)++zg x) w5 JO O5.out (by unfold zg;rw[aI,aI];omega) hm.2.2.1 ae).mono ?_
    rintro e w6 ⟨v6,rfl,o6,hb6⟩;have O6:=aB o6;have Fb:=vP.trans hb6;clear o6 k2 k3
    go_wp2_with fail
    go_roundg (L.length - (0+1))
    case measure=>have:=HQ.out;omega
    case rel=>exact⟨1,rfl,ae,rfl,aB (by rw[HT.out];simpa[aS] using O6.out),Fb⟩
   ·obtain⟨m,rfl⟩:∃m,j=m+1:=⟨j - 1,ae⟩
    have hms:m<L.length:=ae
    have HT:=aB (JA L m hlt2);obtain⟨gl',off',hA',_,f0,_⟩:=FA.out.at_ hms;simp only[bC,Addr.mk.injEq,and_true] at hA';obtain⟨rfl,rfl⟩:=hA';have hrs:=List.pairwise_iff_getElem.1 HR.out m (m+1) hms hlt2 ae
    have hm':=HL.out L[m] (bu hms);have Q1:=aB e0;have Q2:=aB f0;generalize L[m+1].1=x at *;generalize L[m+1].2=y at *;generalize L[m].1=p at *;have EW:=aB (show IntKind.u64.wrap (IntKind.u64.wrap x - IntKind.u64.wrap p)=x - p by simp only[eH];omega)
    have jne:(((m:Int)+1) == 0)=false:=beq_eq_false_iff_ne.2 ae
    have hj1:(0:Int)<=(m:Int)+1:=ae
    have hj2:(m:Int)+1<(L.length:Int):=ae
    have hj3:(m:Int)<(L.length:Int):=ae
    have J3:=aB (show((m:Int)+1).toNat=m+1 by omega)
    have J4:=aB (show IntKind.i64.wrap (m:Int)=(m:Int) from IntWalk.i64_in _ ae)
    clear e0 f0 e1 r0
    go_wp2_with fail;clear k1;have lS:=aB (fun w' (hS':(fun w'=>Below w.heap.size w w') w')=>(aN ((hS'.cell (p:=⟨g,1,none⟩) hlt).trans C1.out) (aN ((hS'.cell (p:=⟨gl,off+(m+1) * 2,none⟩) hgl).trans Q1.out) (aN ((hS'.cell (p:=⟨gl,off+m * 2,none⟩) hgl).trans Q2.out) (aN (EW.out) (aN (J3.out) (J4.out)))))))
    refine dD (fun w'=>Below w.heap.size w w') [(0,true),(1,true),(2,true),(3,true),(4,true),(5,true),(6,true),(7,true),(8,true),(9,true),(10,true),(11,true),(12,true),(13,true),(14,true),(15,true),(16,true),(17,true),(18,true),(19,true),(20,true),(21,false),(22,true)] (by kernel_rfl) (by kernel_rfl) (hbr.drew) ?_
    iterate 21
     refine dC ax  ax (fun R hR=>?_)
     apply aJ
     refine⟨fun w' hS'=>?_,?_⟩
     ·obtain⟨k1,k2,k3,ew,j3,j4⟩:=lS.out w' hS'
      go_simp;exact⟨rfl,rfl⟩
     go_simp;refine hR _ ?_;clear hR R
    refine dE ax  ax (fun K hK=>?_)
    go_simp;refine(lD (x - p) w.heap.size u3 (H++wS none (L.take (m+1))) _ aj (dN.drew ho.out) (by rw[aI];omega) ae  ae).mono ?_
    rintro e w5 ⟨v5,rfl,o5,hb5⟩;have O5:=aB o5;have vP:Below w.heap.size w w5:=hbr.drew.trans hb5;clear o5;refine hK _ _ (vP) ?_
    clear hK K
    iterate 1
     refine dC ax  ax (fun R hR=>?_)
     apply aJ
     refine⟨fun w' hS'=>?_,?_⟩
     ·obtain⟨k1,k2,k3,ew,j3,j4⟩:=lS.out w' hS'
      go_simp;exact⟨rfl,rfl⟩
     go_simp;refine hR _ ?_;clear hR R
    refine dF ?_
    have JO:=vP.size;have k2:=(vP.cell (p:=⟨g,1,none⟩) hlt).trans C1.out;have k3:=(vP.cell (p:=⟨gl,off+(m+1) * 2+1,none⟩) hgl).trans R1.out;have hx:=dM (x - p)
    go_wp2_with fail;refine(lD y w.heap.size v5 (H++wS none (L.take (m+1))++fC (x - p)) w5 JO O5.out (by rw[aI,aI];omega) hm.2.2.1 ae).mono ?_
    rintro e w6 ⟨v6,rfl,o6,hb6⟩;have O6:=aB o6;have Fb:=vP.trans hb6;clear o6 k2 k3
    go_wp2_with fail
    go_roundg (L.length - (m+1+1))
    case measure=>have:=HQ.out;omega
    case rel=>exact⟨m+1+1,rfl,ae,ai,aB (by rw[HT.out];simpa[aS] using O6.out),Fb⟩
  ·have hE:Hid (L.take j=L):=by show _=_;rw[bH ae]
   rw[hE.out] at ho;have k2:=(hbr.cell (p:=⟨g,2,none⟩) hlt).trans C2.out;have wl:=(Aw none L).2
   go_wp2_with fail;clear k1 k2;refine(lD (W.length:Int) w.heap.size u3 (H++wS none L) wr hzr ho.out (by rw[aI];omega) ae  ae).mono ?_
   rintro e w5 ⟨v5,rfl,o5,hb5⟩;obtain⟨K,hK⟩:∃K,H++wS none L++fC (W.length:Int)=K:=⟨_,rfl⟩;have hKl:K.length<=21000000000:=by rw[<-hK,aI,aI];omega
   rw[hK] at o5;have HK:=aB hK;have O5:=aB o5;have vP:=hbr.trans hb5;clear o5 hK
   go_wp2_with fail
   go_loopg [3,5] W.length (fun q v i wr=>∃j:Nat,q=W.length - j/\j<=W.length/\i=.int .i64 j/\Hid (OwnB w.heap.size wr v (K++FQ (W.take j)))/\Below w.heap.size w wr)
   case atStart=>exact⟨0,rfl,ae,rfl,aB (by simpa[FQ] using O5.out),vP⟩
   case round=>
    obtain⟨n,hq,hn,rfl,ho2,hbs⟩:=hrel;have JP:=aB hq;have hzs:=hbs.size;have k1:=(hbs.cell (p:=⟨g,2,none⟩) hlt).trans C2.out;have tl2:=xq W n;clear hq
    by_cases hlt3:n<W.length
    ·obtain⟨gl,off,rfl,hgl,e0,e1⟩:=FB.out.at_ hlt3
     have hm:=HW.out W[n] (bu hlt3);have r0:=(hbs.cell (p:=⟨gl,off+n * 2,none⟩) hgl).trans e0;have R1:=aB e1;have HT:=aB (JB W n hlt3);have hni:(n:Int)<(W.length:Int):=ae
     generalize W[n].1=x at *;generalize W[n].2=y at *;clear e0 e1
     go_wp2_with fail;refine(uw x _ w.heap.size u3 (K++FQ (W.take n)) wr hzs ho2.out (by rw[aI];omega) (by rw[eH];rfl) hm.1 hm.2.1).mono ?_
     rintro e w6 ⟨v6,rfl,o6,hb6⟩;have O6:=aB o6;have Fb:=hbs.trans hb6;have Ns:=Fb.size;have k2:=(Fb.cell (p:=⟨g,2,none⟩) hlt).trans C2.out;have k3:=(Fb.cell (p:=⟨gl,off+n * 2+1,none⟩) hgl).trans R1.out;have hx:=dM (vg x);clear o6 k1 r0
     go_wp2_with fail;refine(lD y w.heap.size v6 (K++FQ (W.take n)++zg x) w6 Ns O6.out (by unfold zg;rw[aI,aI];omega) hm.2.2.1 ae).mono ?_
     rintro e w7 ⟨v7,rfl,o7,hb7⟩;have O7:=aB o7;have JQ:=Fb.trans hb7;clear o7 k2 k3
     go_wp2_with fail
     go_roundg (W.length - (n+1))
     case measure=>have:=JP.out;omega
     case rel=>exact⟨n+1,rfl,ae,ai,aB (by rw[HT.out];simpa[aS] using O7.out),JQ⟩
    ·have hE2:Hid (W.take n=W):=by show _=_;rw[bH ae]
     rw[hE2.out] at ho2
     go_wp2_with fail
     go_ret;refine⟨_,rfl,?_,hbs⟩
     have:=ho2.out;rw[<-HK.out,<-HH.out] at this
     simpa[wrD,aS] using this
end
section
open Go.RowKit Go.Lib
def C_(w:World)(A:Option Addr)(l:List Mn)(F:Nat->Prop):Prop:=0<l.length->∃g off,A=some ⟨g,off,none⟩/\g<w.heap.size/\¬F g/\∀j (h:j<l.length),w.cell? ⟨g,off+j * 2,none⟩=some (.int .i64 l[j].1)/\w.cell? ⟨g,off+j * 2+1,none⟩=some (.int .u64 l[j].2)
theorem C_.of{w:World}{A:Option Addr}{c base:Nat}{l:List Mn}{F:Nat->Prop}(h:dU base w (.slice A l.length c) l)(hF:∀k,F k->k<base):C_ w A l F:=fun h0=>by
 obtain⟨g,c',hv,hb,hg,_,_⟩:=h.pos h0;simp only[Value.slice.injEq,true_and] at hv;obtain⟨rfl,rfl⟩:=hv;refine⟨g,0,rfl,hg,fun hf=>by have:=hF g hf;omega,fun j hj=>?_⟩
 have:=h.at_ hj;rw[Nat.zero_add];exact⟨this.1,this.2.1⟩
theorem C_.go{w w':World}{A:Option Addr}{l:List Mn}{F F':Nat->Prop}(h:C_ w A l F)(h1:∀k,F' k->F k\/w.heap.size<=k)(ht:Touch F w w'):C_ w' A l F':=fun h0=>by
 obtain⟨g,off,hA,hg,hF,hc⟩:=h h0;refine⟨g,off,hA,aU hg ht.size,fun hf=>?_,fun j hj=>?_⟩
 ·rcases h1 g hf with h2|h2
  ·exact hF h2
  ·omega
 ·exact⟨(ht.cell hg hF).trans (hc j hj).1,(ht.cell hg hF).trans (hc j hj).2⟩
theorem C_.at_{w:World}{A:Option Addr}{l:List Mn}{F:Nat->Prop}(h:C_ w A l F){j:Nat}(hj:j<l.length):∃g off,A=some ⟨g,off,none⟩/\g<w.heap.size/\¬F g/\w.cell? ⟨g,off+j * 2,none⟩=some (.int .i64 l[j].1)/\w.cell? ⟨g,off+j * 2+1,none⟩=some (.int .u64 l[j].2):=by
 obtain⟨g,off,hA,hg,hF,hc⟩:=h ae
 exact⟨g,off,hA,hg,hF,hc j hj⟩
def au7(s:St):Int:=if tot (s.L++s.W)=0 then 8 else 0
theorem al6{g:Nat}{F:Nat->Prop}{d:Int}{s:St}{k:Nat}(w:World)(h:NU w g F d s)(ft:Fit d s k) :
 Calls Tryz.prog 152 #[.pointer (some ⟨g,0,none⟩)] w fun e w'=>e=.returned (.tuple #[.int .i64 s.lo,.int .i64 s.hi,.int .i64 (au7 s)])/\Below w.heap.size w w':=by
 unfold au7
 by_cases hz:tot (s.L++s.W)=0
 ·rw[if_pos hz]
  have he:=ft.ok.emp (ft.ok.yE.1 hz);rw[he.1,he.2];unfold NU at h;rw[hz] at h;exact Tf w h
 ·rw[if_neg hz]
  exact Ti w h (by have:=ft.ok.jA;omega)
theorem lZ{w wr w':World}{F:Nat->Prop}(hb:Below w.heap.size w wr)(hF:∀k,F k->w.heap.size<=k)(ht:Touch F wr w'):Below w.heap.size w w':=hb.trans (ht.below hF hb.size)
theorem sZ{w wr:World}{F F':Nat->Prop}(hb:Below w.heap.size w wr)(hF:∀k,F k->w.heap.size<=k)(h1:∀k,F' k->F k\/wr.heap.size<=k):∀k,F' k->w.heap.size<=k:=fun k hk=>by
 have:=hb.size
 rcases h1 k hk with h|h
 ·exact hF k h
 ·omega
theorem N7(g:Nat)(F:Nat->Prop)(d:Int)(s:St)(k:Nat)(w:World)(h:NU w g F d s)(ft:Fit d s k) :
 Calls Tryz.prog 66 #[.pointer (some ⟨g,0,none⟩)] w fun e w'=>∃v,e=.returned (.tuple #[v,.int .i64 0])/\OwnB w.heap.size w' v (wrD d s.L s.W s.lo s.hi)/\Below w.heap.size w w':=by
 have HD:=aB h;have FT:=aB ft;have hlen:s.L.length+s.W.length<=100000000:=by have:=ft.ok.len;have:=ft.k1;omega
 have d0:=ft.d0;have d1:=ft.d1;have l0:=ft.ok.We;have l1:=ft.ok.lo1;have i0:=ft.ok.hi0;have i1:=ft.ok.hi1;have ht:=ft.t;have HO:=aB ft.ok.ok;have HR:=aB ft.ok.rise;have hlt:=Dg.lt h;have b1:=dM d;have b2:=dM (vg s.lo);have b3:=dM (vg s.hi);have b4:=dM (s.L.length:Int);have b5:=dM (s.W.length:Int);have HWB:∀m∈s.L++s.W,Hid (-9223372036854775808<=m.1/\m.1<=9223372036854775807/\0<=m.2/\m.2<18446744073709551616):=fun m hm=>by
  have h1:=ft.ok.ok m hm;obtain⟨j,hj,rfl⟩:=List.getElem_of_mem hm;have h2:=ft.ok.ok.Hy hj;have h3:=(ft.ok.ok.xh j).1;exact aB ⟨h1.1,h1.2.1,by have:=h1.2.2;omega,ae⟩
 have HWM:=aB HWB;clear h ft HWB
 go_enter Tryz.func66,Tryz.ntmps66
 go_wp2_with fail;obtain⟨gw,hgw⟩:∃gw,w.heap.size=gw:=⟨_,rfl⟩;have W0:=aB (EM.new w);have hb0:Below w.heap.size w (w.alloc (.cells #[.slice none 0 0] 226)):=(aH _ _).alloc (aK _) _;have F0:Hid (∀k,(fun k=>k=w.heap.size) k->w.heap.size<=k):=aB (fun k hk=>by simp only at hk;omega)
 generalize (fun k=>k=w.heap.size:Nat->Prop)=FW at *
 generalize w.alloc (.cells #[.slice none 0 0] 226)=w0 at *;rw[hgw] at W0 |-;have HGW:=aB hgw;clear hgw;refine(al6 w0 (Dg.keep HD.out hb0) FT.out).mono ?_
 rintro e w1 ⟨rfl,hb1⟩;have Cf:=hb0.trans (hb1.mono hb0.size);have W1:=aB (W0.out.keep hb1);clear W0 hb1
 go_wp2_with fail;refine(nC w1 (Dg.keep HD.out Cf)).mono ?_
 rintro e w' ⟨rfl,rfl⟩
 go_wp2_with fail;refine(nS d gw FW [] w1 W1.out ag ae  ae).mono ?_
 rintro e w2 ⟨rfl,F2,p1,p2,p3⟩;have W2:=aB p2;have hbw2:=lZ Cf F0.out p3;have F02:=aB (sZ Cf F0.out p1);clear p1 p2 p3
 go_wp2_with fail;refine(yN s.lo _ gw F2 ([]++fC d) w2 W2.out ah (by rw[eH];rfl) l0 l1).mono ?_
 rintro e w3 ⟨rfl,F3,p1,p2,p3⟩;have W3:=aB p2;have hbw3:=lZ hbw2 F02.out p3;have F03:=aB (sZ hbw2 F02.out p1);clear p1 p2 p3
 go_wp2_with fail;refine(yN s.hi _ gw F3 ([]++fC d++zg s.lo) w3 W3.out (by unfold zg;simp;omega) (by rw[eH];rfl) i0 i1).mono ?_
 rintro e w4 ⟨rfl,F4,p1,p2,p3⟩;have W4:=aB p2;have uS:=lZ hbw3 F03.out p3;have F04:=aB (sZ hbw3 F03.out p1);clear p1 p2 p3
 go_wp2_with fail;refine(WI w4 (Dg.keep HD.out uS) ae).mono ?_
 rintro e w5 ⟨v5,rfl,o5,hb5⟩;obtain⟨A5,c5,rfl,n5,m5,_⟩:=o5.form;have M5:=aB (C_.of o5 W4.out.low);have W5:=aB (W4.out.keep hb5);have vP:=uS.trans (hb5.mono uS.size);clear o5 hb5
 go_wp2_with fail;refine(nS (s.L.length:Int) gw F4 ([]++fC d++zg s.lo++zg s.hi) w5 W5.out (by unfold zg;simp;omega) ae  ae).mono ?_
 rintro e w6 ⟨rfl,F6,p1,p2,p3⟩;obtain⟨H,hH⟩:∃H,[]++fC d++zg s.lo++zg s.hi++fC (s.L.length:Int)=H:=⟨_,rfl⟩;have hHl:H.length<=40:=by rw[<-hH];unfold zg;simp;omega
 rw[hH] at p2;have HH:=aB hH;have W6:=aB p2;have Fb:=lZ vP F04.out p3;have F06:=aB (sZ vP F04.out p1);have M6:=aB (M5.out.go p1 p3);clear p1 p2 p3 hH b1 b2 b3 b4
 go_wp2_with fail
 go_loopg [46] s.L.length (fun q i wr=>∃(j:Nat) (FX:Nat->Prop),q=s.L.length - j/\j<=s.L.length/\i=.int .i64 j/\Hid (EM wr gw FX (H++wS none (s.L.take j)))/\Hid (C_ wr A5 s.L FX)/\Hid (∀k,FX k->w.heap.size<=k)/\Below w.heap.size w wr)
 case atStart=>exact⟨0,F6,rfl,ae,rfl,aB (by simpa[wS] using W6.out),M6,F06,Fb⟩
 case round=>
  obtain⟨j,FX,hq,hj,rfl,hw,hm,hf,hb⟩:=hrel;have HQ:=aB hq;have hzr:=hb.size;have tl:=xn s.L j;clear hq
  by_cases hlt2:j<s.L.length
  ·obtain⟨gl,off,rfl,hgl,wU,e0,e1⟩:=hm.out.at_ hlt2
   have hmb:=HWM.out s.L[j] (List.mem_append_left _ (bu hlt2));have HF:=aB wU
   rcases bT j with rfl|hj0
   ·have HT:=aB (FV s.L hlt2)
    have z0:((0:Nat):Int)=0:=rfl;simp only[Nat.zero_mul,Nat.add_zero] at e0 e1;generalize s.L[0].1=x at *;generalize s.L[0].2=y at *;rw[z0];clear z0 wU
    go_wp2_with fail;have hba:Below wr.heap.size wr (wr.alloc (.cells #[.int .i64 x,.int .u64 y] 231)):=(aH _ _).alloc (aK _) _;refine(C9 x y gw FX (H++wS none (s.L.take 0)) _ (hw.out.keep hba) (by rw[aI];omega) hmb.out.1 hmb.out.2.1 hmb.out.2.2.1 hmb.out.2.2.2).mono ?_
    rintro e w7 ⟨rfl,k0⟩;obtain⟨F7,p1,p2,p3⟩:=nD.first hba k0;have W7:=aB p2;have M7:=aB (hm.out.go p1 p3);have JQ:=lZ hb hf.out p3;have F07:=aB (sZ hb hf.out p1);clear k0 p1 p2 p3
    go_wp2_with fail
    go_roundg (s.L.length - (0+1))
    case measure=>have:=HQ.out;omega
    case rel=>exact⟨1,F7,rfl,ae,rfl,aB (by rw[HT.out];simpa[aS] using W7.out),M7,F07,JQ⟩
   ·obtain⟨m,rfl⟩:∃m,j=m+1:=⟨j - 1,ae⟩
    have hms:m<s.L.length:=ae
    have HT:=aB (JA s.L m hlt2);obtain⟨gl',off',hA',_,_,f0,_⟩:=hm.out.at_ hms;simp only[bC,Addr.mk.injEq,and_true] at hA';obtain⟨rfl,rfl⟩:=hA';have hrs:=List.pairwise_iff_getElem.1 HR.out m (m+1) hms hlt2 ae
    have be1:=HWM.out s.L[m] (List.mem_append_left _ (bu hms));have Q2:=aB f0;generalize s.L[m+1].1=x at *;generalize s.L[m+1].2=y at *;generalize s.L[m].1=p at *;have jne:(((m:Int)+1) == 0)=false:=beq_eq_false_iff_ne.2 ae
    have hj1:(0:Int)<=(m:Int)+1:=ae
    have hj2:(m:Int)+1<(s.L.length:Int):=ae
    have hj3:(m:Int)<(s.L.length:Int):=ae
    have J3:=aB (show((m:Int)+1).toNat=m+1 by omega)
    have J4:=aB (show IntKind.i64.wrap (m:Int)=(m:Int) from IntWalk.i64_in _ ae)
    clear f0 wU
    go_wp2_with fail;obtain⟨wa,jM⟩:∃wa,wa=wr.alloc (.cells #[.int .i64 x,.int .u64 y] 231):=⟨_,rfl⟩;have hba:Below wr.heap.size wr wa:=by rw[jM];exact(aH _ _).alloc (aK _) _
    have B0:Hid (dH wa wr.heap.size 231 #[.int .i64 x,.int .u64 y]):=by show dH _ _ _ _;rw[jM];exact dH.new _ _ _
    have hlt0:=B0.out.lt;have b0:=B0.out.cell 0;have b1:=B0.out.cell 1;simp only[aF,aG,aC] at b0 b1;have X0:=aB b0;have X1:=aB b1;have NF:Hid (¬FX wr.heap.size):=aB (fun hx=>by have:=hw.out.low _ hx;omega)
    have WA:=aB (hw.out.keep hba);have QA:=aB ((hba.cell (p:=⟨gl,off+m * 2,none⟩) hgl).trans Q2.out);have be3:gl<wa.heap.size:=aU hgl hba.size;rw[<-jM];clear jM b0 b1 e0 e1;refine dD (Touch FX wa) [(0,true),(1,true),(2,true),(3,true),(4,true),(5,true),(6,false)] (by kernel_rfl) (by kernel_rfl) ((Touch.refl FX wa).drew) ?_
    iterate 6
     refine dC ax  ax (fun R hR=>?_)
     apply aJ
     refine⟨fun w' hS'=>?_,?_⟩
     ·have k0:=(hS'.cell (o:=0) hlt0 NF.out).trans X0.out
      have k1:=(hS'.cell (o:=1) hlt0 NF.out).trans X1.out;have j3:=J3.out;have j4:=J4.out
      go_simp;exact⟨rfl,rfl⟩
     go_simp;refine hR _ ?_;clear hR R
    refine dE ax  ax (fun K hK=>?_)
    go_simp;refine(NY x y p gl (off+m * 2) gw FX (H++wS none (s.L.take (m+1))) wa.drew WA.out.drew (by rw[aI];omega) hmb.out.2.1 hmb.out.2.2.1 hmb.out.2.2.2 QA.out be3 HF.out be1.out.1 hrs).mono ?_
    rintro e w7 ⟨rfl,k0⟩;have K0:=aB k0;have K1:Hid (Touch FX wa w7):=aB (by obtain⟨_,_,_,t⟩:=k0;exact((Touch.refl FX wa).drew).trans t (fun i hi=>.inl hi))
    clear k0;refine hK _ _ (K1.out) ?_
    clear hK K;refine dF ?_
    obtain⟨F7,p1,p2,p3⟩:=nD.first (hba.trans ((below_drewN (aH wa.heap.size wa) 0).mono hba.size)) (show nD (wa.drewN 0) gw FX (H++wS none (s.L.take (m+1))++(fC (x - p)++fC y)) w7 from by
     obtain⟨F',q1,q2,q3⟩:=K0.out;exact⟨F',q1,q2,⟨q3.os,K1.out.tape,q3.output,q3.size,q3.block⟩⟩)
    have W7:=aB p2;have M7:=aB (hm.out.go p1 p3);have JQ:=lZ hb hf.out p3;have F07:=aB (sZ hb hf.out p1);clear p1 p2 p3
    go_wp2_with fail
    go_roundg (s.L.length - (m+1+1))
    case measure=>have:=HQ.out;omega
    case rel=>exact⟨m+1+1,F7,rfl,ae,ai,aB (by rw[HT.out];simpa[aS] using W7.out),M7,F07,JQ⟩
  ·have hE:Hid (s.L.take j=s.L):=by show _=_;rw[bH ae]
   rw[hE.out] at hw;have wl:=(Aw none s.L).2
   go_wp2_with fail;refine(Tj wr (Dg.keep HD.out hb) ae).mono ?_
   rintro e w7 ⟨v7,rfl,o7,hb7⟩;obtain⟨A7,c7,rfl,n7,m7,_⟩:=o7.form;have M7:=aB (C_.of o7 hw.out.low);have W7:=aB (hw.out.keep hb7);have JQ:=hb.trans (hb7.mono hzr);clear o7 hb7
   go_wp2_with fail;refine(nS (s.W.length:Int) gw FX (H++wS none s.L) w7 W7.out (by rw[aI];omega) ae  ae).mono ?_
   rintro e w8 ⟨rfl,F8,p1,p2,p3⟩;obtain⟨K,hK⟩:∃K,H++wS none s.L++fC (s.W.length:Int)=K:=⟨_,rfl⟩;have hKl:K.length<=2100000000:=by rw[<-hK,aI,aI];omega
   rw[hK] at p2;have HK:=aB hK;have W8:=aB p2;have be5:=lZ JQ hf.out p3;have F08:=aB (sZ JQ hf.out p1);have M8:=aB (M7.out.go p1 p3);clear p1 p2 p3 hK
   go_wp2_with fail
   go_loopg [73] s.W.length (fun q i wr=>∃(j:Nat) (FX:Nat->Prop),q=s.W.length - j/\j<=s.W.length/\i=.int .i64 j/\Hid (EM wr gw FX (K++FQ (s.W.take j)))/\Hid (C_ wr A7 s.W FX)/\Hid (∀k,FX k->w.heap.size<=k)/\Below w.heap.size w wr)
   case atStart=>exact⟨0,F8,rfl,ae,rfl,aB (by simpa[FQ] using W8.out),M8,F08,be5⟩
   case round=>
    obtain⟨n,FY,hq,hn,rfl,hw2,hm2,hf2,hb2⟩:=hrel;have JP:=aB hq;have tl2:=xq s.W n;clear hq
    by_cases hlt3:n<s.W.length
    ·obtain⟨gl,off,rfl,hgl,wU,e0,e1⟩:=hm2.out.at_ hlt3
     have hmb:=HWM.out s.W[n] (List.mem_append_right _ (bu hlt3));have HT:=aB (JB s.W n hlt3);have hni:(n:Int)<(s.W.length:Int):=ae
     generalize s.W[n].1=x at *;generalize s.W[n].2=y at *;clear wU
     go_wp2_with fail;have hba:Below wr.heap.size wr (wr.alloc (.cells #[.int .i64 x,.int .u64 y] 231)):=(aH _ _).alloc (aK _) _;refine(C9 x y gw FY (K++FQ (s.W.take n)) _ (hw2.out.keep hba) (by rw[aI];omega) hmb.out.1 hmb.out.2.1 hmb.out.2.2.1 hmb.out.2.2.2).mono ?_
     rintro e w9 ⟨rfl,k0⟩;obtain⟨F9,p1,p2,p3⟩:=nD.first hba k0;have W9:=aB p2;have M9:=aB (hm2.out.go p1 p3);have be6:=lZ hb2 hf2.out p3;have F09:=aB (sZ hb2 hf2.out p1);clear k0 p1 p2 p3
     go_wp2_with fail
     go_roundg (s.W.length - (n+1))
     case measure=>have:=JP.out;omega
     case rel=>exact⟨n+1,F9,rfl,ae,ai,aB (by rw[HT.out];simpa[aS] using W9.out),M9,F09,be6⟩
    ·have hE2:Hid (s.W.take n=s.W):=by show _=_;rw[bH ae]
     rw[hE2.out] at hw2;obtain⟨v,q1,q2,q3,q4,q5⟩:=hw2.out;have c0:=q1.cell 0;simp only[aF,aC] at c0;have Q2:=aB q2;have Q4:=aB q4;clear q1 q2 q3 q4 q5
     go_wp2_with fail
     go_ret2
     refine⟨_,rfl,?_,hb2⟩
     have h1:=dN.lift Q2.out (fun k hk=>hf2.out k (Q4.out k hk))
     rw[<-HK.out,<-HH.out] at h1
     simpa[wrD,aS,OwnB] using h1
end
end Go.Proofs.YtkiebccnpheloaaGreat
