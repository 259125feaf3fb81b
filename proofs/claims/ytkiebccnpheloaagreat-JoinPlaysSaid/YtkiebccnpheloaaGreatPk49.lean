/- Parts of a proof: what its theorem reaches, words cut short. No condition of its own. -/
import Derived.Test.YtkiebccnpheloaaGreatPk48
set_option maxRecDepth 100000
set_option maxHeartbeats 16000000
set_option linter.unusedVariables false
set_option linter.unusedSimpArgs false
namespace Go.Proofs.YtkiebccnpheloaaGreat.D
open Go.RowKit Go.Lib
theorem iH.sub{w:World}{g off c a n:Nat}{l:List Int}(h:iH .u8 w (.slice (some ⟨g,off,none⟩) l.length c) l)(hn:a+n<=l.length):iH .u8 w (.slice (some ⟨g,off+a,none⟩) n (c - a)) ((l.drop a).take n):=by
 obtain⟨A',c',e,h1,h2,hf⟩:=(rM.1 h).form;injection e with e1 e2 e3;subst e1;subst e3;have e4:((l.drop a).take n).length=n:=by rw[bg,bn];omega
 have h3:=(hf.drop rfl a).take n;have e5:off+a * bE.k=off+a:=by show off+a * 1=_;omega
 rw[e5] at h3;have h4:=gz.iO (c:=c - a) (by rw[e4];omega) ae h3
 rw[e4] at h4;exact rM.2 h4
theorem Hr{g a n:Nat}{bs:List Int}(w:World)(h:dZ w g bs a)(hlen:bs.length<=1000000000)(hn:a+n<=bs.length)(h0:0<n) :
 Calls Tryz.prog 241 #[.pointer (some ⟨g,0,none⟩),.int .i64 n] w fun e w'=>∃v,e=.returned (.tuple #[v,.int .i64 0])/\dI bE w.heap.size w' v ((bs.drop a).take n)/\dZ w' g bs (a+n)/\Touch (fun k=>k=g) w w':=by
 have H:=aB h;have CL:=aB (uu g bs a w h ae)
 have hg:=h.lt;obtain⟨v,h1,h2,h3⟩:=h;obtain⟨A1,k1,rfl,hk1,hk2,f1⟩:=(dN.rd h2).form;obtain⟨gb,ob,rfl,hgb,_⟩:=f1.at_ (j:=a) (by omega)
 have HRD:=aB (dN.rd h2);have O2:=aB h2;have B1:=aB h1;have hgg:gb≠g:=fun e=>by have:=h1.BJ h2 af ;exact this (by rw[e];rfl)
 have c0:=h1.cell 0;have c1:=h1.cell 1;have fz:=h1.frozen 1;simp only[aF,aG,aC] at c0 c1;have hg1:¬((bs.length:Int) - (a:Int)<(n:Int)):=ae
 have hg2:¬((n:Int)<0):=ae
 have EW:Hid (IntKind.i64.wrap ((a:Int)+(n:Int))=((a+n:Nat):Int)):=aB ak
 clear h1 h2 f1
 go_enter Tryz.func241,Tryz.ntmps241
 go_wp2_with fail;refine(CL.out).mono ?_
 rintro e w' ⟨rfl,VO,rfl⟩;have ew:=EW.out
 go_upto_region 4 with fail;have HP:Hid (dZ ((w.drewN VO).setCell ⟨g,1,none⟩ (.int .i64 ((a:Int)+(n:Int)))) g bs (a+n)):=aB (by
  have h:=(H.out.drewN VO).put (a+n) hn
  rwa [dh] at h)
 have HT:Hid (Touch (fun k=>k=g) w ((w.drewN VO).setCell ⟨g,1,none⟩ (.int .i64 ((a:Int)+(n:Int))))):=aB (sW w VO g 1 _)
 have R2:=aB (iH.sub (a:=a) (n:=n) (dN.rd (OwnB.far (dN.drewN O2.out VO) (p:=⟨g,1,none⟩) (fun e=>hgg (by injection e)) (.int .i64 ((a:Int)+(n:Int))))) hn)
 have c0':Hid (((w.drewN VO).setCell ⟨g,1,none⟩ (.int .i64 ((a:Int)+(n:Int)))).cell? ⟨g,0,none⟩=some (.slice (some ⟨gb,ob,none⟩) bs.length k1)):=aB (((B1.out.drewN VO).dP 1 _).cell 0);have c1':Hid (((w.drewN VO).setCell ⟨g,1,none⟩ (.int .i64 ((a:Int)+(n:Int)))).cell? ⟨g,1,none⟩=some (.int .i64 ((a:Int)+(n:Int)))):=aB (((B1.out.drewN VO).dP 1 _).cell 1);obtain⟨w2,hw2⟩:∃q,(w.drewN VO).setCell ⟨g,1,none⟩ (.int .i64 ((a:Int)+(n:Int)))=q:=⟨_,rfl⟩;rw[hw2] at HP HT R2 c0' c1' |-;have ES:Hid (IntKind.i64.wrap (a:Int)=(a:Int)):=aB ak
 have e1:((a:Int)+(n:Int)).toNat=a+n:=ae
 have hc1:¬(k1=a):=ae
 have hb1:(a:Int)+(n:Int)<=(k1:Int):=ae
 have hb2:(a:Int)<=(a:Int)+(n:Int):=ae
 have hb3:(0:Int)<=(a:Int)+(n:Int):=ae
 have e2:a+n - a=n:=ae
 clear hw2 c0 c1 fz ew;refine dJ (fun w'=>w'=w2.drew) 15 [(0,true),(1,true),(2,true),(3,true),(4,true),(5,true),(6,true),(7,true),(8,true),(9,true),(10,true),(11,true),(12,true),(13,true),(14,true)] (by kernel_rfl) (by kernel_rfl) (rfl) ?_
 iterate 15
  refine dK ax  ax (fun R hR=>?_)
  apply aJ
  refine⟨fun w' hS'=>?_,?_⟩
  ·subst hS'
   have c0:w2.drew.cell? ⟨g,0,none⟩=_:=c0'.out;have c1:w2.drew.cell? ⟨g,1,none⟩=_:=c1'.out;have es:=ES.out
   go_simp;exact⟨rfl,rfl⟩
  go_simp;refine hR _ ?_;clear hR R
 refine dQ ?_
 simp only[bD,bQ]
 go_wp2_with fail;have Bd:Below w2.heap.size w2 w2.drew:=(aH _ _).drew;have hl4:((bs.drop a).take n).length=n:=by rw[bg,bn];omega
 have RR:=iH.keep R2.out Bd;refine(Ic _ _ _ RR ae).mono ?_
 rintro e w5 ⟨v5,rfl,o5,hb5⟩;have hb6:Below w2.heap.size w2 w5:=Bd.trans hb5;have O5:=aB o5;have HP5:=aB (HP.out.keep hb6);have HT5:Hid (Touch (fun k=>k=g) w w5):=aB (HT.out.trans (Touch.of_below hb6 (aK _)) (fun _ h=>.inl h))
 have hz:=HT.out.size;clear o5 RR
 go_wp2_with fail;refine dO ?_
 go_wp2_with fail
 go_ret2
 exact⟨_,rfl,dI.more (dR.1 O5.out) hz,HP5.out,HT5.out⟩
open Go.RowKit Go.Lib
theorem lL(w:World):Calls Tryz.prog 235 #[.bool true] w fun e w'=>e=.returned (.tuple #[])/\w=w':=by
 go_enter Tryz.func235,Tryz.ntmps235
 go_wp2_with fail;refine bodyPost_end (v:=.tuple #[]) (by simp[results,Tryz.results235,go_sem, *];try rfl) rfl ?_
 exact⟨rfl,rfl⟩
def kU(w:World)(x r:Nat)(Jd k:Int)(pk:Bool)(v:Value):Prop:=dH w x 216 #[.pointer (some ⟨r,0,none⟩),.int .i64 Jd,.int .u8 k,.bool pk,v]
theorem EG{x r b:Nat}{Jd k c n:Int}{pk:Bool}{v:Value}{bs:List Int}(w:World)(hB:kU w x r Jd k pk v)(hn:Calls Tryz.prog 318 #[.pointer (some ⟨r,0,none⟩),.int .u8 c] w (Dy w r bs b (.tuple #[.int .u64 n,.int .i64 0]))) :
 Calls Tryz.prog 343 #[.pointer (some ⟨x,0,none⟩),.int .u8 c] w (Dy w r bs b (.int .u64 n)):=by
 have HN:=aB hn;have c0:=dH.cell hB 0;simp only[aF,aG,aC] at c0;clear hB hn
 go_enter Tryz.func343,Tryz.ntmps343
 go_wp2_with fail;refine(HN.out).mono ?_
 rintro e w1 ⟨rfl,h1,h2⟩;have H1:=aB h1;have H2:=aB h2;clear h1 h2
 go_wp2_with fail;refine(lL _).mono ?_
 rintro e w' ⟨rfl,rfl⟩
 go_wp2_with fail
 go_ret;exact⟨rfl,H1.out,H2.out⟩
theorem kU.touch{w w':World}{x r:Nat}{Jd k:Int}{pk:Bool}{v:Value}(h:kU w x r Jd k pk v)(ht:Touch (fun j=>j=r) w w')(hx:x≠r):kU w' x r Jd k pk v:=(ht.block x (dH.lt h) hx).trans h
theorem Zk{x r a n:Nat}{Jd k:Int}{pk:Bool}{v:Value}{bs:List Int}(w:World)(hB:kU w x r Jd k pk v)(hR:dZ w r bs a)(hlen:bs.length<=1000000000)(hn:a+n+4=bs.length)(h0:0<n)(hx:x≠r) :
 Calls Tryz.prog 344 #[.pointer (some ⟨x,0,none⟩),.int .u64 n] w fun e w'=>∃u,e=.returned u/\dI bE w.heap.size w' u ((bs.drop a).take n)/\dZ w' r bs (a+n)/\Touch (fun k=>k=r) w w':=by
 have CL:=fun q=>aB (uu r bs a (w.drewN q) (hR.drewN q) ae)
 have CT:=fun q=>aB (Hr (n:=n) (w.drewN q) (hR.drewN q) hlen ae h0)
 have c0:=dH.cell hB 0;simp only[aF,aG,aC] at c0;have hl:((bs.length:Int) - (a:Int))=(n:Int)+4:=ae
 rw[hl] at CL;have e1:IntKind.i64.wrap ((n:Int)+4 - 4)=n:=ak
 have e2:IntKind.u64.wrap (n:Int)=n:=by rw[eH];omega
 have e3:IntKind.i64.wrap (n:Int)=n:=ak
 have h4:(4:Int)<=(n:Int)+4:=ae
 clear hB hR hl
 go_enter Tryz.func344,Tryz.ntmps344
 go_wp2_with fail;refine((CL 0).out).mono ?_
 rintro e w1 ⟨rfl,q,rfl⟩
 go_wp2_with fail;refine((CL q).out).mono ?_
 rintro e w1 ⟨rfl,q2,rfl⟩
 go_wp2_with fail;refine(lL _).mono ?_
 rintro e w' ⟨rfl,rfl⟩
 go_wp2_with fail;refine((CT (q+q2)).out).mono ?_
 rintro e w3 ⟨u,rfl,o3,h3,t3⟩;have O3:Hid (dI bE w.heap.size w3 u ((bs.drop a).take n)):=aB o3;have H3:=aB h3;have T3:Hid (Touch (fun k=>k=r) w w3):=aB (((Touch.refl _ w).drewN (q+q2)).trans t3 (fun _ h=>.inl h))
 clear o3 h3 t3
 go_wp2_with fail;refine(lL _).mono ?_
 rintro e w' ⟨rfl,rfl⟩
 go_wp2_with fail
 go_ret;exact⟨_,rfl,O3.out,H3.out,T3.out⟩
theorem kU.put{w:World}{x r:Nat}{Jd k k':Int}{pk:Bool}{v:Value}(h:kU w x r Jd k pk v):kU (w.setCell ⟨x,2,none⟩ (.int .u8 k')) x r Jd k' pk v:=by
 have h1:=dH.dP h 2 (.int .u8 k')
 simpa[kU] using h1
theorem kU.text{w:World}{x r:Nat}{Jd k:Int}{pk:Bool}{v u:Value}(h:kU w x r Jd k pk v):kU (w.setCell ⟨x,4,none⟩ u) x r Jd k pk u:=by
 have h1:=dH.dP h 4 u
 simpa[kU] using h1
theorem kU.bk4{w:World}{x r:Nat}{Jd as4 k:Int}{pk:Bool}{v:Value}(h:kU w x r Jd k pk v):kU (w.setCell ⟨x,1,none⟩ (.int .i64 as4)) x r as4 k pk v:=by
 have h1:=dH.dP h 1 (.int .i64 as4)
 simpa[kU] using h1
section
variable {k : Int} {t : List Int}
theorem uf(k:Int)(t:List Int):lK k t=81::83::2::k::0::(fC t.length++(t++FC 4 (Vs (EE k t)))):=by simp[lK,qM,EE]
theorem RY(k:Int)(t:List Int):(lK k t).length=5+(fC t.length).length+t.length+4:=by
 rw[uf];simp only[aP,aI,uP];omega
theorem as5:(lK k t).drop 3=k::0::(fC t.length++(t++FC 4 (Vs (EE k t)))):=by rw[uf];rfl
theorem as6:(lK k t).drop (3+1)=0::(fC t.length++(t++FC 4 (Vs (EE k t)))):=by rw[uf];rfl
theorem Zl:(lK k t).drop (3+1+1)=fC t.length++(t++FC 4 (Vs (EE k t))):=by rw[uf];rfl
theorem as7:((lK k t).drop (3+1+1+(fC t.length).length)).take t.length=t:=by
 rw[<-List.drop_drop,Zl,List.drop_left,List.take_left]
end
theorem Zm{x r:Nat}{Jd k0 k lim:Int}{v0:Value}{t:List Int}(w:World)(hB:kU w x r Jd k0 false v0)(hR:dZ w r (lK k t) 3)(hby:qQ (lK k t))(hx:x≠r)(hk0:0<=k)(hk1:k<256)(ht0:0<t.length)(ht1:t.length<=1000000)(hl0:(t.length:Int)<=lim)(hl1:lim<=1048576) :
 Calls Tryz.prog 240 #[.pointer (some ⟨x,0,none⟩),.int .i64 lim] w fun e w'=>e=.returned (.tuple #[])/\∃v,kU w' x r Jd k false v/\dI bE w.heap.size w' v t/\Touch (fun j=>j=x\/j=r) w w':=by
 have hlen:=RY k t;have hlb:=dM (t.length:Int);have C1:=aB (EG w hB (Gz w hR ae as5 hk0 hk1))
 have HB:=aB hB;have lx:=dH.lt hB;have Gy:=aB hby;have ek:IntKind.u8.wrap k=k:=by show k % 256=k;omega
 have el:IntKind.u64.wrap lim=lim:=by rw[eH];omega
 have EL:=aB hlen;clear hB hR hby hlen
 go_enter Tryz.func240,Tryz.ntmps240
 go_wp2_with fail;refine(C1.out).mono ?_
 rintro e w1 ⟨rfl,h1,t1⟩;have L1:=HB.out.touch t1 hx;have L2:=aB (L1.put (k':=k));have f2:=dH.frozen L1 2;have c2:=dH.cell L1 2;simp only[aF,aG,aC] at c2;have R2:Hid (dZ (w1.setCell ⟨x,2,none⟩ (.int .u8 k)) r (lK k t) (3+1)):=aB (by
  obtain⟨v,b1,b2,b3⟩:=h1;exact⟨v,b1.far (fun e=>hx e.symm) _,b2.far (fun e=>(dH.BJ L1 b2 af) e) _,b3⟩)
 have T2:Hid (Touch (fun j=>j=x\/j=r) w (w1.setCell ⟨x,2,none⟩ (.int .u8 k))):=aB ((t1.mono (fun _ h=>.inr h)).setCell (.inl (.inl rfl)) _)
 clear h1 t1 L1
 go_upto_region 1 with fail;obtain⟨w2,hw2⟩:∃q,w1.setCell ⟨x,2,none⟩ (.int .u8 k)=q:=⟨_,rfl⟩;rw[hw2] at L2 R2 T2 |-;clear hw2 f2 c2;have C2:=aB (EG w2 L2.out (Gz w2 R2.out (by have:=EL.out;omega) as6 ae  ae))
 go_wp2_with fail;refine(C2.out).mono ?_
 rintro e w3 ⟨rfl,h3,t3⟩;have L3:=aB (L2.out.touch t3 hx);have C3:=aB (EG w3 L3.out (T_ w3 h3 Gy.out (by have:=EL.out;omega) Zl ae  ae))
 have T3:Hid (Touch (fun j=>j=x\/j=r) w w3):=aB (T2.out.trans t3 (fun _ h=>.inl (.inr h)))
 clear h3 t3 C2
 go_wp2_with fail;refine(C3.out).mono ?_
 rintro e w4 ⟨rfl,h4,t4⟩;have L4:=aB (L3.out.touch t4 hx);have T4:Hid (Touch (fun j=>j=x\/j=r) w w4):=aB (T3.out.trans t4 (fun _ h=>.inl (.inr h)))
 have C4:=aB (Zk (n:=t.length) w4 L4.out h4 (by have:=EL.out;omega) (by have:=EL.out;omega) ht0 hx)
 rw[as7] at C4;clear h4 t4 C3;have hd:decide ((t.length:Int)<=lim)=true:=decide_eq_true hl0
 go_wp2_with fail;refine(lL _).mono ?_
 rintro e w' ⟨rfl,rfl⟩
 go_wp2_with fail;refine(C4.out).mono ?_
 rintro e w5 ⟨u,rfl,o5,_,t5⟩;have l5:=L4.out.touch t5 hx;have L5:=aB l5;have O5:=aB o5;have T5:Hid (Touch (fun j=>j=x\/j=r) w w5):=aB (T4.out.trans t5 (fun _ h=>.inl (.inr h)))
 have f4:=dH.frozen l5 4;have c4:=dH.cell l5 4;simp only[aF,aG,aC] at c4;have hz:=T4.out.size;clear o5 t5 l5;obtain⟨A,c,rfl,_,_,_⟩:=O5.out.form
 go_wp2_with fail;refine bodyPost_ret (results_none rfl _ _ _) rfl ?_
 refine⟨rfl,_,L5.out.text,dI.more (O5.out.far (fun e=>?_) _) hz,T5.out.setCell (.inl (.inl rfl)) _⟩
 have:=(O5.out.lt _ e).1;have h9:x<w4.heap.size:=dH.lt L4.out;have h10:w4.heap.size<=x:=this;omega
open Go.RowKit Go.Lib
theorem Na(b:List Int):(qM b).length=b.length+4:=by unfold qM;rw[aI,uP]
theorem ah0{b:List Int}{j:Nat}(h:j<4)(h':b.length+j<(qM b).length):(qM b)[b.length+j]=Vs b / 2 ^ (8 * j) % 256:=by
 have h1:(qM b)[b.length+j]?=some (Vs b / 2 ^ (8 * j) % 256):=by
  unfold qM;rw[List.getElem?_append_right ae,Nat.add_sub_cancel_left]
  exact Zh _ h
 rw[aY h'] at h1;exact Option.some.inj h1
theorem Zn(g:Nat)(v:Value)(b:List Int)(w:World)(h:Ny 256 w g)(hr:iH .u8 w v (qM b))(hl:b.length<=1000000000) :
 Calls Tryz.prog 237 #[.pointer (some ⟨g,0,none⟩),v] w fun e w'=>e=.returned (.bool true)/\w=w':=by
 have hsl:=Na b;obtain⟨A,c,rfl,hc1,hc2,hf⟩:=hr.form;obtain⟨gb,ob,rfl,hgb,e0⟩:=hf.at_ (j:=b.length+0) (by omega)
 obtain⟨_,_,q1,_,e1⟩:=hf.at_ (j:=b.length+1) (by omega)
 obtain⟨_,_,q2,_,e2⟩:=hf.at_ (j:=b.length+2) (by omega)
 obtain⟨_,_,q3,_,e3⟩:=hf.at_ (j:=b.length+3) (by omega)
 simp only[bC,Addr.mk.injEq,and_true] at q1 q2 q3;obtain⟨rfl,rfl⟩:=q1;obtain⟨rfl,rfl⟩:=q2;obtain⟨rfl,rfl⟩:=q3;rw[ah0 ae] at e0 e1 e2 e3
 have hr2:iH .u8 w (.slice (some ⟨gb,ob,none⟩) b.length b.length) b:=by
  obtain⟨A',c',e,_,_,hf2⟩:=(rM.1 hr).form;injection e with e1 e2 e3;subst e1;have h4:=gz.iO (c:=b.length) (by rw[bg];omega) ae (hf2.take b.length)
  have h5:(qM b).take b.length=b:=by unfold qM;exact List.take_left ..
  rw[h5] at h4;exact rM.2 h4
 have CS:=aB (MS g _ b w h hr2 ae)
 obtain⟨s,hs⟩:∃s,Vs b=s:=⟨_,rfl⟩;rw[hs] at e0 e1 e2 e3 CS;rw[hsl] at hc1 |-;clear hr hr2 h hf hs hsl;simp only[Nat.mul_zero,Nat.mul_one,Int.pow_zero,Int.ediv_one,Nat.add_zero] at e0 e1 e2 e3;have E1:s / 2 ^ 8 % 256=s / 256 % 256:=rfl;have E2:s / 2 ^ (8 * 2) % 256=s / 65536 % 256:=rfl;have E3:s / 2 ^ (8 * 3) % 256=s / 16777216 % 256:=rfl;rw[E1] at e1;rw[E2] at e2;rw[E3] at e3;have w0:IntKind.u8.wrap s=s % 256:=rfl;have w1:IntKind.u8.wrap (s / 256)=s / 256 % 256:=rfl;have w2:IntKind.u8.wrap (s / 65536)=s / 65536 % 256:=rfl;have w3:IntKind.u8.wrap (s / 16777216)=s / 16777216 % 256:=rfl;have hn:IntKind.i64.wrap ((b.length:Int)+4 - 4)=b.length:=ak
 have k1:IntKind.i64.wrap ((b.length:Int)+1)=b.length+1:=ak
 have k2:IntKind.i64.wrap ((b.length:Int)+2)=b.length+2:=ak
 have k3:IntKind.i64.wrap ((b.length:Int)+3)=b.length+3:=ak
 clear E1 E2 E3
 go_enter Tryz.func237,Tryz.ntmps237
 go_upto_region 4 with fail;have hq1:(0:Int)<=(b.length:Int):=ae
 have hq2:(b.length:Int)<=(c:Int):=ae
 go_wp2_with fail;refine(CS.out).mono ?_
 rintro e w' ⟨rfl,rfl⟩;have l0:(b.length:Int)<(b.length:Int)+4:=ae
 have l1:(b.length:Int)+1<(b.length:Int)+4:=ae
 have l2:(b.length:Int)+2<(b.length:Int)+4:=ae
 have l3:(b.length:Int)+3<(b.length:Int)+4:=ae
 have p1:(0:Int)<=(b.length:Int)+1:=ae
 have p2:(0:Int)<=(b.length:Int)+2:=ae
 have p3:(0:Int)<=(b.length:Int)+3:=ae
 have t1:((b.length:Int)+1).toNat=b.length+1:=ae
 have t2:((b.length:Int)+2).toNat=b.length+2:=ae
 have t3:((b.length:Int)+3).toNat=b.length+3:=ae
 go_wp2_with fail
 go_ret;exact⟨rfl,rfl⟩
theorem VD{x r:Nat}{k:Int}{v:Value}{t:List Int}(w:World)(hB:kU w x r 2 k false v)(hv:iH .u8 w v t)(k0:1<=k)(k1:k<=4)(ht:t.length<=1048576) :
 Calls Tryz.prog 242 #[.pointer (some ⟨x,0,none⟩)] w fun e w'=>∃u,e=.returned (.tuple #[u,.int .i64 0])/\dI bE w.heap.size w' u (lK k t)/\Below w.heap.size w w':=by
 have Bd:Below w.heap.size w w.drew:=(aH _ _).drew;have CN:=aB (M_ k v t w.drew (hv.keep Bd) k0 k1 ht);have lx:=dH.lt hB;have c1:=dH.cell hB 1;have c2:=dH.cell hB 2;have c3:=dH.cell hB 3;have c4:=dH.cell hB 4;simp only[aF,aG,aC] at c1 c2 c3 c4;obtain⟨A,c,rfl,_,_,_⟩:=hv.form;have C2:=aB c2;have C3:=aB c3;have C4:=aB c4;clear hB hv c2 c3 c4
 go_enter Tryz.func242,Tryz.ntmps242
 go_upto_region 3 with fail;have lS:=aB (fun w' (hS':(Below w.heap.size w) w')=>(aN ((hS'.cell (p:=⟨x,2,none⟩) lx).trans C2.out) (aN ((hS'.cell (p:=⟨x,3,none⟩) lx).trans C3.out) ((hS'.cell (p:=⟨x,4,none⟩) lx).trans C4.out))))
 refine dD (Below w.heap.size w) [(0,true),(1,true),(2,true),(3,true),(4,true),(5,true),(6,true),(7,true),(8,true),(9,true),(10,true),(11,true),(12,false),(13,true),(14,true),(15,true),(16,true)] (by kernel_rfl) (by kernel_rfl) (Bd) ?_
 iterate 12
  refine dC ax  ax (fun R hR=>?_)
  apply aJ
  refine⟨fun w' hS'=>?_,?_⟩
  ·obtain⟨c2,c3,c4⟩:=lS.out w' hS'
   go_simp;exact⟨rfl,rfl⟩
  go_simp;refine hR _ ?_;clear hR R
 refine dE ax  ax (fun K hK=>?_)
 go_simp;refine(CN.out).mono ?_
 rintro e w1 ⟨u,rfl,o1,hb1⟩;have O1:=aB o1;have hb2:Below w.heap.size w w1:=Bd.trans hb1;clear o1;refine hK _ _ (hb2) ?_
 clear hK K
 iterate 4
  refine dC ax  ax (fun R hR=>?_)
  apply aJ
  refine⟨fun w' hS'=>?_,?_⟩
  ·obtain⟨c2,c3,c4⟩:=lS.out w' hS'
   go_simp;exact⟨rfl,rfl⟩
  go_simp;refine hR _ ?_;clear hR R
 refine dF ?_
 go_wp2_with fail
 go_ret2
 exact⟨_,rfl,O1.out,hb2⟩
theorem Je(h2 h3:Nat)(w:World) :
 CallsD Tryz.prog 234 #[.pointer (some ⟨h2,0,none⟩),.pointer (some ⟨h3,0,none⟩)] .returning w fun e u' w'=>e=.returned (.tuple #[])/\u'=.returning/\w'=w:=by
 refine callsD_of_wpS Tryz.func234 rfl fun c₀ cs hu=>?_
 apply wpS_seq
 apply wpS_region
 simp[wpOpsS,go_sem,recoverD,hu,Tryz.ntmps234,Exit.thenS]
 refine wpS_of_wp ?_
 go_wp2
 cases c₀
 simp_all[bodyPostS,results,Tryz.results234]
theorem Qn(h2 h3:Nat)(w:World)(R:Ending->World->Prop)(tmps:Array Value)(t2:tmps[4]?=some (.pointer (some ⟨h2,0,none⟩)))(t3:tmps[5]?=some (.pointer (some ⟨h3,0,none⟩)))
 (x2:Value) (c2:w.cell? ⟨h2,0,none⟩=some x2) (c3:w.cell? ⟨h3,0,none⟩=some (.int .i64 0)) (hR:R (.returned (.tuple #[x2,.int .i64 0])) w) :
 Leaves Tryz.prog Tryz.f143 tmps R [{target:=.fn (.func 234) #[.pointer (some ⟨h2,0,none⟩),.pointer (some ⟨h3,0,none⟩)],args:=#[]}] .returning w:=by
 refine leaves_cons (f:=234) (args:=#[.pointer (some ⟨h2,0,none⟩),.pointer (some ⟨h3,0,none⟩)]) ag (by simp[go_sem]) ?_
 refine(Je h2 h3 w).mono ?_
 rintro e u' w'' ⟨rfl,rfl,rfl⟩;refine⟨.tuple #[x2,.int .i64 0],?_,hR⟩
 simp[results,Tryz.results143,go_sem,t2,t3,c2,c3]
theorem dZ.apart{w:World}{g a:Nat}{bs:List Int}{p:Addr}{T:TypeId}{cs:Array Value}(h:dZ w g bs a)(hp:g≠p.block)(hB:dH w p.block T cs)(hT:T≠5)(u:Value):dZ (w.setCell p u) g bs a:=by
 obtain⟨v,b1,b2,b3⟩:=h;exact⟨v,b1.far hp _,OwnB.far b2 (fun e=>(dH.BJ hB b2 hT) e) _,b3⟩
theorem VE(k lim:Int)(v:Value)(t:List Int)(w:World)(hv:iH .u8 w v (lK k t))(hby:qQ (lK k t))(hk0:1<=k)(hk1:k<=4)(ht0:0<t.length)(ht1:t.length<=1000000)(hl0:(t.length:Int)<=lim)(hl1:lim<=1048576) :
 Calls Tryz.prog 143 #[v,.int .i64 lim] w fun e w'=>∃x r u,e=.returned (.tuple #[.pointer (some ⟨x,0,none⟩),.int .i64 0])/\kU w' x r 2 k false u/\dI bE w.heap.size w' u t/\Below w.heap.size w w':=by
 have hlen:=RY k t;have hlb:=dM (t.length:Int);have HV:=aB hv;have Gy:=aB hby;have EL:=aB hlen;obtain⟨A,c,rfl,_,_,_⟩:=hv.form;clear hv hby hlen
 go_enter_defers Tryz.func143,Tryz.ntmps143
 go_upto_region 2 with fail;obtain⟨w1,hw1⟩:∃w1,w1=(w.alloc (.cells #[.pointer none] 211)).alloc (.cells #[.int .i64 0] 25):=⟨_,rfl⟩;have hb1:Below w.heap.size w w1:=by rw[hw1];exact((aH _ _).alloc (aK _) _).alloc ag _
 have B2:Hid (dH w1 w.heap.size 211 #[.pointer none]):=by show dH _ _ _ _;rw[hw1];exact(dH.new _ _ _).alloc _
 have B3:Hid (dH w1 (w.heap.size+1) 25 #[.int .i64 0]):=by
  show dH _ _ _ _;rw[hw1];have h:=dH.new (w.alloc (.cells #[.pointer none] 211)) 25 #[.int .i64 0]
  rwa [aO] at h
 obtain⟨h2,hh2⟩:∃h2,w.heap.size=h2:=⟨_,rfl⟩;have HH2:=aB hh2;rw[<-hw1];rw[hh2] at B2 B3 |-;clear hw1 hh2;have hlim:(0:Int)<=lim:=ae
 go_wp2_with fail;refine(MV w1).mono ?_
 rintro e w2 ⟨g,rfl,hc,_,hb2⟩;have Hb2:=aB (hb1.trans (hb2.mono hb1.size));have CF:=aB (Zn g _ (EE k t) w2 hc (HV.out.keep Hb2.out) (by have:=Na (EE k t);have:(lK k t).length=_:=this;have:=EL.out;omega))
 have D2:=aB (B2.out.keep hb2);have D3:=aB (B3.out.keep hb2);clear hc hb1 hb2 B2 B3
 go_wp2_with fail;refine(CF.out).mono ?_
 rintro e w' ⟨rfl,rfl⟩
 go_wp2_with fail;refine(lL _).mono ?_
 rintro e w' ⟨rfl,rfl⟩;have hmin:min lim 1048576=lim:=ae
 have CW:=aB (JK _ _ w2 (HV.out.keep Hb2.out) (by have:=EL.out;omega))
 go_wp2_with fail;refine(CW.out).mono ?_
 rintro e w3 ⟨r,rfl,hr2,hR3,hb3⟩;have Hb3:=aB (Hb2.out.trans (hb3.mono Hb2.out.size));have d3:=D3.out.lt;have E2:=aB (D2.out.keep hb3);have E3:=aB (D3.out.keep hb3);have HR3:=aB hR3;have lr:=hR3.lt;have l2:=E2.out.lt;have l3:=E3.out.lt;have lz:=Hb3.out.size;have lz2:=Hb2.out.size;have hh:=HH2.out;clear hR3 hb3 D2 D3 CW;obtain⟨x,hx⟩:∃x,w3.heap.size=x:=⟨_,rfl⟩;obtain⟨w4,hw4⟩:∃q,w3.alloc (.cells #[.pointer (some ⟨r,0,none⟩),.int .i64 0,.int .u8 0,.bool false,.slice none 0 0] 216)=q:=⟨_,rfl⟩;have hb4:Below w3.heap.size w3 w4:=by rw[<-hw4];exact bw
 have mG:w4.heap.size=x+1:=by rw[<-hw4,<-hx,aO]
 have L4:kU w4 x r 0 0 false (.slice none 0 0):=by rw[<-hw4,<-hx];exact dH.new _ _ _
 have F2:=E2.out.keep hb4;have F3:=aB (E3.out.keep hb4);have HR4:=aB (HR3.out.keep hb4);have f0:=F2.frozen 0;have c0:=F2.cell 0;simp only[aF,aC] at c0;have Hb4:=aB (Hb3.out.trans (hb4.mono Hb3.out.size));have HX:=aB hx;have HL4:=aB L4;have HF2:=aB F2;clear hb4 L4 F2 E2 E3 HR3
 go_upto_region 5 with fail;obtain⟨w5,hw5⟩:∃q,w4.setCell ⟨h2,0,none⟩ (.pointer (some ⟨x,0,none⟩))=q:=⟨_,rfl⟩;have G2:Hid (dH w5 h2 211 #[.pointer (some ⟨x,0,none⟩)]):=aB (by rw[<-hw5];exact HF2.out.dP 0 _)
 have G3:Hid (dH w5 (h2+1) 25 #[.int .i64 0]):=aB (by rw[<-hw5];exact F3.out.far (by show h2+1≠h2;omega) _)
 have L5:Hid (kU w5 x r 0 0 false (.slice none 0 0)):=aB (by rw[<-hw5];exact dH.far HL4.out (by show x≠h2;omega) _)
 have R5:Hid (dZ w5 r (lK k t) 0):=aB (by rw[<-hw5];exact dZ.apart HR4.out (by show r≠h2;omega) HF2.out af _)
 have Hb5:Hid (Below w.heap.size w w5):=aB (by rw[<-hw5];exact Hb4.out.setCell (by show _<=h2;omega) _)
 have JO:w5.heap.size=x+1:=by rw[<-hw5,bZ];exact mG
 rw[hw5];clear hw5 hw4 f0 c0 HF2 F3 HL4 HR4 Hb4
 go_upto_region 6 with fail;obtain⟨w6,hw6⟩:∃q,w5.alloc (.cells #[.func (.func 239) #[] #[],.func (.func 240) #[] #[]] 324)=q:=⟨_,rfl⟩;have Y6:Hid (dH w6 (x+1) 324 #[.func (.func 239) #[] #[],.func (.func 240) #[] #[]]):=aB (by rw[<-hw6,<-JO];exact dH.new _ _ _)
 have hb6:Below w5.heap.size w5 w6:=by rw[<-hw6];exact bw
 have Ns:w6.heap.size=x+2:=by rw[<-hw6,aO,JO]
 have g2:=G2.out.keep hb6;have G26:=aB g2;have G36:=aB (G3.out.keep hb6);have l6:=dH.keep L5.out hb6;have L6:Hid (kU w6 x r 0 0 false (.slice none 0 0)):=aB l6;have R6:=aB (R5.out.keep hb6);have Hb6:=aB (Hb5.out.trans (hb6.mono Hb5.out.size));have c0:=g2.cell 0;have x0:=l6.cell 0;simp only[aF,aC] at c0 x0;have CT:=aB (Hr (n:=3) w6 R6.out (by have:=EL.out;omega) (by have:=EL.out;omega) ae)
 have e3:((lK k t).drop 0).take 3=[81,83,2]:=by rw[uf];rfl
 rw[e3] at CT;try rw[hw6]
 clear hw6 hb6 g2 l6 G2 G3 L5 R5 Hb5 e3
 go_wp2_with fail;refine(CT.out).mono ?_
 rintro e w7 ⟨u7,rfl,o7,R7,t7⟩;have T7:=aB t7;have HR7:=aB R7;have hxr:x≠r:=by have:=HX.out;omega
 have L7:=aB (L6.out.touch t7 hxr);have G27:Hid (dH w7 h2 211 #[.pointer (some ⟨x,0,none⟩)]):=aB ((t7.block h2 G26.out.lt (by show h2≠r;omega)).trans G26.out)
 have G37:Hid (dH w7 (h2+1) 25 #[.int .i64 0]):=aB ((t7.block (h2+1) G36.out.lt (by show h2+1≠r;omega)).trans G36.out)
 have Y7:Hid (dH w7 (x+1) 324 #[.func (.func 239) #[] #[],.func (.func 240) #[] #[]]):=aB ((t7.block (x+1) Y6.out.lt (by show x+1≠r;have:=HX.out;omega)).trans Y6.out)
 have Hb7:Hid (Below w.heap.size w w7):=aB (Hb6.out.trans (t7.below (fun j hj=>by rw[show j=r from hj];omega) Hb6.out.size))
 obtain⟨g7,c7,rfl,_,hg7,_,_⟩:=o7.pos ag
 have k0:w7.cell? ⟨g7,0,none⟩=some (.int .u8 81):=o7.cellAt (j:=0) (by simp) 0 af
 have k1:w7.cell? ⟨g7,1,none⟩=some (.int .u8 83):=o7.cellAt (j:=1) (by simp) 0 af
 have k2:w7.cell? ⟨g7,2,none⟩=some (.int .u8 2):=o7.cellAt (j:=2) (by simp) 0 af
 have K2:=aB k2;clear t7 R7 o7 c0 x0
 go_wp2_with fail;refine(lL _).mono ?_
 rintro e w' ⟨rfl,rfl⟩
 go_upto_region 8 with fail;have c0:Hid (w7.cell? ⟨h2,0,none⟩=some (.pointer (some ⟨x,0,none⟩))):=aB (G27.out.cell 0);refine dJ (fun w'=>w'=w7.drew) 7 [(0,true),(1,true),(2,true),(3,true),(4,true),(5,true),(6,true)] (by kernel_rfl) (by kernel_rfl) (rfl) ?_
 iterate 7
  refine dK ax  ax (fun R hR=>?_)
  apply aJ
  refine⟨fun w' hS'=>?_,?_⟩
  ·subst hS'
   have c0':w7.drew.cell? ⟨h2,0,none⟩=_:=c0.out;have k2':w7.drew.cell? ⟨g7,2,none⟩=_:=K2.out
   go_simp;exact⟨rfl,rfl⟩
  go_simp;refine hR _ ?_;clear hR R
 refine dQ ?_
 simp only[bD,bQ];have v1:w7.drew.frozen? ⟨x,1,none⟩=false:=dH.frozen L7.out 1;have v2:w7.drew.cell? ⟨x,1,none⟩=some (.int .i64 0):=dH.cell L7.out 1
 go_wp2_with fail;refine dO ?_
 clear v1 v2 k0 k1 k2;have L8:Hid (kU (w7.setCell ⟨x,1,none⟩ (.int .i64 2)).drew x r 2 0 false (.slice none 0 0)):=aB L7.out.bk4;have R8:Hid (dZ (w7.setCell ⟨x,1,none⟩ (.int .i64 2)).drew r (lK k t) (0+3)):=aB (dZ.apart (p:=⟨x,1,none⟩) HR7.out (fun e=>hxr e.symm) L7.out af _)
 have hx2:h2≠x:=by have:=HX.out;omega
 have hx3:h2+1≠x:=by have:=HX.out;omega
 have G28:Hid (dH (w7.setCell ⟨x,1,none⟩ (.int .i64 2)).drew h2 211 #[.pointer (some ⟨x,0,none⟩)]):=aB (G27.out.far (p:=⟨x,1,none⟩) hx2 _);have G38:Hid (dH (w7.setCell ⟨x,1,none⟩ (.int .i64 2)).drew (h2+1) 25 #[.int .i64 0]):=aB (G37.out.far (p:=⟨x,1,none⟩) hx3 _);have Y8:Hid (dH (w7.setCell ⟨x,1,none⟩ (.int .i64 2)).drew (x+1) 324 #[.func (.func 239) #[] #[],.func (.func 240) #[] #[]]):=aB (Y7.out.far (p:=⟨x,1,none⟩) (by show x+1≠x;omega) _)
 have Hb8:Hid (Below w.heap.size w (w7.setCell ⟨x,1,none⟩ (.int .i64 2)).drew):=aB (Hb7.out.setCell (by show _<=x;have:=HX.out;omega) _).drew
 obtain⟨w8,hw8⟩:∃q,(w7.setCell ⟨x,1,none⟩ (.int .i64 2)).drew=q:=⟨_,rfl⟩;rw[hw8] at L8 R8 G28 G38 Y8 Hb8;try rw[hw8]
 have lx8:=dH.lt L8.out;have d0:Hid (w8.cell? ⟨h2,0,none⟩=some (.pointer (some ⟨x,0,none⟩))):=aB (G28.out.cell 0);have d1:Hid (w8.cell? ⟨x,1,none⟩=some (.int .i64 2)):=aB (dH.cell L8.out 1);have d2:Hid (w8.cell? ⟨x+1,1,none⟩=some (.func (.func 240) #[] #[])):=aB (Y8.out.cell 1);have Bd8:Below w8.heap.size w8 w8.drew:=(aH _ _).drew;have CN:=aB (Zm w8.drew (L8.out.drew) (R8.out.keep Bd8) Gy.out hxr ae  ae ht0 ht1 hl0 hl1)
 clear hw8 L7 G27 G37 Y7 HR7 T7 K2 c0;have eg:=enters_of Tryz.func240 (by kernel_rfl) rfl
 go_upto_region 9 with fail;refine dJ (fun w'=>w'=w8.drew) 9 [(0,true),(1,true),(2,true),(3,true),(4,true),(5,true),(6,true),(7,true),(8,true)] (by kernel_rfl) (by kernel_rfl) (rfl) ?_
 iterate 9
  refine dK ax  ax (fun R hR=>?_)
  apply aJ
  refine⟨fun w' hS'=>?_,?_⟩
  ·subst hS'
   have d0':w8.drew.cell? ⟨h2,0,none⟩=_:=d0.out;have d1':w8.drew.cell? ⟨x,1,none⟩=_:=d1.out;have d2':w8.drew.cell? ⟨x+1,1,none⟩=_:=d2.out;have e1:IntKind.i64.wrap 1=1:=rfl
   go_simp;exact⟨rfl,rfl⟩
  go_simp;refine hR _ ?_;clear hR R
 refine dQ ?_
 simp only[bD,bQ]
 go_wp2_with fail;refine(CN.out).mono ?_
 rintro e w9 ⟨rfl,u,l9,o9,t9⟩;have T9:Hid (Touch (fun j=>j=x\/j=r) w8 w9):=aB (((Touch.refl _ w8).drew).trans t9 (fun _ h=>.inl h))
 have L9:=aB l9;have O9:=aB o9;have hnx:¬(h2=x\/h2=r):=by have:=HX.out;omega
 have hnx3:¬(h2+1=x\/h2+1=r):=by have:=HX.out;omega
 have g9:=(T9.out.block h2 G28.out.lt hnx).trans G28.out;have G29:Hid (dH w9 h2 211 #[.pointer (some ⟨x,0,none⟩)]):=aB g9;have G39:Hid (dH w9 (h2+1) 25 #[.int .i64 0]):=aB ((T9.out.block (h2+1) G38.out.lt hnx3).trans G38.out);have Hb9:Hid (Below w.heap.size w w9):=aB (Hb8.out.trans (T9.out.below (fun j hj=>by have:=HX.out;omega) Hb8.out.size))
 have CA:=aB (VD w9 l9 (rM.2 o9.rd) hk0 hk1 ae)
 have c0:w9.cell? ⟨h2,0,none⟩=some (.pointer (some ⟨x,0,none⟩)):=dH.cell g9 0;clear l9 o9 t9 CN g9 L8 R8 G28 G38 Y8 d0 d1 d2
 go_wp2_with fail;refine dO ?_
 go_wp2_with fail;refine(CA.out).mono ?_
 rintro e w10 ⟨u10,rfl,o10,Fv⟩;have as8:=aB (Hb9.out.trans (Fv.mono Hb9.out.size));have L10:Hid (kU w10 x r 2 k false u):=aB (dH.keep L9.out Fv);have O10:=aB (O9.out.keep Fv);have g10:=G29.out.keep Fv;have bk5:=G39.out.keep Fv;have bb8:=aB bk5;have bb9:=aB g10;have CE:=aB (yL u10 _ _ _ w10 (rM.2 o10.rd) (HV.out.keep as8.out) (by have:=EL.out;omega) (by have:=EL.out;omega))
 have hz8:=Hb8.out.size;have Xa:=T9.out.size;have bk6:∃A c,u10=.slice A (lK k t).length c:=by obtain⟨A',c',e,_⟩:=o10.form;exact⟨_,_,e⟩
 clear o10 Fv CA c0 G29 G39 L9 O9;obtain⟨A10,c10,rfl⟩:=bk6
 go_wp2_with fail;refine(CE.out).mono ?_
 rintro e w11 ⟨rfl,Fz⟩;have bk7:=aB (as8.out.trans (Fz.mono as8.out.size));have L11:Hid (kU w11 x r 2 k false u):=aB (dH.keep L10.out Fz);have O11:=aB (O10.out.keep Fz);have V2:=bb9.out.keep Fz;have V3:=bb8.out.keep Fz;have HV2:=aB V2;have HV3:=aB V3;have a0:=V2.cell 0;have a1:=V2.frozen 0;have b0:=V3.cell 0;have b1:=V3.frozen 0;simp only[aF,aC] at a0 b0;clear Fz V2 V3 CE bb9 bb8 L10 O10
 go_wp2_with fail;refine(lL _).mono ?_
 rintro e w' ⟨rfl,rfl⟩
 go_wp2_with fail;refine(show Leaves Tryz.prog Tryz.f143 _ _ _ .returning _ from ?_)
 have hne:h2≠h2+1:=ae
 have hO:∀q,u.ownBlock=some q->w8.heap.size<=q:=fun q e=>(O11.out.lt q e).1
 have hl8:h2+1<w8.heap.size:=by have:=HX.out;omega
 obtain⟨w15,VF⟩:∃z,(w11.setCell ⟨h2,0,none⟩ (.pointer (some ⟨x,0,none⟩))).setCell ⟨h2+1,0,none⟩ (.int .i64 0)=z:=⟨_,rfl⟩;have V2:dH w15 h2 211 #[.pointer (some ⟨x,0,none⟩)]:=by rw[<-VF];exact(HV2.out.dP 0 _).far hne _
 have V3:dH w15 (h2+1) 25 #[.int .i64 0]:=by rw[<-VF];exact(HV3.out.far (p:=⟨h2,0,none⟩) ag _).dP 0 _
 have L15:kU w15 x r 2 k false u:=by rw[<-VF];exact(dH.far L11.out (p:=⟨h2,0,none⟩) (by show x≠h2;have:=HX.out;omega) _).far (by show x≠h2+1;have:=HX.out;omega) _
 have O15:dI bE w8.heap.size w15 u t:=by rw[<-VF];exact(O11.out.far (p:=⟨h2,0,none⟩) (fun e=>by have:=hO _ e;have h:w8.heap.size<=h2:=this;omega) _).far (fun e=>by have:=hO _ e;have h:w8.heap.size<=h2+1:=this;omega) _
 have bk8:Below w.heap.size w w15:=by rw[<-VF];exact(bk7.out.setCell (by show _<=h2;omega) _).setCell (by show _<=h2+1;omega) _
 rw[VF];exact Qn h2 (h2+1) _ _ _ rfl rfl _ (V2.cell 0) (V3.cell 0) ⟨x,r,u,rfl,L15,dI.more O15 hz8,bk8⟩
end Go.Proofs.YtkiebccnpheloaaGreat.D
