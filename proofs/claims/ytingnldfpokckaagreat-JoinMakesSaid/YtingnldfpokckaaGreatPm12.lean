/- Parts of a proof: what its theorem reaches, words cut short. No condition of its own. -/
import Derived.Test.YtingnldfpokckaaGreatPm10
import Derived.Test.YtingnldfpokckaaGreatPm11
set_option maxRecDepth 100000
set_option maxHeartbeats 16000000
set_option linter.unusedVariables false
set_option linter.unusedSimpArgs false
namespace Go.Proofs.YtingnldfpokckaaGreat
section
open Go.RowKit Go.Lib
theorem put_any(k K:Nat)(c:UInt8)(n:Int)(out:List Int)(v:Value)(w:World)(h:VZ k (c.toNat:Int))(hr:RdI .u64 w v [n])(_n0:0<=n)(_n1:n<18446744073709551616)(hK:fPut k=K)
 (eg:∀args w,(callFunc K args).run Tryz.prog w=.ok (.enter K args) w)
 (hf:∀(g base:Nat) (w:World),Wr 291 base w g []->Calls Tryz.prog K #[.pointer (some ⟨g,0,none⟩),.int .u64 n,.int .i64 0] w fun e w'=>e=.returned (.tuple #[])/\Wr 291 base w' g out/\Below base w w') :
 Calls Tryz.prog 113 #[.string ⟨#[c]⟩,v] w fun e w'=>∃v,e=.returned (.tuple #[v,.int .i64 0])/\OwnB w.heap.size w' v out/\Below w.heap.size w w':=by
 obtain⟨A,cn,rfl,hn,hc,hp⟩:=hr.form
 obtain⟨gn,on,rfl,hgn,hcn⟩:=hp.at_ (j:=0) (by simp)
 simp only[List.length_singleton,List.getElem_cons_zero,Nat.add_zero] at hn hcn |-
 have CN:=Lib.hid hcn
 have H:=Lib.hid h
 have HF:=Lib.hid hf
 clear hr hp hcn h hf
 have FO:Hid (∀w,Calls Tryz.prog 200 #[.int .u8 (c.toNat:Int)] w fun e w'=>e=.returned (.tuple #[.agg #[.int .u8 (c.toNat:Int),.int .i64 0,.func (.func K) #[] #[],.func (.func (fGet k)) #[] #[]],.bool true])/\Below w.heap.size w w'):=fun w=>by
  rw[<-hK];exact formOf_any k (c.toNat:Int) w H.out
 clear hK
 go_enter Tryz.func113,Tryz.ntmps113
 go_wp2_with fail
 refine(wright_any k c w H.out).mono ?_
 rintro e w1 ⟨rfl,hb1⟩
 have hz1:=hb1.size
 go_wp2_with fail
 obtain⟨g,hg⟩:∃g,w1.heap.size=g:=⟨_,rfl⟩
 have W0:=Lib.hid (Wr.new 291 w1 w.heap.size hz1)
 have hb2:Below w.heap.size w (w1.alloc (.cells #[.slice none 0 0] 291)):=by(repeat' (first|(with_reducible exact Below.refl _ _)|(with_reducible refine Below.alloc ?_ ?_ _)|(with_reducible refine Below.drew ?_)|(with_reducible refine below_drewN ?_ _)|(with_reducible refine Below.setCell ?_ ?_ _)|(with_reducible refine below_of (by assumption) ?_ ?_)|go_size))
 rw[hg] at W0 |-
 generalize w1.alloc (.cells #[.slice none 0 0] 291)=w2 at *
 clear hg
 go_loopg [25] 1 (fun q i wr=>∃j:Nat,q=1 - j/\j<=1/\i=.int .i64 j/\Hid (Wr 291 w.heap.size wr g (if j=0 then [] else out))/\Below w.heap.size w wr)
 case atStart=>exact⟨0,rfl,by omega,rfl,W0,hb2⟩
 case round=>
  obtain⟨j,hq,hj,rfl,hw,hb⟩:=hrel
  have HQ:=Lib.hid hq
  have hz:=hb.size
  clear hq
  by_cases hlt:j<1
  ·obtain rfl:j=0:=by omega
   have cn':=(hb.cell (p:=⟨gn,on,none⟩) hgn).trans CN.out
   go_wp2_with (first
    | (go_at_call 200;refine(FO.out _).mono ?_;rintro e w3 ⟨rfl,hb3⟩;have hz3:=hb3.size)
    | (go_at_fn K;refine((HF.out g w.heap.size _ ((hw.out.keep hb3).keep ((Below.refl _ _).alloc (Nat.le_refl _) _))).mono ?_);rintro e w4 ⟨rfl,k1,k2⟩;have hz4:=k2.size;have K1:=Lib.hid k1;clear k1))
   go_roundg 0
   case measure=>have:=HQ.out;omega
   case rel=>exact⟨1,rfl,by omega,by go_num,K1,by(repeat' (first|(with_reducible exact Below.refl _ _)|(with_reducible refine Below.alloc ?_ ?_ _)|(with_reducible refine Below.drew ?_)|(with_reducible refine below_drewN ?_ _)|(with_reducible refine Below.setCell ?_ ?_ _)|(with_reducible refine below_of (by assumption) ?_ ?_)|go_size))⟩
  ·have hj1:j=1:=by omega
   subst hj1
   obtain⟨hbg,v,hB,hO⟩:=hw.out
   have c0:=hB.cell 0
   simp only[List.getElem?_toArray,List.getElem?_cons_zero] at c0
   rw[if_neg (by omega)] at hO
   have HO:=Lib.hid hO
   clear hB hO
   go_wp2_with fail
   go_ret2
   exact⟨v,rfl,HO.out,hb⟩
end
section
open Go.RowKit Go.Lib
def WrF(w:World)(g:Nat)(F:Nat->Prop)(bs:List Int):Prop:=
 ∃v,Blk w g 187 #[v]/\OwnB 0 w v bs/\F g/\(∀k,v.ownBlock=some k->F k)/\(∀k,F k->k<w.heap.size)
theorem WrF.low{w:World}{g:Nat}{F:Nat->Prop}{bs:List Int}(h:WrF w g F bs):∀k,F k->k<w.heap.size:=by
 obtain⟨_,_,_,_,_,h5⟩:=h;exact h5
theorem WrF.stay{w w':World}{g:Nat}{F:Nat->Prop}{bs:List Int}(h:WrF w g F bs)(hk:∀k,F k->w'.heap[k]?=w.heap[k]?)(hz:w.heap.size<=w'.heap.size):WrF w' g F bs:=by
 obtain⟨v,h1,h2,h3,h4,h5⟩:=h
 exact⟨v,(hk g h3).trans h1,OwnI.stay h2 (fun k e=>hk k (h4 k e)),h3,h4,fun k hf=>Nat.lt_of_lt_of_le (h5 k hf) hz⟩
theorem WrF.keep{w w':World}{g:Nat}{F:Nat->Prop}{bs:List Int}(h:WrF w g F bs)(hb:Below w.heap.size w w'):WrF w' g F bs:=
 h.stay (fun k hk=>hb.block k (h.low k hk)) hb.size
theorem WrF.new(w:World):WrF (w.alloc (.cells #[.slice none 0 0] 187)) w.heap.size (fun k=>k=w.heap.size) []:=
 ⟨_,Blk.new _ _ _,OwnI.nil_ _ _ _ _,rfl,fun k e=>by simp[Value.ownBlock] at e,fun k e=>by subst e;simp⟩
def WrGo(w:World)(g:Nat)(F:Nat->Prop)(bs:List Int)(w':World):Prop:=
 ∃F':Nat->Prop,(∀k,F' k->F k\/w.heap.size<=k)/\WrF w' g F' bs/\Touch F w w'
theorem WrGo.trans{w w1 w2:World}{g:Nat}{F F1:Nat->Prop}{bs:List Int}(h1:∀k,F1 k->F k\/w.heap.size<=k)(t1:Touch F w w1)(h:WrGo w1 g F1 bs w2):WrGo w g F bs w2:=by
 obtain⟨F',h2,h3,h4⟩:=h
 refine⟨F',fun k hk=>?_,h3,t1.trans h4 (fun i hi=>h1 i hi)⟩
 rcases h2 k hk with h|h
 ·exact h1 k h
 ·exact .inr (Nat.le_trans t1.size h)
theorem WrGo.first{w w1 w2:World}{g:Nat}{F:Nat->Prop}{bs:List Int}(hb:Below w.heap.size w w1)(h:WrGo w1 g F bs w2):WrGo w g F bs w2:=
 WrGo.trans (fun _ hk=>.inl hk) (Touch.of_below hb (Nat.le_refl _)) h
theorem WrGo.put{w w':World}{g:Nat}{F:Nat->Prop}{v v':Value}{bs bs':List Int}(h:Blk w g 187 #[v])(ho:OwnB 0 w v bs)(h3:F g)(h4:∀k,v.ownBlock=some k->F k)(h5:∀k,F k->k<w.heap.size)
 (ho':OwnB 0 w' v' bs') (hg:w.grownBy w' v.ownBlock) (ha:v'.ownBlock=v.ownBlock\/v'.ownBlock=some w.heap.size):WrGo w g F bs' (w'.setCell ⟨g,0,none⟩ v'):=by
 have h1:Blk w' g 187 #[v]:=(hg.block g h.lt (fun e=>h.notB ho (by decide) e.symm)).trans h
 have hz:=hg.size
 refine⟨fun k=>F k\/v'.ownBlock=some k,?_,⟨v',h1.set_ 0 v',ho'.far (fun e=>h1.notB ho' (by decide) e) _,.inl h3,fun k e=>.inr e,?_⟩,?_⟩
 ·rintro k (hk|hk)
  ·exact .inl hk
  ·rcases ha with ha|ha
   ·exact .inl (h4 k (by rw[<-ha];exact hk))
   ·rw[ha] at hk;simp only[Option.some.injEq] at hk;exact .inr (by omega)
 ·rintro k (hk|hk)
  ·have:=h5 k hk;simp only[World.size_setCell];omega
  ·have:=(OwnI.lt ho' k hk).2;simpa using this
 ·exact((Touch.refl F w).grown hg (fun k e=>.inl (h4 k e))).setCell (.inl h3) _
theorem tnum_any(c:UInt8)(m:Int)(out:List Int)(g:Nat)(F:Nat->Prop)(bs:List Int)(w:World)(h:WrF w g F bs)(hl:bs.length+out.length<=1000000000000)
 (hp:∀(v:Value) (w:World),RdI .u64 w v [m]->Calls Tryz.prog 113 #[.string ⟨#[c]⟩,v] w fun e w'=>∃v,e=.returned (.tuple #[v,.int .i64 0])/\OwnB w.heap.size w' v out/\Below w.heap.size w w') :
 Calls Tryz.prog 119 #[.pointer (some ⟨g,0,none⟩),.string ⟨#[c]⟩,.int .u64 m] w fun e w'=>e=.returned (.tuple #[])/\WrGo w g F (bs++out) w':=by
 have H:=Lib.hid h
 have HP:=Lib.hid hp
 clear h hp
 go_enter Tryz.func119,Tryz.ntmps119
 go_wp2_with fail
 refine(HP.out _ _ (RdI.one_at _ _ _ _ _ rfl)).mono ?_
 rintro e w1 ⟨v1,rfl,o1,hb1⟩
 have O1:=Lib.hid o1
 have hb0:Below w.heap.size w w1:=((Below.refl _ _).alloc (Nat.le_refl _) _).trans (hb1.mono (by simp))
 have hz1:=hb0.size
 obtain⟨v,h1,h2,h3,h4,h5⟩:=H.out.keep hb0
 have H1:=Lib.hid h1
 have H2:=Lib.hid h2
 have H3:=Lib.hid h3
 have H4:=Lib.hid h4
 have H5:=Lib.hid h5
 have c0:=h1.cell 0
 simp only[List.getElem?_toArray,List.getElem?_cons_zero] at c0
 clear o1 h1 h2 h3 h4 h5
 go_wp2_with (first
  | (at_builtin
     go_must (refine append_B rfl (.tmp 19) (.tmp 20) rfl 0 v bs rfl H2.out v1 out rfl (OwnI.rd O1.out) (by omega) (Nat.zero_le _) ?_)
     intro v2 w2 o2 g2 a2
     obtain⟨A2,k2,hv2,_,_,_⟩:=(OwnI.rd o2).form
     generalize (bs++out).length=N at hv2
     subst hv2
     have W2:=Lib.hid (WrGo.put H1.out H2.out H3.out H4.out H5.out o2 g2 a2)
     have B2:Blk w2 g 187 #[v]:=(g2.block g H1.out.lt (fun e=>H1.out.notB H2.out (by decide) e.symm)).trans H1.out
     have c1:=B2.cell 0
     have f1:=B2.frozen 0
     simp only[List.getElem?_toArray,List.getElem?_cons_zero] at c1
     clear o2 g2 a2 B2))
 refine bodyPost_end (v:=.tuple #[]) (by simp[results,Tryz.results119,go_sem, *];try rfl) rfl ?_
 exact⟨rfl,WrGo.first hb0 W2.out⟩
theorem tnumv_any(n:Int)(g:Nat)(F:Nat->Prop)(bs:List Int)(w:World)(h:WrF w g F bs)(hl:bs.length<=900000000000)(n0:0<=n)(n1:n<18446744073709551616) :
 Calls Tryz.prog 119 #[.pointer (some ⟨g,0,none⟩),.string ⟨#[118]⟩,.int .u64 n] w fun e w'=>e=.returned (.tuple #[])/\WrGo w g F (bs++leb n) w':=
 tnum_any 118 n (leb n) g F bs w h (by have:=leb_len n;omega) (fun v w hr=>putv_any n v w hr n0 n1)
theorem tnumz_any(x m:Int)(g:Nat)(F:Nat->Prop)(bs:List Int)(w:World)(h:WrF w g F bs)(hl:bs.length<=900000000000)(hm:m=ub x)(h0:-9223372036854775808<=x)(h1:x<=9223372036854775807) :
 Calls Tryz.prog 119 #[.pointer (some ⟨g,0,none⟩),.string ⟨#[122]⟩,.int .u64 m] w fun e w'=>e=.returned (.tuple #[])/\WrGo w g F (bs++zg x) w':=by
 subst hm
 exact tnum_any 122 (ub x) (zg x) g F bs w h (by have:=leb_len (sgn x);unfold zg;omega) (fun v w hr=>putz_any x v w hr h0 h1)
end
section
open Go.RowKit Go.Lib
theorem WrF.drew{w:World}{g:Nat}{F:Nat->Prop}{bs:List Int}(h:WrF w g F bs):WrF w.drew g F bs:=h
theorem tmean1_any(x n:Int)(g:Nat)(F:Nat->Prop)(bs:List Int)(w:World)(h:WrF w g F bs)(hl:bs.length<=800000000000)(x0:-9223372036854775808<=x)(x1:x<=9223372036854775807)(n0:0<=n)(n1:n<18446744073709551616) :
 Calls Tryz.prog 121 #[.pointer (some ⟨g,0,none⟩),.agg #[.int .i64 x,.int .u64 n],.pointer none] w fun e w'=>e=.returned (.tuple #[])/\WrGo w g F (bs++(zg x++leb n)) w':=by
 have hb0:Below w.heap.size w (w.alloc (.cells #[.int .i64 x,.int .u64 n] 141)):=(Below.refl _ _).alloc (Nat.le_refl _) _
 have H0:=Lib.hid (h.keep hb0)
 have low:=Lib.hid h.low
 clear h
 go_enter Tryz.func121,Tryz.ntmps121
 go_wp2_with fail
 refine(tnumz_any x _ g F bs _ H0.out (by omega) (by rw[u64w];rfl) x0 x1).mono ?_
 rintro e w1 ⟨rfl,F1,k1,k2,k3⟩
 have C1:w1.cell? ⟨w.heap.size,1,none⟩=some (.int .u64 n):=(k3.cell (by simp) (fun hf=>by have:=low.out _ hf;omega)).trans (by simp[World.cell?_alloc_new])
 have hzg:(bs++zg x).length<=900000000000:=by rw[List.length_append];have:=leb_len (sgn x);unfold zg;omega
 have K1:=Lib.hid k1
 have K2:=Lib.hid k2
 have K3:=Lib.hid k3
 clear k1 k2 k3
 go_wp2_with fail
 refine(tnumv_any n g F1 (bs++zg x) w1 K2.out hzg n0 n1).mono ?_
 rintro e w2 ⟨rfl,k4⟩
 go_wp2_with fail
 refine bodyPost_end (v:=.tuple #[]) (by simp[results,Tryz.results121,go_sem, *];try rfl) rfl ?_
 refine⟨rfl,WrGo.first hb0 (WrGo.trans K1.out K3.out ?_)⟩
 rw[<-List.append_assoc];exact k4
theorem tmean2_any(x n y:Int)(ga oa:Nat)(g:Nat)(F:Nat->Prop)(bs:List Int)(w:World)(h:WrF w g F bs)(hl:bs.length<=800000000000)(x1:x<=9223372036854775807)(n0:0<=n)(n1:n<18446744073709551616)
 (hy:w.cell? ⟨ga,oa,none⟩=some (.int .i64 y)) (hga:ga<w.heap.size) (hF:¬F ga) (y0:-9223372036854775808<=y) (yx:y<=x) :
 Calls Tryz.prog 121 #[.pointer (some ⟨g,0,none⟩),.agg #[.int .i64 x,.int .u64 n],.pointer (some ⟨ga,oa,none⟩)] w fun e w'=>e=.returned (.tuple #[])/\WrGo w g F (bs++(leb (x - y)++leb n)) w':=by
 obtain⟨w0,hw0⟩:∃w0,w0=w.alloc (.cells #[.int .i64 x,.int .u64 n] 141):=⟨_,rfl⟩
 have hb0:Below w.heap.size w w0:=by rw[hw0];exact(Below.refl _ _).alloc (Nat.le_refl _) _
 have H0:=Lib.hid (h.keep hb0)
 have low:=Lib.hid h.low
 have B0:Hid (Blk w0 w.heap.size 141 #[.int .i64 x,.int .u64 n]):=by show Blk _ _ _ _;rw[hw0];exact Blk.new _ _ _
 have HY:=Lib.hid ((hb0.cell (p:=⟨ga,oa,none⟩) hga).trans hy)
 have HW0:=Lib.hid hw0
 have hz0:=hb0.size
 have hlt0:=B0.out.lt
 have b0:=B0.out.cell 0
 have b1:=B0.out.cell 1
 simp only[List.getElem?_toArray,List.getElem?_cons_succ,List.getElem?_cons_zero] at b0 b1
 have X0:=Lib.hid b0
 have X1:=Lib.hid b1
 have HF:=Lib.hid hF
 have NF:Hid (¬F w.heap.size):=Lib.hid (fun hf=>by have:=low.out _ hf;omega)
 have EW:=Lib.hid (show IntKind.u64.wrap (IntKind.u64.wrap x - IntKind.u64.wrap y)=x - y by simp only[u64w];omega)
 have hga0:ga<w0.heap.size:=by omega
 have hzg:(bs++leb (x - y)).length<=900000000000:=by rw[List.length_append];have:=leb_len (x - y);omega
 clear h hw0 b0 b1 hy hF
 go_enter Tryz.func121,Tryz.ntmps121
 go_wp2_with fail
 rw[<-HW0.out]
 refine wp_region_plan (Touch F w0) [(0,true),(1,true),(2,true),(3,true),(4,true),(5,true),(6,true),(7,true),(8,true),(9,true),(10,false)] (by kernel_rfl) (by kernel_rfl) ((Touch.refl F w0).drew) ?_
 iterate 10
  refine wpPlan_read (by rfl) (by rfl) (fun R hR=>?_)
  apply Exists.intro
  refine⟨fun w' hS'=>?_,?_⟩
  ·have k0:=(hS'.cell (o:=0) hlt0 NF.out).trans X0.out
   have k1:=(hS'.cell (o:=oa) hga0 HF.out).trans HY.out
   have ew:=EW.out
   go_simp
   exact⟨rfl,rfl⟩
  go_simp
  refine hR _ ?_
  clear hR R
 refine wpPlan_do (by rfl) (by rfl) (fun K hK=>?_)
 go_simp
 refine(tnumv_any (x - y) g F bs w0.drew H0.out.drew (by omega) (by omega) (by omega)).mono ?_
 rintro e w1 ⟨rfl,F1,k1,k2,k3⟩
 have K1:=Lib.hid k1
 have K2:=Lib.hid k2
 have K3:Hid (Touch F w0 w1):=Lib.hid ((Touch.refl F w0).drew.trans k3 (fun i hi=>.inl hi))
 clear k1 k2 k3
 refine hK _ _ (K3.out) ?_
 clear hK K
 refine wpPlan_nil ?_
 have C1:w1.cell? ⟨w.heap.size,1,none⟩=some (.int .u64 n):=(K3.out.cell hlt0 NF.out).trans X1.out
 go_wp2_with fail
 refine(tnumv_any n g F1 (bs++leb (x - y)) w1 K2.out hzg n0 n1).mono ?_
 rintro e w2 ⟨rfl,k4⟩
 go_wp2_with fail
 refine bodyPost_end (v:=.tuple #[]) (by simp[results,Tryz.results121,go_sem, *];try rfl) rfl ?_
 refine⟨rfl,WrGo.first hb0 (WrGo.trans (F1:=F1) (fun k hk=>?_) K3.out ?_)⟩
 ·exact K1.out k hk
 ·rw[<-List.append_assoc];exact k4
end
section
open Go.RowKit Go.Lib
theorem rput_any(c n x:Int)(base:Nat)(vb:Value)(bs:List Int)(w:World)(hb0:base<=w.heap.size)(hO:OwnB base w vb bs)(hl:bs.length<=1000000000000)(hc:(c=118/\x=n/\0<=n/\n<18446744073709551616)\/(c=122/\n=ub x/\-9223372036854775808<=x/\x<=9223372036854775807)) :
 Calls Tryz.prog 157 #[vb,.int .u8 c,.int .u64 n] w fun e w'=>∃v,e=.returned v/\OwnB base w' v (bs++(if c=118 then leb x else zg x))/\Below base w w':=by
 have HO:=Lib.hid hO
 have C1:=Lib.hid (rone_any c n x w hc)
 have hlen:(if c=118 then leb x else zg x).length<=10:=by split;exact(leb_len _).2;exact(leb_len _).2
 generalize (if c=118 then leb x else zg x)=out at *
 clear hO hc
 go_enter Tryz.func157,Tryz.ntmps157
 go_wp2_with fail
 refine(C1.out).mono ?_
 rintro e w1 ⟨v1,rfl,o1,hb1⟩
 have O1:=Lib.hid o1
 have hz1:=hb1.size
 clear o1
 go_wp2_with (first
  | (at_builtin
     go_must (refine append_B rfl (.tmp 15) (.tmp 16) rfl base vb bs rfl (OwnI.keep HO.out hb1) v1 out rfl (OwnI.rd O1.out) (by omega) (by omega) ?_)
     intro v2 w2 o2 g2 a2
     have hb2:Below base w w2:=(hb1.mono hb0).grown g2 (by omega) (fun k hk=>(OwnI.lt HO.out k hk).1)
     have O2:=Lib.hid o2
     clear o2 g2 a2))
 go_ret
 exact⟨v2,rfl,O2.out,hb2⟩
theorem rputv_any(n:Int)(base:Nat)(vb:Value)(bs:List Int)(w:World)(hb0:base<=w.heap.size)(hO:OwnB base w vb bs)(hl:bs.length<=1000000000000)(n0:0<=n)(n1:n<18446744073709551616) :
 Calls Tryz.prog 157 #[vb,.int .u8 118,.int .u64 n] w fun e w'=>∃v,e=.returned v/\OwnB base w' v (bs++leb n)/\Below base w w':=by
 have h:=rput_any 118 n n base vb bs w hb0 hO hl (.inl ⟨rfl,rfl,n0,n1⟩)
 rwa [if_pos rfl] at h
theorem rputz_any(x n:Int)(base:Nat)(vb:Value)(bs:List Int)(w:World)(hb0:base<=w.heap.size)(hO:OwnB base w vb bs)(hl:bs.length<=1000000000000)(hn:n=ub x)(h0:-9223372036854775808<=x)(h1:x<=9223372036854775807) :
 Calls Tryz.prog 157 #[vb,.int .u8 122,.int .u64 n] w fun e w'=>∃v,e=.returned v/\OwnB base w' v (bs++zg x)/\Below base w w':=by
 have h:=rput_any 122 n x base vb bs w hb0 hO hl (.inr ⟨rfl,hn,h0,h1⟩)
 rwa [if_neg (by omega)] at h
theorem rwrite_any(g:Nat)(F:Nat->Prop)(d lo hi:Int)(L W:List Mn)(w:World)(h:RDg w g F d L W lo hi)(hr:Rises L)(hL:rawL L)(hW:rawL W)(hlen:L.length+W.length<=1000000000)(d0:0<=d)(d1:d<=9223372036854775807)
 (l0:-9223372036854775808<=lo) (l1:lo<=9223372036854775807) (h0:-9223372036854775808<=hi) (h1:hi<=9223372036854775807) :
 Calls Tryz.prog 86 #[.pointer (some ⟨g,0,none⟩)] w fun e w'=>∃v,e=.returned v/\OwnB w.heap.size w' v (wrD d L W lo hi)/\Below w.heap.size w w':=by
 obtain⟨lv,wv,hb,hl,hw,hg,_,_,_,_⟩:=h
 have hlt:=hb.lt
 obtain⟨A,ca,rfl,na,ma,fa⟩:=hl.form
 obtain⟨B,cb,rfl,nb,mb,fb⟩:=hw.form
 have c0:=hb.cell 0
 have c1:=hb.cell 1
 have c2:=hb.cell 2
 have c3:=hb.cell 3
 have c4:=hb.cell 4
 simp only[List.getElem?_toArray,List.getElem?_cons_succ,List.getElem?_cons_zero] at c0 c1 c2 c3 c4
 have C0:=Lib.hid c0
 have C1:=Lib.hid c1
 have C2:=Lib.hid c2
 have C3:=Lib.hid c3
 have C4:=Lib.hid c4
 have FA:=Lib.hid fa
 have FB:=Lib.hid fb
 have HR:=Lib.hid hr
 have HL:=Lib.hid hL
 have HW:=Lib.hid hW
 have b1:=leb_len d
 have b2:=leb_len (sgn lo)
 have b3:=leb_len (sgn hi)
 have b4:=leb_len (L.length:Int)
 have b5:=leb_len (W.length:Int)
 clear hb hl hw hg fa fb hr hL hW c1 c2 c3 c4
 go_enter Tryz.func86,Tryz.ntmps86
 go_wp2_with fail
 refine(rputv_any d w.heap.size _ [] w (Nat.le_refl _) (OwnI.nil_ _ _ _ _) (by simp) d0 (by omega)).mono ?_
 rintro e w1 ⟨v1,rfl,o1,hb1⟩
 have O1:=Lib.hid o1
 have hz1:=hb1.size
 have k:=(hb1.cell (p:=⟨g,3,none⟩) hlt).trans C3.out
 clear o1 c0
 go_wp2_with fail
 clear k
 refine(rputz_any lo _ w.heap.size v1 ([]++leb d) w1 hz1 O1.out (by simp;omega) (by rw[u64w];rfl) l0 l1).mono ?_
 rintro e w2 ⟨v2,rfl,o2,hb2⟩
 have O2:=Lib.hid o2
 have hbw2:=hb1.trans hb2
 have hz2:=hbw2.size
 have k:=(hbw2.cell (p:=⟨g,4,none⟩) hlt).trans C4.out
 clear o2
 go_wp2_with fail
 clear k
 refine(rputz_any hi _ w.heap.size v2 ([]++leb d++zg lo) w2 hz2 O2.out (by unfold zg;simp;omega) (by rw[u64w];rfl) h0 h1).mono ?_
 rintro e w3 ⟨v3,rfl,o3,hb3⟩
 have O3:=Lib.hid o3
 have hbw3:=hbw2.trans hb3
 have hz3:=hbw3.size
 have k:=(hbw3.cell (p:=⟨g,1,none⟩) hlt).trans C1.out
 clear o3
 go_wp2_with fail
 clear k
 refine(rputv_any (L.length:Int) w.heap.size v3 ([]++leb d++zg lo++zg hi) w3 hz3 O3.out (by unfold zg;simp;omega) (by omega) (by omega)).mono ?_
 rintro e w4 ⟨v4,rfl,o4,hb4⟩
 obtain⟨H,hH⟩:∃H,[]++leb d++zg lo++zg hi++leb (L.length:Int)=H:=⟨_,rfl⟩
 have hHl:H.length<=40:=by rw[<-hH];unfold zg;simp;omega
 rw[hH] at o4
 have HH:=Lib.hid hH
 have O4:=Lib.hid o4
 have hbw4:=hbw3.trans hb4
 have hz4:=hbw4.size
 clear o4 hH b1 b2 b3 b4
 go_wp2_with fail
 go_loopg [3,4] L.length (fun q v i wr=>∃j:Nat,q=L.length - j/\j<=L.length/\i=.int .i64 j/\Hid (OwnB w.heap.size wr v (H++wrl none (L.take j)))/\Below w.heap.size w wr)
 case atStart=>exact⟨0,rfl,by omega,rfl,Lib.hid (by simpa[wrl] using O4.out),hbw4⟩
 case round=>
  obtain⟨j,hq,hj,rfl,ho,hbr⟩:=hrel
  have HQ:=Lib.hid hq
  have hzr:=hbr.size
  have k1:=(hbr.cell (p:=⟨g,1,none⟩) hlt).trans C1.out
  have tl:=wrl_take_len L j
  clear hq
  by_cases hlt2:j<L.length
  ·obtain⟨gl,off,rfl,hgl,e0,e1⟩:=FA.out.at_ hlt2
   have hm:=HL.out L[j] (List.getElem_mem hlt2)
   have r0:=(hbr.cell (p:=⟨gl,off+j * 2,none⟩) hgl).trans e0
   have R1:=Lib.hid e1
   have hji:(j:Int)<(L.length:Int):=by omega
   rcases Nat.eq_zero_or_pos j with rfl|hj0
   ·have HT:=Lib.hid (wrl_take0 L hlt2)
    have z0:((0:Nat):Int)=0:=rfl
    simp only[Nat.zero_mul,Nat.add_zero] at r0
    generalize L[0].1=x at *
    generalize L[0].2=y at *
    simp only[Nat.zero_mul,Nat.add_zero] at e1 R1
    rw[z0]
    clear z0 e0 e1
    go_wp2_with fail
    refine(rputz_any x _ w.heap.size u3 (H++wrl none (L.take 0)) wr hzr ho.out (by rw[List.length_append];omega) (by rw[u64w];rfl) hm.1 hm.2.1).mono ?_
    rintro e w5 ⟨v5,rfl,o5,hb5⟩
    have O5:=Lib.hid o5
    have hbw5:=hbr.trans hb5
    have hz5:=hbw5.size
    have k2:=(hbw5.cell (p:=⟨g,1,none⟩) hlt).trans C1.out
    have k3:=(hbw5.cell (p:=⟨gl,off+1,none⟩) hgl).trans R1.out
    have hx:=leb_len (sgn x)
    clear o5 k1 r0
    go_wp2_with fail
    refine(rputv_any y w.heap.size v5 (H++wrl none (L.take 0)++zg x) w5 hz5 O5.out (by unfold zg;rw[List.length_append,List.length_append];omega) hm.2.2.1 (by omega)).mono ?_
    rintro e w6 ⟨v6,rfl,o6,hb6⟩
    have O6:=Lib.hid o6
    have hbw6:=hbw5.trans hb6
    clear o6 k2 k3
    go_wp2_with fail
    go_roundg (L.length - (0+1))
    case measure=>have:=HQ.out;omega
    case rel=>exact⟨1,rfl,by omega,rfl,Lib.hid (by rw[HT.out];simpa[List.append_assoc] using O6.out),hbw6⟩
   ·obtain⟨m,rfl⟩:∃m,j=m+1:=⟨j - 1,by omega⟩
    have hms:m<L.length:=by omega
    have HT:=Lib.hid (wrl_take L m hlt2)
    obtain⟨gl',off',hA',_,f0,_⟩:=FA.out.at_ hms
    simp only[Option.some.injEq,Addr.mk.injEq,and_true] at hA'
    obtain⟨rfl,rfl⟩:=hA'
    have hrs:=List.pairwise_iff_getElem.1 HR.out m (m+1) hms hlt2 (by omega)
    have hm':=HL.out L[m] (List.getElem_mem hms)
    have Q1:=Lib.hid e0
    have Q2:=Lib.hid f0
    generalize L[m+1].1=x at *
    generalize L[m+1].2=y at *
    generalize L[m].1=p at *
    have EW:=Lib.hid (show IntKind.u64.wrap (IntKind.u64.wrap x - IntKind.u64.wrap p)=x - p by simp only[u64w];omega)
    have jne:(((m:Int)+1) == 0)=false:=beq_eq_false_iff_ne.2 (by omega)
    have hj1:(0:Int)<=(m:Int)+1:=by omega
    have hj2:(m:Int)+1<(L.length:Int):=by omega
    have hj3:(m:Int)<(L.length:Int):=by omega
    have J3:=Lib.hid (show((m:Int)+1).toNat=m+1 by omega)
    have J4:=Lib.hid (show IntKind.i64.wrap (m:Int)=(m:Int) from IntWalk.i64_in _ (by omega))
    clear e0 f0 e1 r0
    go_wp2_with fail
    clear k1
    have FBq:=Lib.hid (fun w' (hS':(fun w'=>Below w.heap.size w w') w')=>(And.intro ((hS'.cell (p:=⟨g,1,none⟩) hlt).trans C1.out) (And.intro ((hS'.cell (p:=⟨gl,off+(m+1) * 2,none⟩) hgl).trans Q1.out) (And.intro ((hS'.cell (p:=⟨gl,off+m * 2,none⟩) hgl).trans Q2.out) (And.intro (EW.out) (And.intro (J3.out) (J4.out)))))))
    refine wp_region_plan (fun w'=>Below w.heap.size w w') [(0,true),(1,true),(2,true),(3,true),(4,true),(5,true),(6,true),(7,true),(8,true),(9,true),(10,true),(11,true),(12,true),(13,true),(14,true),(15,true),(16,true),(17,true),(18,true),(19,true),(20,true),(21,false),(22,true)] (by kernel_rfl) (by kernel_rfl) (hbr.drew) ?_
    iterate 21
     refine wpPlan_read (by rfl) (by rfl) (fun R hR=>?_)
     apply Exists.intro
     refine⟨fun w' hS'=>?_,?_⟩
     ·obtain⟨k1,k2,k3,ew,j3,j4⟩:=FBq.out w' hS'
      go_simp
      exact⟨rfl,rfl⟩
     go_simp
     refine hR _ ?_
     clear hR R
    refine wpPlan_do (by rfl) (by rfl) (fun K hK=>?_)
    go_simp
    refine(rputv_any (x - p) w.heap.size u3 (H++wrl none (L.take (m+1))) _ (by go_size) (OwnI.drew ho.out) (by rw[List.length_append];omega) (by omega) (by omega)).mono ?_
    rintro e w5 ⟨v5,rfl,o5,hb5⟩
    have O5:=Lib.hid o5
    have hbw5:Below w.heap.size w w5:=hbr.drew.trans hb5
    clear o5
    refine hK _ _ (hbw5) ?_
    clear hK K
    iterate 1
     refine wpPlan_read (by rfl) (by rfl) (fun R hR=>?_)
     apply Exists.intro
     refine⟨fun w' hS'=>?_,?_⟩
     ·obtain⟨k1,k2,k3,ew,j3,j4⟩:=FBq.out w' hS'
      go_simp
      exact⟨rfl,rfl⟩
     go_simp
     refine hR _ ?_
     clear hR R
    refine wpPlan_nil ?_
    have hz5:=hbw5.size
    have k2:=(hbw5.cell (p:=⟨g,1,none⟩) hlt).trans C1.out
    have k3:=(hbw5.cell (p:=⟨gl,off+(m+1) * 2+1,none⟩) hgl).trans R1.out
    have hx:=leb_len (x - p)
    go_wp2_with fail
    refine(rputv_any y w.heap.size v5 (H++wrl none (L.take (m+1))++leb (x - p)) w5 hz5 O5.out (by rw[List.length_append,List.length_append];omega) hm.2.2.1 (by omega)).mono ?_
    rintro e w6 ⟨v6,rfl,o6,hb6⟩
    have O6:=Lib.hid o6
    have hbw6:=hbw5.trans hb6
    clear o6 k2 k3
    go_wp2_with fail
    go_roundg (L.length - (m+1+1))
    case measure=>have:=HQ.out;omega
    case rel=>exact⟨m+1+1,rfl,by omega,by go_num,Lib.hid (by rw[HT.out];simpa[List.append_assoc] using O6.out),hbw6⟩
  ·have hE:Hid (L.take j=L):=by show _=_;rw[List.take_of_length_le (by omega)]
   rw[hE.out] at ho
   have k2:=(hbr.cell (p:=⟨g,2,none⟩) hlt).trans C2.out
   have wl:=(wrl_len none L).2
   go_wp2_with fail
   clear k1 k2
   refine(rputv_any (W.length:Int) w.heap.size u3 (H++wrl none L) wr hzr ho.out (by rw[List.length_append];omega) (by omega) (by omega)).mono ?_
   rintro e w5 ⟨v5,rfl,o5,hb5⟩
   obtain⟨K,hK⟩:∃K,H++wrl none L++leb (W.length:Int)=K:=⟨_,rfl⟩
   have hKl:K.length<=21000000000:=by rw[<-hK,List.length_append,List.length_append];omega
   rw[hK] at o5
   have HK:=Lib.hid hK
   have O5:=Lib.hid o5
   have hbw5:=hbr.trans hb5
   clear o5 hK
   go_wp2_with fail
   go_loopg [3,5] W.length (fun q v i wr=>∃j:Nat,q=W.length - j/\j<=W.length/\i=.int .i64 j/\Hid (OwnB w.heap.size wr v (K++wrw (W.take j)))/\Below w.heap.size w wr)
   case atStart=>exact⟨0,rfl,by omega,rfl,Lib.hid (by simpa[wrw] using O5.out),hbw5⟩
   case round=>
    obtain⟨n,hq,hn,rfl,ho2,hbs⟩:=hrel
    have HQ2:=Lib.hid hq
    have hzs:=hbs.size
    have k1:=(hbs.cell (p:=⟨g,2,none⟩) hlt).trans C2.out
    have tl2:=wrw_take_len W n
    clear hq
    by_cases hlt3:n<W.length
    ·obtain⟨gl,off,rfl,hgl,e0,e1⟩:=FB.out.at_ hlt3
     have hm:=HW.out W[n] (List.getElem_mem hlt3)
     have r0:=(hbs.cell (p:=⟨gl,off+n * 2,none⟩) hgl).trans e0
     have R1:=Lib.hid e1
     have HT:=Lib.hid (wrw_take W n hlt3)
     have hni:(n:Int)<(W.length:Int):=by omega
     generalize W[n].1=x at *
     generalize W[n].2=y at *
     clear e0 e1
     go_wp2_with fail
     refine(rputz_any x _ w.heap.size u3 (K++wrw (W.take n)) wr hzs ho2.out (by rw[List.length_append];omega) (by rw[u64w];rfl) hm.1 hm.2.1).mono ?_
     rintro e w6 ⟨v6,rfl,o6,hb6⟩
     have O6:=Lib.hid o6
     have hbw6:=hbs.trans hb6
     have hz6:=hbw6.size
     have k2:=(hbw6.cell (p:=⟨g,2,none⟩) hlt).trans C2.out
     have k3:=(hbw6.cell (p:=⟨gl,off+n * 2+1,none⟩) hgl).trans R1.out
     have hx:=leb_len (sgn x)
     clear o6 k1 r0
     go_wp2_with fail
     refine(rputv_any y w.heap.size v6 (K++wrw (W.take n)++zg x) w6 hz6 O6.out (by unfold zg;rw[List.length_append,List.length_append];omega) hm.2.2.1 (by omega)).mono ?_
     rintro e w7 ⟨v7,rfl,o7,hb7⟩
     have O7:=Lib.hid o7
     have hbw7:=hbw6.trans hb7
     clear o7 k2 k3
     go_wp2_with fail
     go_roundg (W.length - (n+1))
     case measure=>have:=HQ2.out;omega
     case rel=>exact⟨n+1,rfl,by omega,by go_num,Lib.hid (by rw[HT.out];simpa[List.append_assoc] using O7.out),hbw7⟩
    ·have hE2:Hid (W.take n=W):=by show _=_;rw[List.take_of_length_le (by omega)]
     rw[hE2.out] at ho2
     go_wp2_with fail
     go_ret
     refine⟨_,rfl,?_,hbs⟩
     have:=ho2.out
     rw[<-HK.out,<-HH.out] at this
     simpa[wrD,List.append_assoc] using this
end
section
open Go.RowKit Go.Lib
def MFar(w:World)(A:Option Addr)(l:List Mn)(F:Nat->Prop):Prop:=0<l.length->∃g off,A=some ⟨g,off,none⟩/\g<w.heap.size/\¬F g/\∀j (h:j<l.length),w.cell? ⟨g,off+j * 2,none⟩=some (.int .i64 l[j].1)/\w.cell? ⟨g,off+j * 2+1,none⟩=some (.int .u64 l[j].2)
theorem MFar.of{w:World}{A:Option Addr}{c base:Nat}{l:List Mn}{F:Nat->Prop}(h:OwnM base w (.slice A l.length c) l)(hF:∀k,F k->k<base):MFar w A l F:=fun h0=>by
 obtain⟨g,c',hv,hb,hg,_,_⟩:=h.pos h0
 simp only[Value.slice.injEq,true_and] at hv
 obtain⟨rfl,rfl⟩:=hv
 refine⟨g,0,rfl,hg,fun hf=>by have:=hF g hf;omega,fun j hj=>?_⟩
 have:=h.at_ hj
 rw[Nat.zero_add]
 exact⟨this.1,this.2.1⟩
theorem MFar.go{w w':World}{A:Option Addr}{l:List Mn}{F F':Nat->Prop}(h:MFar w A l F)(h1:∀k,F' k->F k\/w.heap.size<=k)(ht:Touch F w w'):MFar w' A l F':=fun h0=>by
 obtain⟨g,off,hA,hg,hF,hc⟩:=h h0
 refine⟨g,off,hA,Nat.lt_of_lt_of_le hg ht.size,fun hf=>?_,fun j hj=>?_⟩
 ·rcases h1 g hf with h2|h2
  ·exact hF h2
  ·omega
 ·exact⟨(ht.cell hg hF).trans (hc j hj).1,(ht.cell hg hF).trans (hc j hj).2⟩
theorem MFar.at_{w:World}{A:Option Addr}{l:List Mn}{F:Nat->Prop}(h:MFar w A l F){j:Nat}(hj:j<l.length):∃g off,A=some ⟨g,off,none⟩/\g<w.heap.size/\¬F g/\w.cell? ⟨g,off+j * 2,none⟩=some (.int .i64 l[j].1)/\w.cell? ⟨g,off+j * 2+1,none⟩=some (.int .u64 l[j].2):=by
 obtain⟨g,off,hA,hg,hF,hc⟩:=h (by omega)
 exact⟨g,off,hA,hg,hF,hc j hj⟩
def endE(s:St):Int:=if tot (s.L++s.W)=0 then 8 else 0
theorem ends_S{g:Nat}{F:Nat->Prop}{d:Int}{s:St}{k:Nat}(w:World)(h:DgS w g F d s)(ft:Fit d s k) :
 Calls Tryz.prog 118 #[.pointer (some ⟨g,0,none⟩)] w fun e w'=>e=.returned (.tuple #[.int .i64 s.lo,.int .i64 s.hi,.int .i64 (endE s)])/\Below w.heap.size w w':=by
 unfold endE
 by_cases hz:tot (s.L++s.W)=0
 ·rw[if_pos hz]
  have he:=ft.ok.emp (ft.ok.n_zero.1 hz)
  rw[he.1,he.2]
  unfold DgS at h
  rw[hz] at h
  exact ends_none w h
 ·rw[if_neg hz]
  exact ends_some w h (by have:=ft.ok.n_nonneg;omega)
theorem go_below{w wr w':World}{F:Nat->Prop}(hb:Below w.heap.size w wr)(hF:∀k,F k->w.heap.size<=k)(ht:Touch F wr w'):Below w.heap.size w w':=hb.trans (ht.below hF hb.size)
theorem go_far{w wr:World}{F F':Nat->Prop}(hb:Below w.heap.size w wr)(hF:∀k,F k->w.heap.size<=k)(h1:∀k,F' k->F k\/wr.heap.size<=k):∀k,F' k->w.heap.size<=k:=fun k hk=>by
 have:=hb.size
 rcases h1 k hk with h|h
 ·exact hF k h
 ·omega
theorem twrite_any(g:Nat)(F:Nat->Prop)(d:Int)(s:St)(k:Nat)(w:World)(h:DgS w g F d s)(ft:Fit d s k) :
 Calls Tryz.prog 52 #[.pointer (some ⟨g,0,none⟩)] w fun e w'=>∃v,e=.returned (.tuple #[v,.int .i64 0])/\OwnB w.heap.size w' v (wrD d s.L s.W s.lo s.hi)/\Below w.heap.size w w':=by
 have HD:=Lib.hid h
 have FT:=Lib.hid ft
 have hlen:s.L.length+s.W.length<=100000000:=by have:=ft.ok.len;have:=ft.k1;omega
 have d0:=ft.d0
 have d1:=ft.d1
 have l0:=ft.ok.lo0
 have l1:=ft.ok.lo1
 have i0:=ft.ok.hi0
 have i1:=ft.ok.hi1
 have ht:=ft.t
 have HO:=Lib.hid ft.ok.ok
 have HR:=Lib.hid ft.ok.rise
 have hlt:=Dg.lt h
 have b1:=leb_len d
 have b2:=leb_len (sgn s.lo)
 have b3:=leb_len (sgn s.hi)
 have b4:=leb_len (s.L.length:Int)
 have b5:=leb_len (s.W.length:Int)
 have HWB:∀m∈s.L++s.W,Hid (-9223372036854775808<=m.1/\m.1<=9223372036854775807/\0<=m.2/\m.2<18446744073709551616):=fun m hm=>by
  have h1:=ft.ok.ok m hm
  obtain⟨j,hj,rfl⟩:=List.getElem_of_mem hm
  have h2:=ft.ok.ok.tot_get hj
  have h3:=(ft.ok.ok.tot_take j).1
  exact Lib.hid ⟨h1.1,h1.2.1,by have:=h1.2.2;omega,by omega⟩
 have HWM:=Lib.hid HWB
 clear h ft HWB
 go_enter Tryz.func52,Tryz.ntmps52
 go_wp2_with fail
 obtain⟨gw,hgw⟩:∃gw,w.heap.size=gw:=⟨_,rfl⟩
 have W0:=Lib.hid (WrF.new w)
 have hb0:Below w.heap.size w (w.alloc (.cells #[.slice none 0 0] 187)):=(Below.refl _ _).alloc (Nat.le_refl _) _
 have F0:Hid (∀k,(fun k=>k=w.heap.size) k->w.heap.size<=k):=Lib.hid (fun k hk=>by simp only at hk;omega)
 generalize (fun k=>k=w.heap.size:Nat->Prop)=FW at *
 generalize w.alloc (.cells #[.slice none 0 0] 187)=w0 at *
 rw[hgw] at W0 |-
 have HGW:=Lib.hid hgw
 clear hgw
 refine(ends_S w0 (Dg.keep HD.out hb0) FT.out).mono ?_
 rintro e w1 ⟨rfl,hb1⟩
 have hbw1:=hb0.trans (hb1.mono hb0.size)
 have W1:=Lib.hid (W0.out.keep hb1)
 clear W0 hb1
 go_wp2_with fail
 refine(fineness_any w1 (Dg.keep HD.out hbw1)).mono ?_
 rintro e w' ⟨rfl,rfl⟩
 go_wp2_with fail
 refine(tnumv_any d gw FW [] w1 W1.out (by simp) (by omega) (by omega)).mono ?_
 rintro e w2 ⟨rfl,F2,p1,p2,p3⟩
 have W2:=Lib.hid p2
 have hbw2:=go_below hbw1 F0.out p3
 have F02:=Lib.hid (go_far hbw1 F0.out p1)
 clear p1 p2 p3
 go_wp2_with fail
 refine(tnumz_any s.lo _ gw F2 ([]++leb d) w2 W2.out (by simp;omega) (by rw[u64w];rfl) l0 l1).mono ?_
 rintro e w3 ⟨rfl,F3,p1,p2,p3⟩
 have W3:=Lib.hid p2
 have hbw3:=go_below hbw2 F02.out p3
 have F03:=Lib.hid (go_far hbw2 F02.out p1)
 clear p1 p2 p3
 go_wp2_with fail
 refine(tnumz_any s.hi _ gw F3 ([]++leb d++zg s.lo) w3 W3.out (by unfold zg;simp;omega) (by rw[u64w];rfl) i0 i1).mono ?_
 rintro e w4 ⟨rfl,F4,p1,p2,p3⟩
 have W4:=Lib.hid p2
 have hbw4:=go_below hbw3 F03.out p3
 have F04:=Lib.hid (go_far hbw3 F03.out p1)
 clear p1 p2 p3
 go_wp2_with fail
 refine(list_any w4 (Dg.keep HD.out hbw4) (by omega)).mono ?_
 rintro e w5 ⟨v5,rfl,o5,hb5⟩
 obtain⟨A5,c5,rfl,n5,m5,_⟩:=o5.form
 have M5:=Lib.hid (MFar.of o5 W4.out.low)
 have W5:=Lib.hid (W4.out.keep hb5)
 have hbw5:=hbw4.trans (hb5.mono hbw4.size)
 clear o5 hb5
 go_wp2_with fail
 refine(tnumv_any (s.L.length:Int) gw F4 ([]++leb d++zg s.lo++zg s.hi) w5 W5.out (by unfold zg;simp;omega) (by omega) (by omega)).mono ?_
 rintro e w6 ⟨rfl,F6,p1,p2,p3⟩
 obtain⟨H,hH⟩:∃H,[]++leb d++zg s.lo++zg s.hi++leb (s.L.length:Int)=H:=⟨_,rfl⟩
 have hHl:H.length<=40:=by rw[<-hH];unfold zg;simp;omega
 rw[hH] at p2
 have HH:=Lib.hid hH
 have W6:=Lib.hid p2
 have hbw6:=go_below hbw5 F04.out p3
 have F06:=Lib.hid (go_far hbw5 F04.out p1)
 have M6:=Lib.hid (M5.out.go p1 p3)
 clear p1 p2 p3 hH b1 b2 b3 b4
 go_wp2_with fail
 go_loopg [46] s.L.length (fun q i wr=>∃(j:Nat) (FX:Nat->Prop),q=s.L.length - j/\j<=s.L.length/\i=.int .i64 j/\Hid (WrF wr gw FX (H++wrl none (s.L.take j)))/\Hid (MFar wr A5 s.L FX)/\Hid (∀k,FX k->w.heap.size<=k)/\Below w.heap.size w wr)
 case atStart=>exact⟨0,F6,rfl,by omega,rfl,Lib.hid (by simpa[wrl] using W6.out),M6,F06,hbw6⟩
 case round=>
  obtain⟨j,FX,hq,hj,rfl,hw,hm,hf,hb⟩:=hrel
  have HQ:=Lib.hid hq
  have hzr:=hb.size
  have tl:=wrl_take_len s.L j
  clear hq
  by_cases hlt2:j<s.L.length
  ·obtain⟨gl,off,rfl,hgl,hFl,e0,e1⟩:=hm.out.at_ hlt2
   have hmb:=HWM.out s.L[j] (List.mem_append_left _ (List.getElem_mem hlt2))
   have HF:=Lib.hid hFl
   rcases Nat.eq_zero_or_pos j with rfl|hj0
   ·have HT:=Lib.hid (wrl_take0 s.L hlt2)
    have z0:((0:Nat):Int)=0:=rfl
    simp only[Nat.zero_mul,Nat.add_zero] at e0 e1
    generalize s.L[0].1=x at *
    generalize s.L[0].2=y at *
    rw[z0]
    clear z0 hFl
    go_wp2_with fail
    have hba:Below wr.heap.size wr (wr.alloc (.cells #[.int .i64 x,.int .u64 y] 141)):=(Below.refl _ _).alloc (Nat.le_refl _) _
    refine(tmean1_any x y gw FX (H++wrl none (s.L.take 0)) _ (hw.out.keep hba) (by rw[List.length_append];omega) hmb.out.1 hmb.out.2.1 hmb.out.2.2.1 hmb.out.2.2.2).mono ?_
    rintro e w7 ⟨rfl,k0⟩
    obtain⟨F7,p1,p2,p3⟩:=WrGo.first hba k0
    have W7:=Lib.hid p2
    have M7:=Lib.hid (hm.out.go p1 p3)
    have hbw7:=go_below hb hf.out p3
    have F07:=Lib.hid (go_far hb hf.out p1)
    clear k0 p1 p2 p3
    go_wp2_with fail
    go_roundg (s.L.length - (0+1))
    case measure=>have:=HQ.out;omega
    case rel=>exact⟨1,F7,rfl,by omega,rfl,Lib.hid (by rw[HT.out];simpa[List.append_assoc] using W7.out),M7,F07,hbw7⟩
   ·obtain⟨m,rfl⟩:∃m,j=m+1:=⟨j - 1,by omega⟩
    have hms:m<s.L.length:=by omega
    have HT:=Lib.hid (wrl_take s.L m hlt2)
    obtain⟨gl',off',hA',_,_,f0,_⟩:=hm.out.at_ hms
    simp only[Option.some.injEq,Addr.mk.injEq,and_true] at hA'
    obtain⟨rfl,rfl⟩:=hA'
    have hrs:=List.pairwise_iff_getElem.1 HR.out m (m+1) hms hlt2 (by omega)
    have hmb':=HWM.out s.L[m] (List.mem_append_left _ (List.getElem_mem hms))
    have Q2:=Lib.hid f0
    generalize s.L[m+1].1=x at *
    generalize s.L[m+1].2=y at *
    generalize s.L[m].1=p at *
    have jne:(((m:Int)+1) == 0)=false:=beq_eq_false_iff_ne.2 (by omega)
    have hj1:(0:Int)<=(m:Int)+1:=by omega
    have hj2:(m:Int)+1<(s.L.length:Int):=by omega
    have hj3:(m:Int)<(s.L.length:Int):=by omega
    have J3:=Lib.hid (show((m:Int)+1).toNat=m+1 by omega)
    have J4:=Lib.hid (show IntKind.i64.wrap (m:Int)=(m:Int) from IntWalk.i64_in _ (by omega))
    clear f0 hFl
    go_wp2_with fail
    obtain⟨wa,hwa⟩:∃wa,wa=wr.alloc (.cells #[.int .i64 x,.int .u64 y] 141):=⟨_,rfl⟩
    have hba:Below wr.heap.size wr wa:=by rw[hwa];exact(Below.refl _ _).alloc (Nat.le_refl _) _
    have B0:Hid (Blk wa wr.heap.size 141 #[.int .i64 x,.int .u64 y]):=by show Blk _ _ _ _;rw[hwa];exact Blk.new _ _ _
    have hlt0:=B0.out.lt
    have b0:=B0.out.cell 0
    have b1:=B0.out.cell 1
    simp only[List.getElem?_toArray,List.getElem?_cons_succ,List.getElem?_cons_zero] at b0 b1
    have X0:=Lib.hid b0
    have X1:=Lib.hid b1
    have NF:Hid (¬FX wr.heap.size):=Lib.hid (fun hx=>by have:=hw.out.low _ hx;omega)
    have WA:=Lib.hid (hw.out.keep hba)
    have QA:=Lib.hid ((hba.cell (p:=⟨gl,off+m * 2,none⟩) hgl).trans Q2.out)
    have hgla:gl<wa.heap.size:=Nat.lt_of_lt_of_le hgl hba.size
    rw[<-hwa]
    clear hwa b0 b1 e0 e1
    refine wp_region_plan (Touch FX wa) [(0,true),(1,true),(2,true),(3,true),(4,true),(5,true),(6,false)] (by kernel_rfl) (by kernel_rfl) ((Touch.refl FX wa).drew) ?_
    iterate 6
     refine wpPlan_read (by rfl) (by rfl) (fun R hR=>?_)
     apply Exists.intro
     refine⟨fun w' hS'=>?_,?_⟩
     ·have k0:=(hS'.cell (o:=0) hlt0 NF.out).trans X0.out
      have k1:=(hS'.cell (o:=1) hlt0 NF.out).trans X1.out
      have j3:=J3.out
      have j4:=J4.out
      go_simp
      exact⟨rfl,rfl⟩
     go_simp
     refine hR _ ?_
     clear hR R
    refine wpPlan_do (by rfl) (by rfl) (fun K hK=>?_)
    go_simp
    refine(tmean2_any x y p gl (off+m * 2) gw FX (H++wrl none (s.L.take (m+1))) wa.drew WA.out.drew (by rw[List.length_append];omega) hmb.out.2.1 hmb.out.2.2.1 hmb.out.2.2.2 QA.out hgla HF.out hmb'.out.1 hrs).mono ?_
    rintro e w7 ⟨rfl,k0⟩
    have K0:=Lib.hid k0
    have K1:Hid (Touch FX wa w7):=Lib.hid (by obtain⟨_,_,_,t⟩:=k0;exact((Touch.refl FX wa).drew).trans t (fun i hi=>.inl hi))
    clear k0
    refine hK _ _ (K1.out) ?_
    clear hK K
    refine wpPlan_nil ?_
    obtain⟨F7,p1,p2,p3⟩:=WrGo.first (hba.trans ((below_drewN (Below.refl wa.heap.size wa) 0).mono hba.size)) (show WrGo (wa.drewN 0) gw FX (H++wrl none (s.L.take (m+1))++(leb (x - p)++leb y)) w7 from by
     obtain⟨F',q1,q2,q3⟩:=K0.out
     exact⟨F',q1,q2,⟨q3.os,K1.out.tape,q3.output,q3.size,q3.block⟩⟩)
    have W7:=Lib.hid p2
    have M7:=Lib.hid (hm.out.go p1 p3)
    have hbw7:=go_below hb hf.out p3
    have F07:=Lib.hid (go_far hb hf.out p1)
    clear p1 p2 p3
    go_wp2_with fail
    go_roundg (s.L.length - (m+1+1))
    case measure=>have:=HQ.out;omega
    case rel=>exact⟨m+1+1,F7,rfl,by omega,by go_num,Lib.hid (by rw[HT.out];simpa[List.append_assoc] using W7.out),M7,F07,hbw7⟩
  ·have hE:Hid (s.L.take j=s.L):=by show _=_;rw[List.take_of_length_le (by omega)]
   rw[hE.out] at hw
   have wl:=(wrl_len none s.L).2
   go_wp2_with fail
   refine(waits_any wr (Dg.keep HD.out hb) (by omega)).mono ?_
   rintro e w7 ⟨v7,rfl,o7,hb7⟩
   obtain⟨A7,c7,rfl,n7,m7,_⟩:=o7.form
   have M7:=Lib.hid (MFar.of o7 hw.out.low)
   have W7:=Lib.hid (hw.out.keep hb7)
   have hbw7:=hb.trans (hb7.mono hzr)
   clear o7 hb7
   go_wp2_with fail
   refine(tnumv_any (s.W.length:Int) gw FX (H++wrl none s.L) w7 W7.out (by rw[List.length_append];omega) (by omega) (by omega)).mono ?_
   rintro e w8 ⟨rfl,F8,p1,p2,p3⟩
   obtain⟨K,hK⟩:∃K,H++wrl none s.L++leb (s.W.length:Int)=K:=⟨_,rfl⟩
   have hKl:K.length<=2100000000:=by rw[<-hK,List.length_append,List.length_append];omega
   rw[hK] at p2
   have HK:=Lib.hid hK
   have W8:=Lib.hid p2
   have hbw8:=go_below hbw7 hf.out p3
   have F08:=Lib.hid (go_far hbw7 hf.out p1)
   have M8:=Lib.hid (M7.out.go p1 p3)
   clear p1 p2 p3 hK
   go_wp2_with fail
   go_loopg [73] s.W.length (fun q i wr=>∃(j:Nat) (FX:Nat->Prop),q=s.W.length - j/\j<=s.W.length/\i=.int .i64 j/\Hid (WrF wr gw FX (K++wrw (s.W.take j)))/\Hid (MFar wr A7 s.W FX)/\Hid (∀k,FX k->w.heap.size<=k)/\Below w.heap.size w wr)
   case atStart=>exact⟨0,F8,rfl,by omega,rfl,Lib.hid (by simpa[wrw] using W8.out),M8,F08,hbw8⟩
   case round=>
    obtain⟨n,FY,hq,hn,rfl,hw2,hm2,hf2,hb2⟩:=hrel
    have HQ2:=Lib.hid hq
    have tl2:=wrw_take_len s.W n
    clear hq
    by_cases hlt3:n<s.W.length
    ·obtain⟨gl,off,rfl,hgl,hFl,e0,e1⟩:=hm2.out.at_ hlt3
     have hmb:=HWM.out s.W[n] (List.mem_append_right _ (List.getElem_mem hlt3))
     have HT:=Lib.hid (wrw_take s.W n hlt3)
     have hni:(n:Int)<(s.W.length:Int):=by omega
     generalize s.W[n].1=x at *
     generalize s.W[n].2=y at *
     clear hFl
     go_wp2_with fail
     have hba:Below wr.heap.size wr (wr.alloc (.cells #[.int .i64 x,.int .u64 y] 141)):=(Below.refl _ _).alloc (Nat.le_refl _) _
     refine(tmean1_any x y gw FY (K++wrw (s.W.take n)) _ (hw2.out.keep hba) (by rw[List.length_append];omega) hmb.out.1 hmb.out.2.1 hmb.out.2.2.1 hmb.out.2.2.2).mono ?_
     rintro e w9 ⟨rfl,k0⟩
     obtain⟨F9,p1,p2,p3⟩:=WrGo.first hba k0
     have W9:=Lib.hid p2
     have M9:=Lib.hid (hm2.out.go p1 p3)
     have hbw9:=go_below hb2 hf2.out p3
     have F09:=Lib.hid (go_far hb2 hf2.out p1)
     clear k0 p1 p2 p3
     go_wp2_with fail
     go_roundg (s.W.length - (n+1))
     case measure=>have:=HQ2.out;omega
     case rel=>exact⟨n+1,F9,rfl,by omega,by go_num,Lib.hid (by rw[HT.out];simpa[List.append_assoc] using W9.out),M9,F09,hbw9⟩
    ·have hE2:Hid (s.W.take n=s.W):=by show _=_;rw[List.take_of_length_le (by omega)]
     rw[hE2.out] at hw2
     obtain⟨v,q1,q2,q3,q4,q5⟩:=hw2.out
     have c0:=q1.cell 0
     simp only[List.getElem?_toArray,List.getElem?_cons_zero] at c0
     have Q2:=Lib.hid q2
     have Q4:=Lib.hid q4
     clear q1 q2 q3 q4 q5
     go_wp2_with fail
     go_ret2
     refine⟨_,rfl,?_,hb2⟩
     have h1:=OwnI.lift Q2.out (fun k hk=>hf2.out k (Q4.out k hk))
     rw[<-HK.out,<-HH.out] at h1
     simpa[wrD,List.append_assoc,OwnB] using h1
end
end Go.Proofs.YtingnldfpokckaaGreat
