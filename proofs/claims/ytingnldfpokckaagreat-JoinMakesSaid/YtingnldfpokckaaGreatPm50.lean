/- Parts of a proof: what its theorem reaches, words cut short. No condition of its own. -/
import Derived.Test.YtingnldfpokckaaGreatPm49
set_option maxRecDepth 100000
set_option maxHeartbeats 16000000
set_option linter.unusedVariables false
set_option linter.unusedSimpArgs false
namespace Go.Proofs.YtingnldfpokckaaGreat.D
open Go.RowKit Go.Lib
theorem crC_bd(l:List Int):0<=crC l/\crC l<4294967296:=bits_u32_bd _ _ _
def seal4(b:List Int):List Int:=b++leN 4 (crC b)
theorem sealed_any(base:Nat)(v:Value)(b:List Int)(w:World)(h:OwnE bE base w v b)(hbz:base<=w.heap.size)(hl:b.length<=1000000000) :
 Calls Tryz.prog 185 #[v] w fun e w'=>∃u,e=.returned u/\OwnE bE base w' u (seal4 b)/\Below base w w':=by
 obtain⟨A,k,rfl,_,_,_⟩:=h.form
 have H:=Lib.hid h
 clear h
 go_enter Tryz.func185,Tryz.ntmps185
 go_upto_region 1 with fail
 go_wp2_with fail
 refine(cnew_any w).mono ?_
 rintro e w1 ⟨g,rfl,hc,_,hb1⟩
 have HC:=Lib.hid hc
 have hz1:=hb1.size
 have O1:=Lib.hid (H.out.keep hb1)
 clear hc
 have S:=Lib.hid (csum_any g _ b w1 HC.out (rdB_E.2 O1.out.rd) (by omega))
 go_wp2_with fail
 refine(S.out).mono ?_
 rintro e w' ⟨rfl,rfl⟩
 obtain⟨c0,c1⟩:=crC_bd b
 have HS:Hid (seal4 b=b++leN 4 (crC b)):=Lib.hid rfl
 obtain⟨c,hc⟩:∃c,crC b=c:=⟨_,rfl⟩
 rw[hc] at c0 c1 HS
 rw[hc]
 have ew:IntKind.u64.wrap c=c:=by rw[u64w];omega
 clear hc S
 go_upto_region 2 with(fail)
 have hba:Below w.heap.size w (w1.alloc (.cells #[.int .u64 c] 41)):=hb1.alloc hz1 _
 refine(wputw_any c _ _ (RdI.one_at _ _ w1 c _ rfl) c0 c1).mono ?_
 rintro e w2 ⟨s,rfl,os,hb2⟩
 have hb3:Below w.heap.size w w2:=hba.trans (hb2.mono hba.size)
 have OS:Hid (OwnE bE w.heap.size w2 s (leN 4 c)):=Lib.hid (OwnE.more (ownB_E.1 os) hba.size)
 have O2:=Lib.hid (H.out.keep hb3)
 have hz3:=hb3.size
 have h4:=leN_len 4 c
 clear os hb2 hba
 go_wp2_with (at_builtin;refine apL tyB rfl (.tmp 14) (.tmp 15) rfl O2.out rfl _ (leN 4 c) rfl OS.out.rd (by omega) (by omega) ?_;intro v8 w8 o8 g8 a8)
 have HB8:Hid (Below base w w8):=Lib.hid ((hb3.mono hbz).grown g8 (by omega) (fun x hx=>(O2.out.lt x hx).1))
 have O8:=Lib.hid o8
 clear o8 g8 a8
 go_wp2_with fail
 go_ret
 exact⟨_,rfl,by rw[HS.out];exact O8.out,HB8.out⟩
def envH(k:Int)(t:List Int):List Int:=[81,83,2]++([k]++[0]++leb t.length)++t
def envB(k:Int)(t:List Int):List Int:=seal4 (envH k t)
theorem wrapped_any(k:Int)(l u:Value)(t:List Int)(w:World)(hl:RdI .u64 w l [k,0,(t.length:Int)])(hu:RdI .u8 w u t)(k0:0<=k)(k1:k<256)(ht:t.length<=100000000) :
 Calls Tryz.prog 108 #[.int .u8 2,.string ⟨#[98,98,118]⟩,l,u] w fun e w'=>∃v,e=.returned (.tuple #[v,.int .i64 0])/\OwnE bE w.heap.size w' v (envB k t)/\Below w.heap.size w w':=by
 obtain⟨A,c,rfl,_,_,_⟩:=hl.form
 obtain⟨Au,cu,rfl,_,_,_⟩:=hu.form
 have P:=Lib.hid (wputE_any k 0 t.length _ w hl k0 k1 (by omega) (by omega) (by omega) (by omega))
 have HU:=Lib.hid hu
 clear hl hu
 go_enter Tryz.func108,Tryz.ntmps108
 go_wp2_with fail
 refine(P.out).mono ?_
 rintro e w1 ⟨h,rfl,oh,hb1⟩
 obtain⟨Ah,ch,rfl,_,_,_⟩:=(ownB_E.1 oh).form
 have OH:=Lib.hid (ownB_E.1 oh)
 have hz1:=hb1.size
 clear oh P
 go_upto_region 4 with fail
 obtain⟨hh,hhe⟩:∃q,outsE k 0 t.length 3=q:=⟨_,rfl⟩
 have HH:=Lib.hid hhe
 have hhl:hh.length<=30:=by rw[<-hhe];exact outsE_len _ _ _ _
 rw[hhe] at OH |-
 clear hhe
 obtain⟨b,hb⟩:∃b,w1.heap.size=b:=⟨_,rfl⟩
 obtain⟨wa,hwa⟩:∃q,(w1.alloc (.cells #[.int .u8 81,.int .u8 83,.int .u8 2] 5)).alloc (.cells #[.slice (some ⟨b,0,none⟩) 3 3,.slice Ah hh.length ch,.slice Au t.length cu] 44)=q:=⟨_,rfl⟩
 have B1:Below w1.heap.size w1 wa:=by rw[<-hwa];(repeat' (first|(with_reducible exact Below.refl _ _)|(with_reducible refine Below.alloc ?_ ?_ _)|(with_reducible refine Below.drew ?_)|(with_reducible refine below_drewN ?_ _)|(with_reducible refine Below.setCell ?_ ?_ _)|(with_reducible refine below_of (by assumption) ?_ ?_)|go_size))
 have hza:wa.heap.size=b+2:=by rw[<-hwa,<-hb];simp
 have X0:OwnE bE b wa (.slice (some ⟨b,0,none⟩) 3 3) [81,83,2]:=by
  have h:=(OwnE.lit (E:=bE) w1 [81,83,2] 5 rfl #[.int .u8 81,.int .u8 83,.int .u8 2] rfl (by simp)).alloc (.cells #[.slice (some ⟨b,0,none⟩) 3 3,.slice Ah hh.length ch,.slice Au t.length cu] 44)
  rw[hwa,hb] at h
  exact h
 have X1:Blk wa (b+1) 44 #[.slice (some ⟨b,0,none⟩) 3 3,.slice Ah hh.length ch,.slice Au t.length cu]:=by
  have h:=Blk.new (w1.alloc (.cells #[.int .u8 81,.int .u8 83,.int .u8 2] 5)) 44 #[.slice (some ⟨b,0,none⟩) 3 3,.slice Ah hh.length ch,.slice Au t.length cu]
  rw[hwa,World.size_alloc,hb] at h
  exact h
 have LS:Hid (LsB wa (b+1) [[81,83,2],hh,t]):=Lib.hid ⟨by omega,fun j hj=>by
  have hc:=X1.cell j
  rcases(by simp only[List.length_cons,List.length_nil] at hj;omega:j=0\/j=1\/j=2) with rfl|rfl|rfl
  ·exact⟨_,_,hc,X0.rd⟩
  ·exact⟨_,_,hc,(OH.out.keep B1).rd⟩
  ·exact⟨_,_,hc,rdB_E.1 (HU.out.keep (hb1.trans (B1.mono hb1.size)))⟩⟩
 have HE:Hid (envH k t=[[81,83,2],hh,t].flatten):=Lib.hid (by rw[<-HH.out];simp[envH,outsE])
 have HL:([[81,83,2],hh,t]:List (List Int)).flatten.length<=1000000000:=by simp;omega
 have C:=Lib.hid (concat_b (b+1) [[81,83,2],hh,t] wa LS.out (by simp) HL)
 have ha:Below w.heap.size w wa:=hb1.trans (B1.mono hb1.size)
 rw[<-HE.out] at C HL
 clear X0 X1 B1
 go_wp2_with fail
 refine(C.out).mono ?_
 rintro e w2 ⟨v2,rfl,o2,hb2⟩
 have hb3:Below w.heap.size w w2:=ha.trans (hb2.mono ha.size)
 have S:=Lib.hid (sealed_any wa.heap.size v2 (envH k t) w2 o2 hb2.size HL)
 have HB2:=Lib.hid hb2
 clear o2 hwa hb2
 go_wp2_with fail
 refine(S.out).mono ?_
 rintro e w3 ⟨v3,rfl,o3,hb4⟩
 have hb5:Below w.heap.size w w3:=hb3.trans (hb4.mono ha.size)
 have O3:=Lib.hid o3
 clear o3
 go_wp2_with fail
 go_ret2
 exact⟨_,rfl,OwnE.more O3.out ha.size,hb5⟩
theorem lit3_u64(w:World)(a b c:Int):RdI .u64 (w.alloc (.cells #[.int .u64 a,.int .u64 b,.int .u64 c] 41)) (.slice (some ⟨w.heap.size,0,none⟩) 3 3) [a,b,c]:=by
 have h:OwnI 41 .u64 w.heap.size (w.alloc (.cells #[.int .u64 a,.int .u64 b,.int .u64 c] 41)) (.slice (some ⟨w.heap.size,0,none⟩) 3 3) [a,b,c]:=
  ⟨rfl,.inr ⟨w.heap.size,3,_,rfl,Nat.le_refl _,heap_alloc_new _ _,by simp,by unfold maxLen;omega,rfl,by simp⟩⟩
 exact h.rd
theorem may_any(k:Int)(u:Value)(t:List Int)(w:World)(hu:RdI .u8 w u t)(k0:1<=k)(k1:k<=4)(ht:t.length<=1048576) :
 Calls Tryz.prog 107 #[.int .u8 k,u] w fun e w'=>e=.returned (.bool true)/\w=w':=by
 obtain⟨A,c,rfl,_,_,_⟩:=hu.form
 clear hu
 have h1:(t.length:Int)<=1048576:=by omega
 have h2:k>=1:=k0
 go_enter Tryz.func107,Tryz.ntmps107
 go_wp2_with fail
 go_ret
 exact⟨rfl,rfl⟩
theorem enew_any(k:Int)(u:Value)(t:List Int)(w:World)(hu:RdI .u8 w u t)(k0:1<=k)(k1:k<=4)(ht:t.length<=1048576) :
 Calls Tryz.prog 47 #[.int .u8 k,u,.bool false] w fun e w'=>∃v,e=.returned (.tuple #[v,.int .i64 0])/\OwnE bE w.heap.size w' v (envB k t)/\Below w.heap.size w w':=by
 have M:=Lib.hid (may_any k u t w hu k0 k1 ht)
 obtain⟨A,c,rfl,_,_,_⟩:=hu.form
 have HU:=Lib.hid hu
 have e1:IntKind.u64.wrap k=k:=by rw[u64w];omega
 have e2:IntKind.u64.wrap (t.length:Int)=t.length:=by rw[u64w];omega
 clear hu
 go_enter Tryz.func47,Tryz.ntmps47
 go_wp2_with fail
 refine(M.out).mono ?_
 rintro e w' ⟨rfl,rfl⟩
 go_wp2_with fail
 have hb1:Below w.heap.size w (w.alloc (.cells #[.int .u64 k,.int .u64 0,.int .u64 t.length] 41)):=by(repeat' (first|(with_reducible exact Below.refl _ _)|(with_reducible refine Below.alloc ?_ ?_ _)|(with_reducible refine Below.drew ?_)|(with_reducible refine below_drewN ?_ _)|(with_reducible refine Below.setCell ?_ ?_ _)|(with_reducible refine below_of (by assumption) ?_ ?_)|go_size))
 have L:=lit3_u64 w k 0 t.length
 refine(wrapped_any k _ _ t _ L (HU.out.keep hb1) (by omega) (by omega) (by omega)).mono ?_
 rintro e w3 ⟨v3,rfl,o3,hb3⟩
 have hb5:Below w.heap.size w w3:=hb1.trans (hb3.mono hb1.size)
 have O3:=Lib.hid o3
 clear o3 L hb3
 go_wp2_with fail
 go_ret2
 exact⟨_,rfl,OwnE.more O3.out hb1.size,hb5⟩
open Go.RowKit Go.Lib
theorem RdI.sub{w:World}{g off c a n:Nat}{l:List Int}(h:RdI .u8 w (.slice (some ⟨g,off,none⟩) l.length c) l)(hn:a+n<=l.length):RdI .u8 w (.slice (some ⟨g,off+a,none⟩) n (c - a)) ((l.drop a).take n):=by
 obtain⟨A',c',e,h1,h2,hf⟩:=(rdB_E.1 h).form
 injection e with e1 e2 e3
 subst e1;subst e3
 have e4:((l.drop a).take n).length=n:=by rw[List.length_take,List.length_drop];omega
 have h3:=(hf.drop rfl a).take n
 have e5:off+a * bE.k=off+a:=by show off+a * 1=_;omega
 rw[e5] at h3
 have h4:=RdE.of_form (c:=c - a) (by rw[e4];omega) (by omega) h3
 rw[e4] at h4
 exact rdB_E.2 h4
theorem rtext_own{g a n:Nat}{bs:List Int}(w:World)(h:RdrAt w g bs a)(hlen:bs.length<=1000000000)(hn:a+n<=bs.length)(h0:0<n) :
 Calls Tryz.prog 197 #[.pointer (some ⟨g,0,none⟩),.int .i64 n] w fun e w'=>∃v,e=.returned (.tuple #[v,.int .i64 0])/\OwnE bE w.heap.size w' v ((bs.drop a).take n)/\RdrAt w' g bs (a+n)/\Touch (fun k=>k=g) w w':=by
 have H:=Lib.hid h
 have CL:=Lib.hid (rleft_any g bs a w h (by omega))
 have hg:=h.lt
 obtain⟨v,h1,h2,h3⟩:=h
 obtain⟨A1,k1,rfl,hk1,hk2,f1⟩:=(OwnI.rd h2).form
 obtain⟨gb,ob,rfl,hgb,_⟩:=f1.at_ (j:=a) (by omega)
 have HRD:=Lib.hid (OwnI.rd h2)
 have O2:=Lib.hid h2
 have B1:=Lib.hid h1
 have hgg:gb≠g:=fun e=>by have:=h1.notB h2 (by decide);exact this (by rw[e];rfl)
 have c0:=h1.cell 0
 have c1:=h1.cell 1
 have fz:=h1.frozen 1
 simp only[List.getElem?_toArray,List.getElem?_cons_succ,List.getElem?_cons_zero] at c0 c1
 have hg1:¬((bs.length:Int) - (a:Int)<(n:Int)):=by omega
 have hg2:¬((n:Int)<0):=by omega
 have EW:Hid (IntKind.i64.wrap ((a:Int)+(n:Int))=((a+n:Nat):Int)):=Lib.hid (by rw[IntKind.wrap_i64];omega)
 clear h1 h2 f1
 go_enter Tryz.func197,Tryz.ntmps197
 go_wp2_with fail
 refine(CL.out).mono ?_
 rintro e w' ⟨rfl,nq0,rfl⟩
 have ew:=EW.out
 go_upto_region 4 with fail
 have HP:Hid (RdrAt ((w.drewN nq0).setCell ⟨g,1,none⟩ (.int .i64 ((a:Int)+(n:Int)))) g bs (a+n)):=Lib.hid (by
  have h:=(H.out.drewN nq0).put (a+n) hn
  rwa [Int.natCast_add] at h)
 have HT:Hid (Touch (fun k=>k=g) w ((w.drewN nq0).setCell ⟨g,1,none⟩ (.int .i64 ((a:Int)+(n:Int))))):=Lib.hid (touch_at w nq0 g 1 _)
 have R2:=Lib.hid (RdI.sub (a:=a) (n:=n) (OwnI.rd (OwnB.far (OwnI.drewN O2.out nq0) (p:=⟨g,1,none⟩) (fun e=>hgg (by injection e)) (.int .i64 ((a:Int)+(n:Int))))) hn)
 have c0':Hid (((w.drewN nq0).setCell ⟨g,1,none⟩ (.int .i64 ((a:Int)+(n:Int)))).cell? ⟨g,0,none⟩=some (.slice (some ⟨gb,ob,none⟩) bs.length k1)):=Lib.hid (((B1.out.drewN nq0).set_ 1 _).cell 0)
 have c1':Hid (((w.drewN nq0).setCell ⟨g,1,none⟩ (.int .i64 ((a:Int)+(n:Int)))).cell? ⟨g,1,none⟩=some (.int .i64 ((a:Int)+(n:Int)))):=Lib.hid (((B1.out.drewN nq0).set_ 1 _).cell 1)
 obtain⟨w2,hw2⟩:∃q,(w.drewN nq0).setCell ⟨g,1,none⟩ (.int .i64 ((a:Int)+(n:Int)))=q:=⟨_,rfl⟩
 rw[hw2] at HP HT R2 c0' c1' |-
 have ES:Hid (IntKind.i64.wrap (a:Int)=(a:Int)):=Lib.hid (by rw[IntKind.wrap_i64];omega)
 have e1:((a:Int)+(n:Int)).toNat=a+n:=by omega
 have hc1:¬(k1=a):=by omega
 have hb1:(a:Int)+(n:Int)<=(k1:Int):=by omega
 have hb2:(a:Int)<=(a:Int)+(n:Int):=by omega
 have hb3:(0:Int)<=(a:Int)+(n:Int):=by omega
 have e2:a+n - a=n:=by omega
 clear hw2 c0 c1 fz ew
 refine wp_region_planT (fun w'=>w'=w2.drew) 15 [(0,true),(1,true),(2,true),(3,true),(4,true),(5,true),(6,true),(7,true),(8,true),(9,true),(10,true),(11,true),(12,true),(13,true),(14,true)] (by kernel_rfl) (by kernel_rfl) (rfl) ?_
 iterate 15
  refine wpPlanT_read (by rfl) (by rfl) (fun R hR=>?_)
  apply Exists.intro
  refine⟨fun w' hS'=>?_,?_⟩
  ·subst hS'
   have c0:w2.drew.cell? ⟨g,0,none⟩=_:=c0'.out
   have c1:w2.drew.cell? ⟨g,1,none⟩=_:=c1'.out
   have es:=ES.out
   go_simp
   exact⟨rfl,rfl⟩
  go_simp
  refine hR _ ?_
  clear hR R
 refine wpPlanT_nil ?_
 simp only[List.drop_succ_cons,List.drop_zero]
 go_wp2_with fail
 have Bd:Below w2.heap.size w2 w2.drew:=(Below.refl _ _).drew
 have hl4:((bs.drop a).take n).length=n:=by rw[List.length_take,List.length_drop];omega
 have RR:=RdI.keep R2.out Bd
 refine(clone_B _ _ _ RR (by omega)).mono ?_
 rintro e w5 ⟨v5,rfl,o5,hb5⟩
 have hb6:Below w2.heap.size w2 w5:=Bd.trans hb5
 have O5:=Lib.hid o5
 have HP5:=Lib.hid (HP.out.keep hb6)
 have HT5:Hid (Touch (fun k=>k=g) w w5):=Lib.hid (HT.out.trans (Touch.of_below hb6 (Nat.le_refl _)) (fun _ h=>.inl h))
 have hz:=HT.out.size
 clear o5 RR
 go_wp2_with fail
 refine calm_normal ?_
 go_wp2_with fail
 go_ret2
 exact⟨_,rfl,OwnE.more (ownB_E.1 O5.out) hz,HP5.out,HT5.out⟩
open Go.RowKit Go.Lib
theorem eneed_any(w:World):Calls Tryz.prog 191 #[.bool true] w fun e w'=>e=.returned (.tuple #[])/\w=w':=by
 go_enter Tryz.func191,Tryz.ntmps191
 go_wp2_with fail
 refine bodyPost_end (v:=.tuple #[]) (by simp[results,Tryz.results191,go_sem, *];try rfl) rfl ?_
 exact⟨rfl,rfl⟩
def LtAt(w:World)(x r:Nat)(ver k:Int)(pk:Bool)(v:Value):Prop:=Blk w x 180 #[.pointer (some ⟨r,0,none⟩),.int .i64 ver,.int .u8 k,.bool pk,v]
theorem enum_own{x r b:Nat}{ver k c n:Int}{pk:Bool}{v:Value}{bs:List Int}(w:World)(hB:LtAt w x r ver k pk v)(hn:Calls Tryz.prog 208 #[.pointer (some ⟨r,0,none⟩),.int .u8 c] w (GotO w r bs b (.tuple #[.int .u64 n,.int .i64 0]))) :
 Calls Tryz.prog 272 #[.pointer (some ⟨x,0,none⟩),.int .u8 c] w (GotO w r bs b (.int .u64 n)):=by
 have HN:=Lib.hid hn
 have c0:=Blk.cell hB 0
 simp only[List.getElem?_toArray,List.getElem?_cons_succ,List.getElem?_cons_zero] at c0
 clear hB hn
 go_enter Tryz.func272,Tryz.ntmps272
 go_wp2_with fail
 refine(HN.out).mono ?_
 rintro e w1 ⟨rfl,h1,h2⟩
 have H1:=Lib.hid h1
 have H2:=Lib.hid h2
 clear h1 h2
 go_wp2_with fail
 refine(eneed_any _).mono ?_
 rintro e w' ⟨rfl,rfl⟩
 go_wp2_with fail
 go_ret
 exact⟨rfl,H1.out,H2.out⟩
theorem LtAt.touch{w w':World}{x r:Nat}{ver k:Int}{pk:Bool}{v:Value}(h:LtAt w x r ver k pk v)(ht:Touch (fun j=>j=r) w w')(hx:x≠r):LtAt w' x r ver k pk v:=(ht.block x (Blk.lt h) hx).trans h
theorem rest_own{x r a n:Nat}{ver k:Int}{pk:Bool}{v:Value}{bs:List Int}(w:World)(hB:LtAt w x r ver k pk v)(hR:RdrAt w r bs a)(hlen:bs.length<=1000000000)(hn:a+n+4=bs.length)(h0:0<n)(hx:x≠r) :
 Calls Tryz.prog 273 #[.pointer (some ⟨x,0,none⟩),.int .u64 n] w fun e w'=>∃u,e=.returned u/\OwnE bE w.heap.size w' u ((bs.drop a).take n)/\RdrAt w' r bs (a+n)/\Touch (fun k=>k=r) w w':=by
 have CL:=fun q=>Lib.hid (rleft_any r bs a (w.drewN q) (hR.drewN q) (by omega))
 have CT:=fun q=>Lib.hid (rtext_own (n:=n) (w.drewN q) (hR.drewN q) hlen (by omega) h0)
 have c0:=Blk.cell hB 0
 simp only[List.getElem?_toArray,List.getElem?_cons_succ,List.getElem?_cons_zero] at c0
 have hl:((bs.length:Int) - (a:Int))=(n:Int)+4:=by omega
 rw[hl] at CL
 have e1:IntKind.i64.wrap ((n:Int)+4 - 4)=n:=by rw[IntKind.wrap_i64];omega
 have e2:IntKind.u64.wrap (n:Int)=n:=by rw[u64w];omega
 have e3:IntKind.i64.wrap (n:Int)=n:=by rw[IntKind.wrap_i64];omega
 have h4:(4:Int)<=(n:Int)+4:=by omega
 clear hB hR hl
 go_enter Tryz.func273,Tryz.ntmps273
 go_wp2_with fail
 refine((CL 0).out).mono ?_
 rintro e w1 ⟨rfl,q,rfl⟩
 go_wp2_with fail
 refine((CL q).out).mono ?_
 rintro e w1 ⟨rfl,q2,rfl⟩
 go_wp2_with fail
 refine(eneed_any _).mono ?_
 rintro e w' ⟨rfl,rfl⟩
 go_wp2_with fail
 refine((CT (q+q2)).out).mono ?_
 rintro e w3 ⟨u,rfl,o3,h3,t3⟩
 have O3:Hid (OwnE bE w.heap.size w3 u ((bs.drop a).take n)):=Lib.hid o3
 have H3:=Lib.hid h3
 have T3:Hid (Touch (fun k=>k=r) w w3):=Lib.hid (((Touch.refl _ w).drewN (q+q2)).trans t3 (fun _ h=>.inl h))
 clear o3 h3 t3
 go_wp2_with fail
 refine(eneed_any _).mono ?_
 rintro e w' ⟨rfl,rfl⟩
 go_wp2_with fail
 go_ret
 exact⟨_,rfl,O3.out,H3.out,T3.out⟩
theorem LtAt.put{w:World}{x r:Nat}{ver k k':Int}{pk:Bool}{v:Value}(h:LtAt w x r ver k pk v):LtAt (w.setCell ⟨x,2,none⟩ (.int .u8 k')) x r ver k' pk v:=by
 have h1:=Blk.set_ h 2 (.int .u8 k')
 simpa[LtAt] using h1
theorem LtAt.text{w:World}{x r:Nat}{ver k:Int}{pk:Bool}{v u:Value}(h:LtAt w x r ver k pk v):LtAt (w.setCell ⟨x,4,none⟩ u) x r ver k pk u:=by
 have h1:=Blk.set_ h 4 u
 simpa[LtAt] using h1
theorem LtAt.vers{w:World}{x r:Nat}{ver ver' k:Int}{pk:Bool}{v:Value}(h:LtAt w x r ver k pk v):LtAt (w.setCell ⟨x,1,none⟩ (.int .i64 ver')) x r ver' k pk v:=by
 have h1:=Blk.set_ h 1 (.int .i64 ver')
 simpa[LtAt] using h1
section
variable {k : Int} {t : List Int}
theorem env_form(k:Int)(t:List Int):envB k t=81::83::2::k::0::(leb t.length++(t++leN 4 (crC (envH k t)))):=by simp[envB,seal4,envH]
theorem env_len(k:Int)(t:List Int):(envB k t).length=5+(leb t.length).length+t.length+4:=by
 rw[env_form]
 simp only[List.length_cons,List.length_append,leN_len];omega
theorem env_d3:(envB k t).drop 3=k::0::(leb t.length++(t++leN 4 (crC (envH k t)))):=by rw[env_form];rfl
theorem env_d4:(envB k t).drop (3+1)=0::(leb t.length++(t++leN 4 (crC (envH k t)))):=by rw[env_form];rfl
theorem env_d5:(envB k t).drop (3+1+1)=leb t.length++(t++leN 4 (crC (envH k t))):=by rw[env_form];rfl
theorem env_dt:((envB k t).drop (3+1+1+(leb t.length).length)).take t.length=t:=by
 rw[<-List.drop_drop,env_d5,List.drop_left,List.take_left]
end
theorem enew_own{x r:Nat}{ver k0 k lim:Int}{v0:Value}{t:List Int}(w:World)(hB:LtAt w x r ver k0 false v0)(hR:RdrAt w r (envB k t) 3)(hby:byL (envB k t))(hx:x≠r)(hk0:0<=k)(hk1:k<256)(ht0:0<t.length)(ht1:t.length<=1000000)(hl0:(t.length:Int)<=lim)(hl1:lim<=1048576) :
 Calls Tryz.prog 196 #[.pointer (some ⟨x,0,none⟩),.int .i64 lim] w fun e w'=>e=.returned (.tuple #[])/\∃v,LtAt w' x r ver k false v/\OwnE bE w.heap.size w' v t/\Touch (fun j=>j=x\/j=r) w w':=by
 have hlen:=env_len k t
 have hlb:=leb_len (t.length:Int)
 have C1:=Lib.hid (enum_own w hB (nextb_own w hR (by omega) env_d3 hk0 hk1))
 have HB:=Lib.hid hB
 have lx:=Blk.lt hB
 have HBY:=Lib.hid hby
 have ek:IntKind.u8.wrap k=k:=by show k % 256=k;omega
 have el:IntKind.u64.wrap lim=lim:=by rw[u64w];omega
 have EL:=Lib.hid hlen
 clear hB hR hby hlen
 go_enter Tryz.func196,Tryz.ntmps196
 go_wp2_with fail
 refine(C1.out).mono ?_
 rintro e w1 ⟨rfl,h1,t1⟩
 have L1:=HB.out.touch t1 hx
 have L2:=Lib.hid (L1.put (k':=k))
 have f2:=Blk.frozen L1 2
 have c2:=Blk.cell L1 2
 simp only[List.getElem?_toArray,List.getElem?_cons_succ,List.getElem?_cons_zero] at c2
 have R2:Hid (RdrAt (w1.setCell ⟨x,2,none⟩ (.int .u8 k)) r (envB k t) (3+1)):=Lib.hid (by
  obtain⟨v,b1,b2,b3⟩:=h1
  exact⟨v,b1.far (fun e=>hx e.symm) _,b2.far (fun e=>(Blk.notB L1 b2 (by decide)) e) _,b3⟩)
 have T2:Hid (Touch (fun j=>j=x\/j=r) w (w1.setCell ⟨x,2,none⟩ (.int .u8 k))):=Lib.hid ((t1.mono (fun _ h=>.inr h)).setCell (.inl (.inl rfl)) _)
 clear h1 t1 L1
 go_upto_region 1 with fail
 obtain⟨w2,hw2⟩:∃q,w1.setCell ⟨x,2,none⟩ (.int .u8 k)=q:=⟨_,rfl⟩
 rw[hw2] at L2 R2 T2 |-
 clear hw2 f2 c2
 have C2:=Lib.hid (enum_own w2 L2.out (nextb_own w2 R2.out (by have:=EL.out;omega) env_d4 (by omega) (by omega)))
 go_wp2_with fail
 refine(C2.out).mono ?_
 rintro e w3 ⟨rfl,h3,t3⟩
 have L3:=Lib.hid (L2.out.touch t3 hx)
 have C3:=Lib.hid (enum_own w3 L3.out (nextv_own w3 h3 HBY.out (by have:=EL.out;omega) env_d5 (by omega) (by omega)))
 have T3:Hid (Touch (fun j=>j=x\/j=r) w w3):=Lib.hid (T2.out.trans t3 (fun _ h=>.inl (.inr h)))
 clear h3 t3 C2
 go_wp2_with fail
 refine(C3.out).mono ?_
 rintro e w4 ⟨rfl,h4,t4⟩
 have L4:=Lib.hid (L3.out.touch t4 hx)
 have T4:Hid (Touch (fun j=>j=x\/j=r) w w4):=Lib.hid (T3.out.trans t4 (fun _ h=>.inl (.inr h)))
 have C4:=Lib.hid (rest_own (n:=t.length) w4 L4.out h4 (by have:=EL.out;omega) (by have:=EL.out;omega) ht0 hx)
 rw[env_dt] at C4
 clear h4 t4 C3
 have hd:decide ((t.length:Int)<=lim)=true:=decide_eq_true hl0
 go_wp2_with fail
 refine(eneed_any _).mono ?_
 rintro e w' ⟨rfl,rfl⟩
 go_wp2_with fail
 refine(C4.out).mono ?_
 rintro e w5 ⟨u,rfl,o5,_,t5⟩
 have l5:=L4.out.touch t5 hx
 have L5:=Lib.hid l5
 have O5:=Lib.hid o5
 have T5:Hid (Touch (fun j=>j=x\/j=r) w w5):=Lib.hid (T4.out.trans t5 (fun _ h=>.inl (.inr h)))
 have f4:=Blk.frozen l5 4
 have c4:=Blk.cell l5 4
 simp only[List.getElem?_toArray,List.getElem?_cons_succ,List.getElem?_cons_zero] at c4
 have hz:=T4.out.size
 clear o5 t5 l5
 obtain⟨A,c,rfl,_,_,_⟩:=O5.out.form
 go_wp2_with fail
 refine bodyPost_ret (results_none rfl _ _ _) rfl ?_
 refine⟨rfl,_,L5.out.text,OwnE.more (O5.out.far (fun e=>?_) _) hz,T5.out.setCell (.inl (.inl rfl)) _⟩
 have:=(O5.out.lt _ e).1
 have h9:x<w4.heap.size:=Blk.lt L4.out
 have h10:w4.heap.size<=x:=this
 omega
end Go.Proofs.YtingnldfpokckaaGreat.D
