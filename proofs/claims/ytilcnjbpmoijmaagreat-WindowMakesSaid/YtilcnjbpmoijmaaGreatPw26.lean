/- Parts of a proof. No condition. -/
import Derived.Test.YtilcnjbpmoijmaaGreatPw25
import Derived.Test.YtilcnjbpmoijmaaGreatPw21
set_option maxRecDepth 100000
set_option maxHeartbeats 16000000
set_option linter.unusedVariables false
set_option linter.unusedSimpArgs false
namespace Go.Proofs.YtilcnjbpmoijmaaGreat.D
open Tryz
open Go.RowKit Go.Lib
variable{bs r:List Int}{a g:Nat}{n:Int}
structure FL(k:Nat)(c sz:Int):Prop where
 e:c=qX k
 lt:k<10
 no:∀j,j<k->(qX j == c)=false
 yes:(qX k == c)=true
 siz:QN k=sz
theorem Jp(k:Nat)(c sz:Int)(h:(decide (k<10) && decide (c=qX k) && decide (QN k=sz) && (List.range k).all (fun j=>!(qX j == c)))=true):FL k c sz:=by
 simp only[Bool.and_eq_true,decide_eq_true_eq,List.all_eq_true,List.mem_range] at h;obtain⟨⟨⟨h1,h2⟩,h3⟩,h4⟩:=h;exact⟨h2,h1,fun j hj=>by have:=h4 j hj;simpa using this,by rw[h2];simp,h3⟩
theorem bc8:FL 0 98 1:=Jp 0 98 1 af
theorem bc9:FL 4 87 4:=Jp 4 87 4 af
theorem bd0:FL 6 81 8:=Jp 6 81 8 af
theorem bm9:FL 7 118 0:=Jp 7 118 0 af
theorem bx2:VZ 9 110:=by
 have h:=Jp 9 110 0 af
 exact⟨h.e,h.lt,h.no,h.yes,h.siz⟩
theorem jb(k:Nat)(c sz:Int)(w:World)(h:FL k c sz) :
 aH 236 #[.int .u8 c] w (aG w (.tuple #[.agg #[.int .u8 c,.int .i64 sz,.func (.func (sF k)) #[] #[],.func (.func (Aq k)) #[] #[]],.bool true])):=by
 have H:=aI h;have hk:=h.lt;have hk1:(k:Int)<10:=ae
 clear h
 go_enter func236,ntmps236
 go_wp2_with fail;refine(IX _).mono ?_
 rintro e w1 ⟨rfl,hb1⟩;have hz1:=hb1.size;simp only[aV] at hz1;have CB:Hid (w1.cell? ⟨w.heap.size,0,none⟩=some (.int .u8 c)):=by
  refine(hb1.cell (p:=⟨w.heap.size,0,none⟩) (by show w.heap.size<_;simp only[aV];omega)).trans ?_
  refine(((aO (w.alloc (.cells #[.int .u8 c] 5)).heap.size (w.alloc (.cells #[.int .u8 c] 5))).alloc (aS _) _).cell (p:=⟨w.heap.size,0,none⟩) (by show w.heap.size<_;simp only[aV];omega)).trans ?_
  simp[World.cell?_alloc_new]
 have hlt0:w.heap.size<w1.heap.size:=ae
 have HT:Hid (dK w1 (w.heap.size+1) 329 #[.int .u8 0,.int .i64 0,Value.nilFunc,Value.nilFunc]):=by
  have h:=(dK.new (w.alloc (.cells #[.int .u8 c] 5)) 329 #[.int .u8 0,.int .i64 0,Value.nilFunc,Value.nilFunc]).keep hb1
  rwa [aV] at h
 go_wp2_with (refine wpList_store_row rfl 402 (.tmp 4) (.tmp 6) rfl w1.heap.size jB rfl rfl 402 _ (heap_alloc_new _ _) (by as_aux_lemma=>kernel_rfl) (by as_aux_lemma=>kernel_rfl) (by as_aux_lemma=>kernel_rfl) ?_)
 have BG:=setRow_heap _ _ _ jB _ _ (heap_alloc_new w1 (Obj.cells
  #[Value.int IntKind.u8 0,Value.int IntKind.i64 0,Value.nilFunc,Value.nilFunc,Value.int IntKind.u8 0,
   Value.int IntKind.i64 0,Value.nilFunc,Value.nilFunc,Value.int IntKind.u8 0,Value.int IntKind.i64 0,
   Value.nilFunc,Value.nilFunc,Value.int IntKind.u8 0,Value.int IntKind.i64 0,Value.nilFunc,
   Value.nilFunc,Value.int IntKind.u8 0,Value.int IntKind.i64 0,Value.nilFunc,Value.nilFunc,
   Value.int IntKind.u8 0,Value.int IntKind.i64 0,Value.nilFunc,Value.nilFunc,Value.int IntKind.u8 0,
   Value.int IntKind.i64 0,Value.nilFunc,Value.nilFunc,Value.int IntKind.u8 0,Value.int IntKind.i64 0,
   Value.nilFunc,Value.nilFunc,Value.int IntKind.u8 0,Value.int IntKind.i64 0,Value.nilFunc,
   Value.nilFunc,Value.int IntKind.u8 0,Value.int IntKind.i64 0,Value.nilFunc,Value.nilFunc]
  402))
 have hb2:=below_setRow ((aO w1.heap.size w1).alloc (aS _) (Obj.cells
  #[Value.int IntKind.u8 0,Value.int IntKind.i64 0,Value.nilFunc,Value.nilFunc,Value.int IntKind.u8 0,
   Value.int IntKind.i64 0,Value.nilFunc,Value.nilFunc,Value.int IntKind.u8 0,Value.int IntKind.i64 0,
   Value.nilFunc,Value.nilFunc,Value.int IntKind.u8 0,Value.int IntKind.i64 0,Value.nilFunc,
   Value.nilFunc,Value.int IntKind.u8 0,Value.int IntKind.i64 0,Value.nilFunc,Value.nilFunc,
   Value.int IntKind.u8 0,Value.int IntKind.i64 0,Value.nilFunc,Value.nilFunc,Value.int IntKind.u8 0,
   Value.int IntKind.i64 0,Value.nilFunc,Value.nilFunc,Value.int IntKind.u8 0,Value.int IntKind.i64 0,
   Value.nilFunc,Value.nilFunc,Value.int IntKind.u8 0,Value.int IntKind.i64 0,Value.nilFunc,
   Value.nilFunc,Value.int IntKind.u8 0,Value.int IntKind.i64 0,Value.nilFunc,Value.nilFunc]
  402)) (aS w1.heap.size) jB
 generalize (w1.alloc (Obj.cells
  #[Value.int IntKind.u8 0,Value.int IntKind.i64 0,Value.nilFunc,Value.nilFunc,Value.int IntKind.u8 0,
   Value.int IntKind.i64 0,Value.nilFunc,Value.nilFunc,Value.int IntKind.u8 0,Value.int IntKind.i64 0,
   Value.nilFunc,Value.nilFunc,Value.int IntKind.u8 0,Value.int IntKind.i64 0,Value.nilFunc,
   Value.nilFunc,Value.int IntKind.u8 0,Value.int IntKind.i64 0,Value.nilFunc,Value.nilFunc,
   Value.int IntKind.u8 0,Value.int IntKind.i64 0,Value.nilFunc,Value.nilFunc,Value.int IntKind.u8 0,
   Value.int IntKind.i64 0,Value.nilFunc,Value.nilFunc,Value.int IntKind.u8 0,Value.int IntKind.i64 0,
   Value.nilFunc,Value.nilFunc,Value.int IntKind.u8 0,Value.int IntKind.i64 0,Value.nilFunc,
   Value.nilFunc,Value.int IntKind.u8 0,Value.int IntKind.i64 0,Value.nilFunc,Value.nilFunc]
  402)).setRow w1.heap.size jB=w2 at *
 have HG:Hid (dK w2 w1.heap.size 402 jB):=aI BG;have hlt2:=HG.o.lt;have hz2:=hb2.size;refine(E8 k c w1.heap.size w.heap.size w2 hk HG.o ((hb2.cell (p:=⟨w.heap.size,0,none⟩) hlt0).trans CB.o) H.o.no H.o.yes).mono ?_
 rintro e w3 ⟨rfl,hb3⟩;have hz3:=hb3.size;have G3:=HG.o.keep hb3;obtain⟨x0,x1,x2,x3⟩:=Ar k hk;have e0:=(G3.cell (k * 4)).trans x0;have e1:=(G3.cell (k * 4+1)).trans x1;have e2:=(G3.cell (k * 4+2)).trans x2;have e3:=(G3.cell (k * 4+3)).trans x3;unfold fnV at e2 e3;rw[<-H.o.e] at e0;rw[H.o.siz] at e1;have T3:Hid (dK w3 (w.heap.size+1) 329 #[.int .u8 0,.int .i64 0,Value.nilFunc,Value.nilFunc]):=(HT.o.below hb2 ae).below hb3 ae
 have hkn:decide ((k:Int)<0)=false:=decide_eq_false ae
 clear BG G3 x0 x1 x2 x3 CB HT HG;have hi4:(prog.info? 329).map (·.size)=some 4:=by kernel_rfl
 obtain⟨pp,hpp⟩:=aF (sF k);obtain⟨gg,hgg⟩:=aF (Aq k);rw[hpp] at e2;rw[hgg] at e3;have HPP:=aI hpp;have QO:=aI hgg;clear hpp hgg
 go_wp2_with ((refine wpList_store_row rfl 329 (.tmp 2) (.tmp 15) rfl (w.heap.size+1) #[.int .u8 c,.int .i64 sz,.func (.func pp) #[] #[],.func (.func gg) #[] #[]] rfl rfl 329 _ T3.o hi4 rfl (by simp[Value.oneCell']) ?_))
 have B4:dK (w3.setRow (w.heap.size+1) #[.int .u8 c,.int .i64 sz,.func (.func pp) #[] #[],.func (.func gg) #[] #[]]) (w.heap.size+1) 329 #[.int .u8 c,.int .i64 sz,.func (.func pp) #[] #[],.func (.func gg) #[] #[]]:=setRow_heap _ _ _ _ _ _ T3.o;have hb4:Below w.heap.size w (w3.setRow (w.heap.size+1) #[.int .u8 c,.int .i64 sz,.func (.func pp) #[] #[],.func (.func gg) #[] #[]]):=by
  refine below_setRow ?_ ae _
  exact((((((aO _ _).alloc (aS _) _).alloc ag _).trans (hb1.mono (by simp only[aV];omega))).trans (hb2.mono ae)).trans (hb3.mono ae))
 generalize w3.setRow (w.heap.size+1) #[.int .u8 c,.int .i64 sz,.func (.func pp) #[] #[],.func (.func gg) #[] #[]]=w4 at *;obtain⟨k0,k1,k2,k3⟩:=B4.c4;clear e0 e1 e2 e3 B4
 go_wp2_with fail;refine bodyPost_ret (by simp[results,Tryz.results236,go_sem, *];try rfl) rfl ?_
 exact⟨by rw[HPP.o,QO.o],hb4⟩
def bE:DN Int where
 k:=1
 t:=5
 enc x:=[.int .u8 x]
 len _:=rfl
 one x u hu:=by
  simp only[bn,List.not_mem_nil,or_false] at hu;subst hu;rfl
theorem bI:(prog.info? 5).map (fun i=>(i.zero,i.size,i.bytes))=some (some (.int .u8 0),1,1):=by kernel_rfl
theorem Ak:Ty prog bE 47:=CQ bI underlying47 rfl af  af
theorem Vl:∀l:List Int,cellsE bE l=l.map (Value.int .u8)
 | []=>rfl
 | x::l=>by rw[gJ,Vl l];rfl
theorem dX{base:Nat}{w:World}{v:Value}{l:List Int}:OwnB base w v l<->dL bE base w v l:=by
 unfold OwnB dP dL;rw[Vl];rfl
theorem SH:∀(K:Nat) (n:Int) (j:Nat),j<K->(iQ K n)[j]?=some (n / 2 ^ (8 * (K - 1 - j)) % 256)
 | K+1,n,j,h=>by
  rw[iQ]
  rcases bV j K with hj|hj
  ·rw[List.getElem?_append_left (by rw[fD];exact hj),SH K _ j hj,Int.ediv_ediv_of_nonneg ae]
   have e:(256:Int) * 2 ^ (8 * (K - 1 - j))=2 ^ (8 * (K+1 - 1 - j)):=by
    rw[show K+1 - 1 - j=K - 1 - j+1 by omega,Nat.mul_add,Int.pow_add,Int.mul_comm];rfl
   rw[e]
  ·obtain rfl:j=K:=ae
   rw[List.getElem?_append_right (by rw[fD];exact aS _),fD]
   simp
theorem m_(g base K:Nat)(n:Int)(bs:List Int)(w:World)(h:Wr 325 base w g bs)(n0:0<=n)(n1:n<18446744073709551616)(hK:K<=8)(hl:bs.length<=1000000000000) :
 aH 369 #[.pointer (some ⟨g,0,none⟩),.int .u64 n,.int .i64 K] w fun e w'=>e=.returned (.tuple #[])/\Wr 325 base w' g (bs++iQ K n)/\Below base w w':=by
 have H:=aI h;have hlt:=h.lt;clear h;have EK:Hid (IntKind.i64.wrap ((K:Int) - 1)=(K:Int) - 1):=aI ak
 have ek:=EK.o
 go_enter func369,ntmps369
 go_wp2_with fail
 go_loopg [6] K (fun q i wr=>∃j:Nat,q=K - j/\j<=K/\i=.int .i64 ((K:Int) - 1 - j)/\Hid (Wr 325 base wr g (bs++(iQ K n).take j))/\Below base w wr)
 case atStart=>exact⟨0,rfl,ae,ag,by rw[List.take_zero,List.append_nil];exact H,aO _ _⟩
 case round=>
  obtain⟨j,hq,hj,rfl,hw,hb⟩:=hrel;have HQ:=aI hq;have hz:=hb.size;clear hq ek
  by_cases hlj:j<K
  ·obtain⟨i,hi⟩:=aF (K - 1 - j)
   have hiI:(K:Int) - 1 - j=(i:Int):=ae
   rw[hiI];have hi0:(0:Int)<=(i:Int):=ae
   obtain⟨s,hs⟩:=aF (8 * i);have cg6:s<64:=ae
   have ES:Hid (IntKind.i64.wrap (8 * (i:Int))=(s:Int)):=aI ak
   have EI:Hid (IntKind.i64.wrap ((i:Int) - 1)=(i:Int) - 1):=aI ak
   have hbyte:(iQ K n)[j]?=some (n / 2 ^ s % 256):=by rw[SH K n j hlj,hi,hs]
   have eb:IntKind.u8.wrap (n / 2 ^ s)=n / 2 ^ s % 256:=rfl;obtain⟨y,hy⟩:=aF (n / 2 ^ s % 256);rw[hy] at hbyte eb;have HBT:Hid ((iQ K n).take (j+1)=(iQ K n).take j++[y]):=aI (by rw[List.take_add_one,hbyte];rfl)
   clear hy;obtain⟨hbg,v,hB,hO⟩:=hw.o;have HB:=aI hB;have HO:=aI hO;have hlen:(bs++(iQ K n).take j).length+1<=1099511627776:=by
    have h1:=fD K n;rw[aQ,bG];omega
   clear hB hO hs hi hbyte;have hsI:(s:Int)<64:=ae
   have Bd:dK wr.drew g 325 #[v]:=HB.o.drew;generalize (iQ K n).take j=T at *;obtain⟨A0,k0,hv0,_,_,_⟩:=(dP.rd HO.o).form;obtain⟨N0,hN0⟩:∃N,(bs++T).length=N:=⟨_,rfl⟩;rw[hN0] at hv0;subst hv0;have Vm:=aI hN0;clear hN0;have HBa:Hid (dK (wr.alloc (.cells #[.int .u8 y] 5)).drew g 325 #[.slice A0 N0 k0]):=aI (HB.o.alloc _).drew;have HOa:Hid (dL bE base (wr.alloc (.cells #[.int .u8 y] 5)).drew (.slice A0 N0 k0) (bs++T)):=aI (dL.alloc (dX.1 HO.o) _).drew;have hba:Below base w (wr.alloc (.cells #[.int .u8 y] 5)).drew:=(hb.alloc ae _).drew
   go_upto_region 3 with fail;refine qm (fun w'=>dK w' g 325 #[.slice A0 N0 k0]) 12 (dV 0 10 (fJ 10 (fJ 11 []))) (Bd) ?_
   iterate 10 refine mr (h:=fun w' hS'=>by have c0:=dK.cell hS' 0;simp only[aK,aJ] at c0;have es:=ES.o;go_simp;exact⟨rfl,rfl⟩) ?_
   refine yU fun K hK=>?_
   go_simp;refine hK _ _ (Bd.alloc _) ?_
   clear hK K;refine yU fun K hK=>?_
   refine Rn Ak (.tmp 17) (.tmp 23) rfl HOa.o rfl _ [y] rfl (dL.one (E:=bE) wr.drew y _ rfl _ rfl).rd hlen aj ?_
   intro v1 w1 o1 g1 _;have B1:=fH HBa.o HOa.o af g1
   have hb1:Below base w w1:=hba.grown g1 (by have:=hba.size;omega) (fun k hk=>(dL.lt HOa.o k hk).1)
   have P1:=aI (ve (i:=0) HBa.o HOa.o af g1 o1)
   obtain⟨A1,c1,ev1,_,_,_⟩:=o1.form;obtain⟨N1,hN1⟩:∃N,(bs++T++[y]).length=N:=⟨_,rfl⟩;rw[hN1] at ev1;subst ev1;clear hN1 o1 g1;refine hK _ _ (B1) ?_
   clear hK K;refine d_ ?_
   simp only[bT,cO];have c0:=B1.cell 0;have f0:=B1.frozen 0;simp only[aK,aJ] at c0
   go_wp2_with fail;refine dR ?_
   have ei:=EI.o
   go_wp2_with fail
   go_roundg (K - (j+1))
   case measure=>have:=HQ.o;omega
   case rel=>
    refine⟨j+1,rfl,ae,?_,?_,hb1.setCell ae _⟩
    ·congr 1;omega
    ·rw[HBT.o,<-aX]
     exact aI ⟨hbg,_,P1.o.1,dX.2 P1.o.2⟩
  ·obtain rfl:j=K:=ae
   have e1:((j:Int) - 1 - j)=-1:=ae
   rw[e1];have Vo:=hw;rw[bP (by rw[fD];exact aS _)] at Vo
   go_wp2_with fail;refine bodyPost_end (v:=.tuple #[]) (by simp[results,Tryz.results369,go_sem, *];try rfl) rfl ?_
   exact⟨rfl,Vo.o,hb⟩
open Tryz
open Go.RowKit Go.Lib
theorem bd1(p y:Int)(p0:0<=p)(p1:p * 256<18446744073709551616)(y0:0<=y)(y1:y<256):bits .or .u64 (IntKind.u64.wrap (p * 256)) y=p * 256+y:=by
 obtain⟨a,rfl⟩:=Int.eq_ofNat_of_zero_le p0;obtain⟨b,rfl⟩:=Int.eq_ofNat_of_zero_le y0;have e2:((a:Int) * 256)=((a * 256:Nat):Int):=ag
 rw[e2,show IntKind.u64.wrap ((a * 256:Nat):Int)=((a * 256:Nat):Int) from by rw[fF];omega,bits_or_u64_nat _ b ae  ae]
 have h:=Nat.two_pow_add_eq_or_of_lt (i:=8) (b:=b) ae a
 rw[dC a 256,show(256:Nat)=2 ^ 8 by rfl,<-h]
 simp
theorem ab6(p y:Int)(s:Nat)(p0:0<=p)(p1:p<2 ^ s)(y0:0<=y)(h:p+2 ^ s * y<18446744073709551616):bits .or .u64 p (IntKind.u64.wrap (y * 2 ^ s))=p+2 ^ s * y:=by
 obtain⟨a,rfl⟩:=Int.eq_ofNat_of_zero_le p0;obtain⟨b,rfl⟩:=Int.eq_ofNat_of_zero_le y0;have e2:((b:Int) * 2 ^ s)=((b * 2 ^ s:Nat):Int):=ag
 have e3:(a:Int)+2 ^ s * (b:Int)=((a+2 ^ s * b:Nat):Int):=ag
 have ha:a<2 ^ s:=by have:(a:Int)<((2 ^ s:Nat):Int):=by simpa using p1
                     omega
 rw[e3] at h |-;have hb:b * 2 ^ s<18446744073709551616:=by rw[dC];omega
 rw[e2,show IntKind.u64.wrap ((b * 2 ^ s:Nat):Int)=((b * 2 ^ s:Nat):Int) from by rw[fF];omega,bits_or_u64_nat a _ ae hb]
 have h':=Nat.two_pow_add_eq_or_of_lt ha b;rw[Nat.or_comm,dC b,<-h',Nat.add_comm]
theorem Ou{x:List Int}{j:Nat}(hd:bs.drop a=x++r)(hj:j<x.length):∃h:a+j<bs.length,bs[a+j]=x[j]:=by
 have hl:=congrArg List.length hd;rw[bu,aQ] at hl;have h:a+j<bs.length:=ae
 refine⟨h,?_⟩
 have e:=congrArg (fun l=>l[j]?) hd
 simp only[List.getElem?_drop,List.getElem?_append_left hj] at e;rw[a_ h,a_ hj] at e;exact Option.some.inj e
theorem Jq(K:Nat)(w:World)(h:dU w g bs a)(hlen:bs.length<=1000000000000)(hd:bs.drop a=iQ K n++r)(hK:K<=8)(n0:0<=n)(n1:n<18446744073709551616)(nK:n / 2 ^ (8 * K)=0) :
 aH 370 #[.pointer (some ⟨g,0,none⟩),.int .i64 K] w (qM w g bs (a+K) (.tuple #[.int .u64 n,.int .i64 0])):=by
 have H:=aI h;have CL:=aI (mX g bs a w h hlen);obtain⟨v,h1,h2,h3⟩:=h;obtain⟨A1,k1,rfl,_,m1,f1⟩:=(dP.rd h2).form;have c0:=h1.cell 0;have c1:=h1.cell 1;have fz:=h1.frozen 1;simp only[aK,aN,aJ] at c0 c1;have F1:=aI f1;have HL:a+K<=bs.length:=by
  have hl:=congrArg List.length hd;rw[bu,aQ,fD] at hl;omega
 have HD:=aI hd;have hli:¬((bs.length:Int) - (a:Int)<(K:Int)):=ae
 have EW:Hid (IntKind.i64.wrap ((a:Int)+(K:Int))=((a+K:Nat):Int)):=aI ak
 clear h1 h2 f1 hd
 go_enter func370,ntmps370
 go_wp2_with fail;refine(CL.o).mono ?_
 rintro e w' ⟨rfl,nq0,rfl⟩
 go_wp2_with fail
 go_loopg [6,13] K (fun q p i wr=>∃(j nq:Nat),q=K - j/\j<=K/\i=.int .i64 j/\p=.int .u64 (n / 2 ^ (8 * (K - j)))/\wr=w.drewN nq)
 case atStart=>exact⟨0,nq0,rfl,ae,rfl,by rw[Nat.sub_zero,nK],rfl⟩
 case round=>
  obtain⟨j,nq,hq,hj,rfl,rfl,rfl⟩:=hrel;have HQ:=aI hq;clear hq
  by_cases hlt:j<K
  ·obtain⟨hab,hby⟩:=Ou HD.o (j:=j) (by rw[fD];exact hlt)
   obtain⟨gb,ob,rfl,hgb,e0⟩:=F1.o.at_ hab;have hbn:bs[a+j]=n / 2 ^ (8 * (K - 1 - j)) % 256:=by
    rw[hby];have:=SH K n j hlt;rw[a_ (by rw[fD];exact hlt)] at this
    exact Option.some.inj this
   rw[hbn] at e0;obtain⟨x,hx⟩:=aF (n / 2 ^ (8 * (K - 1 - j)));have hp:n / 2 ^ (8 * (K - j))=x / 256:=by
    rw[<-hx,Int.ediv_ediv_of_nonneg (by exact Int.le_of_lt (Int.pow_pos ae))]
    congr 1
    rw[show 8 * (K - j)=8 * (K - 1 - j)+8 by omega,Int.pow_add];rfl
   have hx0:0<=x:=by rw[<-hx];exact Int.ediv_nonneg n0 (Int.le_of_lt (Int.pow_pos ae))
   have hxn:x<=n:=by rw[<-hx];exact Int.ediv_le_self _ n0
   have hx1:x<18446744073709551616:=ae
   have OL:=aI (bd1 (x / 256) (x % 256) ae  ae  ae  ae)
   have OS:Hid (x / 256 * 256+x % 256=x):=aI ae
   have HX:=aI hx;rw[hx] at e0;rw[hp];have ajt:((a:Int)+(j:Int)).toNat=a+j:=ae
   have aj0:(0:Int)<=(a:Int)+(j:Int):=ae
   have aj1:(a:Int)+(j:Int)<(bs.length:Int):=ae
   have EA:=aI (IntWalk.i64_in ((a:Int)+(j:Int)) ae)
   have EX:Hid (IntKind.u64.wrap (x % 256)=x % 256):=aI (by rw[fF];omega)
   have hji:(j:Int)<(K:Int):=ae
   have CC:=aI (aP c0 (aP c1 e0));clear hbn hby hp hx hxn nK
   go_upto_region 7 with fail;refine jh (fun w'=>w'.cell? ⟨g,0,none⟩=some (.slice (some ⟨gb,ob,none⟩) bs.length k1)/\w'.cell? ⟨g,1,none⟩=some (.int .i64 a)/\w'.cell? ⟨gb,ob+(a+j),none⟩=some (.int .u8 (x % 256))) (dV 0 17 []) (CC.o) ?_
   iterate 17 refine eQ (h:=fun w' hS'=>by obtain⟨q0,q1,q2⟩:=hS';have ol:=OL.o;have os:=OS.o;have ea:=EA.o;have ex:=EX.o;go_simp;exact⟨rfl,rfl⟩) ?_
   refine dJ ?_
   go_wp2_with fail
   go_roundg (K - (j+1))
   case measure=>have:=HQ.o;omega
   case rel=>exact⟨j+1,nq+1,rfl,ae,ai,by rw[show K - (j+1)=K - 1 - j by omega,HX.o],rfl⟩
  ·obtain rfl:j=K:=ae
   have e9:n / 2 ^ (8 * (j - j))=n:=by rw[Nat.sub_self];simp
   rw[e9];have ew:=EW.o
   go_wp2_with fail
   go_ret2
   exact⟨rfl,(H.o.drewN nq).put (a+j) HL,pF w nq g 1 _⟩
theorem Xw(w:World)(h:dU w g bs a)(hlen:bs.length<=1000000000000)(hd:bs.drop a=n::r)(n0:0<=n)(n1:n<256) :
 aH 368 #[.pointer (some ⟨g,0,none⟩),.int .i64 1] w (qM w g bs (a+1) (.tuple #[.int .u64 n,.int .i64 0])):=by
 have H:=aI h;have CL:=aI (mX g bs a w h hlen);obtain⟨v,h1,h2,h3⟩:=h;obtain⟨A1,k1,rfl,_,m1,f1⟩:=(dP.rd h2).form;have c0:=h1.cell 0;have c1:=h1.cell 1;have fz:=h1.frozen 1;simp only[aK,aN,aJ] at c0 c1;have F1:=aI f1;have HL:a+1<=bs.length:=by
  have hl:=congrArg List.length hd;rw[bu,aU] at hl;omega
 have HD:=aI hd;have hli:¬((bs.length:Int) - (a:Int)<1):=ae
 have EW:Hid (IntKind.i64.wrap ((a:Int)+1)=((a+1:Nat):Int)):=aI ak
 have O0:Hid (bits .or .u64 0 n=n):=aI (by
  have:=ab6 0 n 0 ae ag n0 ah
  simpa[show IntKind.u64.wrap n=n by rw[fF];omega] using this)
 have EX:Hid (IntKind.u64.wrap n=n):=aI (by rw[fF];omega)
 clear h1 h2 f1 hd
 go_enter func368,ntmps368
 go_wp2_with fail;refine(CL.o).mono ?_
 rintro e w' ⟨rfl,nq0,rfl⟩
 go_wp2_with fail
 go_loopg [6,13] 1 (fun q p i wr=>∃(j nq:Nat),q=1 - j/\j<=1/\i=.int .i64 j/\p=.int .u64 (if j=0 then 0 else n)/\wr=w.drewN nq)
 case atStart=>exact⟨0,nq0,rfl,ae,rfl,rfl,rfl⟩
 case round=>
  obtain⟨j,nq,hq,hj,rfl,rfl,rfl⟩:=hrel;have HQ:=aI hq;clear hq
  by_cases hlt:j<1
  ·obtain rfl:j=0:=ae
   rw[if_pos rfl];obtain⟨hab,hby⟩:=Ou (x:=[n]) (j:=0) (r:=r) HD.o ag
   obtain⟨gb,ob,rfl,hgb,e0⟩:=F1.o.at_ hab;have hbn:bs[a+0]=n:=by rw[hby];rfl
   rw[hbn] at e0;simp only[Nat.add_zero] at e0;have ajt:((a:Int)).toNat=a:=ae
   have aj0:(0:Int)<=(a:Int):=ae
   have aj1:(a:Int)<(bs.length:Int):=ae
   have EA:=aI (IntWalk.i64_in (a:Int) ae)
   have CC:=aI (aP c0 (aP c1 e0));clear hbn hby
   go_upto_region 7 with fail;refine jh (fun w'=>w'.cell? ⟨g,0,none⟩=some (.slice (some ⟨gb,ob,none⟩) bs.length k1)/\w'.cell? ⟨g,1,none⟩=some (.int .i64 a)/\w'.cell? ⟨gb,ob+a,none⟩=some (.int .u8 n)) (dV 0 19 []) (CC.o) ?_
   iterate 19 refine eQ (h:=fun w' hS'=>by obtain⟨q0,q1,q2⟩:=hS';have o0:=O0.o;have ea:=EA.o;have ex:=EX.o;have e0':IntKind.i64.wrap 0=0:=rfl;go_simp;exact⟨rfl,rfl⟩) ?_
   refine dJ ?_
   go_wp2_with fail
   go_roundg 0
   case measure=>have:=HQ.o;omega
   case rel=>exact⟨1,nq+1,rfl,ae,ai,by have:=O0.o;have:=EX.o;simp_all,rfl⟩
  ·obtain rfl:j=1:=ae
   rw[if_neg ae]
   have ew:=EW.o
   go_wp2_with fail
   go_ret2
   exact⟨rfl,(H.o.drewN nq).put (a+1) HL,pF w nq g 1 _⟩
open Tryz
open Go.RowKit Go.Lib
theorem Xx{v:Int}(s:Int)(w:World)(h:dU w g bs a)(hlen:bs.length<=1000000000000)(hd:bs.drop a=nn v++r)(v0:-9223372036854775808<=v)(v1:v<=9223372036854775807) :
 aH 376 #[.pointer (some ⟨g,0,none⟩),.int .i64 s] w (qM w g bs (a+(nn v).length) (.tuple #[.int .u64 (ub v),.int .i64 0])):=by
 have H:=aI h;obtain⟨vv,h1,h2,h3⟩:=h;obtain⟨A1,k1,rfl,_,m1,f1⟩:=(dP.rd h2).form;have c0:=h1.cell 0;have c1:=h1.cell 1;have fz:=h1.frozen 1;simp only[aK,aN,aJ] at c0 c1;have F1:=aI f1;have sb:=jl v0 v1;have CU:=aI (fun w=>xQ (qA v) w sb.1 sb.2)
 rw[Ec] at CU;have HUB:Hid (IntKind.u64.wrap v=ub v):=aI rfl;have HNN:Hid (nn v=jA 8 (qA v)):=aI rfl;rw[HNN.o] at hd |-;have HL:a+(jA 8 (qA v)).length<=bs.length:=by
  have hl:=congrArg List.length hd;have h5:=yQ 8 (qA v);rw[bu,aQ] at hl;omega
 generalize qA v=z at *;generalize ub v=u at *;have HD:=aI hd;clear h1 h2 f1 hd HNN;obtain⟨Z,hZ⟩:=aF (a+(jA 8 z).length);rw[hZ];have HZ:=aI hZ;rw[hZ] at HL;clear hZ
 go_enter func376,ntmps376
 go_wp2_with fail
 go_loopg [6,9] 9 (fun q p i wr=>∃(j nq:Nat) (part m:Int),q=9 - j/\j<=8/\i=.int .i64 j/\p=.int .u64 part/\(0<=part/\part<128 ^ j)/\Hid (z=part+128 ^ j * m)/\(0<=m/\m<256 * 128 ^ (8 - j))/\Hid (bs.drop (a+j)=jA (8 - j) m++r/\a+j+(jA (8 - j) m).length=Z)/\(m=0->j=0)/\wr=w.drewN nq)
 case atStart=>exact⟨0,0,0,z,rfl,ae,rfl,rfl,⟨by omega,ag⟩,aI ag,⟨sb.1,ah⟩,aI ⟨by simpa using HD.o,by simpa using HZ.o⟩,fun _=>rfl,rfl⟩
 case round=>
  obtain⟨j,nq,part,m,hq,hj,rfl,rfl,⟨p0,p1⟩,hzz,⟨m0,m1⟩,hdr,hmj,rfl⟩:=hrel;have HQ:=aI hq;clear hq;have hj9:(j:Int)<9:=ae
  -- the byte that stands here
  have hne:∃(x:Int) (t:List Int),jA (8 - j) m=x::t/\0<=x/\x<=255:=by
   rcases bQ (8 - j) with h0|h0
   ·rw[h0] at m1 |-
    exact⟨m,[],rfl,m0,by simp at m1;omega⟩
   ·obtain⟨k,hk⟩:∃k,8 - j=k+1:=⟨8 - j - 1,ae⟩
    rw[hk]
    by_cases h7:127<m
    ·rw[oU k m h7];exact⟨_,_,rfl,ae,ae⟩
    ·rw[oV (k+1) m h7];exact⟨_,_,rfl,m0,ae⟩
  obtain⟨x,t,hxt,x0,x1⟩:=hne;have hdx:bs.drop (a+j)=x::(t++r):=by rw[hdr.o.1,hxt];rfl
  have hab:a+j<bs.length:=by
   have hl:=congrArg List.length hdx;rw[bu,aU] at hl;omega
  have hbx:bs[a+j]=x:=by
   have:=List.drop_eq_getElem_cons hab;rw[hdx] at this;exact(List.cons.inj this).1.symm
  have hdn:bs.drop (a+(j+1))=t++r:=by
   have:=List.drop_eq_getElem_cons hab;rw[hdx] at this;exact(List.cons.inj this).2.symm
  obtain⟨gb,ob,rfl,hgb,e0⟩:=F1.o.at_ hab;rw[hbx] at e0;have ajt:((a:Int)+(j:Int)).toNat=a+j:=ae
  have aj0:(0:Int)<=(a:Int)+(j:Int):=ae
  have aj1:(a:Int)+(j:Int)<(bs.length:Int):=ae
  have dge:decide ((bs.length:Int)<=(a:Int)+(j:Int))=false:=decide_eq_false ae
  have EA:=aI (IntWalk.i64_in ((a:Int)+(j:Int)) ae)
  have CC:=aI (aP c0 (aP c1 e0));have HX:=aI (aP hxt hdn);have E1:Hid (IntKind.i64.wrap ((j:Int)+1)=(j:Int)+1/\IntKind.i64.wrap ((a:Int)+((j:Int)+1))=((a+(j+1):Nat):Int)):=aI ⟨by rw[aW];omega,ak⟩
  clear hbx hdx hxt hdn e0
  go_upto_region 5 with fail;refine jh (fun w'=>w'.cell? ⟨g,0,none⟩=some (.slice (some ⟨gb,ob,none⟩) bs.length k1)/\w'.cell? ⟨g,1,none⟩=some (.int .i64 a)/\w'.cell? ⟨gb,ob+(a+j),none⟩=some (.int .u8 x)) (dV 0 12 []) (CC.o) ?_
  iterate 12 refine eQ (h:=fun w' hS'=>by obtain⟨q0,q1,q2⟩:=hS';have ea:=EA.o;go_simp;exact⟨rfl,rfl⟩) ?_
  refine dJ ?_
  go_upto_region 7 with fail;refine jh (fun w'=>w'.cell? ⟨g,0,none⟩=some (.slice (some ⟨gb,ob,none⟩) bs.length k1)/\w'.cell? ⟨g,1,none⟩=some (.int .i64 a)/\w'.cell? ⟨gb,ob+(a+j),none⟩=some (.int .u8 x)) (dV 0 13 []) (CC.o) ?_
  iterate 13 refine eQ (h:=fun w' hS'=>by obtain⟨q0,q1,q2⟩:=hS';have ea:=EA.o;go_simp;exact⟨rfl,rfl⟩) ?_
  refine dJ ?_
  by_cases h8:j=8
  ·subst h8
   have hm':m≠0:=fun e=>by have:=hmj e;omega
   obtain⟨hx,ht⟩:m=x/\[]=t:=by have:=HX.o.1;rw[Nat.sub_self] at this;exact List.cons.inj this
   subst hx ht;have hzv:=hzz.o;have O8:Hid (bits .or .u64 part (IntKind.u64.wrap (m * 72057594037927936))=z):=aI (by
    have:=ab6 part m 56 p0 ae m0 ae
    rw[hzv];exact this)
   have EX:Hid (IntKind.u64.wrap m=m):=aI (by rw[fF];omega)
   have EL:Hid (IntKind.i64.wrap 9=9/\IntKind.i64.wrap ((a:Int)+9)=((a+9:Nat):Int)):=aI ⟨rfl,ak⟩
   have hZ9:a+9=Z:=by have:=hdr.o.2;simpa[jA] using this
   have hxz:(m == 0)=false:=ah
   clear hzv p0 p1 m0 m1 hj9 aj0 aj1 dge ajt hab hm' hmj hj x0 x1;have o8:=O8.o;have ex:=EX.o
   go_upto_region 11 with fail;clear o8 ex
   go_upto_region 14 with fail;obtain⟨l1,l2⟩:=EL.o;obtain⟨l3,l4⟩:=E1.o
   go_wp2_with fail;refine((CU.o _)).mono ?_
   rintro e w' ⟨rfl,rfl⟩;have hub:=HUB.o
   go_wp2_with fail
   go_ret2
   rw[<-hZ9];exact⟨rfl,(H.o.drewN _).put (a+9) ae,pF w _ g 1 _⟩
  ·have j8:((j:Int) == 8)=false:=beq_eq_false_iff_ne.2 ae
   have hj8:(j:Int)<8:=ae
   obtain⟨k,hk⟩:∃k,8 - j=k+1:=⟨8 - j - 1,ae⟩
   have a7:=Zk x x0 x1;have hpw:(0:Int)<128 ^ j:=Int.pow_pos ae
   rw[hk] at HX hdr m1
   by_cases h7:127<m
   ·obtain⟨hx,ht⟩:=List.cons.inj ((oU k m h7).symm.trans HX.o.1)
    have hx7:127<x:=ae
    have hxm:x % 128=m % 128:=ae
    have hO:=Az part (x % 128) j ae p0 p1 ae  ae  ae
    have HO:=aI hO;have hps:Hid (0<=part+128 ^ j * (x % 128)/\part+128 ^ j * (x % 128)<128 ^ (j+1)):=by
     have h2:(128:Int) ^ j * (x % 128)<=128 ^ j * 127:=Int.mul_le_mul_of_nonneg_left ae  ae
     have h3:0<=(128:Int) ^ j * (x % 128):=Int.mul_nonneg ae  ae
     exact aI ⟨by omega,by rw[Int.pow_succ];omega⟩
    have hzn:Hid (z=part+128 ^ j * (x % 128)+128 ^ (j+1) * (m / 128)):=aI (by
     rw[hzz.o,Int.pow_succ,Int.add_assoc,bU,<-Int.mul_add,hxm]
     congr 2
     omega)
    have hm2:m / 128<256 * 128 ^ (8 - (j+1)):=by
     rw[show 8 - (j+1)=k by omega]
     exact Int.ediv_lt_of_lt_mul ae (by rw[bU,<-Int.pow_succ];exact m1)
    have hdn:Hid (bs.drop (a+(j+1))=jA (8 - (j+1)) (m / 128)++r/\a+(j+1)+(jA (8 - (j+1)) (m / 128)).length=Z):=aI (by
     rw[show 8 - (j+1)=k by omega,ht]
     refine⟨HX.o.2,?_⟩
     have h1:=hdr.o.2;rw[HX.o.1,aU] at h1;omega)
    have hmd:0<m / 128:=ae
    clear hO hx ht hxm m1 p1 p0 m0 aj0 aj1 dge ajt hab hmj hj x0 x1 hpw h7
    go_upto_region 11 with fail;clear a7
    go_wp2_with fail
    go_roundg (9 - (j+1))
    case measure=>have:=HQ.o;omega
    case rel=>exact⟨j+1,_,_,m / 128,rfl,ae,ai,by rw[HO.o],hps.o,hzn,⟨by omega,hm2⟩,hdn,fun e=>by omega,rfl⟩
   ·obtain⟨hx,ht⟩:=List.cons.inj ((oV (k+1) m h7).symm.trans HX.o.1)
    subst hx ht;have hxm:m % 128=m:=ae
    have hO:=Az part (m % 128) j ae p0 p1 ae  ae  ae
    rw[hxm] at hO;rw[<-hzz.o] at hO;have HO:=aI hO;have h7':decide ((127:Int)<m)=false:=decide_eq_false h7;have hZ9:a+(j+1)=Z:=by
     have h1:=hdr.o.2;rw[HX.o.1,aU,bC] at h1;omega
    have EX:Hid (IntKind.u64.wrap m=m):=aI (by rw[fF];omega)
    have hle:part+128 ^ j * m=z:=hzz.o.symm;have a7':bits .and .u8 m 127=m:=by rw[a7,hxm]
    have o7:=HO.o;have TAIL:Hid (∀nn:Nat,dU ((w.drewN nn).setCell ⟨g,1,none⟩ (.int .i64 ((a+(j+1):Nat):Int))) g bs Z/\Touch (fun k=>k=g) w ((w.drewN nn).setCell ⟨g,1,none⟩ (.int .i64 ((a+(j+1):Nat):Int)))):=aI (fun nn=>by
     refine⟨?_,pF w _ g 1 _⟩
     rw[hZ9];exact(H.o.drewN _).put Z HL)
    have hub:=HUB.o
    by_cases hm0:m=0
    ·have hj0:decide (0<j)=false:=decide_eq_false (by have:=hmj hm0;omega)
     have bx3:(m == 0)=true:=by simpa using hm0
     clear hO m1 p1 p0 m0 aj0 aj1 dge ajt hab hmj hj x0 x1 hpw h7 hxm hle a7 hZ9 hm0;have ex:=EX.o
     go_upto_region 11 with fail;clear a7' ex
     go_upto_region 14 with fail;obtain⟨l1,l2⟩:=E1.o
     go_wp2_with fail;refine((CU.o _)).mono ?_
     rintro e w' ⟨rfl,rfl⟩;clear l1 l2
     go_wp2_with fail
     go_ret2
     exact⟨rfl,TAIL.o _⟩
    ·have bx3:(m == 0)=false:=by simpa using hm0
     clear hO m1 p1 p0 m0 aj0 aj1 dge ajt hab hmj hj x0 x1 hpw h7 hxm hle a7 hZ9 hm0;have ex:=EX.o
     go_upto_region 11 with fail;clear a7' ex
     go_upto_region 14 with fail;obtain⟨l1,l2⟩:=E1.o
     go_wp2_with fail;refine((CU.o _)).mono ?_
     rintro e w' ⟨rfl,rfl⟩;clear l1 l2
     go_wp2_with fail
     go_ret2
     exact⟨rfl,TAIL.o _⟩
open Tryz
open Go.RowKit Go.Maps
theorem bd2:prog.underlying 191=some (.map 3 46):=by kernel_rfl
theorem bd3:prog.underlying 3=some (.int .i64):=by kernel_rfl
theorem bd4:prog.underlying 46=some (.int .u64):=by kernel_rfl
theorem ap6:Keyed prog 3:=int_keyed bd3
theorem bn0(w:World):(zeroValue 46).run prog w=.ok (.int .u64 0) w:=by kernel_rfl
def lM(w:World)(b:Nat)(l:List Pr):Prop:=∃D,w.ownsMap prog 3 (plainElem (H:=Unit) prog 46) b l.length D/\LkD D l
section
variable {w w' : World} {b : Nat} {l : List Pr}
variable{k:Int}
theorem lM.stay(h:lM w b l)(hk:w'.heap[b]?=w.heap[b]?):lM w' b l:=by
 obtain⟨D,⟨es,clock,hb,r⟩,hD⟩:=h;exact⟨D,⟨es,clock,hk.trans hb,r⟩,hD⟩
theorem lM.lt(h:lM w b l):b<w.heap.size:=by
 obtain⟨D,h,_⟩:=h;exact h.lt
theorem lM.keep(h:lM w b l)(hb:Below w.heap.size w w'):lM w' b l:=h.stay (hb.block b h.lt)
theorem bd5(w:World):lM (w.alloc (.map #[] 0)) w.heap.size []:=⟨_,World.ownsMap_made w _ _ _,ba9⟩
theorem lM.ne(h:lM w b l){g:Nat}{T:TypeId}{cs:Array Value}(hB:dK w g T cs):b≠g:=by
 rintro rfl;obtain⟨D,⟨es,clock,hb,_⟩,_⟩:=h;unfold dK at hB;rw[hb] at hB;cases hB
theorem ab7{n:Nat}{D:DataW Unit}(h:w.ownsMap prog 3 (plainElem (H:=Unit) prog 46) b n D)(hD:LkD D l):lM w b l:=by
 obtain⟨es,clock,hb,F,_,e⟩:=h;refine⟨D,⟨es,clock,hb,F,?_,e⟩,hD⟩
 have h1:=hD.sz;rw[e] at h1;rw[<-h1];show es.size<=List.length _
 rw[length_read];exact aS _
theorem ab8(k0:-9223372036854775808<=k)(k1:k<=9223372036854775807):keyOf prog 3 (.int .i64 k)=some (iL k):=keyOf_int_mk bd3 (WalkArith.wf_i64 ⟨k0,k1⟩)
theorem lM.look(h:lM w b l)(k0:-9223372036854775808<=k)(k1:k<=9223372036854775807):(Instr.lookup 191 (.map (some b)) (.int .i64 k) false).run prog w=.ok (.int .u64 (lS l k)) w:=by
 obtain⟨D,h,hD⟩:=h;obtain⟨c,hr,hat,_⟩:=h.lookup_int ap6 bd2 bd4 (bn0 w) (ab8 k0 k1);rw[hD.get k] at hat
 cases hat
 exact hr
theorem lM.upd(h:lM w b l)(s:gU l)(hp:gK l)(hl:l.length<=1000000000){n:Int}(k0:-9223372036854775808<=k)(k1:k<=9223372036854775807)(n0:0<n)(n1:lS l k+n<=18446744073709551615) :
 ∃w',(Instr.mapUpdate 191 (.map (some b)) (.int .i64 k) (.int .u64 (lS l k+n))).run prog w=.ok () w'/\lM w' b (gz k n l)/\w.grownBy w' (some b):=by
 obtain⟨D,h,hD⟩:=h;have hc:=jZ (k:=k) hp;obtain⟨w',h1,h2,h3⟩:=h.update ap6 bd2 (by unfold maxLen;omega) (ab8 k0 k1) (plainElem_int bd4 (WalkArith.wf_u64 ⟨by omega,n1⟩))
 exact⟨w',h1,ab7 h2 (hD.put s hp k n n0),h3⟩
theorem Jr{F:Ft}(hF:F b)(hg:w.grownBy w' (some b)):Touch F w w':=⟨hg.os,hg.tape,hg.output,hg.size,fun k hk hn=>hg.block k hk (fun e=>by cases e;exact hn hF)⟩
theorem upL{ops:Array Oper}{rest:List Oper}{o:Oper}{a:Act}{Q:Exit->Act->World->Prop}(hgd:o.guard=none)(m x v:Operand)(hop:o.op=Op.mapUpdate 191 m x v)
 (h:lM w b l) (s:gU l) (hp:gK l) (hl:l.length<=1000000000) {n:Int} (k0:-9223372036854775808<=k) (k1:k<=9223372036854775807) (n0:0<n) (n1:lS l k+n<=18446744073709551615)
 (hm:a.eval m=.map (some b)) (hx:a.eval x=.int .i64 k) (hv:a.eval v=.int .u64 (lS l k+n))
 (hK:∀w',lM w' b (gz k n l)->w.grownBy w' (some b)->wpList prog ops Q rest (a.put o.dst undef) w'):wpList prog ops Q (o::rest) a w:=by
 refine wpList_plain hgd fun K' hK'=>?_
 obtain⟨w',hrun,r1,r2⟩:=h.upd s hp hl k0 k1 n0 n1;unfold Oper.wp;simp[execOp,hop,hm,hx,hv,hrun,Result.andThen]
 exact hK' _ _ (hK w' r1 r2)
end
open Tryz
open Go.RowKit Go.Lib Go.Shelf
section
variable {g u m : Nat} {lo hi dg : Int} {w : World}
theorem ab9(n:Nat)(h:nX w g lo hi dg u m)(hu:u+m<=62)(n0:1<=n)(n1:n<=64):aH 258 #[.pointer (some ⟨g,0,none⟩),.int .i64 n] w (aG w (.int .i64 (uG u m n))):=by
 have HT:Hid (uG u m n=if 63<=n - 1+u+m then 9223372036854775807 else 2 ^ (n - 1+u+m) - 1):=aI rfl
 rw[HT.o];obtain⟨k,rfl⟩:∃k,n=k+1:=⟨n - 1,ae⟩
 simp only[Nat.add_sub_cancel] at HT |-;obtain⟨t,ht⟩:=aF (k+u);obtain⟨s,hs⟩:=aF (k+u+m);have e1:IntKind.i64.wrap ((k:Int)+(u:Int))=(t:Int):=ak
 have e2:IntKind.i64.wrap ((t:Int)+(m:Int))=(s:Int):=ak
 have ek:IntKind.i64.wrap (k:Int)=(k:Int):=ak
 have em:max ((k:Int)+1) 1=(k:Int)+1:=ae
 have em2:min ((k:Int)+1) 64=(k:Int)+1:=ae
 rw[hs];have k3:=dK.cell h 3;have k4:=dK.cell h 4;simp only[aK,aJ,aN] at k3 k4
 by_cases h63:63<=s
 ·have hge:(63:Int)<=(s:Int):=ae
  rw[if_pos h63];clear HT ht hs h
  go_enter func258,ntmps258
  go_upto_region 2 with fail
  go_quiet (fail)
  go_wp2_with fail
  go_ret;exact⟨by simp,below_drewN (aO _ _) _⟩
 ·have hge:¬(63:Int)<=(s:Int):=ae
  rw[if_neg h63];have hp:2 ^ s<=4611686018427387904:=(pW ae :2 ^ s<=2 ^ 62)
  have h0:=Nat.two_pow_pos s;have hp':=hp;obtain⟨P,hP⟩:=aF (2 ^ s);have hPI:((2:Int) ^ s)=(P:Int):=by rw[<-hP];simp
  rw[hP] at h0 hp' |-;have eP1:IntKind.i64.wrap ((P:Int) - 1)=(P:Int) - 1:=ak
  have Xp:(((P - 1:Nat)):Int)=(P:Int) - 1:=ae
  have eP:wrap64 (P:Int)=(P:Int):=by clear e1 e2 ek em em2 eP1 Xp hge;unfold wrap64;omega
  rw[Xp];clear HT ht hs hp Xp hP
  go_enter func258,ntmps258
  go_upto_region 2 with fail
  go_quiet (fail)
  obtain⟨w2,hw2⟩:∃x,w.drewN nq=x:=⟨_,rfl⟩;have B2:Below w.heap.size w w2:=by rw[<-hw2];exact below_drewN (aO _ _) _
  have k3':w2.cell? ⟨g,3,none⟩=some (.int .i64 u):=by rw[<-hw2];exact k3
  have k4':w2.cell? ⟨g,4,none⟩=some (.int .i64 m):=by rw[<-hw2];exact k4
  rw[hw2];clear hw2 k3 k4;have k3:=k3';have k4:=k4';have hg2:g<w2.heap.size:=by have:=dK.lt h;have:=B2.size;omega
  clear k3 k4;have HI:=aI (aP hPI (aP eP eP1));clear hPI eP eP1
  go_upto_region 4 with fail;refine jh (Below w2.heap.size w2) (dV 0 15 []) ((aO _ _).drew) ?_
  iterate 15 refine eQ (h:=fun w' hS'=>by have k3:=(hS'.cell (p:=⟨g,3,none⟩) hg2).trans k3';have k4:=(hS'.cell (p:=⟨g,4,none⟩) hg2).trans k4';obtain⟨i1,i2,i3⟩:=HI.o;go_simp;exact⟨rfl,rfl⟩) ?_
  refine dJ ?_
  go_wp2_with fail
  go_ret;have i0:IntKind.i64.wrap (P:Int)=(P:Int):=(aW _).trans ae
  refine⟨?_,B2.drew⟩
  show Ending.returned (Value.int .i64 (IntKind.i64.wrap (IntKind.i64.wrap (P:Int) - 1)))=Ending.returned (Value.int .i64 ((P:Int) - 1))
  rw[i0,HI.o.2.2]
end
end Go.Proofs.YtilcnjbpmoijmaaGreat.D
