/- Parts of a proof. No condition. -/
import Derived.Test.YtilcnjbpmoijmaaGreatPw10
set_option maxRecDepth 100000
set_option maxHeartbeats 16000000
set_option linter.unusedVariables false
set_option linter.unusedSimpArgs false
namespace Go.Proofs.YtilcnjbpmoijmaaGreat
open Tryz
open Go.RowKit
def FM(K:List Nat)(a0:Act)(X:List PanicEntry->World->Prop)(Q:Exit->Act->World->Prop):Exit->Act->World->Prop
 | .panic c,a,w=>(∀t∈K,a.tmps[t]?=a0.tmps[t]?)/\a.defers=a0.defers/\X c w
 | e,a,w=>Q e a w
def Eg(K:List Nat)(o:Oper):Bool:=match o.dst with
 | some t=>!K.contains t
 | none=>true
theorem FM.put{K:List Nat}{a0:Act}{X:List PanicEntry->World->Prop}{Q:Exit->Act->World->Prop}{o:Oper}(h:Eg K o=true){c:List PanicEntry}{a:Act}{w:World}{v:Value}(hp:FM K a0 X Q (.panic c) (a.put o.dst v) w):FM K a0 X Q (.panic c) a w:=by
 obtain⟨h1,h2,h3⟩:=hp;unfold Eg at h;unfold Act.put at h1 h2
 cases hd:o.dst with
 | none=>rw[hd] at h1 h2;exact⟨h1,h2,h3⟩
 | some t=>
  rw[hd] at h h1 h2;refine⟨fun s hs=>?_,h2,h3⟩
  have:=h1 s hs;have hne:t≠s:=by rintro rfl;simp at h;exact h hs
  simp only[Array.getElem?_setIfInBounds_ne hne] at this;exact this
section
variable {P : Program} {ops : Array Oper} {md : Region.Mode} {S : World -> Prop} {Q : Exit -> Act -> World -> Prop} {K : List Nat} {a0 : Act} {X : List PanicEntry -> World -> Prop}
def xU(md:Region.Mode)(K:List Nat)(ops:Array Oper):List (Nat × Bool)->Array Bool->Bool
 | [],listed=>(Region.ready md ops listed).isEmpty
 | (i,true)::r,listed=>(Region.ready md ops listed).contains i && Region.free md ops listed i && ((ops[i]?).map (Eg K)).getD false && xU md K ops r (listed.setIfInBounds i true)
 | (i,false)::r,listed=>decide (Region.ready md ops listed=[i]) && xU md K ops r (listed.setIfInBounds i true)
theorem uY(hsel:Region.noSelect ops=true):∀(l:List (Nat × Bool)) (listed:Array Bool) (a:Act) (w:World),xU md K ops l listed=true->S w ->
 jc P ops (FM K a0 X Q) S l a w->wpAnyH P md ops (FM K a0 X Q) S l.length listed a w
 | [],listed,a,w,hB,_,h=>⟨by simpa[xU] using hB,h⟩
 | (i,true)::r,listed,a,w,hB,hS,h=>by
  simp only[xU,Bool.and_eq_true] at hB;obtain⟨⟨⟨h1,h2⟩,h3⟩,h4⟩:=hB;obtain⟨o,v,ho,hy,hn⟩:=h;have hd:Eg K o=true:=by rw[ho] at h3;simpa using h3
  exact wpAnyH_take ho hsel h2 h1 (fun c a w hp=>FM.put hd hp) hy hS (uY hsel r _ _ w h4 hS hn)
 | (i,false)::r,listed,a,w,hB,hS,h=>by
  simp only[xU,Bool.and_eq_true,decide_eq_true_eq] at hB;refine⟨fun h0=>(by rw[hB.1] at h0;cases h0),fun j hj=>?_⟩
  rw[hB.1] at hj;have hji:j=i:=by simpa using hj
  subst hji;exact wpOp_mono (fun a' w' h'=>⟨h'.1,uY hsel r _ a' w' hB.2 h'.1 h'.2⟩) h
theorem nU{id:Nat}{a:Act}{w:World}(K:List Nat)(X:List PanicEntry->World->Prop)(S:World->Prop)(l:List (Nat × Bool))(hm:P.follows .mixedOrders=true)
 (hB:(Region.noSelect ops && decide (l.length=ops.size) && xU .any K ops l (Array.replicate ops.size false))=true)
 (hX:∀c a' w',(∀t∈K,a'.tmps[t]?=a.tmps[t]?)->a'.defers=a.defers->X c w'->Q (.panic c) a' w')
 (hS:S w.drew) (h:jc P ops (FM K a X Q) S l a w.drew):(Code.region id ops true).wp P Q a w:=by
 simp only[Bool.and_eq_true,decide_eq_true_eq] at hB;have H:=uY (Q:=Q) hB.1.1 l _ a _ hB.2 hS h;rw[hB.1.2] at H;refine Code.wp_mono (fun e a' w' hq=>?_) (wp_region_any hm (wpAny_of_held _ _ _ _ H))
 cases e with
 | panic c=>exact hX c a' w' hq.1 hq.2.1 hq.2.2
 | _=>exact hq
end
open Tryz
section
open Go.RowKit Go.Lib
def am7(e:Ending):Prop:=∃n:Int,e=.panicked [{v:=.iface 381 (.agg #[.int .i64 n]),recovered:=false}]
def fU{α:Type}(x:Option (α × List Int))(val:α->World->Value->Prop)(w:World)(g:Nat)(bs:List Int)(e:Ending)(w':World):Prop:=
 match x with
 | some p=>∃v,e=.returned v/\val p.1 w' v/\dU w' g bs (bs.length - p.2.length)/\Touch (fun k=>k=g) w w'
 | none=>am7 e/\Touch (fun k=>k=g) w w'
theorem UU(c:Int)(f:Int->Int)(g:Nat)(bs:List Int)(a:Nat)(w:World)(h:dU w g bs a)
 (hn:∀w,dU w g bs a->aH 267 #[.pointer (some ⟨g,0,none⟩),.int .u8 c] w (nM w g bs a f)) :
 aH 286 #[.agg #[.pointer (some ⟨g,0,none⟩)],.int .u8 c] w (fU (dW (bs.drop a)) (fun n _ v=>v=.int .u64 (f n)) w g bs):=by
 have H:=aI h;have HN:=aI hn;have hb1:Below w.heap.size w (w.alloc (.cells #[.pointer (some ⟨g,0,none⟩)] 383)):=(aO _ _).alloc (aS _) _;have hlt:=h.lt;clear h hn
 go_enter func286,ntmps286
 go_wp2_with fail;refine(HN.o _ (H.o.keep hb1)).mono ?_
 intro e w2 hg;unfold nM at hg
 cases hu:dW (bs.drop a) with
 | none=>
  simp only[hu] at hg;have HU:=aI hu;obtain⟨er,rfl,h2,h3,h4⟩:=hg;have hne:(er != 0)=true:=by rcases h2 with rfl|rfl<;>rfl
  have T4:=aI h4;have H3:=aI h3;have c0:w2.cell? ⟨w.heap.size,0,none⟩=some (.pointer (some ⟨g,0,none⟩)):=(cZ (a:=⟨w.heap.size,0,none⟩) (h4.block w.heap.size ag ae)).trans (by simp[World.cell?_alloc_new])
  clear hu h2 h3 h4
  go_wp2_with fail;refine(yY g bs a w2 H3.o).mono ?_
  rintro e w' ⟨rfl,rfl⟩
  go_wp2_with fail;refine⟨rfl,?_⟩
  unfold fU;rw[HU.o];exact⟨⟨_,rfl⟩,(Touch.of_below hb1 (aS _)).trans T4.o (fun i hi=>.inl hi)⟩
 | some p=>
  simp only[hu] at hg;have HU:=aI hu;obtain⟨rfl,h3,h4⟩:=hg;have T4:=aI h4;have H3:=aI h3;clear hu h3 h4
  go_wp2_with fail
  go_ret;unfold fU;rw[HU.o];exact⟨_,rfl,rfl,H3.o,(Touch.of_below hb1 (aS _)).trans T4.o (fun i hi=>.inl hi)⟩
theorem lQ(g:Nat)(bs:List Int)(a:Nat)(w:World)(h:dU w g bs a)(hb:iD bs)(hlen:bs.length<=1000000000000) :
 aH 286 #[.agg #[.pointer (some ⟨g,0,none⟩)],.int .u8 118] w (fU (dW (bs.drop a)) (fun n _ v=>v=.int .u64 n) w g bs):=
 UU 118 id g bs a w h (fun w h=>sJ g bs a w h hb hlen)
theorem pG(g:Nat)(bs:List Int)(a:Nat)(w:World)(h:dU w g bs a)(hb:iD bs)(hlen:bs.length<=1000000000000) :
 aH 286 #[.agg #[.pointer (some ⟨g,0,none⟩)],.int .u8 122] w (fU (dW (bs.drop a)) (fun n _ v=>v=.int .u64 (ub (lC n))) w g bs):=
 UU 122 (fun n=>ub (lC n)) g bs a w h (fun w h=>xR g bs a w h hb hlen)
theorem NC(g:Nat)(bs:List Int)(a:Nat)(w:World)(h:dU w g bs a)(hb:iD bs)(hlen:bs.length<=1000000000000) :
 aH 338 #[.agg #[.pointer (some ⟨g,0,none⟩)]] w (fU (ik (bs.drop a)) (fun n _ v=>v=.int .i64 n) w g bs):=by
 have hb1:Below w.heap.size w (w.alloc (.cells #[.pointer (some ⟨g,0,none⟩)] 383)):=(aO _ _).alloc (aS _) _;have H:=aI (h.keep hb1);have hlt:=h.lt;have hal:a<=bs.length:=by obtain⟨v,_,_,h3⟩:=h;exact h3
 have HB:=aI hb;clear h hb
 go_enter func338,ntmps338
 go_wp2_with fail;refine(lQ g bs a _ H.o HB.o hlen).mono ?_
 intro e w2 hg;unfold fU at hg
 cases hu:dW (bs.drop a) with
 | none=>
  simp only[hu] at hg;have HU:Hid (ik (bs.drop a)=none):=aI (by unfold ik;rw[hu])
  obtain⟨⟨pv,rfl⟩,h4⟩:=hg;have T4:=aI h4;clear hu h4
  go_wp2_with fail;refine⟨rfl,?_⟩
  unfold fU;rw[HU.o];exact⟨⟨_,rfl⟩,(Touch.of_below hb1 (aS _)).trans T4.o (fun i hi=>.inl hi)⟩
 | some p=>
  obtain⟨n,r⟩:=p;have pb:=gY (HB.o.drop a) hu;have pl:=(lD hu).1;rw[bu] at pl;simp only[hu] at hg pb pl;obtain⟨v,rfl,rfl,h3,h4⟩:=hg;have c0:w2.cell? ⟨w.heap.size,0,none⟩=some (.pointer (some ⟨g,0,none⟩)):=(cZ (a:=⟨w.heap.size,0,none⟩) (h4.block w.heap.size ag ae)).trans (by simp[World.cell?_alloc_new])
  have T4:=aI h4;have H3:=aI h3;have hr:((bs.length:Int) - ((bs.length - r.length:Nat):Int))=(r.length:Int):=ae
  have CL:=mX g bs (bs.length - r.length) w2 h3 hlen;rw[hr] at CL;have CL':=aI CL;clear CL h3 h4 hr;have hrn:(r.length:Int)<18446744073709551616:=ae
  by_cases h1:n<=65536
  ·have d1:decide ((65536:Int)<n)=false:=decide_eq_false ae
   by_cases h2:n<=r.length
   ·have HU:Hid (ik (bs.drop a)=some (n.toNat,r)):=aI (by unfold ik;rw[hu];simp only;rw[if_pos ⟨h1,h2⟩])
    have d2:decide ((r.length:Int)<n)=false:=decide_eq_false ae
    have HE:=aI (show((n.toNat:Nat):Int)=n by omega)
    clear hu
    go_wp2_with (go_at_call 283;refine(CL'.o).mono ?_;rintro e w' ⟨rfl,q,rfl⟩)
    go_ret;unfold fU;rw[HU.o];refine⟨_,rfl,?_,H3.o.drewN _,((Touch.of_below hb1 (aS _)).trans T4.o (fun i hi=>.inl hi)).drewN _⟩
    simp only;rw[HE.o];rfl
   ·have HU:Hid (ik (bs.drop a)=none):=aI (by unfold ik;rw[hu];simp only;rw[if_neg ae])
    have d2:decide ((r.length:Int)<n)=true:=decide_eq_true ae
    clear hu
    go_wp2_with (first|(go_at_call 283;refine(CL'.o).mono ?_;rintro e w' ⟨rfl,q,rfl⟩)|(go_at_call 268;refine(yY g bs _ _ (H3.o.drewN _)).mono ?_;rintro e w' ⟨rfl,rfl⟩))
    refine⟨rfl,?_⟩
    unfold fU;rw[HU.o];exact⟨⟨_,rfl⟩,((Touch.of_below hb1 (aS _)).trans T4.o (fun i hi=>.inl hi)).drewN _⟩
  ·have d1:decide ((65536:Int)<n)=true:=decide_eq_true ae
   have HU:Hid (ik (bs.drop a)=none):=aI (by unfold ik;rw[hu];simp only;rw[if_neg ae])
   clear hu
   go_wp2_with (go_at_call 268;refine(yY g bs _ _ H3.o).mono ?_;rintro e w' ⟨rfl,rfl⟩);refine⟨rfl,?_⟩
   unfold fU;rw[HU.o];exact⟨⟨_,rfl⟩,(Touch.of_below hb1 (aS _)).trans T4.o (fun i hi=>.inl hi)⟩
end
section
open Go.RowKit Go.Lib
variable{b g k:Nat}{w w':World}{u v:Value}{bs l:List Int}{acc:List Mn}{T:Option (List Mn × List Int)}{x:Mn × List Int}
theorem fA.away{base:Nat}{l:List Mn}(h:fA base w v l)(ht:Touch (fun k=>k=g) w w')(hg:g<base):fA base w' v l:=
 h.stay fun k e=>ht.block k (h.lt k e).2 (fun e2=>by have:=(h.lt k e).1;omega)
theorem OwnB.bv6{b':Nat}{l:List Mn}(h:OwnB b w v bs)(ho:fA b' w u l)(hk:v.ownBlock=some k):u.ownBlock≠some k:=by
 intro e
 rcases h.2 with h2|⟨g1,cap,cur,rfl,e2,e3,r⟩
 ·rw[h2.1] at hk;cases hk
 ·rcases ho.2 with h4|⟨g2,cap2,xh,rfl,e5,e6,r2⟩
  ·rw[h4.1] at e;cases e
  ·cases hk
   cases e
   rw[e3] at e6
   cases e6
theorem dU.grown{a:Nat}{l:List Mn}(h:dU w g bs a)(ho:fA b w u l)(hg:w.grownBy w' u.ownBlock):dU w' g bs a:=by
 obtain⟨v,h1,h2,h3⟩:=h;exact⟨v,(hg.block g h1.lt (fun e=>h1.Aw ho af e.symm)).trans h1,dP.stay h2 (fun k hk=>hg.block k (dP.lt h2 k hk).2 (fun e=>h2.bv6 ho hk e.symm)),h3⟩
theorem ND(h:MO (k+1) acc l=T)(hx:jg (acc.getLast?.map (·.1)) l=some x):MO k (acc++[x.1]) x.2=T:=by
 rw[MO,hx] at h;exact h
theorem uZ(h:MO (k+1) acc l=T)(hx:jg (acc.getLast?.map (·.1)) l=none):T=none:=by
 rw[MO,hx] at h;exact h.symm
theorem Zy(h:MP (k+1) acc l=T)(hx:jg none l=some x):MP k (acc++[x.1]) x.2=T:=by
 rw[MP,hx] at h;exact h
theorem NG(h:MP (k+1) acc l=T)(hx:jg none l=none):T=none:=by
 rw[MP,hx] at h;exact h.symm
theorem NH(g:Nat)(bs:List Int)(a:Nat)(w:World)(h:dU w g bs a)(hb:iD bs)(hlen:bs.length<=1000000000000) :
 aH 288 #[.agg #[.pointer (some ⟨g,0,none⟩)]] w (fU (kN (bs.drop a)) (fun l w' v=>fA w.heap.size w' v l) w g bs):=by
 have hb1:Below w.heap.size w (w.alloc (.cells #[.pointer (some ⟨g,0,none⟩)] 383)):=(aO _ _).alloc (aS _) _;have H:=aI (h.keep hb1);have hlt:=h.lt;have HB:=aI hb;clear h hb
 go_enter func288,ntmps288
 go_wp2_with fail;refine(NC g bs a _ H.o HB.o hlen).mono ?_
 intro e w2 hg;unfold fU at hg
 cases hu:ik (bs.drop a) with
 | none=>
  simp only[hu] at hg;have HU:Hid (kN (bs.drop a)=none):=aI (by unfold kN;rw[hu])
  obtain⟨⟨pv,rfl⟩,h4⟩:=hg;have T4:=aI h4;clear hu h4
  go_wp2_with fail;refine⟨rfl,?_⟩
  unfold fU;rw[HU.o];exact⟨⟨_,rfl⟩,(Touch.of_below hb1 (aS _)).trans T4.o (fun i hi=>.inl hi)⟩
 | some p=>
  obtain⟨n,r⟩:=p;simp only[hu] at hg;obtain⟨v,rfl,rfl,h3,h4⟩:=hg;have hn:n<=65536/\bs.drop (bs.length - r.length)=r:=by
   unfold ik at hu
   cases hx:dW (bs.drop a) with
   | none=>rw[hx] at hu;cases hu
   | some q=>
    obtain⟨z,r'⟩:=q;rw[hx] at hu;simp only at hu
    split at hu
    ·rename_i hc
     simp only[bH,Prod.mk.injEq] at hu;obtain⟨rfl,rfl⟩:=hu;exact⟨by omega,f_ hx⟩
    ·cases hu
  obtain⟨hn1,hn2⟩:=hn;have T4:=aI (tt (Touch.of_below hb1 (aS _)) h4);have C0:Hid (w2.cell? ⟨w.heap.size,0,none⟩=some (.pointer (some ⟨g,0,none⟩))):=aI ((cZ (a:=⟨w.heap.size,0,none⟩) (h4.block w.heap.size ag ae)).trans (by simp[World.cell?_alloc_new]))
  have HH:Hid (w.heap.size<w2.heap.size):=aI (by have:=h4.size;simp at this;omega)
  obtain⟨T,hT⟩:=aF (kN (bs.drop a));have HT:=aI hT;have R0:Hid (MP n [] (bs.drop (bs.length - r.length))=T):=aI (by rw[hn2,<-hT];unfold kN;rw[hu])
  have H3:=aI h3;clear hu hT h3 h4 hn2;generalize bs.length - r.length=a1 at *
  go_wp2_with fail
  go_loopg [3,7] n (fun q v i wr=>∃(j a':Nat) (acc:List Mn),q=n - j/\j<=n/\i=.int .i64 j/\acc.length=j/\fA w2.heap.size wr v acc/\Hid (dU wr g bs a')/\Hid (MP (n - j) acc (bs.drop a')=T)/\Hid (Touch (fun k=>k=g) w2 wr))
  case atStart=>exact⟨0,a1,[],rfl,ae,rfl,rfl,fA.nil_ _ _,H3,R0,aI (Touch.refl _ _)⟩
  case round=>
   obtain⟨j,a',acc,hq,hj,rfl,hacc,ho,hr,hs,ht⟩:=hrel;have HQ:=aI hq;have HO:=aI ho;have bv7:=aI hacc;have hal:acc.length+1<=1099511627776:=ae
   have cb:=(ht.o.cell (o:=0) HH.o ae).trans C0.o
   have CB:=aI cb;have hzr:=ht.o.size;have hwr:w.heap.size<wr.heap.size:=by have:=HH.o;omega
   have hg2:g<w2.heap.size:=by have:=HH.o;omega
   clear hq ho hacc
   by_cases hlt2:j<n
   ·have hs':=hs.o
    rw[show n - j=(n - (j+1))+1 by omega] at hs'
    have HS:=aI hs';clear hs'
    go_wp2_with fail;refine(pG g bs a' wr hr.o HB.o hlen).mono ?_
    intro e w3 hg;unfold fU at hg
    cases hA:dW (bs.drop a') with
    | none=>
     simp only[hA] at hg;have HU:Hid (T=none):=aI (NG HS.o (by unfold jg;rw[hA]))
     obtain⟨⟨pv,rfl⟩,h4⟩:=hg;have T5:=aI h4;clear hA h4 cb
     go_wp2_with fail;refine⟨rfl,?_⟩
     unfold fU;rw[HT.o,HU.o];exact⟨⟨_,rfl⟩,tt (tt T4.o ht.o) T5.o⟩
    | some p=>
     obtain⟨z,r1⟩:=p;simp only[hA] at hg;obtain⟨v,rfl,rfl,h3,h4⟩:=hg;have zb:=gY (HB.o.drop a') hA;have zu:=xK zb.1 zb.2;have zw:=aI (qB zu.1 zu.2);have E1:=aI (f_ hA);have HA:=aI hA;have cb3:=(h4.cell (o:=0) hwr ae).trans CB.o
     have CB3:=aI cb3;have T5:=aI h4;have R3:=aI h3;have hz3:=h4.size;clear hA h3 h4 cb zb;simp only;generalize bs.length - r1.length=a2 at *
     go_wp2_with fail;refine(lQ g bs a2 w3 R3.o HB.o hlen).mono ?_
     intro e w4 hg;unfold fU at hg
     cases hA2:dW (bs.drop a2) with
     | none=>
      simp only[hA2] at hg;have HU:Hid (T=none):=aI (NG HS.o (by unfold jg;rw[HA.o];simp only[Wu];rw[<-E1.o,hA2]))
      obtain⟨⟨pv,rfl⟩,h4⟩:=hg;have T6:=aI h4;clear hA2 h4 cb3
      go_wp2_with fail;refine⟨rfl,?_⟩
      unfold fU;rw[HT.o,HU.o];exact⟨⟨_,rfl⟩,tt (tt (tt T4.o ht.o) T5.o) T6.o⟩
     | some p=>
      obtain⟨y,r2⟩:=p;simp only[hA2] at hg;obtain⟨v,rfl,rfl,h3,h4⟩:=hg;have HN:=aI (Zy HS.o (x:=((lC z,y),r2)) (by unfold jg;rw[HA.o];simp only[Wu];rw[<-E1.o,hA2]))
      have E2:=aI (f_ hA2);have T6:=aI h4;have R4:=aI h3;have oC:=h4.size;have O4:=aI ((HO.o.away T5.o hg2).away T6.o hg2);have hzw:=zw.o;clear hA2 h3 h4 cb3
      go_wp2_with (first
       | (at_builtin
          go_must (refine iZ rfl (.tmp 12) (.tmp 17) rfl w2.heap.size u3 acc rfl (O4.o.alloc _) _ [(lC z,y)] rfl (qw.one _ (lC z,y)) hal (by simp only[aV];omega) ?_)
          intro v5 w5 o5 g5 a5;have T7:Hid (Touch (fun k=>k=g) w2 w5):=aI (((tt (tt ht.o T5.o) T6.o).alloc _).grown g5 (fun k hk=>.inr (O4.o.lt k hk).1))
          have R5:Hid (dU w5 g bs (bs.length - r2.length)):=aI ((R4.o.keep ((aO _ _).alloc (aS _) _)).grown (O4.o.alloc _) g5);have O5:=aI o5;clear o5 g5 a5))
      go_roundg (n - (j+1))
      case measure=>have:=HQ.o;omega
      case rel=>exact⟨j+1,bs.length - r2.length,acc++[(lC z,y)],rfl,ae,ai,by simp[bv7.o],O5.o,R5,aI (by rw[E2.o];exact HN.o),T7⟩
   ·have hE:j=n:=ae
    subst hE;rw[Nat.sub_self] at hs;have HU:Hid (T=some (acc,bs.drop a')):=aI (by rw[<-hs.o];rfl)
    have hal2:bs.length - (bs.drop a').length=a':=by
     obtain⟨v,_,_,h3⟩:=hr.o;rw[bu];omega
    have HA2:=aI hal2;clear hal2 cb
    go_wp2_with fail
    go_ret;unfold fU;rw[HT.o,HU.o];exact⟨_,rfl,HO.o.more (by have:=HH.o;omega),by simp only;rw[HA2.o];exact hr.o,tt T4.o ht.o⟩
end
section
open Go.RowKit Go.Lib
def okV(l:List Mn):Prop:=∀m∈l,-9223372036854775808<=m.1/\m.1<=9223372036854775807
theorem okV.snoc{l:List Mn}{m:Mn}(h:okV l)(hm:-9223372036854775808<=m.1/\m.1<=9223372036854775807):okV (l++[m]):=fun x hx=>by
 rcases dB.1 hx with hx|hx
 ·exact h x hx
 ·simp only[List.mem_singleton] at hx;subst hx;exact hm
theorem Q7(g:Nat)(bs:List Int)(a:Nat)(w:World)(h:dU w g bs a)(hb:iD bs)(hlen:bs.length<=1000000000000) :
 aH 287 #[.agg #[.pointer (some ⟨g,0,none⟩)]] w (fU (jT (bs.drop a)) (fun l w' v=>fA w.heap.size w' v l) w g bs):=by
 have hb1:Below w.heap.size w (w.alloc (.cells #[.pointer (some ⟨g,0,none⟩)] 383)):=(aO _ _).alloc (aS _) _;have H:=aI (h.keep hb1);have hlt:=h.lt;have HB:=aI hb;clear h hb
 go_enter func287,ntmps287
 go_wp2_with fail;refine(NC g bs a _ H.o HB.o hlen).mono ?_
 intro e w2 hg;unfold fU at hg
 cases hu:ik (bs.drop a) with
 | none=>
  simp only[hu] at hg;have HU:Hid (jT (bs.drop a)=none):=aI (by unfold jT;rw[hu])
  obtain⟨⟨pv,rfl⟩,h4⟩:=hg;have T4:=aI h4;clear hu h4
  go_wp2_with fail;refine⟨rfl,?_⟩
  unfold fU;rw[HU.o];exact⟨⟨_,rfl⟩,(Touch.of_below hb1 (aS _)).trans T4.o (fun i hi=>.inl hi)⟩
 | some p=>
  obtain⟨n,r⟩:=p;simp only[hu] at hg;obtain⟨v,rfl,rfl,h3,h4⟩:=hg;have hn:n<=65536/\bs.drop (bs.length - r.length)=r:=by
   unfold ik at hu
   cases hx:dW (bs.drop a) with
   | none=>rw[hx] at hu;cases hu
   | some q=>
    obtain⟨z,r'⟩:=q;rw[hx] at hu;simp only at hu
    split at hu
    ·rename_i hc
     simp only[bH,Prod.mk.injEq] at hu;obtain⟨rfl,rfl⟩:=hu;exact⟨by omega,f_ hx⟩
    ·cases hu
  obtain⟨hn1,hn2⟩:=hn;have T4:=aI (tt (Touch.of_below hb1 (aS _)) h4);have C0:Hid (w2.cell? ⟨w.heap.size,0,none⟩=some (.pointer (some ⟨g,0,none⟩))):=aI ((cZ (a:=⟨w.heap.size,0,none⟩) (h4.block w.heap.size ag ae)).trans (by simp[World.cell?_alloc_new]))
  have HH:Hid (w.heap.size<w2.heap.size):=aI (by have:=h4.size;simp at this;omega)
  obtain⟨T,hT⟩:=aF (jT (bs.drop a));have HT:=aI hT;have R0:Hid (MO n [] (bs.drop (bs.length - r.length))=T):=aI (by rw[hn2,<-hT];unfold jT;rw[hu])
  have H3:=aI h3;clear hu hT h3 h4 hn2;generalize bs.length - r.length=a1 at *
  go_wp2_with fail
  go_loopg [3,9] n (fun q v i wr=>∃(a':Nat) (acc:List Mn),q=n - acc.length/\acc.length<=n/\i=.int .i64 acc.length/\fA w2.heap.size wr v acc/\okV acc/\Hid (dU wr g bs a')/\Hid (MO (n - acc.length) acc (bs.drop a')=T)/\Hid (Touch (fun k=>k=g) w2 wr))
  case atStart=>exact⟨a1,[],rfl,ag,rfl,fA.nil_ _ _,(fun m hm=>by cases hm),H3,R0,aI (Touch.refl _ _)⟩
  case round=>
   obtain⟨a',acc,hq,hj,rfl,ho,hok,hr,hs,ht⟩:=hrel;have HQ:=aI hq;have HO:=aI ho;have xq:=aI hok;have hal:acc.length+1<=1099511627776:=ae
   have cb:=(ht.o.cell (o:=0) HH.o ae).trans C0.o
   have CB:=aI cb;have hzr:=ht.o.size;have hwr:w.heap.size<wr.heap.size:=by have:=HH.o;omega
   have hg2:g<w2.heap.size:=by have:=HH.o;omega
   clear hq hok
   by_cases hlt2:acc.length<n
   ·have hs':=hs.o
    rw[show n - acc.length=(n - (acc.length+1))+1 by omega] at hs'
    have HS:=aI hs';clear hs'
    rcases bQ acc.length with h0|h0
    ·obtain rfl:acc=[]:=bz h0
     clear ho;simp only[bC] at hlt2 |-;have z0:((0:Nat):Int)=0:=rfl;have hn0:(0:Int)<(n:Int):=ae
     rw[z0];clear z0
     go_wp2_with fail;refine(pG g bs a' wr hr.o HB.o hlen).mono ?_
     intro e w3 hg;unfold fU at hg
     cases hA:dW (bs.drop a') with
     | none=>
      simp only[hA] at hg;have HU:Hid (T=none):=aI (uZ HS.o (by simp only[List.getLast?_nil,Option.map_none];unfold jg;rw[hA]))
      obtain⟨⟨pv,rfl⟩,h4⟩:=hg;have T5:=aI h4;clear hA h4 cb
      go_wp2_with fail;refine⟨rfl,?_⟩
      unfold fU;rw[HT.o,HU.o];exact⟨⟨_,rfl⟩,tt (tt T4.o ht.o) T5.o⟩
     | some p=>
      obtain⟨z,r1⟩:=p;simp only[hA] at hg;obtain⟨v,rfl,rfl,h3,h4⟩:=hg;have zb:=gY (HB.o.drop a') hA;have zu:=xK zb.1 zb.2;have zw:=aI (qB zu.1 zu.2);have E1:=aI (f_ hA);have HA:=aI hA;have cb3:=(h4.cell (o:=0) hwr ae).trans CB.o
      have CB3:=aI cb3;have T5:=aI h4;have R3:=aI h3;have hz3:=h4.size;clear hA h3 h4 cb zb;simp only;generalize bs.length - r1.length=a2 at *
      go_wp2_with fail;refine(lQ g bs a2 w3 R3.o HB.o hlen).mono ?_
      intro e w4 hg;unfold fU at hg
      cases hA2:dW (bs.drop a2) with
      | none=>
       simp only[hA2] at hg;have HU:Hid (T=none):=aI (uZ HS.o (by simp only[List.getLast?_nil,Option.map_none];unfold jg;rw[HA.o];simp only[Wu];rw[<-E1.o,hA2]))
       obtain⟨⟨pv,rfl⟩,h4⟩:=hg;have T6:=aI h4;clear hA2 h4 cb3
       go_wp2_with fail;refine⟨rfl,?_⟩
       unfold fU;rw[HT.o,HU.o];exact⟨⟨_,rfl⟩,tt (tt (tt T4.o ht.o) T5.o) T6.o⟩
      | some p=>
       obtain⟨y,r2⟩:=p;simp only[hA2] at hg;obtain⟨v,rfl,rfl,h3,h4⟩:=hg;have HN:=aI (ND HS.o (x:=((lC z,y),r2)) (by simp only[List.getLast?_nil,Option.map_none];unfold jg;rw[HA.o];simp only[Wu];rw[<-E1.o,hA2]))
       have E2:=aI (f_ hA2);have T6:=aI h4;have R4:=aI h3;have oC:=h4.size;have O4:=aI ((HO.o.away T5.o hg2).away T6.o hg2);have hzw:=zw.o;have ZU:=aI zu;clear hA2 h3 h4 cb3
       go_wp2_with (first
        | (at_builtin
           go_must (refine iZ rfl (.tmp 42) (.tmp 47) rfl w2.heap.size u3 [] rfl (O4.o.alloc _) _ [(lC z,y)] rfl (qw.one _ (lC z,y)) hal (by simp only[aV];omega) ?_)
           intro v5 w5 o5 g5 a5;have T7:Hid (Touch (fun k=>k=g) w2 w5):=aI (((tt (tt ht.o T5.o) T6.o).alloc _).grown g5 (fun k hk=>.inr (O4.o.lt k hk).1))
           have R5:Hid (dU w5 g bs (bs.length - r2.length)):=aI ((R4.o.keep ((aO _ _).alloc (aS _) _)).grown (O4.o.alloc _) g5);have O5:=aI o5;clear o5 g5 a5))
       go_roundg (n - (0+1))
       case measure=>have:=HQ.o;simp only[bC] at this;omega
       case rel=>exact⟨bs.length - r2.length,[(lC z,y)],rfl,ah,rfl,O5.o,(fun m hm=>by simp only[List.mem_singleton] at hm;subst hm;exact ZU.o),R5,aI (by rw[E2.o];exact HN.o),T7⟩
    ·obtain⟨m,hm⟩:∃m,acc.length=m+1:=⟨acc.length - 1,ae⟩
     obtain⟨gl,cl,rfl,bv8,AQ,hcl,ce9⟩:=ho.pos h0;have hat:=ho.at_ (j:=m) (by omega)
     have hlast:acc.getLast?=some (acc[m]' ae):=by
      rw[List.getLast?_eq_getElem?,show acc.length - 1=m by omega]
      exact a_ ae
     have hqb:=xq.o (acc[m]' ae) (bf ae)
     have LA:=aI hlast;obtain⟨ql,hql⟩:=aF (acc[m]' ae )
     rw[hql] at hat hqb LA;have AT:=aI hat.1;have HM:=aI hm;rw[hm] at HO hcl hlt2 hal |-;rw[hm] at HQ;clear ho hat hlast hql hm h0;obtain⟨q,qn⟩:=ql;simp only at AT hqb;have HLQ:Hid (acc.getLast?.map (·.1)=some q):=aI (by rw[LA.o];rfl)
     have jne:(((m:Int)+1) == 0)=false:=beq_eq_false_iff_ne.2 ae
     have jn1:(m:Int)+1<(n:Int):=ae
     have q0:=hqb.1;have q1:=hqb.2;clear hqb LA
     go_wp2_with fail;refine(lQ g bs a' wr hr.o HB.o hlen).mono ?_
     intro e w3 hg;unfold fU at hg
     cases hA:dW (bs.drop a') with
     | none=>
      simp only[hA] at hg;have HU:Hid (T=none):=aI (uZ HS.o (by rw[HLQ.o];unfold jg;rw[hA]))
      obtain⟨⟨pv,rfl⟩,h4⟩:=hg;have T5:=aI h4;clear hA h4 cb
      go_wp2_with fail;refine⟨rfl,?_⟩
      unfold fU;rw[HT.o,HU.o];exact⟨⟨_,rfl⟩,tt (tt T4.o ht.o) T5.o⟩
     | some p=>
      obtain⟨z,r1⟩:=p;simp only[hA] at hg;obtain⟨v,rfl,rfl,h3,h4⟩:=hg;have zb:=gY (HB.o.drop a') hA;simp only at zb;have E1:=aI (f_ hA);have HA:=aI hA;have cb3:=(h4.cell (o:=0) hwr ae).trans CB.o
      have CB3:=aI cb3;have at3:=(h4.cell (o:=m * 2) AQ ae).trans AT.o
      have T5:=aI h4;have R3:=aI h3;have hz3:=h4.size;obtain⟨V,hV⟩:=aF (wrap64 ((ub q+z) % 18446744073709551616));have hVb:-9223372036854775808<=V/\V<=9223372036854775807:=by rw[<-hV];unfold wrap64;omega
      have hV2:wrap64 (IntKind.u64.wrap (IntKind.u64.wrap q+z))=V:=by rw[<-hV];simp only[fF,ub]
      have HV:=aI hV;have V0:=hVb.1;have V1:=hVb.2;clear hA h3 h4 cb hV hVb;generalize bs.length - r1.length=a2 at *
      by_cases hVq:V<q
      ·have HU:Hid (T=none):=aI (uZ HS.o (by rw[HLQ.o];unfold jg;rw[HA.o];simp only[Wu];rw[HV.o,if_pos hVq]))
       have dv:decide (V<q)=true:=decide_eq_true hVq
       go_wp2_with (go_at_call 268;refine(yY g bs _ _ R3.o).mono ?_;rintro e w' ⟨rfl,rfl⟩);refine⟨rfl,?_⟩
       unfold fU;rw[HT.o,HU.o];exact⟨⟨_,rfl⟩,tt (tt T4.o ht.o) T5.o⟩
      ·have dv:decide (V<q)=false:=decide_eq_false hVq
       go_wp2_with fail;refine(lQ g bs a2 w3 R3.o HB.o hlen).mono ?_
       intro e w4 hg;unfold fU at hg
       cases hA2:dW (bs.drop a2) with
       | none=>
        simp only[hA2] at hg;have HU:Hid (T=none):=aI (uZ HS.o (by rw[HLQ.o];unfold jg;rw[HA.o];simp only[Wu];rw[HV.o,if_neg ae];simp only;rw[<-E1.o,hA2]))
        obtain⟨⟨pv,rfl⟩,h4⟩:=hg;have T6:=aI h4;clear hA2 h4 cb3 at3
        go_wp2_with fail;refine⟨rfl,?_⟩
        unfold fU;rw[HT.o,HU.o];exact⟨⟨_,rfl⟩,tt (tt (tt T4.o ht.o) T5.o) T6.o⟩
       | some p=>
        obtain⟨y,r2⟩:=p;simp only[hA2] at hg;obtain⟨v,rfl,rfl,h3,h4⟩:=hg;have HN:=aI (ND HS.o (x:=((V,y),r2)) (by rw[HLQ.o];unfold jg;rw[HA.o];simp only[Wu];rw[HV.o,if_neg ae];simp only;rw[<-E1.o,hA2]))
        have E2:=aI (f_ hA2);have T6:=aI h4;have R4:=aI h3;have oC:=h4.size;have O4:=aI ((HO.o.away T5.o hg2).away T6.o hg2);clear hA2 h3 h4 cb3 at3
        go_wp2_with (first
         | (at_builtin
            go_must (refine iZ rfl (.tmp 42) (.tmp 47) rfl w2.heap.size (.slice (some ⟨gl,0,none⟩) (m+1) cl) acc rfl (O4.o.alloc _) _ [(V,y)] rfl (qw.one _ (V,y)) (by simp only[bW];have:=HM.o;omega) (by simp only[aV];omega) ?_)
            intro v5 w5 o5 g5 a5;have T7:Hid (Touch (fun k=>k=g) w2 w5):=aI (((tt (tt ht.o T5.o) T6.o).alloc _).grown g5 (fun k hk=>.inr (O4.o.lt k hk).1))
            have R5:Hid (dU w5 g bs (bs.length - r2.length)):=aI ((R4.o.keep ((aO _ _).alloc (aS _) _)).grown (O4.o.alloc _) g5);have O5:=aI o5;clear o5 g5 a5))
        go_roundg (n - (m+1+1))
        case measure=>have:=HQ.o;omega
        case rel=>exact⟨bs.length - r2.length,acc++[(V,y)],by rw[aQ,HM.o];rfl,by rw[aQ,HM.o];simp;omega,by rw[aQ,HM.o];go_num,O5.o,xq.o.snoc ⟨V0,V1⟩,R5,aI (by rw[E2.o,aQ,HM.o];have h:=HN.o;rw[HM.o] at h;exact h),T7⟩
   ·have hE:acc.length=n:=ae
    have hs':=hs.o;rw[hE,Nat.sub_self] at hs';have HU:Hid (T=some (acc,bs.drop a')):=aI (by rw[<-hs'];rfl)
    have hal2:bs.length - (bs.drop a').length=a':=by
     obtain⟨v,_,_,h3⟩:=hr.o;rw[bu];omega
    have HA2:=aI hal2;clear hal2 cb hs' ho
    go_wp2_with fail
    go_ret;unfold fU;rw[HT.o,HU.o];exact⟨_,rfl,HO.o.more (by have:=HH.o;omega),by simp only;rw[HA2.o];exact hr.o,tt T4.o ht.o⟩
end
section
open Go.RowKit Go.Lib
theorem catch_panicking(h2 h3:Nat)(x2 x3:Value)(n:Int)(w:World)(c2:w.cell? ⟨h2,0,none⟩=some x2)(c3:w.cell? ⟨h3,0,none⟩=some x3)(f2:w.frozen? ⟨h2,0,none⟩=false)(f3:w.frozen? ⟨h3,0,none⟩=false)(hne:h2≠h3) :
 CallsD prog 285 #[.pointer (some ⟨h2,0,none⟩),.pointer (some ⟨h3,0,none⟩)] (.panicking ({v:=.iface 381 (.agg #[.int .i64 n]),recovered:=false}::[])) w fun e u' w'=>
  e=.returned (.tuple #[])/\u'=.panicking ({v:=.iface 381 (.agg #[.int .i64 n]),recovered:=true}::[])/\w'.cell? ⟨h2,0,none⟩=some (.pointer none)/\w'.cell? ⟨h3,0,none⟩=some (.int .i64 9)/\Touch (fun k=>k=h2\/k=h3) w w':=by
 have l2:h2<w.heap.size:=bZ _ _ c2;have l3:h3<w.heap.size:=bZ _ _ c3;refine callsD_of_wpS func285 rfl fun c₀ cs hu=>?_
 apply wpS_seq
 apply wpS_region
 rw[ntmps285];simp[wpOpsS,go_sem,recoverD,hu,Exit.thenS]
 refine wpS_of_wp ?_
 have e:(#[Value.pointer (some ⟨h2,0,none⟩),Value.pointer (some ⟨h3,0,none⟩)]++(Array.replicate 9 undef).setIfInBounds 3 (Value.iface 381 (Value.agg #[.int .i64 n])):Array Value)=#[Value.pointer (some ⟨h2,0,none⟩),Value.pointer (some ⟨h3,0,none⟩),undef,undef,undef,Value.iface 381 (Value.agg #[.int .i64 n]),undef,undef,undef,undef,undef]:=rfl;rw[e];clear e;have hta:∀(n:Int) (w:World),(Instr.typeAssert (.iface 381 (.agg #[.int .i64 n])) 20 381 true).run prog w=.ok (.tuple #[.agg #[.int .i64 n],.bool true]) w:=fun _ _=>by kernel_rfl
 go_wp2
 cases c₀
 have n23:(⟨h2,0,none⟩:Addr)≠⟨h3,0,none⟩:=fun h=>hne (by injection h)
 have B2:((w.setCell ⟨h2,0,none⟩ (.pointer none)).setCell ⟨h3,0,none⟩ (.int .i64 9)).cell? ⟨h2,0,none⟩=some (.pointer none):=
  (World.cell?_setCell_other _ _ _ _ n23.symm).trans (World.cell?_setCell_same _ _ _ c2)
 have B3:((w.setCell ⟨h2,0,none⟩ (.pointer none)).setCell ⟨h3,0,none⟩ (.int .i64 9)).cell? ⟨h3,0,none⟩=some (.int .i64 9):=
  World.cell?_setCell_same _ _ _ ((World.cell?_setCell_other _ _ _ _ n23).trans c3)
 have AL:∀(X:World) (o:Obj) (h:Nat),h<X.heap.size->(X.alloc o).cell? ⟨h,0,none⟩=X.cell? ⟨h,0,none⟩:=fun X o h hh=>((aO X.heap.size X).alloc (aS _) o).cell (p:=⟨h,0,none⟩) hh
 refine⟨rfl,_,rfl,.tuple #[],by simp[results,Tryz.results285,go_sem],rfl,rfl,?_,?_,?_⟩
 ·exact(AL _ _ _ (by simp only[dA];exact l2)).trans B2
 ·exact(AL _ _ _ (by simp only[dA];exact l3)).trans B3
 ·exact(((Touch.refl (fun k=>k=h2\/k=h3) w).setCell (p:=⟨h2,0,none⟩) (.inl (.inl rfl)) _).setCell (p:=⟨h3,0,none⟩) (.inl (.inr rfl)) _).alloc _
theorem catch_idle(h2 h3:Nat)(w:World) :
 CallsD prog 285 #[.pointer (some ⟨h2,0,none⟩),.pointer (some ⟨h3,0,none⟩)] .returning w fun e u' w'=>e=.returned (.tuple #[])/\u'=.returning/\w'=w:=by
 refine callsD_of_wpS func285 rfl fun c₀ cs hu=>?_
 apply wpS_seq
 apply wpS_region
 simp[wpOpsS,go_sem,recoverD,hu,ntmps285,Exit.thenS]
 refine wpS_of_wp ?_
 go_wp2
 cases c₀
 simp_all[bodyPostS,results,Tryz.results285]
end
end Go.Proofs.YtilcnjbpmoijmaaGreat
