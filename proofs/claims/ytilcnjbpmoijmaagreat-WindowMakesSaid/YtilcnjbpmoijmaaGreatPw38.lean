/- Parts of a proof. No condition. -/
import Derived.Test.YtilcnjbpmoijmaaGreatPw36
import Derived.Test.YtilcnjbpmoijmaaGreatPw37
import Derived.Laws.BytesArg
set_option maxRecDepth 100000
set_option maxHeartbeats 16000000
set_option linter.unusedVariables false
set_option linter.unusedSimpArgs false
namespace Go.Proofs.YtilcnjbpmoijmaaGreat.K
open Tryz
section
open Go.RowKit Go.Lib
variable{bs l r1 r2 r3:List Int}{k led:Nat}{L acc:LL}{n:Int}{T:Option (LL × List Int)}
structure IsK(bs:List Int)(k:Nat)(L:LL)(led:Nat):Prop where
 right:iw k L led
 bd:∀j,mF (lvl L j)
 eq:Ii k L led=bs
theorem IsK.rd(h:IsK bs k L led):PE bs=some (⟨k,led,L⟩,[]):=by
 have hr:=h.right;have hm:∀l∈L,mF l/\r_ l/\l.length<=4096:=fun l hl=>by
  obtain⟨j,hj,rfl⟩:=List.getElem_of_mem hl;have h1:=hr.gW j hj;have h2:=h.bd j;rw[nZ hj] at h1 h2;refine⟨h2,h1.2,bJ h1.1 (bJ (room_le ?_) ?_)⟩
  ·rw[di];have:=hr.k8;omega
  ·rw[di];have:=hr.k4;omega
 have:=ar8 (k:=(k:Int)) (L:=L) (led:=led) [] ae hr.k4 (by have:=hr.Pv;omega) hr.hlen hm
 rw[List.append_nil,h.eq] at this;exact this
theorem IsK.uniq{k':Nat}{L':LL}{bh3:Nat}(h:IsK bs k L led)(h':IsK bs k' L' bh3):k=k'/\L=L'/\led=bh3:=by
 have h1:=h.rd;rw[h'.rd] at h1;injection h1 with h1;injection h1 with h1 _;injection h1 with h1 h2 h3;exact⟨by omega,h3.symm,ae⟩
theorem bh4{r4:List Int}{k led:Int}(h1:IB 4096 bs=some (k,r1))(h2:dW r1=some (led,r2))(h3:IB 49 r2=some (n,r3))(h4:vS n.toNat [] r3=some (L,r4)):PE bs=some (⟨k,led,L⟩,r4):=by
 unfold PE;rw[h1];simp only;rw[h2];simp only;rw[h3];simp only;rw[h4]
theorem as2(h1:IB 4096 bs=none):PE bs=none:=by unfold PE;rw[h1]
theorem as3{k:Int}(h1:IB 4096 bs=some (k,r1))(h2:dW r1=none):PE bs=none:=by
 unfold PE;rw[h1];simp only;rw[h2]
theorem as4{k led:Int}(h1:IB 4096 bs=some (k,r1))(h2:dW r1=some (led,r2))(h3:IB 49 r2=none):PE bs=none:=by
 unfold PE;rw[h1];simp only;rw[h2];simp only;rw[h3]
theorem as5{k led:Int}(h1:IB 4096 bs=some (k,r1))(h2:dW r1=some (led,r2))(h3:IB 49 r2=some (n,r3))(h4:vS n.toNat [] r3=none):PE bs=none:=by
 unfold PE;rw[h1];simp only;rw[h2];simp only;rw[h3];simp only;rw[h4]
theorem as6(h:PE bs=none):∀k L led,¬IsK bs k L led:=fun k L led hk=>by
 rw[hk.rd] at h;cases h
theorem Yp(h:vS (k+1) acc l=T){x:List Int × List Int}(hx:BL l=some x):vS k (acc++[x.1]) x.2=T:=by
 rw[vS,hx] at h;exact h
theorem Yq(h:vS (k+1) acc l=T)(hx:BL l=none):T=none:=by
 rw[vS,hx] at h;exact h.symm
theorem PM:∀(k:Nat) (acc l:List Int) (x:List Int × List Int),qg k acc l=some x->∃j,x.2=l.drop j
 | 0,acc,l,x,h=>by simp only[qg,bH] at h;subst h;exact⟨0,ag⟩
 | k+1,acc,l,x,h=>by
  rw[qg] at h
  cases h1:dW l with
  | none=>rw[h1] at h;cases h
  | some y=>
   rw[h1] at h;simp only at h
   cases h2:nxV acc.getLast? y.1 with
   | none=>rw[h2] at h;cases h
   | some v=>rw[h2] at h;exact mQ (lD h1).2 (PM k _ _ x h)
theorem PN:∀(k:Nat) (acc l:List Int) (x:List Int × List Int),qg k acc l=some x->x.1.length=acc.length+k
 | 0,acc,l,x,h=>by simp only[qg,bH] at h;subst h;rfl
 | k+1,acc,l,x,h=>by
  rw[qg] at h
  cases h1:dW l with
  | none=>rw[h1] at h;cases h
  | some y=>
   rw[h1] at h;simp only at h
   cases h2:nxV acc.getLast? y.1 with
   | none=>rw[h2] at h;cases h
   | some v=>
    rw[h2] at h;have:=PN k _ _ x h;rw[this,aQ,bW];omega
theorem ag8{a:Nat}{r:List Int}(h:BL (bs.drop a)=some (l,r)):bs.drop (bs.length - r.length)=r/\l.length<=4096:=by
 unfold BL at h
 cases h1:IB 4096 (bs.drop a) with
 | none=>rw[h1] at h;cases h
 | some x=>
  rw[h1] at h;simp only at h;obtain⟨h2,h3⟩:=zM h1;obtain⟨j,hj⟩:=mQ (lD h2).2 (PM _ _ _ _ h);have hl:=PN _ _ _ _ h;simp only[bC] at hl;exact⟨suf (m:=a+j) (by rw[<-List.drop_drop];exact hj),ae⟩
def MS(base:Nat)(w:World)(gl n:Nat)(acc:LL):Prop:=
 ∃vs,dL Dk base w (.slice (some ⟨gl,0,none⟩) n n) vs/\vs.length=n/\∀i (h:i<vs.length),i<acc.length->dL jq base w (jr vs[i]) (lvl acc i)/\(jr vs[i]).ownBlock≠some gl
section
variable {base gl n : Nat} {w w' : World} {acc : LL}
theorem MS.lt(h:MS base w gl n acc):base<=gl/\gl<w.heap.size:=by
 obtain⟨vs,h1,_⟩:=h;exact h1.lt gl rfl
theorem MS.stay(h:MS base w gl n acc)(hk:∀k,base<=k->k<w.heap.size->w'.heap[k]?=w.heap[k]?):MS base w' gl n acc:=by
 obtain⟨vs,h1,h2,h3⟩:=h;exact⟨vs,h1.stay fun k e=>hk k (h1.lt k e).1 (h1.lt k e).2,h2,fun i hi hj=>⟨(h3 i hi hj).1.stay fun k e=>hk k ((h3 i hi hj).1.lt k e).1 ((h3 i hi hj).1.lt k e).2,(h3 i hi hj).2⟩⟩
theorem MS.start(w:World)(n:Nat)(hn:n<=1000000):MS w.heap.size (w.alloc (.cells (madeCells #[.slice none 0 0] n) 182)) w.heap.size n []:=
 ⟨yw n,PL w n hn,by simp[yw],fun i _ hj=>absurd hj ag⟩
theorem MS.put(h:MS base w gl n acc)(hj:acc.length<n){s:Sv}{l:List Int}(ho:dL jq base w (jr s) l)(hne:(jr s).ownBlock≠some gl):MS base (w.setCell ⟨gl,acc.length,none⟩ (jr s)) gl n (acc++[l]):=by
 obtain⟨vs,h1,h2,h3⟩:=h;have hj':acc.length<vs.length:=ae
 have hset:=h1.dQ acc.length hj' s;rw[show acc.length * Dk.k=acc.length by show acc.length * 1=_;omega] at hset
 refine⟨vs.set acc.length s,hset,by rw[bK];exact h2,fun i hi hia=>?_⟩
 rw[bK] at hi;rw[aQ,bW] at hia;rw[List.getElem_set]
 by_cases e:acc.length=i
 ·subst e
  have el:lvl (acc++[l]) acc.length=l:=by unfold lvl;simp[List.getD]
  rw[if_pos rfl,el];exact⟨ho.far hne _,hne⟩
 ·rw[if_neg e]
  have as7:i<acc.length:=ae
  have el:lvl (acc++[l]) i=lvl acc i:=by unfold lvl;simp only[List.getD];rw[List.getElem?_append_left as7]
  rw[el];exact⟨(h3 i hi as7).1.far (h3 i hi as7).2 _,(h3 i hi as7).2⟩
theorem MS.cell(h:MS base w gl n acc){j:Nat}(hj:j<n):∃u,w.cell? ⟨gl,j,none⟩=some (jr u)/\w.frozen? ⟨gl,j,none⟩=false:=by
 obtain⟨vs,h1,h2,_⟩:=h;have hj':j<vs.length:=ae
 have c:=h1.cellAt hj' 0 af
 rw[show j * Dk.k+0=j by show j * 1+0=j;omega] at c
 exact⟨vs[j],c,h1.frozenAt j⟩
theorem MS.rdr(h:MS base w gl n acc){g a:Nat}{bs:List Int}(hr:dU w g bs a)(hne:gl≠g)(j:Nat)(u:Value):dU (w.setCell ⟨gl,j,none⟩ u) g bs a:=by
 obtain⟨vs,h1,_,_⟩:=h;obtain⟨v,b1,b2,b3⟩:=hr;have hk:∀k,k≠gl->(w.setCell ⟨gl,j,none⟩ u).heap[k]?=w.heap[k]?:=fun k hk=>bM w ⟨gl,j,none⟩ u k hk
 refine⟨v,(hk g (fun e=>hne e.symm)).trans b1,b2.stay fun k e=>hk k ?_,b3⟩
 rintro rfl
 rcases b2.2 with q|⟨g1,cap,cur,rfl,_,e3,_⟩
 ·rw[q.1] at e;cases e
 ·cases e
  rcases h1.2 with q|⟨g2,cap2,xh,e4,_,e6,_⟩
  ·cases q.1
  ·injection e4 with e4
   injection e4 with e4;injection e4 with e4;subst e4;rw[e3] at e6
   cases e6
theorem MS.llr(h:MS base w gl n acc)(hl:acc.length=n):YS w (.slice (some ⟨gl,0,none⟩) n n) acc:=by
 obtain⟨vs,h1,h2,h3⟩:=h;exact⟨vs,ae,h1.rd,fun i hi=>(h3 i hi ae).1.rd⟩
end
def ag9(bs:List Int)(w:World)(e:Ending)(w':World):Prop:=
 ((∃(g k:Nat) (L:LL) (led:Nat) (F:Nat->Prop),e=.returned (.pointer (some ⟨g,0,none⟩))/\IsK bs k L led/\MR F w' g k L led/\∀x,F x->w.heap.size<=x)\/(am7 e/\∀k L led,¬IsK bs k L led))/\Below w.heap.size w w'
theorem Yr(v:Value)(bs:List Int)(w:World)(h:iY .u8 w v bs)(hb:iD bs)(hlen:bs.length<=1000000000) :
 aH 291 #[v] w (ag9 bs w):=by
 obtain⟨i1,hi0,hiz,his,hib⟩:=info_parts slI;have JI:=aI hi0;have JZ:=aI hiz;have JSZ:=aI his;have JBY:=aI hib;clear hi0 hiz his hib;have hl12:bs.length<=1000000000000:=ae
 have HNW:=aI (uV v bs w h hl12);have HRD:=aI (fun W (hb:Below w.heap.size w W)=>Rd.keep h hb)
 have HB:=aI hb;obtain⟨Av,cv,rfl,_,_,_⟩:=h.form;clear h hb;have hmk:∀n:Nat,n<=49->∀W:World,(Instr.makeSlice 114 (.int .u64 n) (.int .u64 n)).run prog W=.ok (.slice (some ⟨W.heap.size,0,none⟩) n n) (W.alloc (.cells (madeCells #[.slice none 0 0] n) 182)):=fun n hn W=>by
  have:=ni 114 182 i1 _ underlying114 JI.o JZ.o .u64 .u64 n n (aS _) (by rw[JBY.o];omega) ae W
  rw[JSZ.o,Nat.mul_one] at this;exact this
 have HMK:=aI hmk;clear hmk;have Am:∀args w,(callFunc 339 args).run prog w=.ok (.enter 339 args) w:=fun _ _=>rfl
 go_enter func291,ntmps291
 go_wp2_with fail;refine(HNW.o).mono ?_
 rintro e w1 ⟨g,rfl,hg,hr1,hb1⟩;have hz1:=hb1.size;have hgl:=hr1.lt;have HR1:=aI hr1;have HB1:=aI hb1;clear hr1 hb1 HNW
 go_upto_region 3 with fail;obtain⟨w2,hw2⟩:=aF (w1.alloc (.cells #[.pointer (some ⟨g,0,none⟩)] 447));have hb2:Below w1.heap.size w1 w2:=by rw[<-hw2];exact(aO _ _).alloc (aS _) _
 have hz2:w2.heap.size=w1.heap.size+1:=by rw[<-hw2];simp
 have c2:w2.cell? ⟨w1.heap.size,0,none⟩=some (.pointer (some ⟨g,0,none⟩)):=by rw[<-hw2];simp[World.cell?_alloc_new]
 obtain⟨gr,hgr⟩:=aF (w1.heap.size);rw[hgr] at c2 hgl hz2;rw[hw2,hgr];have R2:=aI (HR1.o.keep hb2);have C2:=aI c2;have HB2:=aI (HB1.o.trans (hb2.mono hz1));have hne:gr≠g:=ae
 have Yh:gr<w2.heap.size:=ae
 have hwz:w.heap.size<=w2.heap.size:=ae
 have NO:Hid (∀(s:_) (w':World),Touch (fun k=>k=g) w2 w'->PE bs=none->ag9 bs w (.panicked [{v:=.iface 386 (.string s),recovered:=false}]) w'):=aI fun s w' ht hn=>
  ⟨.inr ⟨⟨s,rfl⟩,as6 hn⟩,HB2.o.trans (ht.below (fun i hi=>by have hi:i=g:=hi;omega) hwz)⟩
 have PH:=aI (BM 4096 gr g bs 0 w2 R2.o c2 HB.o hl12);rw[cO] at PH;clear hw2 hb2 c2 hgr HR1 HB1
 go_wp2_with fail;refine(PH.o).mono ?_
 intro e w3 hg;unfold fU at hg
 cases hA:IB 4096 bs with
 | none=>
  simp only[hA] at hg;have HU:=aI (as2 hA);obtain⟨⟨pv,rfl⟩,h4⟩:=hg;have T3:=aI h4;clear hA h4
  go_wp2_with fail;exact⟨rfl,NO.o _ _ T3.o HU.o⟩
 | some pA=>
  obtain⟨k,r1⟩:=pA;simp only[hA] at hg;obtain⟨v1,rfl,rfl,h3,h4⟩:=hg;have T3:=aI h4;have R3:=aI h3;have HA:=aI hA;obtain⟨hx,hkm⟩:=zM hA;have hkb:=gY HB.o hx;have S1:Hid (bs.drop (bs.length - r1.length)=r1):=aI (f_ (a:=0) (by rw[cO];exact hx))
  have C3:=aI ((h4.cell (o:=0) Yh hne).trans C2.o);have KX:=aI (Dx gr g bs _ w3 h3 C3.o HB.o hl12);rw[S1.o] at KX;have hz3:=h4.size;simp only at hkm hkb;clear hA h3 h4 hx PH
  go_wp2_with fail;refine(KX.o).mono ?_
  intro e w4 hg;unfold fU at hg
  cases hA:dW r1 with
  | none=>
   simp only[hA] at hg;have HU:=aI (as3 HA.o hA);obtain⟨⟨pv,rfl⟩,h4⟩:=hg;have T4:=aI (tt T3.o h4);clear hA h4
   go_wp2_with fail;exact⟨rfl,NO.o _ _ T4.o HU.o⟩
  | some pB=>
   obtain⟨led,r2⟩:=pB;simp only[hA] at hg;obtain⟨v2,rfl,rfl,h3,h4⟩:=hg;have T4:=aI (tt T3.o h4);have HA2:=aI hA;have hlb:0<=led/\led<18446744073709551616:=by
    have hby:iD r1:=by rw[<-S1.o];exact HB.o.drop _
    exact gY hby hA
   have S2:Hid (bs.drop (bs.length - r2.length)=r2):=aI (f_ (by rw[S1.o];exact hA))
   have C4:=aI ((T4.o.cell (o:=0) Yh hne).trans C2.o);have HN3:=aI (BM 49 gr g bs _ w4 h3 C4.o HB.o hl12);rw[S2.o] at HN3;have oC:=T4.o.size;clear hA h3 h4 KX
   go_wp2_with fail;refine(HN3.o).mono ?_
   intro e w5 hg;unfold fU at hg
   cases hA:IB 49 r2 with
   | none=>
    simp only[hA] at hg;have HU:=aI (as4 HA.o HA2.o hA);obtain⟨⟨pv,rfl⟩,h4⟩:=hg;have T5:=aI (tt T4.o h4);clear hA h4
    go_wp2_with fail;exact⟨rfl,NO.o _ _ T5.o HU.o⟩
   | some pC=>
    obtain⟨n0,r3⟩:=pC;simp only[hA] at hg;obtain⟨v3,rfl,rfl,h3,h4⟩:=hg;have T5:=aI (tt T4.o h4);have R5:=aI h3;have VD:=aI hA;obtain⟨hx,hnm⟩:=zM hA;have hnb:0<=n0/\n0<18446744073709551616:=by
     have hby:iD r2:=by rw[<-S2.o];exact HB.o.drop _
     exact gY hby hx
    obtain⟨n,rfl⟩:∃n:Nat,n0=n:=⟨n0.toNat,ae⟩
    simp only at hnm;have S3:Hid (bs.drop (bs.length - r3.length)=r3):=aI (f_ (by rw[S2.o];exact hx))
    have C5:=aI ((T5.o.cell (o:=0) Yh hne).trans C2.o);have WJ:=T5.o.size;have hmk:=HMK.o n ae
    clear hA h3 h4 HN3 hx
    go_wp2_with fail;have HLS:=aI (MS.start w5 n ae)
    have hb6:Below w5.heap.size w5 (w5.alloc (.cells (madeCells #[.slice none 0 0] n) 182)):=(aO _ _).alloc (aS _) _;have T6:=aI (T5.o.alloc (.cells (madeCells #[.slice none 0 0] n) 182));have R6:=aI (R5.o.keep hb6);obtain⟨T,hT⟩:=aF (vS n [] r3);have HT:=aI hT;have R0:Hid (vS n [] (bs.drop (bs.length - r3.length))=T):=aI (by rw[S3.o];exact hT)
    have bq9:=hb6.size;obtain⟨w6,hw6⟩:=aF (w5.alloc (.cells (madeCells #[.slice none 0 0] n) 182));rw[hw6] at HLS T6 R6 bq9 |-;obtain⟨gl,AQ⟩:=aF (w5.heap.size);rw[AQ] at HLS bq9 |-;have ae4:gl≠g:=ae
    have cb5:w2.heap.size<=gl:=ae
    clear hw6 hb6 hT hmk R5 HMK;generalize bs.length - r3.length=a3 at *
    go_loopg [8,26] n (fun q _ i wr=>∃(j a':Nat) (acc:LL),q=n - j/\j<=n/\i=.int .i64 j/\acc.length=j/\Hid (∀l∈acc,mF l/\l.length<=4096)/\Hid (MS gl wr gl n acc)/\Hid (dU wr g bs a')/\Hid (vS (n - j) acc (bs.drop a')=T)/\Hid (Touch (fun k=>k=g) w2 wr))
    case atStart=>exact⟨0,a3,[],rfl,ae,rfl,rfl,aI (fun x hx=>by simp at hx),HLS,R6,R0,T6⟩
    case round=>
     obtain⟨j,a',acc,hq,hj,rfl,hacc,HI,HLJ,HR,HS0,Yi⟩:=hrel;have HQ:=aI hq;have hzr:=Yi.o.size;have cb:=(Yi.o.cell (o:=0) Yh hne).trans C2.o;clear hq
     by_cases hlt2:j<n
     ·have hs':=HS0.o
      rw[show n - j=(n - (j+1))+1 by omega] at hs'
      have HSJ:=aI hs';have hji:(j:Int)<(n:Int):=ae
      have HRL:=aI (TZ gr g bs a' wr HR.o cb hne HB.o hl12);have af1:=HLJ.o.lt.2;clear hs' HS0 cb
      go_wp2_with (go_at_fn 339;refine(HRL.o).mono ?_)
      intro e w7 hg;unfold fU at hg
      cases hA:BL (bs.drop a') with
      | none=>
       simp only[hA] at hg;have HU:Hid (PE bs=none):=aI (as5 HA.o HA2.o VD.o (by rw[di,HT.o];exact Yq HSJ.o hA))
       obtain⟨⟨pv,rfl⟩,h4⟩:=hg;have T7:=aI (tt Yi.o h4);clear hA h4
       go_wp2_with fail;exact⟨rfl,NO.o _ _ T7.o HU.o⟩
      | some p=>
       obtain⟨l,r⟩:=p;simp only[hA] at hg;obtain⟨v,rfl,⟨h2,h2b⟩,h3,h4⟩:=hg;obtain⟨A7,c7,ev,_,_,_⟩:=h2.rd.form;subst ev;obtain⟨ag3,hll⟩:=ag8 hA;have Vy:Hid (vS (n - (j+1)) (acc++[l]) (bs.drop (bs.length - r.length))=T):=aI (by rw[ag3];exact Yp HSJ.o hA)
       have HI1:Hid (∀x∈acc++[l],mF x/\x.length<=4096):=aI fun x hx=>by
        rcases dB.1 hx with hx|hx
        ·exact HI.o x hx
        ·simp only[List.mem_singleton] at hx;subst hx;exact⟨h2b,hll⟩
       have L7:=aI (HLJ.o.stay fun k h1 h2=>h4.block k h2 (fun e=>by have e:k=g:=e;omega))
       have o7:dL jq gl w7 (jr (A7,l.length,c7)) l:=(ar9.1 h2).more ae
       have n7:(jr (A7,l.length,c7)).ownBlock≠some gl:=fun e=>by have:=(dP.lt h2 gl e).1;omega
       obtain⟨u,ku,fu⟩:=L7.o.cell hlt2;have L8:=aI (L7.o.put ae o7 n7)
       have R8:=aI (L7.o.rdr h3 ae4 j (jr (A7,l.length,c7)));have T8:Hid (Touch (fun k=>k=g) w2 (w7.setCell ⟨gl,j,none⟩ (jr (A7,l.length,c7)))):=aI ((tt Yi.o h4).setCell (.inr cb5) _)
       rw[hacc] at L8;obtain⟨uA,un,uc⟩:=u;simp only[jr] at ku;have cj4:l.length<=9223372036854775807:=ae
       clear hA h2 h3 h4 ag3 o7 n7 HLJ HR;generalize bs.length - r.length=a2 at *
       go_wp2_with fail
       go_roundg (n - (j+1))
       case measure=>have:=HQ.o;omega
       case rel=>exact⟨j+1,a2,acc++[l],rfl,ae,ai,by simp[hacc],HI1,L8,R8,Vy,T8⟩
     ·obtain rfl:j=n:=ae
      have hs':=HS0.o;rw[Nat.sub_self,vS] at hs';have br0:bs.drop a'=bs.drop a':=rfl;have HK:Hid (PE bs=some (⟨k,led,acc⟩,bs.drop a')):=aI (bh4 HA.o HA2.o VD.o (by rw[di,HT.o];exact hs'.symm))
      obtain⟨K,rfl⟩:∃K:Nat,k=K:=⟨k.toNat,ae⟩
      obtain⟨ld,rfl⟩:∃ld:Nat,led=ld:=⟨led.toNat,ae⟩
      have bh5:∀i,mF (lvl acc i)/\(lvl acc i).length<=4096:=fun i=>by
       rcases bV i acc.length with h1|h1
       ·rw[nZ h1];exact HI.o _ (bf h1)
       ·rw[ry h1];exact⟨fun x hx=>by simp at hx,ag⟩
      have br1:=aI bh5;have hli:=HLJ.o.llr hacc;have HLD:=aI (Hu (K:Int) _ acc ld wr hli ae  ae  ae (fun i=>by have:=(bh5 i).2;omega))
      have EK:=aI (show wrap64 (K:Int)=(K:Int) by unfold wrap64;omega)
      have hwr:w.heap.size<=wr.heap.size:=ae
      have HBR:Hid (Below w.heap.size w wr):=aI (HB2.o.trans (Yi.o.below (fun i hi=>by have hi:i=g:=hi;omega) hwz))
      have CB:=aI cb;have cb6:gr<wr.heap.size:=ae
      have NOK:Hid ((¬iw K acc ld\/bs.drop a'≠[]\/Ii K acc ld≠bs)->∀k L led,¬IsK bs k L led):=aI fun hor k L led hk=>by
       have h1:=hk.rd;rw[HK.o] at h1;injection h1 with h1;injection h1 with h1 h2;injection h1 with e1 e2 e3;have e1':K=k:=Int.ofNat_inj.1 e1;have e2':ld=led:=Int.ofNat_inj.1 e2;subst e1';subst e2';subst e3
       rcases hor with h|h|h
       ·exact h hk.right
       ·exact h h2
       ·exact h hk.eq
      have ha':a'<=bs.length:=by obtain⟨_,_,_,h3⟩:=HR.o;exact h3
      clear hs' HS0 hli bh5 HLJ cb br0;have ek:=EK.o
      go_wp2_with fail;clear ek EK;refine(HLD.o).mono ?_
      rintro e w8 ⟨hor,hb8⟩;have Ir:=aI (HBR.o.trans (hb8.mono hwr));have hz8:=hb8.size
      rcases hor with⟨g2,rfl,hrt,F,hka,hF⟩|⟨rfl,hnr⟩
      ·have HRT:=aI hrt
       have HKA:=aI hka;rw[di] at HKA;have HFN:Hid (∀x,F x->w.heap.size<=x):=aI fun x hx=>bJ hwr (hF x hx)
       have c8:=(hb8.cell (p:=⟨gr,0,none⟩) cb6).trans CB.o;have R8:=aI (HR.o.keep hb8);have HLF:=aI (mX g bs a' w8 R8.o hl12);clear hrt hka hF hb8 HLD
       by_cases hrest:a'<bs.length
       ·have Ye:=aI (NOK.o (.inr (.inl (fun e=>by have:=congrArg List.length e;rw[bu,bC] at this;omega))))
        have hgt:(bs.length:Int) - (a':Int) > 0:=ae
        go_wp2_with (go_at_call 283;refine(HLF.o).mono ?_;rintro e w' ⟨rfl,q,rfl⟩);refine⟨rfl,.inr ⟨⟨_,rfl⟩,Ye.o⟩,below_drewN Ir.o _⟩
       ·have hdn:bs.drop a'=[]:=List.drop_eq_nil_of_le ae
        have HDN:=aI hdn;have hgt:(bs.length:Int) - (a':Int)=0:=ae
        rw[hgt] at HLF;clear hdn hgt
        go_wp2_with (go_at_call 283;refine(HLF.o).mono ?_;rintro e w' ⟨rfl,q,rfl⟩);have HB9:=aI (below_drewN Ir.o q);have HK9:=aI (HKA.o.keep (below_drewN (aO _ _) q));obtain⟨w9,Vo⟩:=aF (w8.drewN q);rw[Vo] at HB9 HK9 |-;obtain⟨lv,vs,hks⟩:=HK9.o;have Xj:=aI (Ht w9 hks HRT.o.fit.ok (fun i=>(br1.o i).1) ae)
        have br2:(Ii K acc ld).length<=1000000000000:=by
         have h1:=VI K acc ld;have h2:cnt acc<=_:=HRT.o.fit.ok.bg7;have h3:acc.length<=49:=HRT.o.hlen;omega
        clear Vo hks c8;refine(Xj.o).mono ?_
        rintro e w10 ⟨v10,rfl,o10,TM⟩;have bh6:=aI (HB9.o.trans (TM.mono HB9.o.size));have cb7:=aI (HK9.o.keep TM);have HEQ:=aI (lF v10 _ (Ii K acc ld) bs w10 (dP.rd o10) (HRD.o w10 bh6.o) br2 hl12);obtain⟨A10,c10,ev,_,_,_⟩:=(dP.rd o10).form;obtain⟨n10,br4⟩:=aF ((Ii K acc ld).length);rw[br4] at ev;subst ev;clear o10 TM br4 br2
        go_wp2_with fail;refine(HEQ.o).mono ?_
        rintro e w11 ⟨rfl,bh7⟩;have br5:=aI (bh6.o.trans (bh7.mono bh6.o.size));have cb8:=aI (cb7.o.keep bh7);clear bh7 HEQ
        by_cases hE:Ii K acc ld=bs
        ·have HE:=aI hE
         rw[decide_eq_true hE];clear hE
         go_wp2_with fail;refine bodyPost_ret (by simp[results,Tryz.results291,go_sem, *];try rfl) rfl ?_
         exact⟨.inl ⟨g2,K,acc,ld,F,rfl,⟨HRT.o,fun i=>(br1.o i).1,HE.o⟩,cb8.o,HFN.o⟩,br5.o⟩
        ·have Ye:=aI (NOK.o (.inr (.inr hE)))
         rw[decide_eq_false hE];clear hE
         go_wp2_with fail;exact⟨rfl,.inr ⟨⟨_,rfl⟩,Ye.o⟩,br5.o⟩
      ·have Ye:=aI (NOK.o (.inl hnr))
       clear hnr hb8 HLD
       go_wp2_with fail;refine⟨rfl,.inr ⟨⟨_,rfl⟩,Ye.o⟩,Ir.o⟩
end
section
open Go.RowKit Go.Lib
variable{h2:Nat}
theorem catch_panicking(h2 h3:Nat)(x2 x3:Value)(s:ByteArray)(w:World)(c2:w.cell? ⟨h2,0,none⟩=some x2)(c3:w.cell? ⟨h3,0,none⟩=some x3)(f2:w.frozen? ⟨h2,0,none⟩=false)(f3:w.frozen? ⟨h3,0,none⟩=false)(hne:h2≠h3) :
 CallsD prog 290 #[.pointer (some ⟨h2,0,none⟩),.pointer (some ⟨h3,0,none⟩)] (.panicking ({v:=.iface 386 (.string s),recovered:=false}::[])) w fun e u' w'=>
  e=.returned (.tuple #[])/\u'=.panicking ({v:=.iface 386 (.string s),recovered:=true}::[])/\w'.cell? ⟨h2,0,none⟩=some (.pointer none)/\w'.cell? ⟨h3,0,none⟩=some (.int .i64 9)/\Touch (fun k=>k=h2\/k=h3) w w':=by
 have l2:h2<w.heap.size:=bZ _ _ c2;have l3:h3<w.heap.size:=bZ _ _ c3;refine callsD_of_wpS func290 rfl fun c₀ cs hu=>?_
 apply wpS_seq
 apply wpS_region
 rw[ntmps290];simp[wpOpsS,go_sem,recoverD,hu,Exit.thenS]
 refine wpS_of_wp ?_
 have e:(#[Value.pointer (some ⟨h2,0,none⟩),Value.pointer (some ⟨h3,0,none⟩)]++((Array.replicate 14 undef).setIfInBounds 3 (Value.iface 386 (Value.string s))).setIfInBounds 0 (Value.iface 386 (Value.string s)):Array Value)=#[Value.pointer (some ⟨h2,0,none⟩),Value.pointer (some ⟨h3,0,none⟩),Value.iface 386 (Value.string s),undef,undef,Value.iface 386 (Value.string s),undef,undef,undef,undef,undef,undef,undef,undef,undef,undef]:=rfl;rw[e];clear e;have hta:∀(s:ByteArray) (w:World),(Instr.typeAssert (.iface 386 (.string s)) 20 386 true).run prog w=.ok (.tuple #[.string s,.bool true]) w:=fun _ _=>by kernel_rfl
 go_wp2
 cases c₀
 have n23:(⟨h2,0,none⟩:Addr)≠⟨h3,0,none⟩:=fun h=>hne (by injection h)
 have B2:((w.setCell ⟨h2,0,none⟩ (.pointer none)).setCell ⟨h3,0,none⟩ (.int .i64 9)).cell? ⟨h2,0,none⟩=some (.pointer none):=
  (World.cell?_setCell_other _ _ _ _ n23.symm).trans (World.cell?_setCell_same _ _ _ c2)
 have B3:((w.setCell ⟨h2,0,none⟩ (.pointer none)).setCell ⟨h3,0,none⟩ (.int .i64 9)).cell? ⟨h3,0,none⟩=some (.int .i64 9):=
  World.cell?_setCell_same _ _ _ ((World.cell?_setCell_other _ _ _ _ n23).trans c3)
 refine⟨rfl,_,rfl,.tuple #[],by simp[results,Tryz.results290,go_sem],rfl,rfl,B2,B3,?_⟩
 exact((Touch.refl (fun k=>k=h2\/k=h3) w).setCell (p:=⟨h2,0,none⟩) (.inl (.inl rfl)) _).setCell (p:=⟨h3,0,none⟩) (.inl (.inr rfl)) _
theorem catch_idle(h2 h3:Nat)(w:World) :
 CallsD prog 290 #[.pointer (some ⟨h2,0,none⟩),.pointer (some ⟨h3,0,none⟩)] .returning w fun e u' w'=>e=.returned (.tuple #[])/\u'=.returning/\w'=w:=by
 refine callsD_of_wpS func290 rfl fun c₀ cs hu=>?_
 apply wpS_seq
 apply wpS_region
 simp[wpOpsS,go_sem,recoverD,hu,ntmps290,Exit.thenS]
 refine wpS_of_wp ?_
 go_wp2
 cases c₀
 simp_all[bodyPostS,results,Tryz.results290]
theorem BN(h2 h3:Nat)(s:ByteArray)(w0 w:World)(R:Ending->World->Prop)(tmps:Array Value)(t2:tmps[2]?=some (.pointer (some ⟨h2,0,none⟩)))(t3:tmps[3]?=some (.pointer (some ⟨h3,0,none⟩)))
 (x2 x3:Value) (c2:w.cell? ⟨h2,0,none⟩=some x2) (c3:w.cell? ⟨h3,0,none⟩=some x3) (f2:w.frozen? ⟨h2,0,none⟩=false) (f3:w.frozen? ⟨h3,0,none⟩=false) (hne:h2≠h3) (b2:w0.heap.size<=h2) (b3:w0.heap.size<=h3) (hb:Below w0.heap.size w0 w)
 (hR:∀w',Below w0.heap.size w0 w'->R (.returned (.tuple #[.pointer none,.int .i64 9])) w') :
 Leaves prog Tryz.f210 tmps R [{target:=.fn (.func 290) #[.pointer (some ⟨h2,0,none⟩),.pointer (some ⟨h3,0,none⟩)],args:=#[]}] (.panicking [{v:=.iface 386 (.string s),recovered:=false}]) w:=by
 refine leaves_cons (f:=290) (args:=#[.pointer (some ⟨h2,0,none⟩),.pointer (some ⟨h3,0,none⟩)]) ag (by simp[go_sem]) ?_
 refine(catch_panicking h2 h3 x2 x3 s w c2 c3 f2 f3 hne).mono ?_
 rintro e u' w'' ⟨rfl,rfl,k2,k3,kt⟩;have hb':Below w0.heap.size w0 w'':=hb.trans (kt.below (fun i hi=>by rcases hi with rfl|rfl<;>assumption) hb.size)
 have g2:tmps.getD 2 undef=.pointer (some ⟨h2,0,none⟩):=by simp[Array.getD_eq_getD_getElem?,t2]
 have g3:tmps.getD 3 undef=.pointer (some ⟨h3,0,none⟩):=by simp[Array.getD_eq_getD_getElem?,t3]
 refine⟨.tuple #[.pointer none,.int .i64 9],?_,hR w'' hb'⟩
 simp[results,Tryz.results210,go_sem,t2,t3,k2,k3]
theorem wY(h2 h3:Nat)(w:World)(R:Ending->World->Prop)(tmps:Array Value)(t2:tmps[2]?=some (.pointer (some ⟨h2,0,none⟩)))(t3:tmps[3]?=some (.pointer (some ⟨h3,0,none⟩)))
 (x2 x3:Value) (c2:w.cell? ⟨h2,0,none⟩=some x2) (c3:w.cell? ⟨h3,0,none⟩=some x3) (hR:R (.returned (.tuple #[x2,x3])) w) :
 Leaves prog Tryz.f210 tmps R [{target:=.fn (.func 290) #[.pointer (some ⟨h2,0,none⟩),.pointer (some ⟨h3,0,none⟩)],args:=#[]}] .returning w:=by
 refine leaves_cons (f:=290) (args:=#[.pointer (some ⟨h2,0,none⟩),.pointer (some ⟨h3,0,none⟩)]) ag (by simp[go_sem]) ?_
 refine(catch_idle h2 h3 w).mono ?_
 rintro e u' w'' ⟨rfl,rfl,rfl⟩;refine⟨.tuple #[x2,x3],?_,hR⟩
 simp[results,Tryz.results210,go_sem,t2,t3,c2,c3]
theorem oN(X:World)(a b:Value){x y:Value}(c2:X.cell? ⟨h2,0,none⟩=some x)(c3:X.cell? ⟨h2+1,0,none⟩=some y) :
 ((X.setCell ⟨h2,0,none⟩ a).setCell ⟨h2+1,0,none⟩ b).cell? ⟨h2,0,none⟩=some a/\((X.setCell ⟨h2,0,none⟩ a).setCell ⟨h2+1,0,none⟩ b).cell? ⟨h2+1,0,none⟩=some b:=by
 have n23:(⟨h2,0,none⟩:Addr)≠⟨h2+1,0,none⟩:=fun h=>by injection h with h;omega
 exact⟨(World.cell?_setCell_other _ _ _ _ n23.symm).trans (World.cell?_setCell_same _ _ _ c2),World.cell?_setCell_same _ _ _ ((World.cell?_setCell_other _ _ _ _ n23).trans c3)⟩
theorem kE{w X:World}(hb:Below w.heap.size w X)(h:w.heap.size<=h2)(a b:Value):Below w.heap.size w ((X.setCell ⟨h2,0,none⟩ a).setCell ⟨h2+1,0,none⟩ b):=
 (hb.setCell (p:=⟨h2,0,none⟩) h a).setCell (p:=⟨h2+1,0,none⟩) (by show _<=h2+1;omega) b
def qh(bs:List Int)(w:World)(e:Ending)(w':World):Prop:=
 ((∃(g k:Nat) (L:LL) (led:Nat) (F:Nat->Prop),e=.returned (.tuple #[.pointer (some ⟨g,0,none⟩),.int .i64 0])/\IsK bs k L led/\MR F w' g k L led/\∀x,F x->w.heap.size<=x)\/(e=.returned (.tuple #[.pointer none,.int .i64 9])/\∀k L led,¬IsK bs k L led))/\Below w.heap.size w w'
theorem Yt(v:Value)(bs:List Int)(w:World)(h:iY .u8 w v bs)(hb:iD bs)(hlen:bs.length<=1000000000) :
 aH 210 #[v] w (qh bs w):=by
 have hmf:∀(fn:Fn) (first cap:Array Value) (w:World),(Instr.makeFunc fn first cap).run prog w=.ok (.func fn first cap) w:=fun _ _ _ _=>rfl
 have HR:=aI h;have HB:=aI hb;clear h hb
 go_enter_defers func210,ntmps210
 go_wp2_with fail;obtain⟨w1,hw1⟩:∃w1,w1=(w.alloc (.cells #[.pointer none] 124)).alloc (.cells #[.int .i64 0] 28):=⟨_,rfl⟩;have hb1:Below w.heap.size w w1:=by rw[hw1];exact((aO _ _).alloc (aS _) _).alloc ag _
 have B2:Hid (dK w1 w.heap.size 124 #[.pointer none]):=by show dK _ _ _ _;rw[hw1];exact(dK.new _ _ _).alloc _
 have B3:Hid (dK w1 (w.heap.size+1) 28 #[.int .i64 0]):=by
  show dK _ _ _ _;rw[hw1];have h:=dK.new (w.alloc (.cells #[.pointer none] 124)) 28 #[.int .i64 0]
  rwa [aV] at h
 obtain⟨h2,hh2⟩:=aF (w.heap.size);have HH2:=aI hh2;rw[<-hw1];rw[hh2] at B2 B3 |-;have l2:=B2.o.lt;have l3:=B3.o.lt;have e2:w.heap.size<=h2:=ae
 have HST:=aI (Yr v bs w1 (Rd.keep HR.o hb1) HB.o hlen);have hz1:=hb1.size;clear hw1 hh2;refine(HST.o).mono ?_
 rintro e w2 ⟨hor,hb2⟩;have C2:=aI (B2.o.keep hb2);have C3:=aI (B3.o.keep hb2);have La:=aI (hb1.trans (hb2.mono hz1));have hz2:=hb2.size
 rcases hor with⟨g,k,L,led,F,rfl,hk,hka,hF⟩|⟨⟨s,rfl⟩,hno⟩
 ·have HK:=aI hk
  have HKA:=aI hka;have HF:=aI hF;have x2:=C2.o.cell 0;have x3:=C3.o.cell 0;have y2:=C2.o.frozen 0;have y3:=C3.o.frozen 0;simp only[aK,aJ] at x2 x3;clear hk hka hF hb2
  go_wp2_with fail;have tp:=oN w2 (.pointer (some ⟨g,0,none⟩)) (.int .i64 0) x2 x3;refine(show Leaves prog Tryz.f210 _ (qh bs w) _ .returning _ from ?_)
  refine wY h2 (h2+1) _ _ _ rfl rfl _ _ tp.1 tp.2 ?_
  have T8:Touch (fun k=>k=h2\/k=h2+1) w2 ((w2.setCell ⟨h2,0,none⟩ (.pointer (some ⟨g,0,none⟩))).setCell ⟨h2+1,0,none⟩ (.int .i64 0)):=((Touch.refl _ w2).setCell (p:=⟨h2,0,none⟩) (.inl (.inl rfl)) _).setCell (p:=⟨h2+1,0,none⟩) (.inl (.inr rfl)) _
  refine⟨.inl ⟨g,k,L,led,F,rfl,HK.o,HKA.o.stay (fun x hx=>?_) T8.size,fun x hx=>bJ hz1 (HF.o x hx)⟩,kE La.o e2 _ _⟩
  have h1:=HF.o x hx;have h3:x<w2.heap.size:=by
   obtain⟨lv,vs,hks⟩:=HKA.o;exact hks.low x hx
  exact T8.block x h3 (fun e=>by rcases e with e|e<;>omega)
 ·have Ye:=aI hno
  have x2:=C2.o.cell 0;have x3:=C3.o.cell 0;have y2:=C2.o.frozen 0;have y3:=C3.o.frozen 0;simp only[aK,aJ] at x2 x3;clear hno hb2
  go_wp2_with fail;refine(show Leaves prog Tryz.f210 _ (qh bs w) _ (.panicking _) _ from ?_)
  exact BN h2 (h2+1) s w w2 _ _ rfl rfl _ _ x2 x3 y2 y3 ae e2 ae La.o (fun w' hb'=>⟨.inr ⟨rfl,Ye.o⟩,hb'⟩)
end
section
open Go.RowKit Go.Lib
theorem Yu{F:Nat->Prop}{g k n led:Nat}{lv:Value}{vs:List Sv}{L:LL}(cb9:Value)(w:World)(hs:xB F w g k n led lv vs L)(h2:2<=k)(hk:k<=1000000)(hL:L.length<=1000)(hl:cnt L<=1000000000)(hf:iH k L=none) :
 aH 141 #[.pointer (some ⟨g,0,none⟩),cb9] w fun e w'=>e=.returned (.tuple #[])/\w=w':=by
 have HFU:=aI (G8 w hs h2 hk hL hl);have e1:uu k L=-1:=by unfold uu;rw[hf]
 rw[e1] at HFU;clear hs hf e1
 go_enter func141,ntmps141
 go_wp2_with fail;refine(HFU.o).mono ?_
 rintro e w1 ⟨rfl,rfl⟩
 go_wp2_with fail
 go_loopg [4] 0 (fun _ t4 wr=>t4=.int .i64 (-1)/\w=wr)
 case atStart=>exact⟨rfl,rfl⟩
 case round=>
  obtain⟨rfl,rfl⟩:=hrel
  go_wp2_with fail
  go_end0
  exact⟨rfl,rfl⟩
end
section
open Go.RowKit Go.Lib
variable{k led:Nat}{L:LL}
theorem iw.bh8(h:iw k L led)(j:Nat):(lvl L j).length<=4096:=by
 rcases bV j L.length with hj|hj
 ·refine bJ (h.gW j hj).1 (bJ (room_le ?_) ?_)
  ·rw[di];have:=h.k8;omega
  ·rw[di];have:=h.k4;omega
 ·rw[ry hj];simp
theorem iw.by_(h:iw k L led)(hb:∀j,mF (lvl L j)):iD (Ii k L led):=
 bg8 ae (by have:=h.k4;omega) (by have:=h.Pv;omega) (by have:=h.hlen;omega) fun l hl=>by
  obtain⟨j,hj,rfl⟩:=List.getElem_of_mem hl;have h1:=h.gW j hj;have h2:=hb j;have h3:=h.bh8 j;rw[nZ hj] at h1 h2 h3;exact⟨h2,h1.2,ae⟩
theorem iw.len_(h:iw k L led):(Ii k L led).length<=1000000000:=by
 have h1:=VI k L led;have h2:cnt L<=_:=h.fit.ok.bg7;have h3:=h.hlen;omega
theorem Yv(v:Value)(w:World)(h:iY .u8 w v (Ii k L led))(hr:iw k L led)(hb:∀j,mF (lvl L j)) :
 aH 210 #[v] w fun e w'=>∃(g:Nat) (F:Nat->Prop),e=.returned (.tuple #[.pointer (some ⟨g,0,none⟩),.int .i64 0])/\MR F w' g k L led/\(∀x,F x->w.heap.size<=x)/\Below w.heap.size w w':=by
 refine(Yt v _ w h (hr.by_ hb) hr.len_).mono ?_
 rintro e w' ⟨hor,hbw⟩
 rcases hor with⟨g,k',L',bh3,F,rfl,hk,hka,hF⟩|⟨rfl,hno⟩
 ·obtain⟨rfl,rfl,rfl⟩:=hk.uniq ⟨hr,hb,rfl⟩
  exact⟨g,F,rfl,hka,hF,hbw⟩
 ·exact absurd ⟨hr,hb,rfl⟩ (hno k L led)
end
end Go.Proofs.YtilcnjbpmoijmaaGreat.K
