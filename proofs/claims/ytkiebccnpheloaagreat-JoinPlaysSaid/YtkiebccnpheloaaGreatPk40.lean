/- Parts of a proof: what its theorem reaches, words cut short. No condition of its own. -/
import Derived.Test.YtkiebccnpheloaaGreatPk38
import Derived.Test.YtkiebccnpheloaaGreatPk39
import Derived.Laws.BytesArg
set_option maxRecDepth 100000
set_option maxHeartbeats 16000000
set_option linter.unusedVariables false
set_option linter.unusedSimpArgs false
namespace Go.Proofs.YtkiebccnpheloaaGreat.K
section
open Go.RowKit Go.Lib
structure YP(bs:List Int)(k:Nat)(L:LL)(led:Nat):Prop where
 right:iw k L led
 bd:∀j,kS (lvl L j)
 eq:EY k L led=bs
theorem YP.rd{bs:List Int}{k:Nat}{L:LL}{led:Nat}(h:YP bs k L led):Ls bs=some (⟨k,led,L⟩,[]):=by
 have hr:=h.right;have hm:∀l∈L,kS l/\qA l/\l.length<=4096:=fun l hl=>by
  obtain⟨j,hj,rfl⟩:=List.getElem_of_mem hl;have h1:=hr.fJ j hj;have h2:=h.bd j;rw[jV hj] at h1 h2;refine⟨h2,h1.2,bG h1.1 (bG (room_le ?_) ?_)⟩
  ·rw[bY];have:=hr.k8;omega
  ·rw[bY];have:=hr.k4;omega
 have:=af0 (k:=(k:Int)) (L:=L) (led:=led) [] ae hr.k4 (by have:=hr.IP;omega) hr.hlen hm
 rw[List.append_nil,h.eq] at this;exact this
theorem YP.uniq{bs:List Int}{k k':Nat}{L L':LL}{led led':Nat}(h:YP bs k L led)(h':YP bs k' L' led'):k=k'/\L=L'/\led=led':=by
 have h1:=h.rd;rw[h'.rd] at h1;injection h1 with h1;injection h1 with h1 _;injection h1 with h1 h2 h3;exact⟨by omega,h3.symm,ae⟩
theorem aq6{bs r1 r2 r3 r4:List Int}{k led n:Int}{L:LL}(h1:Fq 4096 bs=some (k,r1))(h2:f_ r1=some (led,r2))(h3:Fq 49 r2=some (n,r3))(h4:tZ n.toNat [] r3=some (L,r4)):Ls bs=some (⟨k,led,L⟩,r4):=by
 unfold Ls;rw[h1];simp only;rw[h2];simp only;rw[h3];simp only;rw[h4]
theorem af4{bs:List Int}(h1:Fq 4096 bs=none):Ls bs=none:=by unfold Ls;rw[h1]
theorem af5{bs r1:List Int}{k:Int}(h1:Fq 4096 bs=some (k,r1))(h2:f_ r1=none):Ls bs=none:=by
 unfold Ls;rw[h1];simp only;rw[h2]
theorem af6{bs r1 r2:List Int}{k led:Int}(h1:Fq 4096 bs=some (k,r1))(h2:f_ r1=some (led,r2))(h3:Fq 49 r2=none):Ls bs=none:=by
 unfold Ls;rw[h1];simp only;rw[h2];simp only;rw[h3]
theorem af7{bs r1 r2 r3:List Int}{k led n:Int}(h1:Fq 4096 bs=some (k,r1))(h2:f_ r1=some (led,r2))(h3:Fq 49 r2=some (n,r3))(h4:tZ n.toNat [] r3=none):Ls bs=none:=by
 unfold Ls;rw[h1];simp only;rw[h2];simp only;rw[h3];simp only;rw[h4]
theorem af8{bs:List Int}(h:Ls bs=none):∀k L led,¬YP bs k L led:=fun k L led hk=>by
 rw[hk.rd] at h;cases h
theorem Va{k:Nat}{acc:LL}{l:List Int}{T:Option (LL × List Int)}(h:tZ (k+1) acc l=T){x:List Int × List Int}(hx:zn l=some x):tZ k (acc++[x.1]) x.2=T:=by
 rw[tZ,hx] at h;exact h
theorem Vb{k:Nat}{acc:LL}{l:List Int}{T:Option (LL × List Int)}(h:tZ (k+1) acc l=T)(hx:zn l=none):T=none:=by
 rw[tZ,hx] at h;exact h.symm
theorem LH:∀(k:Nat) (acc l:List Int) (x:List Int × List Int),oK k acc l=some x->∃j,x.2=l.drop j
 | 0,acc,l,x,h=>by simp only[oK,bC] at h;subst h;exact⟨0,ag⟩
 | k+1,acc,l,x,h=>by
  rw[oK] at h
  cases h1:f_ l with
  | none=>rw[h1] at h;cases h
  | some y=>
   rw[h1] at h;simp only at h
   cases h2:nxV acc.getLast? y.1 with
   | none=>rw[h2] at h;cases h
   | some v=>rw[h2] at h;exact FN (yG h1).2 (LH k _ _ x h)
theorem LJ:∀(k:Nat) (acc l:List Int) (x:List Int × List Int),oK k acc l=some x->x.1.length=acc.length+k
 | 0,acc,l,x,h=>by simp only[oK,bC] at h;subst h;rfl
 | k+1,acc,l,x,h=>by
  rw[oK] at h
  cases h1:f_ l with
  | none=>rw[h1] at h;cases h
  | some y=>
   rw[h1] at h;simp only at h
   cases h2:nxV acc.getLast? y.1 with
   | none=>rw[h2] at h;cases h
   | some v=>
    rw[h2] at h;have:=LJ k _ _ x h;rw[this,aI,bK];omega
theorem YQ{bs:List Int}{a:Nat}{l r:List Int}(h:zn (bs.drop a)=some (l,r)):bs.drop (bs.length - r.length)=r/\l.length<=4096:=by
 unfold zn at h
 cases h1:Fq 4096 (bs.drop a) with
 | none=>rw[h1] at h;cases h
 | some x=>
  rw[h1] at h;simp only at h;obtain⟨h2,h3⟩:=x9 h1;obtain⟨j,hj⟩:=FN (yG h2).2 (LH _ _ _ _ h);have hl:=LJ _ _ _ _ h;simp only[bf] at hl;exact⟨suf (m:=a+j) (by rw[<-List.drop_drop];exact hj),ae⟩
def Jn(base:Nat)(w:World)(gl n:Nat)(acc:LL):Prop:=
 ∃vs,dI wI base w (.slice (some ⟨gl,0,none⟩) n n) vs/\vs.length=n/\∀i (h:i<vs.length),i<acc.length->dI fZ base w (gX vs[i]) (lvl acc i)/\(gX vs[i]).ownBlock≠some gl
section
variable {base gl n : Nat} {w w' : World} {acc : LL}
theorem Jn.lt(h:Jn base w gl n acc):base<=gl/\gl<w.heap.size:=by
 obtain⟨vs,h1,_⟩:=h;exact h1.lt gl rfl
theorem Jn.stay(h:Jn base w gl n acc)(hk:∀k,base<=k->k<w.heap.size->w'.heap[k]?=w.heap[k]?):Jn base w' gl n acc:=by
 obtain⟨vs,h1,h2,h3⟩:=h;exact⟨vs,h1.stay fun k e=>hk k (h1.lt k e).1 (h1.lt k e).2,h2,fun i hi hj=>⟨(h3 i hi hj).1.stay fun k e=>hk k ((h3 i hi hj).1.lt k e).1 ((h3 i hi hj).1.lt k e).2,(h3 i hi hj).2⟩⟩
theorem Jn.start(w:World)(n:Nat)(hn:n<=1000000):Jn w.heap.size (w.alloc (.cells (madeCells #[.slice none 0 0] n) 236)) w.heap.size n []:=
 ⟨wL n,LG w n hn,by simp[wL],fun i _ hj=>absurd hj ag⟩
theorem Jn.put(h:Jn base w gl n acc)(hj:acc.length<n){s:Sv}{l:List Int}(ho:dI fZ base w (gX s) l)(hne:(gX s).ownBlock≠some gl):Jn base (w.setCell ⟨gl,acc.length,none⟩ (gX s)) gl n (acc++[l]):=by
 obtain⟨vs,h1,h2,h3⟩:=h;have hj':acc.length<vs.length:=ae
 have hset:=h1.dP acc.length hj' s;rw[show acc.length * wI.k=acc.length by show acc.length * 1=_;omega] at hset
 refine⟨vs.set acc.length s,hset,by rw[bU];exact h2,fun i hi hia=>?_⟩
 rw[bU] at hi;rw[aI,bK] at hia;rw[List.getElem_set]
 by_cases e:acc.length=i
 ·subst e
  have el:lvl (acc++[l]) acc.length=l:=by unfold lvl;simp[List.getD]
  rw[if_pos rfl,el];exact⟨ho.far hne _,hne⟩
 ·rw[if_neg e]
  have af9:i<acc.length:=ae
  have el:lvl (acc++[l]) i=lvl acc i:=by unfold lvl;simp only[List.getD];rw[List.getElem?_append_left af9]
  rw[el];exact⟨(h3 i hi af9).1.far (h3 i hi af9).2 _,(h3 i hi af9).2⟩
theorem Jn.cell(h:Jn base w gl n acc){j:Nat}(hj:j<n):∃u,w.cell? ⟨gl,j,none⟩=some (gX u)/\w.frozen? ⟨gl,j,none⟩=false:=by
 obtain⟨vs,h1,h2,_⟩:=h;have hj':j<vs.length:=ae
 have c:=h1.cellAt hj' 0 af
 rw[show j * wI.k+0=j by show j * 1+0=j;omega] at c
 exact⟨vs[j],c,h1.frozenAt j⟩
theorem Jn.rdr(h:Jn base w gl n acc){g a:Nat}{bs:List Int}(hr:dZ w g bs a)(hne:gl≠g)(j:Nat)(u:Value):dZ (w.setCell ⟨gl,j,none⟩ u) g bs a:=by
 obtain⟨vs,h1,_,_⟩:=h;obtain⟨v,b1,b2,b3⟩:=hr;have hk:∀k,k≠gl->(w.setCell ⟨gl,j,none⟩ u).heap[k]?=w.heap[k]?:=fun k hk=>bF w ⟨gl,j,none⟩ u k hk
 refine⟨v,(hk g (fun e=>hne e.symm)).trans b1,b2.stay fun k e=>hk k ?_,b3⟩
 rintro rfl
 rcases b2.2 with q|⟨g1,cap,cur,rfl,_,e3,_⟩
 ·rw[q.1] at e;cases e
 ·cases e
  rcases h1.2 with q|⟨g2,cap2,yS,e4,_,e6,_⟩
  ·cases q.1
  ·injection e4 with e4
   injection e4 with e4;injection e4 with e4;subst e4;rw[e3] at e6
   cases e6
theorem Jn.llr(h:Jn base w gl n acc)(hl:acc.length=n):VR w (.slice (some ⟨gl,0,none⟩) n n) acc:=by
 obtain⟨vs,h1,h2,h3⟩:=h;exact⟨vs,ae,h1.rd,fun i hi=>(h3 i hi ae).1.rd⟩
end
def YR(bs:List Int)(w:World)(e:Ending)(w':World):Prop:=
 ((∃(g k:Nat) (L:LL) (led:Nat) (F:Nat->Prop),e=.returned (.pointer (some ⟨g,0,none⟩))/\YP bs k L led/\GR F w' g k L led/\∀x,F x->w.heap.size<=x)\/(ay6 e/\∀k L led,¬YP bs k L led))/\Below w.heap.size w w'
theorem Vd(v:Value)(bs:List Int)(w:World)(h:iH .u8 w v bs)(hb:qQ bs)(hlen:bs.length<=1000000000) :
 Calls Tryz.prog 340 #[v] w (YR bs w):=by
 obtain⟨i1,hi0,hiz,his,hib⟩:=info_parts slI;have JI:=aB hi0;have JZ:=aB hiz;have Ye:=aB his;have Yf:=aB hib;clear hi0 hiz his hib;have hl12:bs.length<=1000000000000:=ae
 have HNW:=aB (JK v bs w h hl12);have HRD:=aB (fun W (hb:Below w.heap.size w W)=>Rd.keep h hb)
 have HB:=aB hb;obtain⟨Av,cv,rfl,_,_,_⟩:=h.form;clear h hb;have hmk:∀n:Nat,n<=49->∀W:World,(Instr.makeSlice 152 (.int .u64 n) (.int .u64 n)).run Tryz.prog W=.ok (.slice (some ⟨W.heap.size,0,none⟩) n n) (W.alloc (.cells (madeCells #[.slice none 0 0] n) 236)):=fun n hn W=>by
  have:=pK 152 236 i1 _ Tryz.underlying152 JI.out JZ.out .u64 .u64 n n (aK _) (by rw[Yf.out];omega) ae W
  rw[Ye.out,Nat.mul_one] at this;exact this
 have HMK:=aB hmk;clear hmk;have p_:∀args w,(callFunc 395 args).run Tryz.prog w=.ok (.enter 395 args) w:=fun _ _=>rfl
 go_enter Tryz.func340,Tryz.ntmps340
 go_wp2_with fail;refine(HNW.out).mono ?_
 rintro e w1 ⟨g,rfl,hg,hr1,hb1⟩;have hz1:=hb1.size;have hgl:=hr1.lt;have HR1:=aB hr1;have HB1:=aB hb1;clear hr1 hb1 HNW
 go_upto_region 3 with fail;obtain⟨w2,hw2⟩:∃w2,w1.alloc (.cells #[.pointer (some ⟨g,0,none⟩)] 485)=w2:=⟨_,rfl⟩;have hb2:Below w1.heap.size w1 w2:=by rw[<-hw2];exact(aH _ _).alloc (aK _) _
 have hz2:w2.heap.size=w1.heap.size+1:=by rw[<-hw2];simp
 have c2:w2.cell? ⟨w1.heap.size,0,none⟩=some (.pointer (some ⟨g,0,none⟩)):=by rw[<-hw2];simp[World.cell?_alloc_new]
 obtain⟨gr,hgr⟩:∃gr,w1.heap.size=gr:=⟨_,rfl⟩;rw[hgr] at c2 hgl hz2;rw[hw2,hgr];have R2:=aB (HR1.out.keep hb2);have C2:=aB c2;have HB2:=aB (HB1.out.trans (hb2.mono hz1));have hne:gr≠g:=ae
 have U3:gr<w2.heap.size:=ae
 have hwz:w.heap.size<=w2.heap.size:=ae
 have NO:Hid (∀(s:_) (w':World),Touch (fun k=>k=g) w2 w'->Ls bs=none->YR bs w (.panicked [{v:=.iface 431 (.string s),recovered:=false}]) w'):=aB fun s w' ht hn=>
  ⟨.inr ⟨⟨s,rfl⟩,af8 hn⟩,HB2.out.trans (ht.below (fun i hi=>by have hi:i=g:=hi;omega) hwz)⟩
 have HN1:=aB (zo 4096 gr g bs 0 w2 R2.out c2 HB.out hl12);rw[bQ] at HN1;clear hw2 hb2 c2 hgr HR1 HB1
 go_wp2_with fail;refine(HN1.out).mono ?_
 intro e w3 hg;unfold qH at hg
 cases hA:Fq 4096 bs with
 | none=>
  simp only[hA] at hg;have HU:=aB (af4 hA);obtain⟨⟨pv,rfl⟩,h4⟩:=hg;have T3:=aB h4;clear hA h4
  go_wp2_with fail;exact⟨rfl,NO.out _ _ T3.out HU.out⟩
 | some pA=>
  obtain⟨k,r1⟩:=pA;simp only[hA] at hg;obtain⟨v1,rfl,rfl,h3,h4⟩:=hg;have T3:=aB h4;have R3:=aB h3;have HA:=aB hA;obtain⟨hx,hkm⟩:=x9 hA;have hkb:=lW HB.out hx;have S1:Hid (bs.drop (bs.length - r1.length)=r1):=aB (nR (a:=0) (by rw[bQ];exact hx))
  have C3:=aB ((h4.cell (o:=0) U3 hne).trans C2.out);have HN2:=aB (zU gr g bs _ w3 h3 C3.out HB.out hl12);rw[S1.out] at HN2;have hz3:=h4.size;simp only at hkm hkb;clear hA h3 h4 hx HN1
  go_wp2_with fail;refine(HN2.out).mono ?_
  intro e w4 hg;unfold qH at hg
  cases hA:f_ r1 with
  | none=>
   simp only[hA] at hg;have HU:=aB (af5 HA.out hA);obtain⟨⟨pv,rfl⟩,h4⟩:=hg;have T4:=aB (tt T3.out h4);clear hA h4
   go_wp2_with fail;exact⟨rfl,NO.out _ _ T4.out HU.out⟩
  | some pB=>
   obtain⟨led,r2⟩:=pB;simp only[hA] at hg;obtain⟨v2,rfl,rfl,h3,h4⟩:=hg;have T4:=aB (tt T3.out h4);have HA2:=aB hA;have hlb:0<=led/\led<18446744073709551616:=by
    have hby:qQ r1:=by rw[<-S1.out];exact HB.out.drop _
    exact lW hby hA
   have S2:Hid (bs.drop (bs.length - r2.length)=r2):=aB (nR (by rw[S1.out];exact hA))
   have C4:=aB ((T4.out.cell (o:=0) U3 hne).trans C2.out);have HN3:=aB (zo 49 gr g bs _ w4 h3 C4.out HB.out hl12);rw[S2.out] at HN3;have mG:=T4.out.size;clear hA h3 h4 HN2
   go_wp2_with fail;refine(HN3.out).mono ?_
   intro e w5 hg;unfold qH at hg
   cases hA:Fq 49 r2 with
   | none=>
    simp only[hA] at hg;have HU:=aB (af6 HA.out HA2.out hA);obtain⟨⟨pv,rfl⟩,h4⟩:=hg;have T5:=aB (tt T4.out h4);clear hA h4
    go_wp2_with fail;exact⟨rfl,NO.out _ _ T5.out HU.out⟩
   | some pC=>
    obtain⟨n0,r3⟩:=pC;simp only[hA] at hg;obtain⟨v3,rfl,rfl,h3,h4⟩:=hg;have T5:=aB (tt T4.out h4);have R5:=aB h3;have Jm:=aB hA;obtain⟨hx,hnm⟩:=x9 hA;have hnb:0<=n0/\n0<18446744073709551616:=by
     have hby:qQ r2:=by rw[<-S2.out];exact HB.out.drop _
     exact lW hby hx
    obtain⟨n,rfl⟩:∃n:Nat,n0=n:=⟨n0.toNat,ae⟩
    simp only at hnm;have S3:Hid (bs.drop (bs.length - r3.length)=r3):=aB (nR (by rw[S2.out];exact hx))
    have C5:=aB ((T5.out.cell (o:=0) U3 hne).trans C2.out);have JO:=T5.out.size;have hmk:=HMK.out n ae
    clear hA h3 h4 HN3 hx
    go_wp2_with fail;have HLS:=aB (Jn.start w5 n ae)
    have hb6:Below w5.heap.size w5 (w5.alloc (.cells (madeCells #[.slice none 0 0] n) 236)):=(aH _ _).alloc (aK _) _;have T6:=aB (T5.out.alloc (.cells (madeCells #[.slice none 0 0] n) 236));have R6:=aB (R5.out.keep hb6);obtain⟨T,hT⟩:∃T,tZ n [] r3=T:=⟨_,rfl⟩;have HT:=aB hT;have R0:Hid (tZ n [] (bs.drop (bs.length - r3.length))=T):=aB (by rw[S3.out];exact hT)
    have az5:=hb6.size;obtain⟨w6,hw6⟩:∃w6,w5.alloc (.cells (madeCells #[.slice none 0 0] n) 236)=w6:=⟨_,rfl⟩;rw[hw6] at HLS T6 R6 az5 |-;obtain⟨gl,Ad⟩:∃gl,w5.heap.size=gl:=⟨_,rfl⟩;rw[Ad] at HLS az5 |-;have Py:gl≠g:=ae
    have bj1:w2.heap.size<=gl:=ae
    clear hw6 hb6 hT hmk R5 HMK;generalize bs.length - r3.length=a3 at *
    go_loopg [8,26] n (fun q _ i wr=>∃(j a':Nat) (acc:LL),q=n - j/\j<=n/\i=.int .i64 j/\acc.length=j/\Hid (∀l∈acc,kS l/\l.length<=4096)/\Hid (Jn gl wr gl n acc)/\Hid (dZ wr g bs a')/\Hid (tZ (n - j) acc (bs.drop a')=T)/\Hid (Touch (fun k=>k=g) w2 wr))
    case atStart=>exact⟨0,a3,[],rfl,ae,rfl,rfl,aB (fun x hx=>by simp at hx),HLS,R6,R0,T6⟩
    case round=>
     obtain⟨j,a',acc,hq,hj,rfl,hacc,HI,HLJ,HR,HS0,IU⟩:=hrel;have HQ:=aB hq;have hzr:=IU.out.size;have cb:=(IU.out.cell (o:=0) U3 hne).trans C2.out;clear hq
     by_cases hlt2:j<n
     ·have hs':=HS0.out
      rw[show n - j=(n - (j+1))+1 by omega] at hs'
      have HSJ:=aB hs';have hji:(j:Int)<(n:Int):=ae
      have HRL:=aB (PV gr g bs a' wr HR.out cb hne HB.out hl12);have ae2:=HLJ.out.lt.2;clear hs' HS0 cb
      go_wp2_with (go_at_fn 395;refine(HRL.out).mono ?_)
      intro e w7 hg;unfold qH at hg
      cases hA:zn (bs.drop a') with
      | none=>
       simp only[hA] at hg;have HU:Hid (Ls bs=none):=aB (af7 HA.out HA2.out Jm.out (by rw[bY,HT.out];exact Vb HSJ.out hA))
       obtain⟨⟨pv,rfl⟩,h4⟩:=hg;have T7:=aB (tt IU.out h4);clear hA h4
       go_wp2_with fail;exact⟨rfl,NO.out _ _ T7.out HU.out⟩
      | some p=>
       obtain⟨l,r⟩:=p;simp only[hA] at hg;obtain⟨v,rfl,⟨h2,h2b⟩,h3,h4⟩:=hg;obtain⟨A7,c7,ev,_,_,_⟩:=h2.rd.form;subst ev;obtain⟨YJ,hll⟩:=YQ hA;have UJ:Hid (tZ (n - (j+1)) (acc++[l]) (bs.drop (bs.length - r.length))=T):=aB (by rw[YJ];exact Va HSJ.out hA)
       have HI1:Hid (∀x∈acc++[l],kS x/\x.length<=4096):=aB fun x hx=>by
        rcases cO.1 hx with hx|hx
        ·exact HI.out x hx
        ·simp only[List.mem_singleton] at hx;subst hx;exact⟨h2b,hll⟩
       have L7:=aB (HLJ.out.stay fun k h1 h2=>h4.block k h2 (fun e=>by have e:k=g:=e;omega))
       have o7:dI fZ gl w7 (gX (A7,l.length,c7)) l:=(af1.1 h2).more ae
       have n7:(gX (A7,l.length,c7)).ownBlock≠some gl:=fun e=>by have:=(dN.lt h2 gl e).1;omega
       obtain⟨u,ku,fu⟩:=L7.out.cell hlt2;have L8:=aB (L7.out.put ae o7 n7)
       have R8:=aB (L7.out.rdr h3 Py j (gX (A7,l.length,c7)));have T8:Hid (Touch (fun k=>k=g) w2 (w7.setCell ⟨gl,j,none⟩ (gX (A7,l.length,c7)))):=aB ((tt IU.out h4).setCell (.inr bj1) _)
       rw[hacc] at L8;obtain⟨uA,un,uc⟩:=u;simp only[gX] at ku;have bo4:l.length<=9223372036854775807:=ae
       clear hA h2 h3 h4 YJ o7 n7 HLJ HR;generalize bs.length - r.length=a2 at *
       go_wp2_with fail
       go_roundg (n - (j+1))
       case measure=>have:=HQ.out;omega
       case rel=>exact⟨j+1,a2,acc++[l],rfl,ae,ai,by simp[hacc],HI1,L8,R8,UJ,T8⟩
     ·obtain rfl:j=n:=ae
      have hs':=HS0.out;rw[Nat.sub_self,tZ] at hs';have az6:bs.drop a'=bs.drop a':=rfl;have HK:Hid (Ls bs=some (⟨k,led,acc⟩,bs.drop a')):=aB (aq6 HA.out HA2.out Jm.out (by rw[bY,HT.out];exact hs'.symm))
      obtain⟨K,rfl⟩:∃K:Nat,k=K:=⟨k.toNat,ae⟩
      obtain⟨ld,rfl⟩:∃ld:Nat,led=ld:=⟨led.toNat,ae⟩
      have aq7:∀i,kS (lvl acc i)/\(lvl acc i).length<=4096:=fun i=>by
       rcases bJ i acc.length with h1|h1
       ·rw[jV h1];exact HI.out _ (bu h1)
       ·rw[qB h1];exact⟨fun x hx=>by simp at hx,ag⟩
      have az7:=aB aq7;have ZI:=HLJ.out.llr hacc;have HLD:=aB (YO (K:Int) _ acc ld wr ZI ae  ae  ae (fun i=>by have:=(aq7 i).2;omega))
      have EK:=aB (show wrap64 (K:Int)=(K:Int) by unfold wrap64;omega)
      have hwr:w.heap.size<=wr.heap.size:=ae
      have HBR:Hid (Below w.heap.size w wr):=aB (HB2.out.trans (IU.out.below (fun i hi=>by have hi:i=g:=hi;omega) hwz))
      have CB:=aB cb;have bj2:gr<wr.heap.size:=ae
      have NOK:Hid ((¬iw K acc ld\/bs.drop a'≠[]\/EY K acc ld≠bs)->∀k L led,¬YP bs k L led):=aB fun hor k L led hk=>by
       have h1:=hk.rd;rw[HK.out] at h1;injection h1 with h1;injection h1 with h1 h2;injection h1 with e1 e2 e3;have e1':K=k:=Int.ofNat_inj.1 e1;have e2':ld=led:=Int.ofNat_inj.1 e2;subst e1';subst e2';subst e3
       rcases hor with h|h|h
       ·exact h hk.right
       ·exact h h2
       ·exact h hk.eq
      have ha':a'<=bs.length:=by obtain⟨_,_,_,h3⟩:=HR.out;exact h3
      clear hs' HS0 ZI aq7 HLJ cb az6;have ek:=EK.out
      go_wp2_with fail;clear ek EK;refine(HLD.out).mono ?_
      rintro e w8 ⟨hor,hb8⟩;have zJ:=aB (HBR.out.trans (hb8.mono hwr));have hz8:=hb8.size
      rcases hor with⟨g2,rfl,hrt,F,hka,hF⟩|⟨rfl,hnr⟩
      ·have HRT:=aB hrt
       have HKA:=aB hka;rw[bY] at HKA;have Jl:Hid (∀x,F x->w.heap.size<=x):=aB fun x hx=>bG hwr (hF x hx)
       have c8:=(hb8.cell (p:=⟨gr,0,none⟩) bj2).trans CB.out;have R8:=aB (HR.out.keep hb8);have HLF:=aB (uu g bs a' w8 R8.out hl12);clear hrt hka hF hb8 HLD
       by_cases hrest:a'<bs.length
       ·have UY:=aB (NOK.out (.inr (.inl (fun e=>by have:=congrArg List.length e;rw[bn,bf] at this;omega))))
        have hgt:(bs.length:Int) - (a':Int) > 0:=ae
        go_wp2_with (go_at_call 332;refine(HLF.out).mono ?_;rintro e w' ⟨rfl,q,rfl⟩);refine⟨rfl,.inr ⟨⟨_,rfl⟩,UY.out⟩,below_drewN zJ.out _⟩
       ·have hdn:bs.drop a'=[]:=List.drop_eq_nil_of_le ae
        have HDN:=aB hdn;have hgt:(bs.length:Int) - (a':Int)=0:=ae
        rw[hgt] at HLF;clear hdn hgt
        go_wp2_with (go_at_call 332;refine(HLF.out).mono ?_;rintro e w' ⟨rfl,q,rfl⟩);have HB9:=aB (below_drewN zJ.out q);have HK9:=aB (HKA.out.keep (below_drewN (aH _ _) q));obtain⟨w9,KN⟩:∃w9,w8.drewN q=w9:=⟨_,rfl⟩;rw[KN] at HB9 HK9 |-;obtain⟨lv,vs,hks⟩:=HK9.out;have Ov:=aB (Ej w9 hks HRT.out.fit.ok (fun i=>(az7.out i).1) ae)
        have az8:(EY K acc ld).length<=1000000000000:=by
         have h1:=RG K acc ld;have h2:cnt acc<=_:=HRT.out.fit.ok.aq0;have h3:acc.length<=49:=HRT.out.hlen;omega
        clear KN hks c8;refine(Ov.out).mono ?_
        rintro e w10 ⟨v10,rfl,o10,Fv⟩;have aq8:=aB (HB9.out.trans (Fv.mono HB9.out.size));have bj3:=aB (HK9.out.keep Fv);have HEQ:=aB (yL v10 _ (EY K acc ld) bs w10 (dN.rd o10) (HRD.out w10 aq8.out) az8 hl12);obtain⟨A10,c10,ev,_,_,_⟩:=(dN.rd o10).form;obtain⟨n10,az9⟩:∃n10,(EY K acc ld).length=n10:=⟨_,rfl⟩;rw[az9] at ev;subst ev;clear o10 Fv az9 az8
        go_wp2_with fail;refine(HEQ.out).mono ?_
        rintro e w11 ⟨rfl,Fz⟩;have ba0:=aB (aq8.out.trans (Fz.mono aq8.out.size));have bj4:=aB (bj3.out.keep Fz);clear Fz HEQ
        by_cases hE:EY K acc ld=bs
        ·have HE:=aB hE
         rw[decide_eq_true hE];clear hE
         go_wp2_with fail;refine bodyPost_ret (by simp[results,Tryz.results340,go_sem, *];try rfl) rfl ?_
         exact⟨.inl ⟨g2,K,acc,ld,F,rfl,⟨HRT.out,fun i=>(az7.out i).1,HE.out⟩,bj4.out,Jl.out⟩,ba0.out⟩
        ·have UY:=aB (NOK.out (.inr (.inr hE)))
         rw[decide_eq_false hE];clear hE
         go_wp2_with fail;exact⟨rfl,.inr ⟨⟨_,rfl⟩,UY.out⟩,ba0.out⟩
      ·have UY:=aB (NOK.out (.inl hnr))
       clear hnr hb8 HLD
       go_wp2_with fail;refine⟨rfl,.inr ⟨⟨_,rfl⟩,UY.out⟩,zJ.out⟩
end
section
open Go.RowKit Go.Lib
theorem catch_panicking(h2 h3:Nat)(x2 x3:Value)(s:ByteArray)(w:World)(c2:w.cell? ⟨h2,0,none⟩=some x2)(c3:w.cell? ⟨h3,0,none⟩=some x3)(f2:w.frozen? ⟨h2,0,none⟩=false)(f3:w.frozen? ⟨h3,0,none⟩=false)(hne:h2≠h3) :
 CallsD Tryz.prog 339 #[.pointer (some ⟨h2,0,none⟩),.pointer (some ⟨h3,0,none⟩)] (.panicking ({v:=.iface 431 (.string s),recovered:=false}::[])) w fun e u' w'=>
  e=.returned (.tuple #[])/\u'=.panicking ({v:=.iface 431 (.string s),recovered:=true}::[])/\w'.cell? ⟨h2,0,none⟩=some (.pointer none)/\w'.cell? ⟨h3,0,none⟩=some (.int .i64 9)/\Touch (fun k=>k=h2\/k=h3) w w':=by
 have l2:h2<w.heap.size:=b_ _ _ c2;have l3:h3<w.heap.size:=b_ _ _ c3;refine callsD_of_wpS Tryz.func339 rfl fun c₀ cs hu=>?_
 apply wpS_seq
 apply wpS_region
 rw[Tryz.ntmps339];simp[wpOpsS,go_sem,recoverD,hu,Exit.thenS]
 refine wpS_of_wp ?_
 have e:(#[Value.pointer (some ⟨h2,0,none⟩),Value.pointer (some ⟨h3,0,none⟩)]++((Array.replicate 14 undef).setIfInBounds 3 (Value.iface 431 (Value.string s))).setIfInBounds 0 (Value.iface 431 (Value.string s)):Array Value)=#[Value.pointer (some ⟨h2,0,none⟩),Value.pointer (some ⟨h3,0,none⟩),Value.iface 431 (Value.string s),undef,undef,Value.iface 431 (Value.string s),undef,undef,undef,undef,undef,undef,undef,undef,undef,undef]:=rfl;rw[e];clear e;have hta:∀(s:ByteArray) (w:World),(Instr.typeAssert (.iface 431 (.string s)) 20 431 true).run Tryz.prog w=.ok (.tuple #[.string s,.bool true]) w:=fun _ _=>by kernel_rfl
 go_wp2
 cases c₀
 have n23:(⟨h2,0,none⟩:Addr)≠⟨h3,0,none⟩:=fun h=>hne (by injection h)
 have B2:((w.setCell ⟨h2,0,none⟩ (.pointer none)).setCell ⟨h3,0,none⟩ (.int .i64 9)).cell? ⟨h2,0,none⟩=some (.pointer none):=
  (World.cell?_setCell_other _ _ _ _ n23.symm).trans (World.cell?_setCell_same _ _ _ c2)
 have B3:((w.setCell ⟨h2,0,none⟩ (.pointer none)).setCell ⟨h3,0,none⟩ (.int .i64 9)).cell? ⟨h3,0,none⟩=some (.int .i64 9):=
  World.cell?_setCell_same _ _ _ ((World.cell?_setCell_other _ _ _ _ n23).trans c3)
 refine⟨rfl,_,rfl,.tuple #[],by simp[results,Tryz.results339,go_sem],rfl,rfl,B2,B3,?_⟩
 exact((Touch.refl (fun k=>k=h2\/k=h3) w).setCell (p:=⟨h2,0,none⟩) (.inl (.inl rfl)) _).setCell (p:=⟨h3,0,none⟩) (.inl (.inr rfl)) _
theorem catch_idle(h2 h3:Nat)(w:World) :
 CallsD Tryz.prog 339 #[.pointer (some ⟨h2,0,none⟩),.pointer (some ⟨h3,0,none⟩)] .returning w fun e u' w'=>e=.returned (.tuple #[])/\u'=.returning/\w'=w:=by
 refine callsD_of_wpS Tryz.func339 rfl fun c₀ cs hu=>?_
 apply wpS_seq
 apply wpS_region
 simp[wpOpsS,go_sem,recoverD,hu,Tryz.ntmps339,Exit.thenS]
 refine wpS_of_wp ?_
 go_wp2
 cases c₀
 simp_all[bodyPostS,results,Tryz.results339]
theorem Ve(h2 h3:Nat)(s:ByteArray)(w0 w:World)(R:Ending->World->Prop)(tmps:Array Value)(t2:tmps[2]?=some (.pointer (some ⟨h2,0,none⟩)))(t3:tmps[3]?=some (.pointer (some ⟨h3,0,none⟩)))
 (x2 x3:Value) (c2:w.cell? ⟨h2,0,none⟩=some x2) (c3:w.cell? ⟨h3,0,none⟩=some x3) (f2:w.frozen? ⟨h2,0,none⟩=false) (f3:w.frozen? ⟨h3,0,none⟩=false) (hne:h2≠h3) (b2:w0.heap.size<=h2) (b3:w0.heap.size<=h3) (hb:Below w0.heap.size w0 w)
 (hR:∀w',Below w0.heap.size w0 w'->R (.returned (.tuple #[.pointer none,.int .i64 9])) w') :
 Leaves Tryz.prog Tryz.f233 tmps R [{target:=.fn (.func 339) #[.pointer (some ⟨h2,0,none⟩),.pointer (some ⟨h3,0,none⟩)],args:=#[]}] (.panicking [{v:=.iface 431 (.string s),recovered:=false}]) w:=by
 refine leaves_cons (f:=339) (args:=#[.pointer (some ⟨h2,0,none⟩),.pointer (some ⟨h3,0,none⟩)]) ag (by simp[go_sem]) ?_
 refine(catch_panicking h2 h3 x2 x3 s w c2 c3 f2 f3 hne).mono ?_
 rintro e u' w'' ⟨rfl,rfl,k2,k3,kt⟩;have hb':Below w0.heap.size w0 w'':=hb.trans (kt.below (fun i hi=>by rcases hi with rfl|rfl<;>assumption) hb.size)
 have g2:tmps.getD 2 undef=.pointer (some ⟨h2,0,none⟩):=by simp[Array.getD_eq_getD_getElem?,t2]
 have g3:tmps.getD 3 undef=.pointer (some ⟨h3,0,none⟩):=by simp[Array.getD_eq_getD_getElem?,t3]
 refine⟨.tuple #[.pointer none,.int .i64 9],?_,hR w'' hb'⟩
 simp[results,Tryz.results233,go_sem,t2,t3,k2,k3]
theorem Vf(h2 h3:Nat)(w:World)(R:Ending->World->Prop)(tmps:Array Value)(t2:tmps[2]?=some (.pointer (some ⟨h2,0,none⟩)))(t3:tmps[3]?=some (.pointer (some ⟨h3,0,none⟩)))
 (x2 x3:Value) (c2:w.cell? ⟨h2,0,none⟩=some x2) (c3:w.cell? ⟨h3,0,none⟩=some x3) (hR:R (.returned (.tuple #[x2,x3])) w) :
 Leaves Tryz.prog Tryz.f233 tmps R [{target:=.fn (.func 339) #[.pointer (some ⟨h2,0,none⟩),.pointer (some ⟨h3,0,none⟩)],args:=#[]}] .returning w:=by
 refine leaves_cons (f:=339) (args:=#[.pointer (some ⟨h2,0,none⟩),.pointer (some ⟨h3,0,none⟩)]) ag (by simp[go_sem]) ?_
 refine(catch_idle h2 h3 w).mono ?_
 rintro e u' w'' ⟨rfl,rfl,rfl⟩;refine⟨.tuple #[x2,x3],?_,hR⟩
 simp[results,Tryz.results233,go_sem,t2,t3,c2,c3]
theorem ag0{h2:Nat}(X:World)(a b:Value){x y:Value}(c2:X.cell? ⟨h2,0,none⟩=some x)(c3:X.cell? ⟨h2+1,0,none⟩=some y) :
 ((X.setCell ⟨h2,0,none⟩ a).setCell ⟨h2+1,0,none⟩ b).cell? ⟨h2,0,none⟩=some a/\((X.setCell ⟨h2,0,none⟩ a).setCell ⟨h2+1,0,none⟩ b).cell? ⟨h2+1,0,none⟩=some b:=by
 have n23:(⟨h2,0,none⟩:Addr)≠⟨h2+1,0,none⟩:=fun h=>by injection h with h;omega
 exact⟨(World.cell?_setCell_other _ _ _ _ n23.symm).trans (World.cell?_setCell_same _ _ _ c2),World.cell?_setCell_same _ _ _ ((World.cell?_setCell_other _ _ _ _ n23).trans c3)⟩
theorem Vg{w X:World}{h2:Nat}(hb:Below w.heap.size w X)(h:w.heap.size<=h2)(a b:Value):Below w.heap.size w ((X.setCell ⟨h2,0,none⟩ a).setCell ⟨h2+1,0,none⟩ b):=
 (hb.setCell (p:=⟨h2,0,none⟩) h a).setCell (p:=⟨h2+1,0,none⟩) (by show _<=h2+1;omega) b
def YS(bs:List Int)(w:World)(e:Ending)(w':World):Prop:=
 ((∃(g k:Nat) (L:LL) (led:Nat) (F:Nat->Prop),e=.returned (.tuple #[.pointer (some ⟨g,0,none⟩),.int .i64 0])/\YP bs k L led/\GR F w' g k L led/\∀x,F x->w.heap.size<=x)\/(e=.returned (.tuple #[.pointer none,.int .i64 9])/\∀k L led,¬YP bs k L led))/\Below w.heap.size w w'
theorem Vh(v:Value)(bs:List Int)(w:World)(h:iH .u8 w v bs)(hb:qQ bs)(hlen:bs.length<=1000000000) :
 Calls Tryz.prog 233 #[v] w (YS bs w):=by
 have hmf:∀(fn:Fn) (first cap:Array Value) (w:World),(Instr.makeFunc fn first cap).run Tryz.prog w=.ok (.func fn first cap) w:=fun _ _ _ _=>rfl
 have HR:=aB h;have HB:=aB hb;clear h hb
 go_enter_defers Tryz.func233,Tryz.ntmps233
 go_wp2_with fail;obtain⟨w1,hw1⟩:∃w1,w1=(w.alloc (.cells #[.pointer none] 115)).alloc (.cells #[.int .i64 0] 25):=⟨_,rfl⟩;have hb1:Below w.heap.size w w1:=by rw[hw1];exact((aH _ _).alloc (aK _) _).alloc ag _
 have B2:Hid (dH w1 w.heap.size 115 #[.pointer none]):=by show dH _ _ _ _;rw[hw1];exact(dH.new _ _ _).alloc _
 have B3:Hid (dH w1 (w.heap.size+1) 25 #[.int .i64 0]):=by
  show dH _ _ _ _;rw[hw1];have h:=dH.new (w.alloc (.cells #[.pointer none] 115)) 25 #[.int .i64 0]
  rwa [aO] at h
 obtain⟨h2,hh2⟩:∃h2,w.heap.size=h2:=⟨_,rfl⟩;have HH2:=aB hh2;rw[<-hw1];rw[hh2] at B2 B3 |-;have l2:=B2.out.lt;have l3:=B3.out.lt;have e2:w.heap.size<=h2:=ae
 have HST:=aB (Vd v bs w1 (Rd.keep HR.out hb1) HB.out hlen);have hz1:=hb1.size;clear hw1 hh2;refine(HST.out).mono ?_
 rintro e w2 ⟨hor,hb2⟩;have C2:=aB (B2.out.keep hb2);have C3:=aB (B3.out.keep hb2);have ZH:=aB (hb1.trans (hb2.mono hz1));have hz2:=hb2.size
 rcases hor with⟨g,k,L,led,F,rfl,hk,hka,hF⟩|⟨⟨s,rfl⟩,hno⟩
 ·have HK:=aB hk
  have HKA:=aB hka;have HF:=aB hF;have x2:=C2.out.cell 0;have x3:=C3.out.cell 0;have y2:=C2.out.frozen 0;have y3:=C3.out.frozen 0;simp only[aF,aC] at x2 x3;clear hk hka hF hb2
  go_wp2_with fail;have tp:=ag0 w2 (.pointer (some ⟨g,0,none⟩)) (.int .i64 0) x2 x3;refine(show Leaves Tryz.prog Tryz.f233 _ (YS bs w) _ .returning _ from ?_)
  refine Vf h2 (h2+1) _ _ _ rfl rfl _ _ tp.1 tp.2 ?_
  have T8:Touch (fun k=>k=h2\/k=h2+1) w2 ((w2.setCell ⟨h2,0,none⟩ (.pointer (some ⟨g,0,none⟩))).setCell ⟨h2+1,0,none⟩ (.int .i64 0)):=((Touch.refl _ w2).setCell (p:=⟨h2,0,none⟩) (.inl (.inl rfl)) _).setCell (p:=⟨h2+1,0,none⟩) (.inl (.inr rfl)) _
  refine⟨.inl ⟨g,k,L,led,F,rfl,HK.out,HKA.out.stay (fun x hx=>?_) T8.size,fun x hx=>bG hz1 (HF.out x hx)⟩,Vg ZH.out e2 _ _⟩
  have h1:=HF.out x hx;have h3:x<w2.heap.size:=by
   obtain⟨lv,vs,hks⟩:=HKA.out;exact hks.low x hx
  exact T8.block x h3 (fun e=>by rcases e with e|e<;>omega)
 ·have UY:=aB hno
  have x2:=C2.out.cell 0;have x3:=C3.out.cell 0;have y2:=C2.out.frozen 0;have y3:=C3.out.frozen 0;simp only[aF,aC] at x2 x3;clear hno hb2
  go_wp2_with fail;refine(show Leaves Tryz.prog Tryz.f233 _ (YS bs w) _ (.panicking _) _ from ?_)
  exact Ve h2 (h2+1) s w w2 _ _ rfl rfl _ _ x2 x3 y2 y3 ae e2 ae ZH.out (fun w' hb'=>⟨.inr ⟨rfl,UY.out⟩,hb'⟩)
end
section
open Go.RowKit Go.Lib
theorem G9{F:Nat->Prop}{g k n led:Nat}{lv:Value}{vs:List Sv}{L:LL}(bj5:Value)(w:World)(hs:rV F w g k n led lv vs L)(h2:2<=k)(hk:k<=1000000)(hL:L.length<=1000)(hl:cnt L<=1000000000)(hf:gZ k L=none) :
 Calls Tryz.prog 170 #[.pointer (some ⟨g,0,none⟩),bj5] w fun e w'=>e=.returned (.tuple #[])/\w=w':=by
 have HFU:=aB (DZ w hs h2 hk hL hl);have e1:rJ k L=-1:=by unfold rJ;rw[hf]
 rw[e1] at HFU;clear hs hf e1
 go_enter Tryz.func170,Tryz.ntmps170
 go_wp2_with fail;refine(HFU.out).mono ?_
 rintro e w1 ⟨rfl,rfl⟩
 go_wp2_with fail
 go_loopg [4] 0 (fun _ t4 wr=>t4=.int .i64 (-1)/\w=wr)
 case atStart=>exact⟨rfl,rfl⟩
 case round=>
  obtain⟨rfl,rfl⟩:=hrel
  go_wp2_with fail
  go_end0
  exact⟨rfl,rfl⟩
end
section
open Go.RowKit Go.Lib
theorem iw.aq9{k:Nat}{L:LL}{led:Nat}(h:iw k L led)(j:Nat):(lvl L j).length<=4096:=by
 rcases bJ j L.length with hj|hj
 ·refine bG (h.fJ j hj).1 (bG (room_le ?_) ?_)
  ·rw[bY];have:=h.k8;omega
  ·rw[bY];have:=h.k4;omega
 ·rw[qB hj];simp
theorem iw.by_{k:Nat}{L:LL}{led:Nat}(h:iw k L led)(hb:∀j,kS (lvl L j)):qQ (EY k L led):=
 aq2 ae (by have:=h.k4;omega) (by have:=h.IP;omega) (by have:=h.hlen;omega) fun l hl=>by
  obtain⟨j,hj,rfl⟩:=List.getElem_of_mem hl;have h1:=h.fJ j hj;have h2:=hb j;have h3:=h.aq9 j;rw[jV hj] at h1 h2 h3;exact⟨h2,h1.2,ae⟩
theorem iw.len_{k:Nat}{L:LL}{led:Nat}(h:iw k L led):(EY k L led).length<=1000000000:=by
 have h1:=RG k L led;have h2:cnt L<=_:=h.fit.ok.aq0;have h3:=h.hlen;omega
theorem Vj{k:Nat}{L:LL}{led:Nat}(v:Value)(w:World)(h:iH .u8 w v (EY k L led))(hr:iw k L led)(hb:∀j,kS (lvl L j)) :
 Calls Tryz.prog 233 #[v] w fun e w'=>∃(g:Nat) (F:Nat->Prop),e=.returned (.tuple #[.pointer (some ⟨g,0,none⟩),.int .i64 0])/\GR F w' g k L led/\(∀x,F x->w.heap.size<=x)/\Below w.heap.size w w':=by
 refine(Vh v _ w h (hr.by_ hb) hr.len_).mono ?_
 rintro e w' ⟨hor,hbw⟩
 rcases hor with⟨g,k',L',led',F,rfl,hk,hka,hF⟩|⟨rfl,hno⟩
 ·obtain⟨rfl,rfl,rfl⟩:=hk.uniq ⟨hr,hb,rfl⟩
  exact⟨g,F,rfl,hka,hF,hbw⟩
 ·exact absurd ⟨hr,hb,rfl⟩ (hno k L led)
end
end Go.Proofs.YtkiebccnpheloaaGreat.K
