/- Parts of a proof: what its theorem reaches, words cut short. No condition of its own. -/
import Derived.Test.YtingnldfpokckaaGreatPm40
import Derived.Test.YtingnldfpokckaaGreatPm41
import Derived.Laws.BytesArg
set_option maxRecDepth 100000
set_option maxHeartbeats 16000000
set_option linter.unusedVariables false
set_option linter.unusedSimpArgs false
namespace Go.Proofs.YtingnldfpokckaaGreat.K
section
open Go.RowKit Go.Lib
structure IsK(bs:List Int)(k:Nat)(L:LL)(led:Nat):Prop where
 right:RightP k L led
 bd:∀j,I64L (lvl L j)
 eq:wrK k L led=bs
theorem IsK.rd{bs:List Int}{k:Nat}{L:LL}{led:Nat}(h:IsK bs k L led):rdK bs=some (⟨k,led,L⟩,[]):=by
 have hr:=h.right
 have hm:∀l∈L,I64L l/\Srt l/\l.length<=4096:=fun l hl=>by
  obtain⟨j,hj,rfl⟩:=List.getElem_of_mem hl
  have h1:=hr.lev j hj
  have h2:=h.bd j
  rw[lvl_at hj] at h1 h2
  refine⟨h2,h1.2,Nat.le_trans h1.1 (Nat.le_trans (room_le ?_) ?_)⟩
  ·rw[Int.toNat_natCast];have:=hr.k8;omega
  ·rw[Int.toNat_natCast];have:=hr.k4;omega
 have:=rdK_wrK (k:=(k:Int)) (L:=L) (led:=led) [] (by omega) hr.k4 (by have:=hr.hled;omega) hr.hlen hm
 rw[List.append_nil,h.eq] at this
 exact this
theorem IsK.uniq{bs:List Int}{k k':Nat}{L L':LL}{led led':Nat}(h:IsK bs k L led)(h':IsK bs k' L' led'):k=k'/\L=L'/\led=led':=by
 have h1:=h.rd
 rw[h'.rd] at h1
 injection h1 with h1
 injection h1 with h1 _
 injection h1 with h1 h2 h3
 exact⟨by omega,h3.symm,by omega⟩
theorem rdK_of{bs r1 r2 r3 r4:List Int}{k led n:Int}{L:LL}(h1:rdN 4096 bs=some (k,r1))(h2:unleb r1=some (led,r2))(h3:rdN 49 r2=some (n,r3))(h4:rdLs n.toNat [] r3=some (L,r4)):rdK bs=some (⟨k,led,L⟩,r4):=by
 unfold rdK
 rw[h1];simp only
 rw[h2];simp only
 rw[h3];simp only
 rw[h4]
theorem rdK_no1{bs:List Int}(h1:rdN 4096 bs=none):rdK bs=none:=by unfold rdK;rw[h1]
theorem rdK_no2{bs r1:List Int}{k:Int}(h1:rdN 4096 bs=some (k,r1))(h2:unleb r1=none):rdK bs=none:=by
 unfold rdK
 rw[h1];simp only
 rw[h2]
theorem rdK_no3{bs r1 r2:List Int}{k led:Int}(h1:rdN 4096 bs=some (k,r1))(h2:unleb r1=some (led,r2))(h3:rdN 49 r2=none):rdK bs=none:=by
 unfold rdK
 rw[h1];simp only
 rw[h2];simp only
 rw[h3]
theorem rdK_no4{bs r1 r2 r3:List Int}{k led n:Int}(h1:rdN 4096 bs=some (k,r1))(h2:unleb r1=some (led,r2))(h3:rdN 49 r2=some (n,r3))(h4:rdLs n.toNat [] r3=none):rdK bs=none:=by
 unfold rdK
 rw[h1];simp only
 rw[h2];simp only
 rw[h3];simp only
 rw[h4]
theorem not_isK{bs:List Int}(h:rdK bs=none):∀k L led,¬IsK bs k L led:=fun k L led hk=>by
 rw[hk.rd] at h;cases h
theorem rdLs_step{k:Nat}{acc:LL}{l:List Int}{T:Option (LL × List Int)}(h:rdLs (k+1) acc l=T){x:List Int × List Int}(hx:rdLv l=some x):rdLs k (acc++[x.1]) x.2=T:=by
 rw[rdLs,hx] at h;exact h
theorem rdLs_stop{k:Nat}{acc:LL}{l:List Int}{T:Option (LL × List Int)}(h:rdLs (k+1) acc l=T)(hx:rdLv l=none):T=none:=by
 rw[rdLs,hx] at h;exact h.symm
theorem rdVs_suf:∀(k:Nat) (acc l:List Int) (x:List Int × List Int),rdVs k acc l=some x->∃j,x.2=l.drop j
 | 0,acc,l,x,h=>by simp only[rdVs,Option.some.injEq] at h;subst h;exact⟨0,by simp⟩
 | k+1,acc,l,x,h=>by
  rw[rdVs] at h
  cases h1:unleb l with
  | none=>rw[h1] at h;cases h
  | some y=>
   rw[h1] at h
   simp only at h
   cases h2:nxV acc.getLast? y.1 with
   | none=>rw[h2] at h;cases h
   | some v=>rw[h2] at h;exact suf_trans (unleb_len h1).2 (rdVs_suf k _ _ x h)
theorem rdVs_len:∀(k:Nat) (acc l:List Int) (x:List Int × List Int),rdVs k acc l=some x->x.1.length=acc.length+k
 | 0,acc,l,x,h=>by simp only[rdVs,Option.some.injEq] at h;subst h;rfl
 | k+1,acc,l,x,h=>by
  rw[rdVs] at h
  cases h1:unleb l with
  | none=>rw[h1] at h;cases h
  | some y=>
   rw[h1] at h
   simp only at h
   cases h2:nxV acc.getLast? y.1 with
   | none=>rw[h2] at h;cases h
   | some v=>
    rw[h2] at h
    have:=rdVs_len k _ _ x h
    rw[this,List.length_append,List.length_singleton];omega
theorem rdLv_suf{bs:List Int}{a:Nat}{l r:List Int}(h:rdLv (bs.drop a)=some (l,r)):bs.drop (bs.length - r.length)=r/\l.length<=4096:=by
 unfold rdLv at h
 cases h1:rdN 4096 (bs.drop a) with
 | none=>rw[h1] at h;cases h
 | some x=>
  rw[h1] at h
  simp only at h
  obtain⟨h2,h3⟩:=rdN_some h1
  obtain⟨j,hj⟩:=suf_trans (unleb_len h2).2 (rdVs_suf _ _ _ _ h)
  have hl:=rdVs_len _ _ _ _ h
  simp only[List.length_nil] at hl
  exact⟨suf (m:=a+j) (by rw[<-List.drop_drop];exact hj),by omega⟩
def LvS(base:Nat)(w:World)(gl n:Nat)(acc:LL):Prop:=
 ∃vs,OwnE slE base w (.slice (some ⟨gl,0,none⟩) n n) vs/\vs.length=n/\∀i (h:i<vs.length),i<acc.length->OwnE i64E base w (svV vs[i]) (lvl acc i)/\(svV vs[i]).ownBlock≠some gl
section
variable {base gl n : Nat} {w w' : World} {acc : LL}
theorem LvS.lt(h:LvS base w gl n acc):base<=gl/\gl<w.heap.size:=by
 obtain⟨vs,h1,_⟩:=h
 exact h1.lt gl rfl
theorem LvS.stay(h:LvS base w gl n acc)(hk:∀k,base<=k->k<w.heap.size->w'.heap[k]?=w.heap[k]?):LvS base w' gl n acc:=by
 obtain⟨vs,h1,h2,h3⟩:=h
 exact⟨vs,h1.stay fun k e=>hk k (h1.lt k e).1 (h1.lt k e).2,h2,fun i hi hj=>⟨(h3 i hi hj).1.stay fun k e=>hk k ((h3 i hi hj).1.lt k e).1 ((h3 i hi hj).1.lt k e).2,(h3 i hi hj).2⟩⟩
theorem LvS.start(w:World)(n:Nat)(hn:n<=1000000):LvS w.heap.size (w.alloc (.cells (madeCells #[.slice none 0 0] n) 143)) w.heap.size n []:=
 ⟨noSv n,own_noSv w n hn,by simp[noSv],fun i _ hj=>absurd hj (by simp)⟩
theorem LvS.put(h:LvS base w gl n acc)(hj:acc.length<n){s:Sv}{l:List Int}(ho:OwnE i64E base w (svV s) l)(hne:(svV s).ownBlock≠some gl):LvS base (w.setCell ⟨gl,acc.length,none⟩ (svV s)) gl n (acc++[l]):=by
 obtain⟨vs,h1,h2,h3⟩:=h
 have hj':acc.length<vs.length:=by omega
 have hset:=h1.set_ acc.length hj' s
 rw[show acc.length * slE.k=acc.length by show acc.length * 1=_;omega] at hset
 refine⟨vs.set acc.length s,hset,by rw[List.length_set];exact h2,fun i hi hia=>?_⟩
 rw[List.length_set] at hi
 rw[List.length_append,List.length_singleton] at hia
 rw[List.getElem_set]
 by_cases e:acc.length=i
 ·subst e
  have el:lvl (acc++[l]) acc.length=l:=by unfold lvl;simp[List.getD]
  rw[if_pos rfl,el]
  exact⟨ho.far hne _,hne⟩
 ·rw[if_neg e]
  have hia':i<acc.length:=by omega
  have el:lvl (acc++[l]) i=lvl acc i:=by unfold lvl;simp only[List.getD];rw[List.getElem?_append_left hia']
  rw[el]
  exact⟨(h3 i hi hia').1.far (h3 i hi hia').2 _,(h3 i hi hia').2⟩
theorem LvS.cell(h:LvS base w gl n acc){j:Nat}(hj:j<n):∃u,w.cell? ⟨gl,j,none⟩=some (svV u)/\w.frozen? ⟨gl,j,none⟩=false:=by
 obtain⟨vs,h1,h2,_⟩:=h
 have hj':j<vs.length:=by omega
 have c:=h1.cellAt hj' 0 (by decide)
 rw[show j * slE.k+0=j by show j * 1+0=j;omega] at c
 exact⟨vs[j],c,h1.frozenAt j⟩
theorem LvS.rdr(h:LvS base w gl n acc){g a:Nat}{bs:List Int}(hr:RdrAt w g bs a)(hne:gl≠g)(j:Nat)(u:Value):RdrAt (w.setCell ⟨gl,j,none⟩ u) g bs a:=by
 obtain⟨vs,h1,_,_⟩:=h
 obtain⟨v,b1,b2,b3⟩:=hr
 have hk:∀k,k≠gl->(w.setCell ⟨gl,j,none⟩ u).heap[k]?=w.heap[k]?:=fun k hk=>Below.heap_setCell w ⟨gl,j,none⟩ u k hk
 refine⟨v,(hk g (fun e=>hne e.symm)).trans b1,b2.stay fun k e=>hk k ?_,b3⟩
 rintro rfl
 rcases b2.2 with q|⟨g1,cap,cur,rfl,_,e3,_⟩
 ·rw[q.1] at e;cases e
 ·cases e
  rcases h1.2 with q|⟨g2,cap2,cur2,e4,_,e6,_⟩
  ·cases q.1
  ·injection e4 with e4
   injection e4 with e4
   injection e4 with e4
   subst e4
   rw[e3] at e6
   cases e6
theorem LvS.llr(h:LvS base w gl n acc)(hl:acc.length=n):LLR w (.slice (some ⟨gl,0,none⟩) n n) acc:=by
 obtain⟨vs,h1,h2,h3⟩:=h
 exact⟨vs,by omega,h1.rd,fun i hi=>(h3 i hi (by omega)).1.rd⟩
end
def StackP(bs:List Int)(w:World)(e:Ending)(w':World):Prop:=
 ((∃(g k:Nat) (L:LL) (led:Nat) (F:Nat->Prop),e=.returned (.pointer (some ⟨g,0,none⟩))/\IsK bs k L led/\KAt F w' g k L led/\∀x,F x->w.heap.size<=x)\/(Gave e/\∀k L led,¬IsK bs k L led))/\Below w.heap.size w w'
theorem stack_any(v:Value)(bs:List Int)(w:World)(h:RdI .u8 w v bs)(hb:byL bs)(hlen:bs.length<=1000000000) :
 Calls Tryz.prog 232 #[v] w (StackP bs w):=by
 obtain⟨i1,hi0,hiz,his,hib⟩:=info_parts slI
 have JI:=Lib.hid hi0
 have JZ:=Lib.hid hiz
 have JSZ:=Lib.hid his
 have JBY:=Lib.hid hib
 clear hi0 hiz his hib
 have hl12:bs.length<=1000000000000:=by omega
 have HNW:=Lib.hid (rnew_any v bs w h hl12)
 have HRD:=Lib.hid (fun W (hb:Below w.heap.size w W)=>Rd.keep h hb)
 have HB:=Lib.hid hb
 obtain⟨Av,cv,rfl,_,_,_⟩:=h.form
 clear h hb
 have hmk:∀n:Nat,n<=49->∀W:World,(Instr.makeSlice 93 (.int .u64 n) (.int .u64 n)).run Tryz.prog W=.ok (.slice (some ⟨W.heap.size,0,none⟩) n n) (W.alloc (.cells (madeCells #[.slice none 0 0] n) 143)):=fun n hn W=>by
  have:=run_make_rowN 93 143 i1 _ Tryz.underlying93 JI.out JZ.out .u64 .u64 n n (Nat.le_refl _) (by rw[JBY.out];omega) (by omega) W
  rw[JSZ.out,Nat.mul_one] at this
  exact this
 have HMK:=Lib.hid hmk
 clear hmk
 have elv:∀args w,(callFunc 287 args).run Tryz.prog w=.ok (.enter 287 args) w:=fun _ _=>rfl
 go_enter Tryz.func232,Tryz.ntmps232
 go_wp2_with fail
 refine(HNW.out).mono ?_
 rintro e w1 ⟨g,rfl,hg,hr1,hb1⟩
 have hz1:=hb1.size
 have hgl:=hr1.lt
 have HR1:=Lib.hid hr1
 have HB1:=Lib.hid hb1
 clear hr1 hb1 HNW
 go_upto_region 3 with fail
 obtain⟨w2,hw2⟩:∃w2,w1.alloc (.cells #[.pointer (some ⟨g,0,none⟩)] 390)=w2:=⟨_,rfl⟩
 have hb2:Below w1.heap.size w1 w2:=by rw[<-hw2];exact(Below.refl _ _).alloc (Nat.le_refl _) _
 have hz2:w2.heap.size=w1.heap.size+1:=by rw[<-hw2];simp
 have c2:w2.cell? ⟨w1.heap.size,0,none⟩=some (.pointer (some ⟨g,0,none⟩)):=by rw[<-hw2];simp[World.cell?_alloc_new]
 obtain⟨gr,hgr⟩:∃gr,w1.heap.size=gr:=⟨_,rfl⟩
 rw[hgr] at c2 hgl hz2
 rw[hw2,hgr]
 have R2:=Lib.hid (HR1.out.keep hb2)
 have C2:=Lib.hid c2
 have HB2:=Lib.hid (HB1.out.trans (hb2.mono hz1))
 have hne:gr≠g:=by omega
 have hgr2:gr<w2.heap.size:=by omega
 have hwz:w.heap.size<=w2.heap.size:=by omega
 have NO:Hid (∀(s:_) (w':World),Touch (fun k=>k=g) w2 w'->rdK bs=none->StackP bs w (.panicked [{v:=.iface 329 (.string s),recovered:=false}]) w'):=Lib.hid fun s w' ht hn=>
  ⟨.inr ⟨⟨s,rfl⟩,not_isK hn⟩,HB2.out.trans (ht.below (fun i hi=>by have hi:i=g:=hi;omega) hwz)⟩
 have HN1:=Lib.hid (knumv_any 4096 gr g bs 0 w2 R2.out c2 HB.out hl12)
 rw[List.drop_zero] at HN1
 clear hw2 hb2 c2 hgr HR1 HB1
 go_wp2_with fail
 refine(HN1.out).mono ?_
 intro e w3 hg
 unfold GotX at hg
 cases hA:rdN 4096 bs with
 | none=>
  simp only[hA] at hg
  have HU:=Lib.hid (rdK_no1 hA)
  obtain⟨⟨pv,rfl⟩,h4⟩:=hg
  have T3:=Lib.hid h4
  clear hA h4
  go_wp2_with fail
  exact⟨rfl,NO.out _ _ T3.out HU.out⟩
 | some pA=>
  obtain⟨k,r1⟩:=pA
  simp only[hA] at hg
  obtain⟨v1,rfl,rfl,h3,h4⟩:=hg
  have T3:=Lib.hid h4
  have R3:=Lib.hid h3
  have HA:=Lib.hid hA
  obtain⟨hx,hkm⟩:=rdN_some hA
  have hkb:=unleb_bd HB.out hx
  have S1:Hid (bs.drop (bs.length - r1.length)=r1):=Lib.hid (suf_unleb (a:=0) (by rw[List.drop_zero];exact hx))
  have C3:=Lib.hid ((h4.cell (o:=0) hgr2 hne).trans C2.out)
  have HN2:=Lib.hid (knumv64_any gr g bs _ w3 h3 C3.out HB.out hl12)
  rw[S1.out] at HN2
  have hz3:=h4.size
  simp only at hkm hkb
  clear hA h3 h4 hx HN1
  go_wp2_with fail
  refine(HN2.out).mono ?_
  intro e w4 hg
  unfold GotX at hg
  cases hA:unleb r1 with
  | none=>
   simp only[hA] at hg
   have HU:=Lib.hid (rdK_no2 HA.out hA)
   obtain⟨⟨pv,rfl⟩,h4⟩:=hg
   have T4:=Lib.hid (tt T3.out h4)
   clear hA h4
   go_wp2_with fail
   exact⟨rfl,NO.out _ _ T4.out HU.out⟩
  | some pB=>
   obtain⟨led,r2⟩:=pB
   simp only[hA] at hg
   obtain⟨v2,rfl,rfl,h3,h4⟩:=hg
   have T4:=Lib.hid (tt T3.out h4)
   have HA2:=Lib.hid hA
   have hlb:0<=led/\led<18446744073709551616:=by
    have hby:byL r1:=by rw[<-S1.out];exact HB.out.drop _
    exact unleb_bd hby hA
   have S2:Hid (bs.drop (bs.length - r2.length)=r2):=Lib.hid (suf_unleb (by rw[S1.out];exact hA))
   have C4:=Lib.hid ((T4.out.cell (o:=0) hgr2 hne).trans C2.out)
   have HN3:=Lib.hid (knumv_any 49 gr g bs _ w4 h3 C4.out HB.out hl12)
   rw[S2.out] at HN3
   have hz4:=T4.out.size
   clear hA h3 h4 HN2
   go_wp2_with fail
   refine(HN3.out).mono ?_
   intro e w5 hg
   unfold GotX at hg
   cases hA:rdN 49 r2 with
   | none=>
    simp only[hA] at hg
    have HU:=Lib.hid (rdK_no3 HA.out HA2.out hA)
    obtain⟨⟨pv,rfl⟩,h4⟩:=hg
    have T5:=Lib.hid (tt T4.out h4)
    clear hA h4
    go_wp2_with fail
    exact⟨rfl,NO.out _ _ T5.out HU.out⟩
   | some pC=>
    obtain⟨n0,r3⟩:=pC
    simp only[hA] at hg
    obtain⟨v3,rfl,rfl,h3,h4⟩:=hg
    have T5:=Lib.hid (tt T4.out h4)
    have R5:=Lib.hid h3
    have HA3:=Lib.hid hA
    obtain⟨hx,hnm⟩:=rdN_some hA
    have hnb:0<=n0/\n0<18446744073709551616:=by
     have hby:byL r2:=by rw[<-S2.out];exact HB.out.drop _
     exact unleb_bd hby hx
    obtain⟨n,rfl⟩:∃n:Nat,n0=n:=⟨n0.toNat,by omega⟩
    simp only at hnm
    have S3:Hid (bs.drop (bs.length - r3.length)=r3):=Lib.hid (suf_unleb (by rw[S2.out];exact hx))
    have C5:=Lib.hid ((T5.out.cell (o:=0) hgr2 hne).trans C2.out)
    have hz5:=T5.out.size
    have hmk:=HMK.out n (by omega)
    clear hA h3 h4 HN3 hx
    go_wp2_with fail
    have HLS:=Lib.hid (LvS.start w5 n (by omega))
    have hb6:Below w5.heap.size w5 (w5.alloc (.cells (madeCells #[.slice none 0 0] n) 143)):=(Below.refl _ _).alloc (Nat.le_refl _) _
    have T6:=Lib.hid (T5.out.alloc (.cells (madeCells #[.slice none 0 0] n) 143))
    have R6:=Lib.hid (R5.out.keep hb6)
    obtain⟨T,hT⟩:∃T,rdLs n [] r3=T:=⟨_,rfl⟩
    have HT:=Lib.hid hT
    have R0:Hid (rdLs n [] (bs.drop (bs.length - r3.length))=T):=Lib.hid (by rw[S3.out];exact hT)
    have hb6z:=hb6.size
    obtain⟨w6,hw6⟩:∃w6,w5.alloc (.cells (madeCells #[.slice none 0 0] n) 143)=w6:=⟨_,rfl⟩
    rw[hw6] at HLS T6 R6 hb6z |-
    obtain⟨gl,hgl2⟩:∃gl,w5.heap.size=gl:=⟨_,rfl⟩
    rw[hgl2] at HLS hb6z |-
    have hglg:gl≠g:=by omega
    have hgl5:w2.heap.size<=gl:=by omega
    clear hw6 hb6 hT hmk R5 HMK
    generalize bs.length - r3.length=a3 at *
    go_loopg [8,26] n (fun q _ i wr=>∃(j a':Nat) (acc:LL),q=n - j/\j<=n/\i=.int .i64 j/\acc.length=j/\Hid (∀l∈acc,I64L l/\l.length<=4096)/\Hid (LvS gl wr gl n acc)/\Hid (RdrAt wr g bs a')/\Hid (rdLs (n - j) acc (bs.drop a')=T)/\Hid (Touch (fun k=>k=g) w2 wr))
    case atStart=>exact⟨0,a3,[],rfl,by omega,rfl,rfl,Lib.hid (fun x hx=>by simp at hx),HLS,R6,R0,T6⟩
    case round=>
     obtain⟨j,a',acc,hq,hj,rfl,hacc,HI,HLJ,HR,HS0,HTO⟩:=hrel
     have HQ:=Lib.hid hq
     have hzr:=HTO.out.size
     have cb:=(HTO.out.cell (o:=0) hgr2 hne).trans C2.out
     clear hq
     by_cases hlt2:j<n
     ·have hs':=HS0.out
      rw[show n - j=(n - (j+1))+1 by omega] at hs'
      have HSJ:=Lib.hid hs'
      have hji:(j:Int)<(n:Int):=by omega
      have HRL:=Lib.hid (rlevel_any gr g bs a' wr HR.out cb hne HB.out hl12)
      have hglr:=HLJ.out.lt.2
      clear hs' HS0 cb
      go_wp2_with (go_at_fn 287;refine(HRL.out).mono ?_)
      intro e w7 hg
      unfold GotX at hg
      cases hA:rdLv (bs.drop a') with
      | none=>
       simp only[hA] at hg
       have HU:Hid (rdK bs=none):=Lib.hid (rdK_no4 HA.out HA2.out HA3.out (by rw[Int.toNat_natCast,HT.out];exact rdLs_stop HSJ.out hA))
       obtain⟨⟨pv,rfl⟩,h4⟩:=hg
       have T7:=Lib.hid (tt HTO.out h4)
       clear hA h4
       go_wp2_with fail
       exact⟨rfl,NO.out _ _ T7.out HU.out⟩
      | some p=>
       obtain⟨l,r⟩:=p
       simp only[hA] at hg
       obtain⟨v,rfl,⟨h2,h2b⟩,h3,h4⟩:=hg
       obtain⟨A7,c7,ev,_,_,_⟩:=h2.rd.form
       subst ev
       obtain⟨hsuf,hll⟩:=rdLv_suf hA
       have HNX:Hid (rdLs (n - (j+1)) (acc++[l]) (bs.drop (bs.length - r.length))=T):=Lib.hid (by rw[hsuf];exact rdLs_step HSJ.out hA)
       have HI1:Hid (∀x∈acc++[l],I64L x/\x.length<=4096):=Lib.hid fun x hx=>by
        rcases List.mem_append.1 hx with hx|hx
        ·exact HI.out x hx
        ·simp only[List.mem_singleton] at hx;subst hx;exact⟨h2b,hll⟩
       have L7:=Lib.hid (HLJ.out.stay fun k h1 h2=>h4.block k h2 (fun e=>by have e:k=g:=e;omega))
       have o7:OwnE i64E gl w7 (svV (A7,l.length,c7)) l:=(own_i64.1 h2).more (by omega)
       have n7:(svV (A7,l.length,c7)).ownBlock≠some gl:=fun e=>by have:=(OwnI.lt h2 gl e).1;omega
       obtain⟨u,ku,fu⟩:=L7.out.cell hlt2
       have L8:=Lib.hid (L7.out.put (by omega) o7 n7)
       have R8:=Lib.hid (L7.out.rdr h3 hglg j (svV (A7,l.length,c7)))
       have T8:Hid (Touch (fun k=>k=g) w2 (w7.setCell ⟨gl,j,none⟩ (svV (A7,l.length,c7)))):=Lib.hid ((tt HTO.out h4).setCell (.inr hgl5) _)
       rw[hacc] at L8
       obtain⟨uA,un,uc⟩:=u
       simp only[svV] at ku
       have hl64:l.length<=9223372036854775807:=by omega
       clear hA h2 h3 h4 hsuf o7 n7 HLJ HR
       generalize bs.length - r.length=a2 at *
       go_wp2_with fail
       go_roundg (n - (j+1))
       case measure=>have:=HQ.out;omega
       case rel=>exact⟨j+1,a2,acc++[l],rfl,by omega,by go_num,by simp[hacc],HI1,L8,R8,HNX,T8⟩
     ·obtain rfl:j=n:=by omega
      have hs':=HS0.out
      rw[Nat.sub_self,rdLs] at hs'
      have hsuf2:bs.drop a'=bs.drop a':=rfl
      have HK:Hid (rdK bs=some (⟨k,led,acc⟩,bs.drop a')):=Lib.hid (rdK_of HA.out HA2.out HA3.out (by rw[Int.toNat_natCast,HT.out];exact hs'.symm))
      obtain⟨K,rfl⟩:∃K:Nat,k=K:=⟨k.toNat,by omega⟩
      obtain⟨ld,rfl⟩:∃ld:Nat,led=ld:=⟨led.toNat,by omega⟩
      have hbdL:∀i,I64L (lvl acc i)/\(lvl acc i).length<=4096:=fun i=>by
       rcases Nat.lt_or_ge i acc.length with h1|h1
       ·rw[lvl_at h1];exact HI.out _ (List.getElem_mem h1)
       ·rw[lvl_of_ge h1];exact⟨fun x hx=>by simp at hx,by simp⟩
      have HBDL:=Lib.hid hbdL
      have hli:=HLJ.out.llr hacc
      have HLD:=Lib.hid (load_any (K:Int) _ acc ld wr hli (by omega) (by omega) (by omega) (fun i=>by have:=(hbdL i).2;omega))
      have EK:=Lib.hid (show wrap64 (K:Int)=(K:Int) by unfold wrap64;omega)
      have hwr:w.heap.size<=wr.heap.size:=by omega
      have HBR:Hid (Below w.heap.size w wr):=Lib.hid (HB2.out.trans (HTO.out.below (fun i hi=>by have hi:i=g:=hi;omega) hwz))
      have CB:=Lib.hid cb
      have hgrr:gr<wr.heap.size:=by omega
      have NOK:Hid ((¬RightP K acc ld\/bs.drop a'≠[]\/wrK K acc ld≠bs)->∀k L led,¬IsK bs k L led):=Lib.hid fun hor k L led hk=>by
       have h1:=hk.rd
       rw[HK.out] at h1
       injection h1 with h1
       injection h1 with h1 h2
       injection h1 with e1 e2 e3
       have e1':K=k:=Int.ofNat_inj.1 e1
       have e2':ld=led:=Int.ofNat_inj.1 e2
       subst e1';subst e2';subst e3
       rcases hor with h|h|h
       ·exact h hk.right
       ·exact h h2
       ·exact h hk.eq
      have ha':a'<=bs.length:=by obtain⟨_,_,_,h3⟩:=HR.out;exact h3
      clear hs' HS0 hli hbdL HLJ cb hsuf2
      have ek:=EK.out
      go_wp2_with fail
      clear ek EK
      refine(HLD.out).mono ?_
      rintro e w8 ⟨hor,hb8⟩
      have HB8:=Lib.hid (HBR.out.trans (hb8.mono hwr))
      have hz8:=hb8.size
      rcases hor with⟨g2,rfl,hrt,F,hka,hF⟩|⟨rfl,hnr⟩
      ·have HRT:=Lib.hid hrt
       have HKA:=Lib.hid hka
       rw[Int.toNat_natCast] at HKA
       have HFN:Hid (∀x,F x->w.heap.size<=x):=Lib.hid fun x hx=>Nat.le_trans hwr (hF x hx)
       have c8:=(hb8.cell (p:=⟨gr,0,none⟩) hgrr).trans CB.out
       have R8:=Lib.hid (HR.out.keep hb8)
       have HLF:=Lib.hid (rleft_any g bs a' w8 R8.out hl12)
       clear hrt hka hF hb8 HLD
       by_cases hrest:a'<bs.length
       ·have HNO:=Lib.hid (NOK.out (.inr (.inl (fun e=>by have:=congrArg List.length e;rw[List.length_drop,List.length_nil] at this;omega))))
        have hgt:(bs.length:Int) - (a':Int) > 0:=by omega
        go_wp2_with (go_at_call 224;refine(HLF.out).mono ?_;rintro e w' ⟨rfl,q,rfl⟩)
        refine⟨rfl,.inr ⟨⟨_,rfl⟩,HNO.out⟩,below_drewN HB8.out _⟩
       ·have hdn:bs.drop a'=[]:=List.drop_eq_nil_of_le (by omega)
        have HDN:=Lib.hid hdn
        have hgt:(bs.length:Int) - (a':Int)=0:=by omega
        rw[hgt] at HLF
        clear hdn hgt
        go_wp2_with (go_at_call 224;refine(HLF.out).mono ?_;rintro e w' ⟨rfl,q,rfl⟩)
        have HB9:=Lib.hid (below_drewN HB8.out q)
        have HK9:=Lib.hid (HKA.out.keep (below_drewN (Below.refl _ _) q))
        obtain⟨w9,hw9⟩:∃w9,w8.drewN q=w9:=⟨_,rfl⟩
        rw[hw9] at HB9 HK9 |-
        obtain⟨lv,vs,hks⟩:=HK9.out
        have HWR:=Lib.hid (kwrite_any w9 hks HRT.out.fit.ok (fun i=>(HBDL.out i).1) (by omega))
        have hwkl:(wrK K acc ld).length<=1000000000000:=by
         have h1:=wrK_len K acc ld
         have h2:cnt acc<=_:=HRT.out.fit.ok.cntL
         have h3:acc.length<=49:=HRT.out.hlen
         omega
        clear hw9 hks c8
        refine(HWR.out).mono ?_
        rintro e w10 ⟨v10,rfl,o10,hb10⟩
        have HB10:=Lib.hid (HB9.out.trans (hb10.mono HB9.out.size))
        have HK10:=Lib.hid (HK9.out.keep hb10)
        have HEQ:=Lib.hid (equal_any v10 _ (wrK K acc ld) bs w10 (OwnI.rd o10) (HRD.out w10 HB10.out) hwkl hl12)
        obtain⟨A10,c10,ev,_,_,_⟩:=(OwnI.rd o10).form
        obtain⟨n10,hn10⟩:∃n10,(wrK K acc ld).length=n10:=⟨_,rfl⟩
        rw[hn10] at ev
        subst ev
        clear o10 hb10 hn10 hwkl
        go_wp2_with fail
        refine(HEQ.out).mono ?_
        rintro e w11 ⟨rfl,hb11⟩
        have HB11:=Lib.hid (HB10.out.trans (hb11.mono HB10.out.size))
        have HK11:=Lib.hid (HK10.out.keep hb11)
        clear hb11 HEQ
        by_cases hE:wrK K acc ld=bs
        ·have HE:=Lib.hid hE
         rw[decide_eq_true hE]
         clear hE
         go_wp2_with fail
         refine bodyPost_ret (by simp[results,Tryz.results232,go_sem, *];try rfl) rfl ?_
         exact⟨.inl ⟨g2,K,acc,ld,F,rfl,⟨HRT.out,fun i=>(HBDL.out i).1,HE.out⟩,HK11.out,HFN.out⟩,HB11.out⟩
        ·have HNO:=Lib.hid (NOK.out (.inr (.inr hE)))
         rw[decide_eq_false hE]
         clear hE
         go_wp2_with fail
         exact⟨rfl,.inr ⟨⟨_,rfl⟩,HNO.out⟩,HB11.out⟩
      ·have HNO:=Lib.hid (NOK.out (.inl hnr))
       clear hnr hb8 HLD
       go_wp2_with fail
       refine⟨rfl,.inr ⟨⟨_,rfl⟩,HNO.out⟩,HB8.out⟩
end
section
open Go.RowKit Go.Lib
theorem catch_panicking(h2 h3:Nat)(x2 x3:Value)(s:ByteArray)(w:World)(c2:w.cell? ⟨h2,0,none⟩=some x2)(c3:w.cell? ⟨h3,0,none⟩=some x3)(f2:w.frozen? ⟨h2,0,none⟩=false)(f3:w.frozen? ⟨h3,0,none⟩=false)(hne:h2≠h3) :
 CallsD Tryz.prog 231 #[.pointer (some ⟨h2,0,none⟩),.pointer (some ⟨h3,0,none⟩)] (.panicking ({v:=.iface 329 (.string s),recovered:=false}::[])) w fun e u' w'=>
  e=.returned (.tuple #[])/\u'=.panicking ({v:=.iface 329 (.string s),recovered:=true}::[])/\w'.cell? ⟨h2,0,none⟩=some (.pointer none)/\w'.cell? ⟨h3,0,none⟩=some (.int .i64 9)/\Touch (fun k=>k=h2\/k=h3) w w':=by
 have l2:h2<w.heap.size:=World.block_lt_of_cell? _ _ c2
 have l3:h3<w.heap.size:=World.block_lt_of_cell? _ _ c3
 refine callsD_of_wpS Tryz.func231 rfl fun c₀ cs hu=>?_
 apply wpS_seq
 apply wpS_region
 rw[Tryz.ntmps231]
 simp[wpOpsS,go_sem,recoverD,hu,Exit.thenS]
 refine wpS_of_wp ?_
 have e:(#[Value.pointer (some ⟨h2,0,none⟩),Value.pointer (some ⟨h3,0,none⟩)]++((Array.replicate 14 undef).setIfInBounds 3 (Value.iface 329 (Value.string s))).setIfInBounds 0 (Value.iface 329 (Value.string s)):Array Value)=#[Value.pointer (some ⟨h2,0,none⟩),Value.pointer (some ⟨h3,0,none⟩),Value.iface 329 (Value.string s),undef,undef,Value.iface 329 (Value.string s),undef,undef,undef,undef,undef,undef,undef,undef,undef,undef]:=rfl
 rw[e]
 clear e
 have hta:∀(s:ByteArray) (w:World),(Instr.typeAssert (.iface 329 (.string s)) 20 329 true).run Tryz.prog w=.ok (.tuple #[.string s,.bool true]) w:=fun _ _=>by kernel_rfl
 go_wp2
 cases c₀
 have n23:(⟨h2,0,none⟩:Addr)≠⟨h3,0,none⟩:=fun h=>hne (by injection h)
 have B2:((w.setCell ⟨h2,0,none⟩ (.pointer none)).setCell ⟨h3,0,none⟩ (.int .i64 9)).cell? ⟨h2,0,none⟩=some (.pointer none):=
  (World.cell?_setCell_other _ _ _ _ n23.symm).trans (World.cell?_setCell_same _ _ _ c2)
 have B3:((w.setCell ⟨h2,0,none⟩ (.pointer none)).setCell ⟨h3,0,none⟩ (.int .i64 9)).cell? ⟨h3,0,none⟩=some (.int .i64 9):=
  World.cell?_setCell_same _ _ _ ((World.cell?_setCell_other _ _ _ _ n23).trans c3)
 refine⟨rfl,_,rfl,.tuple #[],by simp[results,Tryz.results231,go_sem],rfl,rfl,B2,B3,?_⟩
 exact((Touch.refl (fun k=>k=h2\/k=h3) w).setCell (p:=⟨h2,0,none⟩) (.inl (.inl rfl)) _).setCell (p:=⟨h3,0,none⟩) (.inl (.inr rfl)) _
theorem catch_idle(h2 h3:Nat)(w:World) :
 CallsD Tryz.prog 231 #[.pointer (some ⟨h2,0,none⟩),.pointer (some ⟨h3,0,none⟩)] .returning w fun e u' w'=>e=.returned (.tuple #[])/\u'=.returning/\w'=w:=by
 refine callsD_of_wpS Tryz.func231 rfl fun c₀ cs hu=>?_
 apply wpS_seq
 apply wpS_region
 simp[wpOpsS,go_sem,recoverD,hu,Tryz.ntmps231,Exit.thenS]
 refine wpS_of_wp ?_
 go_wp2
 cases c₀
 simp_all[bodyPostS,results,Tryz.results231]
theorem door_gave(h2 h3:Nat)(s:ByteArray)(w0 w:World)(R:Ending->World->Prop)(tmps:Array Value)(t2:tmps[2]?=some (.pointer (some ⟨h2,0,none⟩)))(t3:tmps[3]?=some (.pointer (some ⟨h3,0,none⟩)))
 (x2 x3:Value) (c2:w.cell? ⟨h2,0,none⟩=some x2) (c3:w.cell? ⟨h3,0,none⟩=some x3) (f2:w.frozen? ⟨h2,0,none⟩=false) (f3:w.frozen? ⟨h3,0,none⟩=false) (hne:h2≠h3) (b2:w0.heap.size<=h2) (b3:w0.heap.size<=h3) (hb:Below w0.heap.size w0 w)
 (hR:∀w',Below w0.heap.size w0 w'->R (.returned (.tuple #[.pointer none,.int .i64 9])) w') :
 Leaves Tryz.prog Tryz.f137 tmps R [{target:=.fn (.func 231) #[.pointer (some ⟨h2,0,none⟩),.pointer (some ⟨h3,0,none⟩)],args:=#[]}] (.panicking [{v:=.iface 329 (.string s),recovered:=false}]) w:=by
 refine leaves_cons (f:=231) (args:=#[.pointer (some ⟨h2,0,none⟩),.pointer (some ⟨h3,0,none⟩)]) (by simp) (by simp[go_sem]) ?_
 refine(catch_panicking h2 h3 x2 x3 s w c2 c3 f2 f3 hne).mono ?_
 rintro e u' w'' ⟨rfl,rfl,k2,k3,kt⟩
 have hb':Below w0.heap.size w0 w'':=hb.trans (kt.below (fun i hi=>by rcases hi with rfl|rfl<;>assumption) hb.size)
 have g2:tmps.getD 2 undef=.pointer (some ⟨h2,0,none⟩):=by simp[Array.getD_eq_getD_getElem?,t2]
 have g3:tmps.getD 3 undef=.pointer (some ⟨h3,0,none⟩):=by simp[Array.getD_eq_getD_getElem?,t3]
 refine⟨.tuple #[.pointer none,.int .i64 9],?_,hR w'' hb'⟩
 simp[results,Tryz.results137,go_sem,t2,t3,k2,k3]
theorem door_back(h2 h3:Nat)(w:World)(R:Ending->World->Prop)(tmps:Array Value)(t2:tmps[2]?=some (.pointer (some ⟨h2,0,none⟩)))(t3:tmps[3]?=some (.pointer (some ⟨h3,0,none⟩)))
 (x2 x3:Value) (c2:w.cell? ⟨h2,0,none⟩=some x2) (c3:w.cell? ⟨h3,0,none⟩=some x3) (hR:R (.returned (.tuple #[x2,x3])) w) :
 Leaves Tryz.prog Tryz.f137 tmps R [{target:=.fn (.func 231) #[.pointer (some ⟨h2,0,none⟩),.pointer (some ⟨h3,0,none⟩)],args:=#[]}] .returning w:=by
 refine leaves_cons (f:=231) (args:=#[.pointer (some ⟨h2,0,none⟩),.pointer (some ⟨h3,0,none⟩)]) (by simp) (by simp[go_sem]) ?_
 refine(catch_idle h2 h3 w).mono ?_
 rintro e u' w'' ⟨rfl,rfl,rfl⟩
 refine⟨.tuple #[x2,x3],?_,hR⟩
 simp[results,Tryz.results137,go_sem,t2,t3,c2,c3]
theorem two_put{h2:Nat}(X:World)(a b:Value){x y:Value}(c2:X.cell? ⟨h2,0,none⟩=some x)(c3:X.cell? ⟨h2+1,0,none⟩=some y) :
 ((X.setCell ⟨h2,0,none⟩ a).setCell ⟨h2+1,0,none⟩ b).cell? ⟨h2,0,none⟩=some a/\((X.setCell ⟨h2,0,none⟩ a).setCell ⟨h2+1,0,none⟩ b).cell? ⟨h2+1,0,none⟩=some b:=by
 have n23:(⟨h2,0,none⟩:Addr)≠⟨h2+1,0,none⟩:=fun h=>by injection h with h;omega
 exact⟨(World.cell?_setCell_other _ _ _ _ n23.symm).trans (World.cell?_setCell_same _ _ _ c2),World.cell?_setCell_same _ _ _ ((World.cell?_setCell_other _ _ _ _ n23).trans c3)⟩
theorem below_two{w X:World}{h2:Nat}(hb:Below w.heap.size w X)(h:w.heap.size<=h2)(a b:Value):Below w.heap.size w ((X.setCell ⟨h2,0,none⟩ a).setCell ⟨h2+1,0,none⟩ b):=
 (hb.setCell (p:=⟨h2,0,none⟩) h a).setCell (p:=⟨h2+1,0,none⟩) (by show _<=h2+1;omega) b
def ReadP(bs:List Int)(w:World)(e:Ending)(w':World):Prop:=
 ((∃(g k:Nat) (L:LL) (led:Nat) (F:Nat->Prop),e=.returned (.tuple #[.pointer (some ⟨g,0,none⟩),.int .i64 0])/\IsK bs k L led/\KAt F w' g k L led/\∀x,F x->w.heap.size<=x)\/(e=.returned (.tuple #[.pointer none,.int .i64 9])/\∀k L led,¬IsK bs k L led))/\Below w.heap.size w w'
theorem kread_any(v:Value)(bs:List Int)(w:World)(h:RdI .u8 w v bs)(hb:byL bs)(hlen:bs.length<=1000000000) :
 Calls Tryz.prog 137 #[v] w (ReadP bs w):=by
 have hmf:∀(fn:Fn) (first cap:Array Value) (w:World),(Instr.makeFunc fn first cap).run Tryz.prog w=.ok (.func fn first cap) w:=fun _ _ _ _=>rfl
 have HR:=Lib.hid h
 have HB:=Lib.hid hb
 clear h hb
 go_enter_defers Tryz.func137,Tryz.ntmps137
 go_wp2_with fail
 obtain⟨w1,hw1⟩:∃w1,w1=(w.alloc (.cells #[.pointer none] 64)).alloc (.cells #[.int .i64 0] 28):=⟨_,rfl⟩
 have hb1:Below w.heap.size w w1:=by rw[hw1];exact((Below.refl _ _).alloc (Nat.le_refl _) _).alloc (by simp) _
 have B2:Hid (Blk w1 w.heap.size 64 #[.pointer none]):=by show Blk _ _ _ _;rw[hw1];exact(Blk.new _ _ _).alloc _
 have B3:Hid (Blk w1 (w.heap.size+1) 28 #[.int .i64 0]):=by
  show Blk _ _ _ _;rw[hw1]
  have h:=Blk.new (w.alloc (.cells #[.pointer none] 64)) 28 #[.int .i64 0]
  rwa [World.size_alloc] at h
 obtain⟨h2,hh2⟩:∃h2,w.heap.size=h2:=⟨_,rfl⟩
 have HH2:=Lib.hid hh2
 rw[<-hw1]
 rw[hh2] at B2 B3 |-
 have l2:=B2.out.lt
 have l3:=B3.out.lt
 have e2:w.heap.size<=h2:=by omega
 have HST:=Lib.hid (stack_any v bs w1 (Rd.keep HR.out hb1) HB.out hlen)
 have hz1:=hb1.size
 clear hw1 hh2
 refine(HST.out).mono ?_
 rintro e w2 ⟨hor,hb2⟩
 have C2:=Lib.hid (B2.out.keep hb2)
 have C3:=Lib.hid (B3.out.keep hb2)
 have HBW:=Lib.hid (hb1.trans (hb2.mono hz1))
 have hz2:=hb2.size
 rcases hor with⟨g,k,L,led,F,rfl,hk,hka,hF⟩|⟨⟨s,rfl⟩,hno⟩
 ·have HK:=Lib.hid hk
  have HKA:=Lib.hid hka
  have HF:=Lib.hid hF
  have x2:=C2.out.cell 0
  have x3:=C3.out.cell 0
  have y2:=C2.out.frozen 0
  have y3:=C3.out.frozen 0
  simp only[List.getElem?_toArray,List.getElem?_cons_zero] at x2 x3
  clear hk hka hF hb2
  go_wp2_with fail
  have tp:=two_put w2 (.pointer (some ⟨g,0,none⟩)) (.int .i64 0) x2 x3
  refine(show Leaves Tryz.prog Tryz.f137 _ (ReadP bs w) _ .returning _ from ?_)
  refine door_back h2 (h2+1) _ _ _ rfl rfl _ _ tp.1 tp.2 ?_
  have T8:Touch (fun k=>k=h2\/k=h2+1) w2 ((w2.setCell ⟨h2,0,none⟩ (.pointer (some ⟨g,0,none⟩))).setCell ⟨h2+1,0,none⟩ (.int .i64 0)):=((Touch.refl _ w2).setCell (p:=⟨h2,0,none⟩) (.inl (.inl rfl)) _).setCell (p:=⟨h2+1,0,none⟩) (.inl (.inr rfl)) _
  refine⟨.inl ⟨g,k,L,led,F,rfl,HK.out,HKA.out.stay (fun x hx=>?_) T8.size,fun x hx=>Nat.le_trans hz1 (HF.out x hx)⟩,below_two HBW.out e2 _ _⟩
  have h1:=HF.out x hx
  have h3:x<w2.heap.size:=by
   obtain⟨lv,vs,hks⟩:=HKA.out
   exact hks.low x hx
  exact T8.block x h3 (fun e=>by rcases e with e|e<;>omega)
 ·have HNO:=Lib.hid hno
  have x2:=C2.out.cell 0
  have x3:=C3.out.cell 0
  have y2:=C2.out.frozen 0
  have y3:=C3.out.frozen 0
  simp only[List.getElem?_toArray,List.getElem?_cons_zero] at x2 x3
  clear hno hb2
  go_wp2_with fail
  refine(show Leaves Tryz.prog Tryz.f137 _ (ReadP bs w) _ (.panicking _) _ from ?_)
  exact door_gave h2 (h2+1) s w w2 _ _ rfl rfl _ _ x2 x3 y2 y3 (by omega) e2 (by omega) HBW.out (fun w' hb'=>⟨.inr ⟨rfl,HNO.out⟩,hb'⟩)
end
section
open Go.RowKit Go.Lib
theorem pack_idle{F:Nat->Prop}{g k n led:Nat}{lv:Value}{vs:List Sv}{L:LL}(toss:Value)(w:World)(hs:Kst F w g k n led lv vs L)(h2:2<=k)(hk:k<=1000000)(hL:L.length<=1000)(hl:cnt L<=1000000000)(hf:fullN k L=none) :
 Calls Tryz.prog 76 #[.pointer (some ⟨g,0,none⟩),toss] w fun e w'=>e=.returned (.tuple #[])/\w=w':=by
 have HFU:=Lib.hid (full_any w hs h2 hk hL hl)
 have e1:fullI k L=-1:=by unfold fullI;rw[hf]
 rw[e1] at HFU
 clear hs hf e1
 go_enter Tryz.func76,Tryz.ntmps76
 go_wp2_with fail
 refine(HFU.out).mono ?_
 rintro e w1 ⟨rfl,rfl⟩
 go_wp2_with fail
 go_loopg [4] 0 (fun _ t4 wr=>t4=.int .i64 (-1)/\w=wr)
 case atStart=>exact⟨rfl,rfl⟩
 case round=>
  obtain⟨rfl,rfl⟩:=hrel
  go_wp2_with fail
  go_end0
  exact⟨rfl,rfl⟩
end
section
open Go.RowKit Go.Lib
theorem RightP.lvl_le{k:Nat}{L:LL}{led:Nat}(h:RightP k L led)(j:Nat):(lvl L j).length<=4096:=by
 rcases Nat.lt_or_ge j L.length with hj|hj
 ·refine Nat.le_trans (h.lev j hj).1 (Nat.le_trans (room_le ?_) ?_)
  ·rw[Int.toNat_natCast];have:=h.k8;omega
  ·rw[Int.toNat_natCast];have:=h.k4;omega
 ·rw[lvl_of_ge hj];simp
theorem RightP.by_{k:Nat}{L:LL}{led:Nat}(h:RightP k L led)(hb:∀j,I64L (lvl L j)):byL (wrK k L led):=
 wrK_by (by omega) (by have:=h.k4;omega) (by have:=h.hled;omega) (by have:=h.hlen;omega) fun l hl=>by
  obtain⟨j,hj,rfl⟩:=List.getElem_of_mem hl
  have h1:=h.lev j hj
  have h2:=hb j
  have h3:=h.lvl_le j
  rw[lvl_at hj] at h1 h2 h3
  exact⟨h2,h1.2,by omega⟩
theorem RightP.len_{k:Nat}{L:LL}{led:Nat}(h:RightP k L led):(wrK k L led).length<=1000000000:=by
 have h1:=wrK_len k L led
 have h2:cnt L<=_:=h.fit.ok.cntL
 have h3:=h.hlen
 omega
theorem kread_own{k:Nat}{L:LL}{led:Nat}(v:Value)(w:World)(h:RdI .u8 w v (wrK k L led))(hr:RightP k L led)(hb:∀j,I64L (lvl L j)) :
 Calls Tryz.prog 137 #[v] w fun e w'=>∃(g:Nat) (F:Nat->Prop),e=.returned (.tuple #[.pointer (some ⟨g,0,none⟩),.int .i64 0])/\KAt F w' g k L led/\(∀x,F x->w.heap.size<=x)/\Below w.heap.size w w':=by
 refine(kread_any v _ w h (hr.by_ hb) hr.len_).mono ?_
 rintro e w' ⟨hor,hbw⟩
 rcases hor with⟨g,k',L',led',F,rfl,hk,hka,hF⟩|⟨rfl,hno⟩
 ·obtain⟨rfl,rfl,rfl⟩:=hk.uniq ⟨hr,hb,rfl⟩
  exact⟨g,F,rfl,hka,hF,hbw⟩
 ·exact absurd ⟨hr,hb,rfl⟩ (hno k L led)
end
end Go.Proofs.YtingnldfpokckaaGreat.K
