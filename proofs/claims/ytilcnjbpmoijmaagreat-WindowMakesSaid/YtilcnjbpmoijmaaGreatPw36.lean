/- Parts of a proof. No condition. -/
import Derived.Test.YtilcnjbpmoijmaaGreatPw35
set_option maxRecDepth 100000
set_option maxHeartbeats 16000000
set_option linter.unusedVariables false
set_option linter.unusedSimpArgs false
namespace Go.Proofs.YtilcnjbpmoijmaaGreat.K
open Tryz
section
open Go.RowKit
variable{l:List Int}{j led:Nat}{L:LL}{k:Int}
def LQ(p:Option Int)(v:Int):List Int:=match p with
 | none=>zg v
 | some q=>eG (v - q)
def vP:Option Int->List Int->List Int
 | _,[]=>[]
 | p,v::l=>LQ p v++vP (some v) l
def wrL(l:List Int):List Int:=eG l.length++vP none l
def kU:LL->List Int
 | []=>[]
 | l::L=>wrL l++kU L
def Ii(k:Int)(L:LL)(led:Nat):List Int:=eG k++(eG led++(eG L.length++kU L))
def Jz:Option Int->List Int->Option Int
 | p,[]=>p
 | _,v::l=>Jz (some v) l
theorem Hg(v:Int):∀(p:Option Int) (l:List Int),Jz p (l++[v])=some v
 | _,[]=>rfl
 | _,x::l=>Hg v (some x) l
theorem Hl(v:Int):∀(p:Option Int) (l:List Int),vP p (l++[v])=vP p l++LQ (Jz p l) v
 | p,[]=>by simp[vP,Jz]
 | p,x::l=>by simp only[List.cons_append,vP,Hl v (some x) l,Jz,aX]
theorem JA(h:0<l.length):vP none (l.take 1)=vP none (l.take 0)++zg l[0]:=by
 have:=Hl l[0] none (l.take 0);rw[<-bg h] at this;rw[this];simp[Jz,LQ]
theorem PD(h:j+1<l.length):vP none (l.take (j+1+1))=vP none (l.take (j+1))++eG (l[j+1] - l[j]):=by
 have:=Hl l[j+1] none (l.take (j+1));rw[<-bg h] at this;rw[this,bg (show j<l.length by omega),Hg]
 rfl
theorem Dw:∀(A B:LL),kU (A++B)=kU A++kU B
 | [],B=>rfl
 | a::A,B=>by rw[List.cons_append,kU,Dw A B,kU,aX]
theorem JB(h:j<L.length):kU (L.take (j+1))=kU (L.take j)++wrL (lvl L j):=by
 rw[bg h,Dw,nZ h];simp[kU]
theorem af9(p:Option Int)(v:Int):1<=(LQ p v).length/\(LQ p v).length<=10:=by
 unfold LQ
 split
 ·exact dM _
 ·exact dM _
theorem Eu:∀(p:Option Int) (l:List Int),(vP p l).length<=10 * l.length
 | _,[]=>by simp[vP]
 | p,v::l=>by
  have h1:=Eu (some v) l;have h2:=af9 p v;simp only[vP,aQ,aU];omega
theorem ar7(l:List Int):(wrL l).length<=10 * l.length+10:=by
 have h1:=Eu none l;have h2:=dM (l.length:Int);unfold wrL;rw[aQ];omega
theorem Hm:∀(L:LL),(kU L).length<=10 * cnt L+10 * L.length
 | []=>by simp[kU]
 | l::L=>by
  have h1:=Hm L;have h2:=ar7 l;rw[kU,aQ,nS,aU];omega
theorem xE(L:LL)(j:Nat):(kU (L.take j)).length<=10 * cnt L+10 * L.length:=by
 have h1:=Hm (L.take j);have h2:=sW (L.take j) (L.drop j);rw[List.take_append_drop] at h2;have h3:(L.take j).length<=L.length:=by rw[bG];omega
 omega
theorem VI(k:Int)(L:LL)(led:Nat):(Ii k L led).length<=10 * cnt L+10 * L.length+30:=by
 have h1:=Hm L;have h2:=dM k;have h3:=dM (led:Int);have h4:=dM (L.length:Int);unfold Ii;simp only[aQ];omega
def mF(l:List Int):Prop:=∀x∈l,-9223372036854775808<=x/\x<=9223372036854775807
theorem ag0:∀(p:Option Int) (l:List Int),mF l->(∀q,p=some q->-9223372036854775808<=q/\∀m∈l,q<=m)->r_ l->iD (vP p l)
 | _,[],_,_,_=>fun b hb=>by simp[vP] at hb
 | p,v::l,hr,hp,hs=>by
  have hv:=hr v (aT ..);have hs':=aZ.1 hs;simp only[vP];refine iD.append ?_ (ag0 (some v) l (fun x hx=>hr x (aY _ hx)) (fun q hq=>by cases hq;exact⟨hv.1,fun x hx=>hs'.1 x hx⟩) hs'.2)
  unfold LQ
  cases p with
  | none=>exact gX (jl hv.1 hv.2).1 (jl hv.1 hv.2).2
  | some q=>have:=hp q rfl;have h2:=this.2 v (aT ..);exact gX ae  ae
theorem VJ:∀(L:LL),(∀l∈L,mF l/\r_ l/\l.length<18446744073709551616)->iD (kU L)
 | [],_=>fun b hb=>by simp[kU] at hb
 | l::L,h=>by
  obtain⟨h1,h2,h3⟩:=h l (aT ..);rw[kU,wrL];exact iD.append (iD.append (gX ae  ae) (ag0 none l h1 (fun q hq=>by cases hq) h2)) (VJ L fun x hx=>h x (aY _ hx))
theorem bg8(k0:0<=k)(k1:k<18446744073709551616)(hl:led<18446744073709551616)(hL:L.length<18446744073709551616)(h:∀l∈L,mF l/\r_ l/\l.length<18446744073709551616):iD (Ii k L led):=by
 unfold Ii;exact iD.append (gX k0 k1) (iD.append (gX ae  ae) (iD.append (gX ae  ae) (VJ L h)))
def IB(m:Int)(l:List Int):Option (Int × List Int):=match dW l with
 | none=>none
 | some p=>if p.1<=m then some p else none
def nxV(p:Option Int)(n:Int):Option Int:=match p with
 | none=>some (lC n)
 | some q=>if wrap64 ((ub q+n) % 18446744073709551616)<q then none else some (wrap64 ((ub q+n) % 18446744073709551616))
def qg:Nat->List Int->List Int->Option (List Int × List Int)
 | 0,acc,l=>some (acc,l)
 | k+1,acc,l=>match dW l with
  | none=>none
  | some x=>match nxV acc.getLast? x.1 with
   | none=>none
   | some v=>qg k (acc++[v]) x.2
def BL(l:List Int):Option (List Int × List Int):=match IB 4096 l with
 | none=>none
 | some x=>qg x.1.toNat [] x.2
def vS:Nat->LL->List Int->Option (LL × List Int)
 | 0,acc,l=>some (acc,l)
 | k+1,acc,l=>match BL l with
  | none=>none
  | some x=>vS k (acc++[x.1]) x.2
structure Rk where
 k:Int
 led:Int
 L:LL
def PE(l:List Int):Option (Rk × List Int):=match IB 4096 l with
 | none=>none
 | some a=>match dW a.2 with
  | none=>none
  | some b=>match IB 49 b.2 with
   | none=>none
   | some c=>match vS c.1.toNat [] c.2 with
    | none=>none
    | some x=>some (⟨a.1,b.1,x.1⟩,x.2)
theorem LU{m n:Int}(h0:0<=n)(h1:n<18446744073709551616)(r:List Int):IB m (eG n++r)=if n<=m then some (n,r) else none:=by
 unfold IB;rw[gZ h0 h1]
theorem PG(r:List Int):∀(l acc:List Int),mF (acc++l)->r_ (acc++l)->qg l.length acc (vP acc.getLast? l++r)=some (acc++l,r)
 | [],acc,_,_=>by simp[qg,vP]
 | v::l,acc,hr,hs=>by
  have hv:=hr v ag
  have h2:=PG r l (acc++[v]) (by simpa using hr) (by simpa using hs)
  rw[List.getLast?_concat] at h2;simp only[aU,qg,vP,aX] at h2 |-
  cases hl:acc.getLast? with
  | none=>
   have sb:=jl hv.1 hv.2;unfold LQ zg;simp only;rw[gZ sb.1 sb.2];simp only[nxV,Ec];rw[h2];simp
  | some q=>
   have hq:q∈acc:=List.mem_of_getLast? hl;have hqr:=hr q (by simp[hq])
   have hle:q<=v:=(List.pairwise_append.1 hs).2.2 q hq v ag
   unfold LQ;simp only;rw[gZ ae  ae]
   simp only[nxV,IW hqr.1 hle hv.2];rw[if_neg ae]
   simp only;rw[h2];simp
theorem ag1(r:List Int)(hr:mF l)(hs:r_ l)(hl:l.length<=4096):BL (wrL l++r)=some (l,r):=by
 unfold BL wrL;rw[aX,LU ae  ae,if_pos ae]
 simp only[di];have:=PG r l [] (by simpa using hr) (by simpa using hs)
 simpa using this
theorem JC(r:List Int):∀(L acc:LL),(∀l∈L,mF l/\r_ l/\l.length<=4096)->vS L.length acc (kU L++r)=some (acc++L,r)
 | [],acc,_=>by simp[vS,kU]
 | l::L,acc,h=>by
  obtain⟨h1,h2,h3⟩:=h l (aT ..);have ih:=JC r L (acc++[l]) fun x hx=>h x (aY _ hx)
  rw[aU,vS,kU,aX,ag1 _ h1 h2 h3];simp only;rw[ih];simp
theorem ar8(r:List Int)(k0:0<=k)(k1:k<=4096)(hl:led<18446744073709551616)(hL:L.length<=49)(h:∀l∈L,mF l/\r_ l/\l.length<=4096):PE (Ii k L led++r)=some (⟨k,led,L⟩,r):=by
 unfold PE Ii;simp only[aX];rw[LU k0 ae,if_pos k1]
 simp only;rw[gZ ae  ae]
 simp only;rw[LU ae  ae,if_pos ae]
 simp only[di];rw[JC r L [] h];simp
end
section
open Go.RowKit Go.Lib
variable{acc bs l:List Int}{b base g k:Nat}{w w':World}{u v:Value}{T:Option (List Int × List Int)}{x:Int × List Int}
def am7(e:Ending):Prop:=∃s,e=.panicked [{v:=.iface 386 (.string s),recovered:=false}]
def fU{α:Type}(x:Option (α × List Int))(val:α->World->Value->Prop)(w:World)(g:Nat)(bs:List Int)(e:Ending)(w':World):Prop:=
 match x with
 | some p=>∃v,e=.returned v/\val p.1 w' v/\dU w' g bs (bs.length - p.2.length)/\Touch (fun k=>k=g) w w'
 | none=>am7 e/\Touch (fun k=>k=g) w w'
theorem zM{m:Int}{p:Int × List Int}(h:IB m l=some p):dW l=some p/\p.1<=m:=by
 unfold IB at h
 cases hu:dW l with
 | none=>rw[hu] at h;cases h
 | some q=>
  rw[hu] at h;simp only at h
  split at h
  ·rename_i hc
   injection h with h;subst h;exact⟨rfl,hc⟩
  ·cases h
theorem Ho(c m:Int)(f:Int->Int)(X:Option (Int × List Int))(gr g:Nat)(bs:List Int)(a:Nat)(w:World)(h:dU w g bs a)(hc:w.cell? ⟨gr,0,none⟩=some (.pointer (some ⟨g,0,none⟩)))
 (hX:X=match dW (bs.drop a) with|none=>none|some p=>if f p.1<=m then some p else none)
 (hn:∀w,dU w g bs a->aH 267 #[.pointer (some ⟨g,0,none⟩),.int .u8 c] w (nM w g bs a f)) :
 aH 340 #[.pointer (some ⟨gr,0,none⟩),.int .u8 c,.int .u64 m] w (fU X (fun n _ v=>v=.int .u64 (f n)) w g bs):=by
 have HN:=aI (hn w h);clear h hn
 go_enter func340,ntmps340
 go_wp2_with fail;refine(HN.o).mono ?_
 intro e w2 hg;unfold nM at hg
 cases hu:dW (bs.drop a) with
 | none=>
  rw[hu] at hX;simp only[hu] at hg;have HX:=aI hX;obtain⟨er,rfl,h2,h3,h4⟩:=hg;have hne:(er != 0)=true:=by rcases h2 with rfl|rfl<;>rfl
  have T4:=aI h4;clear hu h2 h3 h4 hX hc
  go_wp2_with fail;refine⟨rfl,?_⟩
  unfold fU;rw[HX.o];exact⟨⟨_,rfl⟩,T4.o⟩
 | some p=>
  rw[hu] at hX;simp only[hu] at hg hX;obtain⟨rfl,h3,h4⟩:=hg;have T4:=aI h4;have H3:=aI h3;obtain⟨n,r⟩:=p;simp only at hX H3 |-
  by_cases hm:f n<=m
  ·rw[if_pos hm] at hX
   have HX:=aI hX;have hm2:¬f n > m:=ae
   clear hu h3 h4 hX hc
   go_wp2_with fail;refine bodyPost_ret (by simp[results,Tryz.results340,go_sem, *];try rfl) rfl ?_
   unfold fU;rw[HX.o];exact⟨_,rfl,rfl,H3.o,T4.o⟩
  ·rw[if_neg hm] at hX
   have HX:=aI hX;have hm2:f n > m:=ae
   clear hu h3 h4 hX hc
   go_wp2_with fail;refine⟨rfl,?_⟩
   unfold fU;rw[HX.o];exact⟨⟨_,rfl⟩,T4.o⟩
theorem BM(m:Int)(gr g:Nat)(bs:List Int)(a:Nat)(w:World)(h:dU w g bs a)(hc:w.cell? ⟨gr,0,none⟩=some (.pointer (some ⟨g,0,none⟩)))(hb:iD bs)(hlen:bs.length<=1000000000000) :
 aH 340 #[.pointer (some ⟨gr,0,none⟩),.int .u8 118,.int .u64 m] w (fU (IB m (bs.drop a)) (fun n _ v=>v=.int .u64 n) w g bs):=
 Ho 118 m id _ gr g bs a w h hc (by unfold IB;rfl) (fun w h=>sJ g bs a w h hb hlen)
theorem Dx(gr g:Nat)(bs:List Int)(a:Nat)(w:World)(h:dU w g bs a)(hc:w.cell? ⟨gr,0,none⟩=some (.pointer (some ⟨g,0,none⟩)))(hb:iD bs)(hlen:bs.length<=1000000000000) :
 aH 340 #[.pointer (some ⟨gr,0,none⟩),.int .u8 118,.int .u64 18446744073709551615] w (fU (dW (bs.drop a)) (fun n _ v=>v=.int .u64 n) w g bs):=
 Ho 118 _ id _ gr g bs a w h hc (by
  cases hu:dW (bs.drop a) with
  | none=>rfl
  | some p=>have:=gY (hb.drop a) hu;simp only[id];rw[if_pos ae]) (fun w h=>sJ g bs a w h hb hlen)
theorem Yf(gr g:Nat)(bs:List Int)(a:Nat)(w:World)(h:dU w g bs a)(hc:w.cell? ⟨gr,0,none⟩=some (.pointer (some ⟨g,0,none⟩)))(hb:iD bs)(hlen:bs.length<=1000000000000) :
 aH 340 #[.pointer (some ⟨gr,0,none⟩),.int .u8 122,.int .u64 18446744073709551615] w (fU (dW (bs.drop a)) (fun n _ v=>v=.int .u64 (ub (lC n))) w g bs):=
 Ho 122 _ (fun n=>ub (lC n)) _ gr g bs a w h hc (by
  cases hu:dW (bs.drop a) with
  | none=>rfl
  | some p=>have:=Fz (lC p.1);simp only;rw[if_pos ae]) (fun w h=>xR g bs a w h hb hlen)
theorem ar9:dP 2 .i64 base w v l<->dL jq base w v l:=by
 unfold dL dP;rw[rH];rfl
theorem _root_.Go.Proofs.YtilcnjbpmoijmaaGreat.OwnB.bz4{b':Nat}(h:OwnB b w v bs)(ho:dP 2 .i64 b' w u l)(hk:v.ownBlock=some k):u.ownBlock≠some k:=by
 intro e
 rcases h.2 with h2|⟨g1,cap,cur,rfl,e2,e3,r⟩
 ·rw[h2.1] at hk;cases hk
 ·rcases ho.2 with h4|⟨g2,cap2,xh,rfl,e5,e6,r2⟩
  ·rw[h4.1] at e;cases e
  ·cases hk
   cases e
   rw[e3] at e6
   cases e6
theorem _root_.Go.Proofs.YtilcnjbpmoijmaaGreat.dK.bz5{t:Nat}{cs:Array Value}(h:dK w g t cs)(ho:dP 2 .i64 b w v l)(ht:t≠2):v.ownBlock≠some g:=by
 intro e
 rcases ho.2 with h2|⟨g',cap,cur,rfl,e2,e3,r⟩
 ·rw[h2.1] at e;cases e
 ·cases e
  unfold dK at h;rw[h] at e3
  cases e3
  exact ht rfl
theorem _root_.Go.Proofs.YtilcnjbpmoijmaaGreat.dU.ag2{a:Nat}(h:dU w g bs a)(ho:dP 2 .i64 b w u l)(hg:w.grownBy w' u.ownBlock):dU w' g bs a:=by
 obtain⟨v,h1,h2,h3⟩:=h;exact⟨v,(hg.block g h1.lt (fun e=>h1.bz5 ho af e.symm)).trans h1,dP.stay h2 (fun k hk=>hg.block k (dP.lt h2 k hk).2 (fun e=>h2.bz4 ho hk e.symm)),h3⟩
theorem _root_.Go.Proofs.YtilcnjbpmoijmaaGreat.dP.away{t:TypeId}{k:IntKind}(h:dP t k base w v l)(ht:Touch (fun k=>k=g) w w')(hg:g<base):dP t k base w' v l:=
 h.stay fun k e=>ht.block k (h.lt k e).2 (fun e2=>by have:=(h.lt k e).1;omega)
theorem JD(h:qg (k+1) acc l=T)(hx:dW l=some x){v:Int}(hv:nxV acc.getLast? x.1=some v):qg k (acc++[v]) x.2=T:=by
 rw[qg,hx] at h;simp only[hv] at h;exact h
theorem JE(h:qg (k+1) acc l=T)(hx:dW l=none):T=none:=by
 rw[qg,hx] at h;exact h.symm
theorem Yg(h:qg (k+1) acc l=T)(hx:dW l=some x)(hv:nxV acc.getLast? x.1=none):T=none:=by
 rw[qg,hx] at h;simp only[hv] at h;exact h.symm
theorem mF.snoc{v:Int}(h:mF l)(h0:-9223372036854775808<=v)(h1:v<=9223372036854775807):mF (l++[v]):=fun x hx=>by
 rcases dB.1 hx with hx|hx
 ·exact h x hx
 ·simp only[List.mem_singleton] at hx;subst hx;exact⟨h0,h1⟩
theorem TZ(gr g:Nat)(bs:List Int)(a:Nat)(w:World)(h:dU w g bs a)(hc:w.cell? ⟨gr,0,none⟩=some (.pointer (some ⟨g,0,none⟩)))(hne:gr≠g)(hb:iD bs)(hlen:bs.length<=1000000000000) :
 aH 339 #[.pointer (some ⟨gr,0,none⟩)] w (fU (BL (bs.drop a)) (fun l w' v=>dP 2 .i64 w.heap.size w' v l/\mF l) w g bs):=by
 have H:=aI h;have C0:=aI hc;have hlt:=h.lt;have hgr:gr<w.heap.size:=bZ _ _ hc;have HB:=aI hb;have PH:=aI (BM 4096 gr g bs a w h hc hb hlen);clear h hb hc
 go_enter func339,ntmps339
 go_wp2_with fail;refine(PH.o).mono ?_
 intro e w2 hg;unfold fU at hg
 cases hu:IB 4096 (bs.drop a) with
 | none=>
  simp only[hu] at hg;have HU:Hid (BL (bs.drop a)=none):=aI (by unfold BL;rw[hu])
  obtain⟨⟨pv,rfl⟩,h4⟩:=hg;have T4:=aI h4;clear hu h4
  go_wp2_with fail;refine⟨rfl,?_⟩
  unfold fU;rw[HU.o];exact⟨⟨_,rfl⟩,T4.o⟩
 | some p=>
  obtain⟨n0,r⟩:=p;simp only[hu] at hg;obtain⟨v,rfl,rfl,h3,h4⟩:=hg;obtain⟨hx,hm⟩:=zM hu;have hbd:=gY (HB.o.drop a) hx;have ag3:=f_ hx;obtain⟨n,rfl⟩:∃n:Nat,n0=n:=⟨n0.toNat,by simp only at hbd;omega⟩
  simp only at hm hbd;have T4:=aI h4;have oC:=h4.size;obtain⟨T,hT⟩:=aF (BL (bs.drop a));have HT:=aI hT;have R0:Hid (qg n [] (bs.drop (bs.length - r.length))=T):=aI (by rw[ag3,<-hT];unfold BL;rw[hu];simp)
  have H3:=aI h3;have C2:Hid (w2.cell? ⟨gr,0,none⟩=some (.pointer (some ⟨g,0,none⟩))):=aI ((h4.cell (o:=0) hgr hne).trans C0.o);have hg2:g<w2.heap.size:=ae
  have Yh:gr<w2.heap.size:=ae
  have hwn:(n:Int)<=4096:=ae
  clear hu hT h3 h4 hx ag3 hbd;generalize bs.length - r.length=a1 at *
  go_wp2_with fail
  go_loopg [3,4,5,6,10] n (fun q v _ _ _ i wr=>∃(j a':Nat) (acc:List Int),q=n - j/\j<=n/\i=.int .i64 j/\acc.length=j/\Hid (mF acc)/\Hid (dP 2 .i64 w2.heap.size wr v acc)/\Hid (dU wr g bs a')/\Hid (qg (n - j) acc (bs.drop a')=T)/\Hid (Touch (fun k=>k=g) w2 wr))
  case atStart=>exact⟨0,a1,[],rfl,ae,rfl,rfl,aI (fun x hx=>by simp at hx),aI (dP.nil_ _ _ _ _),H3,R0,aI (Touch.refl _ _)⟩
  case round=>
   obtain⟨j,a',acc,hq,hj,rfl,hacc,HI,HO,HR,HS0,Yi⟩:=hrel;have HQ:=aI hq;have hzr:=Yi.o.size;have cb:=(Yi.o.cell (o:=0) Yh hne).trans C2.o;have hal:acc.length+1<=1099511627776:=ae
   clear hq
   by_cases hlt2:j<n
   ·have hs':=HS0.o
    rw[show n - j=(n - (j+1))+1 by omega] at hs'
    have HS:=aI hs';have hji:(j:Int)<(n:Int):=ae
    clear hs' HS0
    rcases bQ j with rfl|hj0
    ·obtain rfl:acc=[]:=bz hacc
     have HNZ:=aI (Yf gr g bs a' wr HR.o cb HB.o hlen);have z0:((0:Nat):Int)=0:=rfl;rw[z0] at hji |-;clear z0 cb
     go_wp2_with fail;refine(HNZ.o).mono ?_
     intro e w3 hg;unfold fU at hg
     cases hA:dW (bs.drop a') with
     | none=>
      simp only[hA] at hg;have HU:Hid (T=none):=aI (JE HS.o hA);obtain⟨⟨pv,rfl⟩,h4⟩:=hg;have T5:=aI h4;clear hA h4
      go_wp2_with fail;refine⟨rfl,?_⟩
      unfold fU;rw[HT.o,HU.o];exact⟨⟨_,rfl⟩,tt (tt T4.o Yi.o) T5.o⟩
     | some p=>
      obtain⟨z,r1⟩:=p;simp only[hA] at hg;obtain⟨v,rfl,rfl,h3,h4⟩:=hg;have zb:=gY (HB.o.drop a') hA;have zu:=xK zb.1 zb.2;have zw:=qB zu.1 zu.2;have E1:=f_ hA;have Vy:Hid (qg (n - (0+1)) ([]++[lC z]) (bs.drop (bs.length - r1.length))=T):=aI (by rw[E1];exact JD HS.o hA rfl)
      have HI1:=aI (HI.o.snoc zu.1 zu.2);have T5:=aI (tt Yi.o h4);have R3:=aI h3;have O3:Hid (dP 2 .i64 w2.heap.size w3 u3 []):=aI (HO.o.away h4 hg2);have hz3:=h4.size;clear hA h3 h4 zb E1;simp only;generalize bs.length - r1.length=a2 at *
      go_wp2_with (first
       | (at_builtin
          go_loud (refine Nj underlying182 aw2 rfl (.tmp 15) (.tmp 19) rfl w2.heap.size u3 [] rfl (O3.o.alloc _) _ [lC z] rfl (iY.fK _ _ _ _ _ rfl) ag (by simp only[aV];omega) ?_)
          intro v6 w6 o6 g6 a6;have hb7:Below w3.heap.size w3 (w3.alloc (.cells #[.int .i64 (lC z)] 2)):=(aO _ _).alloc (aS _) _;have R6:Hid (dU w6 g bs a2):=aI ((R3.o.keep hb7).ag2 (O3.o.alloc _) g6);have T6:Hid (Touch (fun k=>k=g) w2 w6):=aI (((T5.o.alloc _).grown g6 (fun k e=>.inr (O3.o.lt k e).1)))
          have O6:=aI o6;clear o6 g6 a6))
      go_roundg (n - (0+1))
      case measure=>have:=HQ.o;omega
      case rel=>exact⟨1,a2,[]++[lC z],rfl,ae,ai,rfl,HI1,O6,R6,Vy,T6⟩
    ·obtain⟨s,rfl⟩:∃s,j=s+1:=⟨j - 1,ae⟩
     have hsl:s<acc.length:=ae
     obtain⟨A3,c3,hv3,m3,m4,f3⟩:=HO.o.rd.form;obtain⟨ga,oa,eA,hga,ka⟩:=f3.at_ hsl;have hla:acc.getLast?=some acc[s]:=by
      rw[List.getLast?_eq_getElem?,hacc];simp[a_ hsl]
     have hq:=HI.o acc[s] (bf hsl);obtain⟨q,hqq⟩:=aF (acc[s]);rw[hqq] at ka hla hq;rw[hacc] at hv3 m3;subst eA;subst hv3;have HNV:=aI (Dx gr g bs a' wr HR.o cb HB.o hlen);have HLA:=aI hla;have hs1:((s+1:Nat):Int) - 1=(s:Int):=ae
     have hst:(s:Int)<(s:Int)+1:=ae
     have ht0':((s+1:Nat):Int)≠0:=ae
     have hws:IntKind.i64.wrap (s:Int)=(s:Int):=IntWalk.i64_in _ ae
     clear cb f3 hla hqq
     go_wp2_with fail;clear ka;refine(HNV.o).mono ?_
     intro e w3 hg;unfold fU at hg
     cases hA:dW (bs.drop a') with
     | none=>
      simp only[hA] at hg;have HU:Hid (T=none):=aI (JE HS.o hA);obtain⟨⟨pv,rfl⟩,h4⟩:=hg;have T5:=aI h4;clear hA h4
      go_wp2_with fail;refine⟨rfl,?_⟩
      unfold fU;rw[HT.o,HU.o];exact⟨⟨_,rfl⟩,tt (tt T4.o Yi.o) T5.o⟩
     | some p=>
      obtain⟨z,r1⟩:=p;simp only[hA] at hg;obtain⟨v,rfl,rfl,h3,h4⟩:=hg;have zb:=gY (HB.o.drop a') hA;have E1:=f_ hA;have EW:Hid (wrap64 (IntKind.u64.wrap (IntKind.u64.wrap q+z))=wrap64 ((ub q+z) % 18446744073709551616)):=aI (by rw[fF,fF];rfl)
      have Ye:Hid (wrap64 ((ub q+z) % 18446744073709551616)<q->T=none):=aI fun h=>Yg HS.o hA (by rw[HLA.o];unfold nxV;simp only;rw[if_pos h])
      have HYE:Hid (¬wrap64 ((ub q+z) % 18446744073709551616)<q->qg (n - (s+1+1)) (acc++[wrap64 ((ub q+z) % 18446744073709551616)]) (bs.drop (bs.length - r1.length))=T):=aI fun h=>by
       rw[E1];exact JD HS.o hA (by rw[HLA.o];unfold nxV;simp only;rw[if_neg h])
      have wb:-9223372036854775808<=wrap64 ((ub q+z) % 18446744073709551616)/\wrap64 ((ub q+z) % 18446744073709551616)<=9223372036854775807:=by unfold wrap64;omega
      obtain⟨x,hx⟩:=aF (wrap64 ((ub q+z) % 18446744073709551616));rw[hx] at EW Ye HYE wb;have HI1:=aI (HI.o.snoc wb.1 wb.2);have T5:=aI (tt Yi.o h4);have R3:=aI h3;have O3:=aI (HO.o.away h4 hg2);have hz3:=h4.size;clear hA h3 h4 zb E1 hx;simp only;generalize bs.length - r1.length=a2 at *;have ew:=EW.o
      by_cases hlt:x<q
      ·have HU:=aI (Ye.o hlt)
       go_wp2_with fail;refine⟨rfl,?_⟩
       unfold fU;rw[HT.o,HU.o];exact⟨⟨_,rfl⟩,tt T4.o T5.o⟩
      ·have Vy:=aI (HYE.o hlt)
       go_wp2_with (first
        | (at_builtin
           refine Nj underlying182 aw2 rfl (.tmp 36) (.tmp 38) rfl w2.heap.size _ acc rfl (O3.o.alloc _) _ [x] rfl (iY.fK _ _ _ _ _ rfl) ae (by simp only[aV];omega) ?_
           intro v6 w6 o6 g6 a6;have hb7:Below w3.heap.size w3 (w3.alloc (.cells #[.int .i64 x] 2)):=(aO _ _).alloc (aS _) _;have R6:Hid (dU w6 g bs a2):=aI ((R3.o.keep hb7).ag2 (O3.o.alloc _) g6);have T6:Hid (Touch (fun k=>k=g) w2 w6):=aI (((T5.o.alloc _).grown g6 (fun k e=>.inr (O3.o.lt k e).1)))
           have O6:=aI o6;clear o6 g6 a6))
       go_roundg (n - (s+1+1))
       case measure=>have:=HQ.o;omega
       case rel=>exact⟨s+1+1,a2,acc++[x],rfl,ae,ai,by simp[hacc],HI1,O6,R6,Vy,T6⟩
   ·obtain rfl:j=n:=ae
    have hs':=HS0.o;rw[Nat.sub_self,qg] at hs';have HS:=aI hs';have R7:=aI HR.o;clear hs' HS0
    go_wp2_with fail;refine bodyPost_ret (by simp[results,Tryz.results339,go_sem, *];try rfl) rfl ?_
    unfold fU;rw[HT.o,<-HS.o];have ha':a'<=bs.length:=by obtain⟨_,_,_,h3⟩:=R7.o;exact h3
    refine⟨_,rfl,⟨dP.lift HO.o (fun k e=>bJ oC (dP.lt HO.o k e).1),HI.o⟩,?_,tt T4.o Yi.o⟩
    simp only[bu];rw[show bs.length - (bs.length - a')=a' by omega]
    exact R7.o
end
section
open Go.RowKit Go.Lib
theorem PI(c n x:Int)(base:Nat)(vb:Value)(bs:List Int)(w:World)(hb0:base<=w.heap.size)(hO:OwnB base w vb bs)(hl:bs.length<=1000000000000)(hc:(c=118/\x=n/\0<=n/\n<18446744073709551616)\/(c=122/\n=ub x/\-9223372036854775808<=x/\x<=9223372036854775807)) :
 aH 150 #[vb,.int .u8 c,.int .u64 n] w fun e w'=>∃v,e=.returned v/\OwnB base w' v (bs++(if c=118 then eG x else zg x))/\Below base w w':=by
 have HO:=aI hO;have C1:=aI (yV c n x w hc);have hlen:(if c=118 then eG x else zg x).length<=10:=by split;exact(dM _).2;exact(dM _).2
 generalize (if c=118 then eG x else zg x)=out at *
 clear hO hc
 go_enter func150,ntmps150
 go_wp2_with fail;refine(C1.o).mono ?_
 rintro e w1 ⟨v1,rfl,o1,hb1⟩;have O1:=aI o1;have hz1:=hb1.size;clear o1
 go_wp2_with (first
  | (at_builtin
     go_must (refine jH rfl (.tmp 15) (.tmp 16) rfl base vb bs rfl (dP.keep HO.o hb1) v1 out rfl (dP.rd O1.o) ae  ae ?_)
     intro v2 w2 o2 g2 a2;have hb2:Below base w w2:=(hb1.mono hb0).grown g2 ae (fun k hk=>(dP.lt HO.o k hk).1)
     have O2:=aI o2;clear o2 g2 a2))
 go_ret;exact⟨v2,rfl,O2.o,hb2⟩
theorem rP(n:Int)(base:Nat)(vb:Value)(bs:List Int)(w:World)(hb0:base<=w.heap.size)(hO:OwnB base w vb bs)(hl:bs.length<=1000000000000)(n0:0<=n)(n1:n<18446744073709551616) :
 aH 150 #[vb,.int .u8 118,.int .u64 n] w fun e w'=>∃v,e=.returned v/\OwnB base w' v (bs++eG n)/\Below base w w':=by
 have h:=PI 118 n n base vb bs w hb0 hO hl (.inl ⟨rfl,rfl,n0,n1⟩)
 rwa [if_pos rfl] at h
theorem Yj(x n:Int)(base:Nat)(vb:Value)(bs:List Int)(w:World)(hb0:base<=w.heap.size)(hO:OwnB base w vb bs)(hl:bs.length<=1000000000000)(hn:n=ub x)(h0:-9223372036854775808<=x)(h1:x<=9223372036854775807) :
 aH 150 #[vb,.int .u8 122,.int .u64 n] w fun e w'=>∃v,e=.returned v/\OwnB base w' v (bs++zg x)/\Below base w w':=by
 have h:=PI 122 n x base vb bs w hb0 hO hl (.inr ⟨rfl,hn,h0,h1⟩)
 rwa [if_neg ae] at h
theorem as1(k:Int)(v:Value)(L:LL)(led:Nat)(w:World)(h:YS w v L)(k0:0<=k)(k1:k<=9223372036854775807)(Pv:led<18446744073709551616)(hlen:L.length<=1000)(hcnt:cnt L<=1000000000)(hs:∀j,r_ (lvl L j)/\mF (lvl L j)) :
 aH 82 #[.int .i64 k,v,.int .u64 led] w fun e w'=>∃v,e=.returned v/\OwnB w.heap.size w' v (Ii k L led)/\Below w.heap.size w w':=by
 obtain⟨A,c,rfl,hc1,hc2⟩:=h.form;have HL:=aI h;have HS:=aI hs;have HTL:=aI (fun j=>xE L j)
 have HLC:=aI (fun j=>iG L j)
 have b1:=dM k;have b2:=dM (led:Int);have b3:=dM (L.length:Int);have ag4:=aI (show Ii k L led=[]++eG k++eG led++eG L.length++kU (L.take L.length) by unfold Ii;simp)
 clear h hs
 go_enter func82,ntmps82
 go_wp2_with fail;refine(rP k w.heap.size _ [] w (aS _) (dP.nil_ _ _ _ _) ag k0 ae).mono ?_
 rintro e w1 ⟨v1,rfl,o1,hb1⟩;have O1:=aI o1;have hz1:=hb1.size;clear o1
 go_wp2_with fail;refine(rP (led:Int) w.heap.size v1 ([]++eG k) w1 hz1 O1.o ah ae  ae).mono ?_
 rintro e w2 ⟨v2,rfl,o2,hb2⟩;have O2:=aI o2;have HB2:=aI (hb1.trans hb2);have hz2:=HB2.o.size;clear o2 hb1 hb2
 go_wp2_with fail;refine(rP (L.length:Int) w.heap.size v2 ([]++eG k++eG led) w2 hz2 O2.o ah ae  ae).mono ?_
 rintro e w3 ⟨v3,rfl,o3,hb3⟩;obtain⟨H,hH⟩:=aF ([]++eG k++eG led++eG (L.length:Int));have hHl:H.length<=30:=by rw[<-hH];simp;omega
 rw[hH] at o3 ag4;have O3:=aI o3;have HB3:=aI (HB2.o.trans hb3);have hz3:=HB3.o.size;clear o3 hb3 hH b1 b2 b3
 go_wp2_with fail
 go_loopg [7,8,9] L.length (fun q v i _ wr=>∃j:Nat,q=L.length - j/\j<=L.length/\i=.int .i64 (j:Int)/\Hid (OwnB w.heap.size wr v (H++kU (L.take j)))/\Hid (Below w.heap.size w wr))
 case atStart=>exact⟨0,ae,ae,rfl,aI (by simpa[kU] using O3.o),HB3⟩
 case round=>
  obtain⟨j,hq,hj,rfl,HO,HB⟩:=hrel;have HQ:=aI hq;clear hq;have hz:=HB.o.size;have htl:=HTL.o j
  by_cases hjl:j<L.length
  ·obtain⟨gl,off,sA,sc,eA,hgl,ca,ra⟩:=HL.o.at_ hjl
   subst eA;obtain⟨_,_,ea,ha3,ha4,fa⟩:=ra.form;injection ea with ea1 ea2 ea3;subst ea1;subst ea3;have HT:=aI (JB hjl);have hlc:=HLC.o j;obtain⟨hsr,hbd⟩:=HS.o j;have hbb:=dM ((lvl L j).length:Int);obtain⟨l,hl⟩:=aF (lvl L j);rw[hl] at ca fa HT hlc hsr hbd hbb ha3;have FA:=aI fa;have CA:=aI ca;have YR:=aI hsr;have HBD:=aI hbd;have c1:=(HB.o.cell (p:=⟨gl,off+j,none⟩) hgl).trans ca;have hlen1:(H++kU (L.take j)).length<=20000000000:=by rw[aQ];omega
   have hji:(j:Int)<(L.length:Int):=ae
   clear hl ra ea2 fa ca hsr hbd
   go_wp2_with fail;refine(rP (l.length:Int) w.heap.size u7 (H++kU (L.take j)) wr hz HO.o ae  ae  ae).mono ?_
   rintro e w4 ⟨v4,rfl,o4,hb4⟩;obtain⟨G,hG⟩:=aF (H++kU (L.take j)++eG (l.length:Int));have WU:G.length<=20000000010:=by rw[<-hG,aQ];omega
   have HGE:Hid (H++kU (L.take (j+1))=G++vP none (l.take l.length)):=aI (by rw[HT.o,<-hG,wrL,List.take_length];simp)
   rw[hG] at o4;have O4:=aI o4;have HB4:=aI (HB.o.trans hb4);clear o4 hb4 hG hbb hlen1 c1 HT
   go_wp2_with fail
   go_loopg [7,9] l.length (fun q v i wr=>∃t:Nat,q=l.length - t/\t<=l.length/\i=.int .i64 (t:Int)/\Hid (OwnB w.heap.size wr v (G++vP none (l.take t)))/\Hid (Below w.heap.size w wr))
   case atStart=>exact⟨0,ae,ae,rfl,aI (by simpa[vP] using O4.o),HB4⟩
   case round=>
    obtain⟨t,hq2,ht,rfl,RN,HB2⟩:=hrel;have Cf:=aI hq2;clear hq2;have hzw:=HB2.o.size;have c1:=(HB2.o.cell (p:=⟨gl,off+j,none⟩) hgl).trans CA.o
    by_cases DW:t<l.length
    ·obtain⟨ga,oa,eA,hga,ka⟩:=FA.o.i64 DW
     subst eA;have hx:=HBD.o l[t] (bf DW);have hgt:(G++vP none (l.take t)).length<=100000000000:=by
      have:=Eu none (l.take t);have h2:(l.take t).length<=l.length:=by rw[bG];omega
      rw[aQ];omega
     have KA:=aI ka;have hti:(t:Int)<(l.length:Int):=ae
     rcases bQ t with rfl|ht0
     ·have rZ:=aI (JA DW)
      have k1:=(HB2.o.cell (p:=⟨ga,oa+0,none⟩) hga).trans ka;obtain⟨x,hxx⟩:=aF (l[0]);simp only[hxx,Nat.add_zero] at k1 hx rZ;have z0:((0:Nat):Int)=0:=rfl;rw[z0];clear hxx ka z0
      go_wp2_with fail;refine(Yj x _ w.heap.size u7 (G++vP none (l.take 0)) wr hzw RN.o ae (by rw[fF];rfl) hx.1 hx.2).mono ?_
      rintro e w5 ⟨v5,rfl,o5,hb5⟩;have O5:Hid (OwnB w.heap.size w5 v5 (G++vP none (l.take 1))):=aI (by rw[rZ.o,<-aX];exact o5)
      have lL:=aI (HB2.o.trans hb5);clear o5 hb5
      go_wp2_with fail
      go_roundg (l.length - (0+1))
      case measure=>have:=Cf.o;omega
      case rel=>exact⟨1,rfl,ae,ai,O5,lL⟩
     ·obtain⟨s,rfl⟩:∃s,t=s+1:=⟨t - 1,ae⟩
      have hsl:s<l.length:=ae
      have rZ:=aI (PD DW);obtain⟨ga',oa',eA,_,kb⟩:=FA.o.i64 hsl;injection eA with eA;injection eA with eA1 eA2;subst eA1;subst eA2;have hle:=Hf YR.o DW;have hy:=HBD.o l[s] (bf hsl);have KB:=aI kb;obtain⟨x,hxx⟩:=aF (l[s+1]);obtain⟨y,hyy⟩:=aF (l[s]);simp only[hxx,hyy] at KA KB rZ hx hy hle;have EW:=aI (show IntKind.u64.wrap (IntKind.u64.wrap x - IntKind.u64.wrap y)=x - y by simp only[fF];omega)
      have hs1:((s+1:Nat):Int) - 1=(s:Int):=ae
      have hst:(s:Int)<(l.length:Int):=ae
      have ht0':((s+1:Nat):Int)≠0:=ae
      have QB:Hid (IntKind.i64.wrap (s:Int)=(s:Int)):=aI (IntWalk.i64_in _ ae)
      obtain⟨wo,rfl⟩:∃wo:World,wo=wr:=⟨_,rfl⟩;clear hxx hyy ka kb
      go_upto_region 13 with fail;clear c1;have mW:=aI (fun(w':World) (hS':Below w.heap.size w w')=>(aP ((hS'.cell (p:=⟨gl,off+j,none⟩) hgl).trans CA.o) (aP ((hS'.cell (p:=⟨ga,oa+(s+1),none⟩) hga).trans KA.o) (aP ((hS'.cell (p:=⟨ga,oa+s,none⟩) hga).trans KB.o) (aP (EW.o) (QB.o))))))
      refine jh (fun w'=>Below w.heap.size w w') (dV 0 19 (fJ 19 (dV 20 1 []))) (HB2.o.drew) ?_
      iterate 19 refine eQ ?_
      refine fO fun K hK=>?_
      go_simp;refine(rP (x - y) w.heap.size u7 (G++vP none (l.take (s+1))) wo.drew hzw (dP.drew RN.o) ae  ae  ae).mono ?_
      rintro e w5 ⟨v5,rfl,o5,hb5⟩;have O5:Hid (OwnB w.heap.size w5 v5 (G++vP none (l.take (s+1+1)))):=aI (by rw[rZ.o,<-aX];exact o5)
      have lL:Hid (Below w.heap.size w w5):=aI (HB2.o.drew.trans hb5);clear o5 hb5;refine hK _ _ (lL.o) ?_
      clear hK K;refine eQ ?_
      refine dJ ?_
      go_wp2_with fail
      go_roundg (l.length - (s+1+1))
      case measure=>have:=Cf.o;omega
      case rel=>exact⟨s+1+1,rfl,ae,ai,O5,lL⟩
    ·obtain rfl:t=l.length:=ae
     go_wp2_with fail
     go_roundg (L.length - (j+1))
     case measure=>have:=HQ.o;omega
     case rel=>exact⟨j+1,rfl,ae,ai,by rw[HGE.o];exact RN,HB2⟩
  ·obtain rfl:j=L.length:=ae
   go_wp2_with fail;refine bodyPost_ret (by simp[results,Tryz.results82,go_sem, *];try rfl) rfl ?_
   exact⟨_,rfl,by rw[ag4.o];exact HO.o,HB.o⟩
end
section
open Go.RowKit Go.Lib
variable{n:Nat}{vs:List Sv}{L:LL}
theorem PK(w:World):aH 235 #[.string ⟨#[118,118,118]⟩] w (aG w (.bool true)):=by
 have FO:=fun w=>aI (jS 7 118 w Wq)
 go_enter func235,ntmps235
 go_wp2_with fail
 go_loopg [11] 3 (fun q i wr=>∃j:Nat,q=3 - j/\j<=3/\i=.int .i64 j/\Below w.heap.size w wr)
 case atStart=>exact⟨0,rfl,ae,rfl,aO _ _⟩
 case round=>
  obtain⟨j,hq,hj,rfl,hb⟩:=hrel;have HQ:=aI hq;have hz:=hb.size;clear hq
  rcases(show j=0\/j=1\/j=2\/j=3 by omega) with rfl|rfl|rfl|rfl
  ·go_wp2_with (go_at_call 236;refine((FO _).o).mono ?_;rintro e w1 ⟨rfl,hb1⟩;have hz1:=hb1.size)
   go_roundg 2
   case measure=>have:=HQ.o;omega
   case rel=>exact⟨1,rfl,ae,ai,bw⟩
  ·go_wp2_with (go_at_call 236;refine((FO _).o).mono ?_;rintro e w1 ⟨rfl,hb1⟩;have hz1:=hb1.size)
   go_roundg 1
   case measure=>have:=HQ.o;omega
   case rel=>exact⟨2,rfl,ae,ai,bw⟩
  ·go_wp2_with (go_at_call 236;refine((FO _).o).mono ?_;rintro e w1 ⟨rfl,hb1⟩;have hz1:=hb1.size)
   go_roundg 0
   case measure=>have:=HQ.o;omega
   case rel=>exact⟨3,rfl,ae,ai,bw⟩
  ·go_wp2_with fail
   go_ret;exact⟨rfl,hb⟩
def outs(a b c:Int):Nat->List Int
 | 0=>[]
 | 1=>eG a
 | 2=>eG a++eG b
 | _=>eG a++eG b++eG c
theorem Hq(a b c:Int)(j:Nat):(outs a b c j).length<=30:=by
 have h1:=dM a;have h2:=dM b;have h3:=dM c
 match j with
 | 0=>simp[outs]
 | 1=>simp only[outs];omega
 | 2=>simp only[outs,aQ];omega
 | n+3=>simp only[outs,aQ];omega
theorem Yk(a b c:Int)(v:Value)(w:World)(hr:iY .u64 w v [a,b,c])(a0:0<=a)(a1:a<18446744073709551616)(b0:0<=b)(b1:b<18446744073709551616)(c0:0<=c)(c1:c<18446744073709551616) :
 aH 164 #[.string ⟨#[118,118,118]⟩,v] w fun e w'=>∃v,e=.returned (.tuple #[v,.int .i64 0])/\OwnB w.heap.size w' v (outs a b c 3)/\Below w.heap.size w w':=by
 obtain⟨A,cn,rfl,hn,hc,hp⟩:=hr.form;obtain⟨gn,on,rfl,hgn,hcn⟩:=hp.at_ (j:=0) (by simp)
 obtain⟨g',o',e',_,x9⟩:=hp.at_ (j:=1) (by simp)
 simp only[bH,Addr.mk.injEq,and_true] at e';obtain⟨rfl,rfl⟩:=e';obtain⟨g',o',e',_,vk⟩:=hp.at_ (j:=2) (by simp)
 simp only[bH,Addr.mk.injEq,and_true] at e';obtain⟨rfl,rfl⟩:=e';simp only[aU,bC,List.getElem_cons_zero,List.getElem_cons_succ,Nat.add_zero] at hn hcn x9 vk |-;have CN0:=aI hcn;have CN1:=aI x9;have CN2:=aI vk;have FO:=fun w=>aI (jS 7 118 w Wq)
 have HF:=aI (fun(g:Nat) (n:Int) (bs:List Int) (W:World) h n0 n1 hl=>pz g w.heap.size n 0 bs W h n0 n1 hl)
 have eg:∀args w,(callFunc 371 args).run prog w=.ok (.enter 371 args) w:=fun _ _=>rfl
 have HO1:Hid (outs a b c 0++eG a=outs a b c 1):=aI rfl;have RN:Hid (outs a b c 1++eG b=outs a b c 2):=aI rfl;have Kq:Hid (outs a b c 2++eG c=outs a b c 3):=aI rfl;have x_:=aI (Hq a b c);have ef7:sF 7=371:=rfl;rw[ef7] at FO;clear hr hp hcn x9 vk ef7
 go_enter func164,ntmps164
 go_wp2_with fail;refine(PK w).mono ?_
 rintro e w1 ⟨rfl,hb1⟩;have hz1:=hb1.size
 go_wp2_with fail;obtain⟨g,hg⟩:=aF (w1.heap.size);have W0:=aI (Wr.new 325 w1 w.heap.size hz1);have hb2:Below w.heap.size w (w1.alloc (.cells #[.slice none 0 0] 325)):=bw;rw[hg] at W0 |-;generalize w1.alloc (.cells #[.slice none 0 0] 325)=w2 at *;clear hg
 go_loopg [25] 3 (fun q i wr=>∃j:Nat,q=3 - j/\j<=3/\i=.int .i64 j/\Hid (Wr 325 w.heap.size wr g (outs a b c j))/\Below w.heap.size w wr)
 case atStart=>exact⟨0,rfl,ae,rfl,W0,hb2⟩
 case round=>
  obtain⟨j,hq,hj,rfl,hw,hb⟩:=hrel;have HQ:=aI hq;have hz:=hb.size;clear hq
  rcases(show j=0\/j=1\/j=2\/j=3 by omega) with rfl|rfl|rfl|rfl
  ·have Kt:=(hb.cell (p:=⟨gn,on,none⟩) hgn).trans CN0.o
   go_wp2_with (first
    | (go_at_call 236;refine((FO _).o).mono ?_;rintro e w3 ⟨rfl,hb3⟩;have hz3:=hb3.size)
    | (go_at_fn 371;refine((HF.o g a (outs a b c 0) _ ((hw.o.keep hb3).keep ((aO _ _).alloc (aS _) _)) a0 a1 (by have:=x_.o 0;omega)).mono ?_);rintro e w4 ⟨rfl,k1,k2⟩;have oC:=k2.size;rw[HO1.o] at k1;have K1:=aI k1;clear k1))
   go_roundg 2
   case measure=>have:=HQ.o;omega
   case rel=>exact⟨1,rfl,ae,ai,K1,bw⟩
  ·have Kt:=(hb.cell (p:=⟨gn,on+1,none⟩) hgn).trans CN1.o
   go_wp2_with (first
    | (go_at_call 236;refine((FO _).o).mono ?_;rintro e w3 ⟨rfl,hb3⟩;have hz3:=hb3.size)
    | (go_at_fn 371;refine((HF.o g b (outs a b c 1) _ ((hw.o.keep hb3).keep ((aO _ _).alloc (aS _) _)) b0 b1 (by have:=x_.o 1;omega)).mono ?_);rintro e w4 ⟨rfl,k1,k2⟩;have oC:=k2.size;rw[RN.o] at k1;have K1:=aI k1;clear k1))
   go_roundg 1
   case measure=>have:=HQ.o;omega
   case rel=>exact⟨2,rfl,ae,ai,K1,bw⟩
  ·have Kt:=(hb.cell (p:=⟨gn,on+2,none⟩) hgn).trans CN2.o
   go_wp2_with (first
    | (go_at_call 236;refine((FO _).o).mono ?_;rintro e w3 ⟨rfl,hb3⟩;have hz3:=hb3.size)
    | (go_at_fn 371;refine((HF.o g c (outs a b c 2) _ ((hw.o.keep hb3).keep ((aO _ _).alloc (aS _) _)) c0 c1 (by have:=x_.o 2;omega)).mono ?_);rintro e w4 ⟨rfl,k1,k2⟩;have oC:=k2.size;rw[Kq.o] at k1;have K1:=aI k1;clear k1))
   go_roundg 0
   case measure=>have:=HQ.o;omega
   case rel=>exact⟨3,rfl,ae,ai,K1,bw⟩
  ·obtain⟨hbg,v,hB,hO⟩:=hw.o
   have c0:=hB.cell 0;simp only[aK,aJ] at c0;have HO:=aI hO;clear hB hO
   go_wp2_with fail
   go_ret2
   exact⟨v,rfl,HO.o,hb⟩
theorem Hr(pat:Value)(out:List Int)(base:Nat)(vb vn:Value)(bs:List Int)(w:World)(hb0:base<=w.heap.size)(hO:OwnB base w vb bs)(hl:bs.length<=1000000000000)(hout:out.length<=1000)
 (hp:aH 164 #[pat,vn] w fun e w'=>∃v,e=.returned (.tuple #[v,.int .i64 0])/\OwnB w.heap.size w' v out/\Below w.heap.size w w') :
 aH 174 #[vb,pat,vn] w fun e w'=>∃v,e=.returned v/\OwnB base w' v (bs++out)/\Below base w w':=by
 have HO:=aI hO;have C1:=aI hp;clear hO hp
 go_enter func174,ntmps174
 go_wp2_with fail;refine(C1.o).mono ?_
 rintro e w1 ⟨v1,rfl,o1,hb1⟩;have O1:=aI o1;have hz1:=hb1.size;clear o1
 go_wp2_with (first
  | (at_builtin
     go_must (refine jH rfl (.tmp 15) (.tmp 16) rfl base vb bs rfl (dP.keep HO.o hb1) v1 out rfl (dP.rd O1.o) ae  ae ?_)
     intro v2 w2 o2 g2 a2;have hb2:Below base w w2:=(hb1.mono hb0).grown g2 ae (fun k hk=>(dP.lt HO.o k hk).1)
     have O2:=aI o2;clear o2 g2 a2))
 go_ret;exact⟨v2,rfl,O2.o,hb2⟩
theorem JF(n:Int)(base:Nat)(vb vn:Value)(bs:List Int)(w:World)(hb0:base<=w.heap.size)(hO:OwnB base w vb bs)(hl:bs.length<=1000000000000)(hr:iY .u64 w vn [n])(n0:0<=n)(n1:n<18446744073709551616) :
 aH 174 #[vb,.string ⟨#[118]⟩,vn] w fun e w'=>∃v,e=.returned v/\OwnB base w' v (bs++eG n)/\Below base w w':=
 Hr _ (eG n) base vb vn bs w hb0 hO hl (by have:=dM n;omega) (FC n vn w hr n0 n1)
theorem Yl(x:Int)(base:Nat)(vb vn:Value)(bs:List Int)(w:World)(hb0:base<=w.heap.size)(hO:OwnB base w vb bs)(hl:bs.length<=1000000000000)(hr:iY .u64 w vn [ub x])(h0:-9223372036854775808<=x)(h1:x<=9223372036854775807) :
 aH 174 #[vb,.string ⟨#[122]⟩,vn] w fun e w'=>∃v,e=.returned v/\OwnB base w' v (bs++zg x)/\Below base w w':=
 Hr _ (zg x) base vb vn bs w hb0 hO hl (by have:=dM (qA x);unfold zg;omega) (FD x vn w hr h0 h1)
theorem Ym(a b c:Int)(base:Nat)(vb vn:Value)(bs:List Int)(w:World)(hb0:base<=w.heap.size)(hO:OwnB base w vb bs)(hl:bs.length<=1000000000000)(hr:iY .u64 w vn [a,b,c])(a0:0<=a)(a1:a<18446744073709551616)(b0:0<=b)(b1:b<18446744073709551616)(c0:0<=c)(c1:c<18446744073709551616) :
 aH 174 #[vb,.string ⟨#[118,118,118]⟩,vn] w fun e w'=>∃v,e=.returned v/\OwnB base w' v (bs++outs a b c 3)/\Below base w w':=
 Hr _ (outs a b c 3) base vb vn bs w hb0 hO hl (by have:=Hq a b c 3;omega) (Yk a b c vn w hr a0 a1 b0 b1 c0 c1)
theorem _root_.Go.Proofs.YtilcnjbpmoijmaaGreat.iY.ag5(t:TypeId)(k:IntKind)(w:World)(a b c:Int)(H:Nat)(h:w.heap.size=H):iY k (w.alloc (.cells #[.int k a,.int k b,.int k c] t)) (.slice (some ⟨H,0,none⟩) 3 3) [a,b,c]:=by
 subst h;have h:dP t k w.heap.size (w.alloc (.cells #[.int k a,.int k b,.int k c] t)) (.slice (some ⟨w.heap.size,0,none⟩) 3 3) [a,b,c]:=
  ⟨rfl,.inr ⟨w.heap.size,3,_,rfl,aS _,heap_alloc_new _ _,ag,by unfold maxLen;omega,rfl,ag⟩⟩
 exact h.rd
theorem mF.lvl{L:LL}(h:∀x∈vO L,-9223372036854775808<=x/\x<=9223372036854775807)(j:Nat):mF (lvl L j):=fun x hx=>by
 rcases bV j L.length with hj|hj
 ·rw[nZ hj] at hx
  exact h x (List.mem_flatten.2 ⟨_,bf hj,hx⟩)
 ·rw[ry hj] at hx;simp at hx
theorem T_(vb v:Value)(bs l:List Int)(w0 w:World)(hb:Below w0.heap.size w0 w)(hl:iM jq w0 v l)(hs:r_ l)(hbd:mF l)(hn:l.length<=1000000000)(hO:OwnB w0.heap.size w vb bs)(hbs:bs.length<=100000000000) :
 aH 176 #[vb,v] w fun e w'=>∃v',e=.returned v'/\OwnB w0.heap.size w' v' (bs++wrL l)/\Below w0.heap.size w0 w':=by
 obtain⟨A,c,rfl,hc1,hc2,fa⟩:=hl.form;have FA:=aI fa;have HS:=aI hs;have HBD:=aI hbd;have HO:=aI hO;have HB:=aI hb;have hz:=hb.size;have hbb:=dM (l.length:Int);clear hl hs hbd hO fa hb
 go_enter func176,ntmps176
 go_wp2_with fail;refine(JF (l.length:Int) w0.heap.size vb _ bs _ (by simp only[aV];omega) (dP.alloc HO.o _) ae (iY.fK _ _ _ _ _ rfl) ae  ae).mono ?_
 rintro e w4 ⟨v4,rfl,o4,hb4⟩;obtain⟨G,hG⟩:=aF (bs++eG (l.length:Int));have WU:G.length<=100000000010:=by rw[<-hG,aQ];omega
 have HGE:Hid (bs++wrL l=G++vP none (l.take l.length)):=aI (by rw[<-hG,wrL,List.take_length];simp)
 rw[hG] at o4;have O4:=aI o4;have HB4:Hid (Below w0.heap.size w0 w4):=aI ((HB.o.alloc ae _).trans hb4)
 clear o4 hb4 hG hbb
 go_wp2_with fail
 go_loopg [0,5,6,15] l.length (fun q v _ _ i wr=>∃t:Nat,q=l.length - t/\t<=l.length/\i=.int .i64 (t:Int)/\Hid (OwnB w0.heap.size wr v (G++vP none (l.take t)))/\Hid (Below w0.heap.size w0 wr))
 case atStart=>exact⟨0,ae,ae,rfl,aI (by simpa[vP] using O4.o),HB4⟩
 case round=>
  obtain⟨t,hq2,ht,rfl,RN,HB2⟩:=hrel;have Cf:=aI hq2;clear hq2;have hzw:=HB2.o.size
  by_cases DW:t<l.length
  ·obtain⟨ga,oa,eA,hga,ka⟩:=FA.o.i64 DW
   subst eA;have hx:=HBD.o l[t] (bf DW);have hgt:(G++vP none (l.take t)).length<=1000000000000:=by
    have:=Eu none (l.take t);have h2:(l.take t).length<=l.length:=by rw[bG];omega
    rw[aQ];omega
   have hti:(t:Int)<(l.length:Int):=ae
   have k1:=(HB2.o.cell (p:=⟨ga,oa+t,none⟩) hga).trans ka
   rcases bQ t with rfl|ht0
   ·have rZ:=aI (JA DW)
    obtain⟨x,hxx⟩:=aF (l[0]);simp only[hxx,Nat.add_zero] at k1 hx rZ;have z0:((0:Nat):Int)=0:=rfl;rw[z0];clear hxx ka z0
    go_wp2_with fail;refine(Yl x w0.heap.size u0 _ (G++vP none (l.take 0)) _ (by simp only[aV];omega) (dP.alloc RN.o _) ae (by rw[<-show IntKind.u64.wrap x=ub x from fF x];exact iY.fK _ _ _ _ _ rfl) hx.1 hx.2).mono ?_
    rintro e w5 ⟨v5,rfl,o5,hb5⟩;have O5:Hid (OwnB w0.heap.size w5 v5 (G++vP none (l.take 1))):=aI (by rw[rZ.o,<-aX];exact o5)
    have lL:Hid (Below w0.heap.size w0 w5):=aI ((HB2.o.alloc ae _).trans hb5)
    clear o5 hb5
    go_wp2_with fail
    go_roundg (l.length - (0+1))
    case measure=>have:=Cf.o;omega
    case rel=>exact⟨1,rfl,ae,ai,O5,lL⟩
   ·obtain⟨s,rfl⟩:∃s,t=s+1:=⟨t - 1,ae⟩
    have hsl:s<l.length:=ae
    have rZ:=aI (PD DW);obtain⟨ga',oa',eA,_,kb⟩:=FA.o.i64 hsl;injection eA with eA;injection eA with eA1 eA2;subst eA1;subst eA2;have hle:=Hf HS.o DW;have hy:=HBD.o l[s] (bf hsl);have k2:=(HB2.o.cell (p:=⟨ga,oa+s,none⟩) hga).trans kb;obtain⟨x,hxx⟩:=aF (l[s+1]);obtain⟨y,hyy⟩:=aF (l[s]);simp only[hxx,hyy] at k1 k2 rZ hx hy hle;have EW:=aI (show IntKind.u64.wrap (IntKind.u64.wrap x - IntKind.u64.wrap y)=x - y by simp only[fF];omega)
    have hs1:((s+1:Nat):Int) - 1=(s:Int):=ae
    have hst:(s:Int)<(l.length:Int):=ae
    have ht0':((s+1:Nat):Int)≠0:=ae
    have hws:IntKind.i64.wrap (s:Int)=(s:Int):=IntWalk.i64_in _ ae
    clear hxx hyy ka kb
    go_wp2_with fail;rw[EW.o];refine(JF (x - y) w0.heap.size u0 _ (G++vP none (l.take (s+1))) _ (by simp only[aV];omega) (dP.alloc RN.o _) ae (iY.fK _ _ _ _ _ rfl) ae  ae).mono ?_
    rintro e w5 ⟨v5,rfl,o5,hb5⟩;have O5:Hid (OwnB w0.heap.size w5 v5 (G++vP none (l.take (s+1+1)))):=aI (by rw[rZ.o,<-aX];exact o5)
    have lL:Hid (Below w0.heap.size w0 w5):=aI ((HB2.o.alloc ae _).trans hb5)
    clear o5 hb5 hws
    go_wp2_with fail
    go_roundg (l.length - (s+1+1))
    case measure=>have:=Cf.o;omega
    case rel=>exact⟨s+1+1,rfl,ae,ai,O5,lL⟩
  ·obtain rfl:t=l.length:=ae
   go_wp2_with fail;refine bodyPost_ret (by simp[results,Tryz.results176,go_sem, *];try rfl) rfl ?_
   exact⟨_,rfl,by rw[HGE.o];exact RN.o,HB2.o⟩
theorem ag6(k:Int)(L:LL)(led:Nat):Ii k L led=outs k led L.length 3++kU (L.take L.length):=by
 unfold Ii outs;rw[List.take_length];simp
theorem LM.bz6{base:Nat}{w:World}{A:Option Addr}{c:Nat}(h:LM base w (.slice A n c) vs L){j:Nat}(hj:j<L.length) :
 ∃gl off sA sc,A=some ⟨gl,off,none⟩/\gl<w.heap.size/\w.cell? ⟨gl,off+j,none⟩=some (.slice sA (lvl L j).length sc)/\iM jq w (.slice sA (lvl L j).length sc) (lvl L j):=h.llr.at_ hj
theorem Ht{F:Nat->Prop}{g k led a:Nat}{lv:Value}(w:World)(hs:xB F w g k n led lv vs L)(hok:kS (L,led,a))(hbd:∀j,mF (lvl L j))(hk:k<=1000000) :
 aH 105 #[.pointer (some ⟨g,0,none⟩)] w fun e w'=>∃v,e=.returned (.tuple #[v,.int .i64 0])/\OwnB w.heap.size w' v (Ii k L led)/\Below w.heap.size w w':=by
 have hlenL:=hok.TV;have hcnt:=hok.bg7;have Pv:led<=4611686018427387904:=hok.led;have HLV:=aI (yu w hs ae  ae)
 have HS:=aI (fun W (hb:Below w.heap.size w W)=>hs.keep hb)
 have YR:=aI (fun j=>(hok.iU j:r_ (lvl L j)))
 have HBD:=aI hbd;have HTL:=aI (fun j=>xE L j)
 have HLC:=aI (fun j=>iG L j)
 have ag4:=aI (ag6 k L led);have hol:=Hq k led L.length 3;clear hs hok hbd
 go_enter func105,ntmps105
 go_wp2_with fail;refine(HLV.o).mono ?_
 rintro e w1 ⟨v1,vs1,rfl,hlo,hb1⟩;obtain⟨A1,c1,ev,hc1,hc2⟩:=hlo.llr.form;subst ev;have HLO:=aI hlo;have HB1:=aI hb1;have MQ:=aI (HS.o w1 hb1);have hz1:=hb1.size;clear hlo hb1 HLV HS
 go_wp2_with fail;refine(size_any w1 MQ.o).mono ?_
 rintro e w2 ⟨rfl,hw2⟩;subst hw2
 go_wp2_with fail;refine(TU w1 MQ.o).mono ?_
 rintro e w2 ⟨rfl,hw2⟩;subst hw2
 go_wp2_with fail;refine(Ym k led L.length w1.heap.size _ _ [] _ ag (dP.nil_ _ _ _ _) ag (iY.ag5 _ _ _ _ _ _ _ rfl) ae  ae  ae  ae  ae  ae).mono ?_
 rintro e w3 ⟨v3,rfl,o3,hb3⟩;obtain⟨H,hH⟩:=aF (outs (k:Int) led L.length 3);rw[List.nil_append,hH] at o3;rw[hH] at ag4 hol;have O3:=aI o3;have HB3:Hid (Below w1.heap.size w1 w3):=aI (((aO _ _).alloc ae _).trans hb3)
 clear o3 hb3 hH
 go_wp2_with fail
 go_loopg [5,7,24] L.length (fun q v _ i wr=>∃j:Nat,q=L.length - j/\j<=L.length/\i=.int .i64 (j:Int)/\Hid (OwnB w1.heap.size wr v (H++kU (L.take j)))/\Hid (Below w1.heap.size w1 wr))
 case atStart=>exact⟨0,ae,ae,rfl,aI (by simpa[kU] using O3.o),HB3⟩
 case round=>
  obtain⟨j,hq,hj,rfl,HO,HB⟩:=hrel;have HQ:=aI hq;clear hq;have hz:=HB.o.size;have htl:=HTL.o j
  by_cases hjl:j<L.length
  ·obtain⟨gl,off,sA,sc,eA,hgl,ca,ra⟩:=HLO.o.bz6 hjl
   subst eA;have HT:=aI (JB hjl);have hlc:=HLC.o j;have k1:=(HB.o.cell (p:=⟨gl,off+j,none⟩) hgl).trans ca;have HKL:=aI (T_ u5 _ (H++kU (L.take j)) (lvl L j) w1 wr HB.o ra (YR.o j) (HBD.o j) ae HO.o (by rw[aQ];omega))
   rw[aX,<-HT.o] at HKL;have hji:(j:Int)<(L.length:Int):=ae
   clear ra ca
   go_wp2_with fail;refine(HKL.o).mono ?_
   rintro e w4 ⟨v4,rfl,o4,hb4⟩;have O4:=aI o4;have HB4:=aI hb4;clear o4 hb4
   go_wp2_with fail
   go_roundg (L.length - (j+1))
   case measure=>have:=HQ.o;omega
   case rel=>exact⟨j+1,rfl,ae,ai,O4,HB4⟩
  ·obtain rfl:j=L.length:=ae
   go_wp2_with fail;refine bodyPost_ret (by simp[results,Tryz.results105,go_sem, *];try rfl) rfl ?_
   exact⟨_,rfl,by rw[ag4.o];exact dP.lift HO.o (fun k e=>bJ hz1 (dP.lt HO.o k e).1),HB1.o.trans (HB.o.mono hz1)⟩
end
end Go.Proofs.YtilcnjbpmoijmaaGreat.K
