/- Parts of a proof: what its theorem reaches, words cut short. No condition of its own. -/
import Derived.Test.YtkiebccnpheloaaGreatPk37
set_option maxRecDepth 100000
set_option maxHeartbeats 16000000
set_option linter.unusedVariables false
set_option linter.unusedSimpArgs false
namespace Go.Proofs.YtkiebccnpheloaaGreat.K
section
open Go.RowKit
def IX(p:Option Int)(v:Int):List Int:=match p with
 | none=>zg v
 | some q=>fC (v - q)
def tY:Option Int->List Int->List Int
 | _,[]=>[]
 | p,v::l=>IX p v++tY (some v) l
def YE(l:List Int):List Int:=fC l.length++tY none l
def jX:LL->List Int
 | []=>[]
 | l::L=>YE l++jX L
def EY(k:Int)(L:LL)(led:Nat):List Int:=fC k++(fC led++(fC L.length++jX L))
def GU:Option Int->List Int->Option Int
 | p,[]=>p
 | _,v::l=>GU (some v) l
theorem Ec(v:Int):∀(p:Option Int) (l:List Int),GU p (l++[v])=some v
 | _,[]=>rfl
 | _,x::l=>Ec v (some x) l
theorem Ed(v:Int):∀(p:Option Int) (l:List Int),tY p (l++[v])=tY p l++IX (GU p l) v
 | p,[]=>by simp[tY,GU]
 | p,x::l=>by simp only[List.cons_append,tY,Ed v (some x) l,GU,aS]
theorem GV{l:List Int}(h:0<l.length):tY none (l.take 1)=tY none (l.take 0)++zg l[0]:=by
 have:=Ed l[0] none (l.take 0);rw[<-aT h] at this;rw[this];simp[GU,IX]
theorem Lr{l:List Int}{j:Nat}(h:j+1<l.length):tY none (l.take (j+1+1))=tY none (l.take (j+1))++fC (l[j+1] - l[j]):=by
 have:=Ed l[j+1] none (l.take (j+1));rw[<-aT h] at this;rw[this,aT (show j<l.length by omega),Ec]
 rfl
theorem zT:∀(A B:LL),jX (A++B)=jX A++jX B
 | [],B=>rfl
 | a::A,B=>by rw[List.cons_append,jX,zT A B,jX,aS]
theorem GX{L:LL}{j:Nat}(h:j<L.length):jX (L.take (j+1))=jX (L.take j)++YE (lvl L j):=by
 rw[aT h,zT,jV h];simp[jX]
theorem YF(p:Option Int)(v:Int):1<=(IX p v).length/\(IX p v).length<=10:=by
 unfold IX
 split
 ·exact dM _
 ·exact dM _
theorem Bg:∀(p:Option Int) (l:List Int),(tY p l).length<=10 * l.length
 | _,[]=>by simp[tY]
 | p,v::l=>by
  have h1:=Bg (some v) l;have h2:=YF p v;simp only[tY,aI,aP];omega
theorem ae9(l:List Int):(YE l).length<=10 * l.length+10:=by
 have h1:=Bg none l;have h2:=dM (l.length:Int);unfold YE;rw[aI];omega
theorem Ee:∀(L:LL),(jX L).length<=10 * cnt L+10 * L.length
 | []=>by simp[jX]
 | l::L=>by
  have h1:=Ee L;have h2:=ae9 l;rw[jX,aI,mi,aP];omega
theorem vH(L:LL)(j:Nat):(jX (L.take j)).length<=10 * cnt L+10 * L.length:=by
 have h1:=Ee (L.take j);have h2:=oG (L.take j) (L.drop j);rw[List.take_append_drop] at h2;have h3:(L.take j).length<=L.length:=by rw[bg];omega
 omega
theorem RG(k:Int)(L:LL)(led:Nat):(EY k L led).length<=10 * cnt L+10 * L.length+30:=by
 have h1:=Ee L;have h2:=dM k;have h3:=dM (led:Int);have h4:=dM (L.length:Int);unfold EY;simp only[aI];omega
def kS(l:List Int):Prop:=∀x∈l,-9223372036854775808<=x/\x<=9223372036854775807
theorem YG:∀(p:Option Int) (l:List Int),kS l->(∀q,p=some q->-9223372036854775808<=q/\∀m∈l,q<=m)->qA l->qQ (tY p l)
 | _,[],_,_,_=>fun b hb=>by simp[tY] at hb
 | p,v::l,hr,hp,hs=>by
  have hv:=hr v (aQ ..);have hs':=aZ.1 hs;simp only[tY];refine qQ.append ?_ (YG (some v) l (fun x hx=>hr x (aV _ hx)) (fun q hq=>by cases hq;exact⟨hv.1,fun x hx=>hs'.1 x hx⟩) hs'.2)
  unfold IX
  cases p with
  | none=>exact yF (vM hv.1 hv.2).1 (vM hv.1 hv.2).2
  | some q=>have:=hp q rfl;have h2:=this.2 v (aQ ..);exact yF ae  ae
theorem RH:∀(L:LL),(∀l∈L,kS l/\qA l/\l.length<18446744073709551616)->qQ (jX L)
 | [],_=>fun b hb=>by simp[jX] at hb
 | l::L,h=>by
  obtain⟨h1,h2,h3⟩:=h l (aQ ..);rw[jX,YE];exact qQ.append (qQ.append (yF ae  ae) (YG none l h1 (fun q hq=>by cases hq) h2)) (RH L fun x hx=>h x (aV _ hx))
theorem aq2{k:Int}{L:LL}{led:Nat}(k0:0<=k)(k1:k<18446744073709551616)(hl:led<18446744073709551616)(hL:L.length<18446744073709551616)(h:∀l∈L,kS l/\qA l/\l.length<18446744073709551616):qQ (EY k L led):=by
 unfold EY;exact qQ.append (yF k0 k1) (qQ.append (yF ae  ae) (qQ.append (yF ae  ae) (RH L h)))
def Fq(m:Int)(l:List Int):Option (Int × List Int):=match f_ l with
 | none=>none
 | some p=>if p.1<=m then some p else none
def nxV(p:Option Int)(n:Int):Option Int:=match p with
 | none=>some (Fa n)
 | some q=>if wrap64 ((ub q+n) % 18446744073709551616)<q then none else some (wrap64 ((ub q+n) % 18446744073709551616))
def oK:Nat->List Int->List Int->Option (List Int × List Int)
 | 0,acc,l=>some (acc,l)
 | k+1,acc,l=>match f_ l with
  | none=>none
  | some x=>match nxV acc.getLast? x.1 with
   | none=>none
   | some v=>oK k (acc++[v]) x.2
def zn(l:List Int):Option (List Int × List Int):=match Fq 4096 l with
 | none=>none
 | some x=>oK x.1.toNat [] x.2
def tZ:Nat->LL->List Int->Option (LL × List Int)
 | 0,acc,l=>some (acc,l)
 | k+1,acc,l=>match zn l with
  | none=>none
  | some x=>tZ k (acc++[x.1]) x.2
structure Rk where
 k:Int
 led:Int
 L:LL
def Ls(l:List Int):Option (Rk × List Int):=match Fq 4096 l with
 | none=>none
 | some a=>match f_ a.2 with
  | none=>none
  | some b=>match Fq 49 b.2 with
   | none=>none
   | some c=>match tZ c.1.toNat [] c.2 with
    | none=>none
    | some x=>some (⟨a.1,b.1,x.1⟩,x.2)
theorem IY{m n:Int}(h0:0<=n)(h1:n<18446744073709551616)(r:List Int):Fq m (fC n++r)=if n<=m then some (n,r) else none:=by
 unfold Fq;rw[qh h0 h1]
theorem Lt(r:List Int):∀(l acc:List Int),kS (acc++l)->qA (acc++l)->oK l.length acc (tY acc.getLast? l++r)=some (acc++l,r)
 | [],acc,_,_=>by simp[oK,tY]
 | v::l,acc,hr,hs=>by
  have hv:=hr v ag
  have h2:=Lt r l (acc++[v]) (by simpa using hr) (by simpa using hs)
  rw[List.getLast?_concat] at h2;simp only[aP,oK,tY,aS] at h2 |-
  cases hl:acc.getLast? with
  | none=>
   have sb:=vM hv.1 hv.2;unfold IX zg;simp only;rw[qh sb.1 sb.2];simp only[nxV,ZW];rw[h2];simp
  | some q=>
   have hq:q∈acc:=List.mem_of_getLast? hl;have hqr:=hr q (by simp[hq])
   have hle:q<=v:=(List.pairwise_append.1 hs).2.2 q hq v ag
   unfold IX;simp only;rw[qh ae  ae]
   simp only[nxV,SQ hqr.1 hle hv.2];rw[if_neg ae]
   simp only;rw[h2];simp
theorem YH(r:List Int){l:List Int}(hr:kS l)(hs:qA l)(hl:l.length<=4096):zn (YE l++r)=some (l,r):=by
 unfold zn YE;rw[aS,IY ae  ae,if_pos ae]
 simp only[bY];have:=Lt r l [] (by simpa using hr) (by simpa using hs)
 simpa using this
theorem GY(r:List Int):∀(L acc:LL),(∀l∈L,kS l/\qA l/\l.length<=4096)->tZ L.length acc (jX L++r)=some (acc++L,r)
 | [],acc,_=>by simp[tZ,jX]
 | l::L,acc,h=>by
  obtain⟨h1,h2,h3⟩:=h l (aQ ..);have ih:=GY r L (acc++[l]) fun x hx=>h x (aV _ hx)
  rw[aP,tZ,jX,aS,YH _ h1 h2 h3];simp only;rw[ih];simp
theorem af0(r:List Int){k:Int}{L:LL}{led:Nat}(k0:0<=k)(k1:k<=4096)(hl:led<18446744073709551616)(hL:L.length<=49)(h:∀l∈L,kS l/\qA l/\l.length<=4096):Ls (EY k L led++r)=some (⟨k,led,L⟩,r):=by
 unfold Ls EY;simp only[aS];rw[IY k0 ae,if_pos k1]
 simp only;rw[qh ae  ae]
 simp only;rw[IY ae  ae,if_pos ae]
 simp only[bY];rw[GY r L [] h];simp
end
section
open Go.RowKit Go.Lib
def ay6(e:Ending):Prop:=∃s,e=.panicked [{v:=.iface 431 (.string s),recovered:=false}]
def qH{α:Type}(x:Option (α × List Int))(val:α->World->Value->Prop)(w:World)(g:Nat)(bs:List Int)(e:Ending)(w':World):Prop:=
 match x with
 | some p=>∃v,e=.returned v/\val p.1 w' v/\dZ w' g bs (bs.length - p.2.length)/\Touch (fun k=>k=g) w w'
 | none=>ay6 e/\Touch (fun k=>k=g) w w'
theorem x9{m:Int}{l:List Int}{p:Int × List Int}(h:Fq m l=some p):f_ l=some p/\p.1<=m:=by
 unfold Fq at h
 cases hu:f_ l with
 | none=>rw[hu] at h;cases h
 | some q=>
  rw[hu] at h;simp only at h
  split at h
  ·rename_i hc
   injection h with h;subst h;exact⟨rfl,hc⟩
  ·cases h
theorem Ef(c m:Int)(f:Int->Int)(X:Option (Int × List Int))(gr g:Nat)(bs:List Int)(a:Nat)(w:World)(h:dZ w g bs a)(hc:w.cell? ⟨gr,0,none⟩=some (.pointer (some ⟨g,0,none⟩)))
 (hX:X=match f_ (bs.drop a) with|none=>none|some p=>if f p.1<=m then some p else none)
 (hn:∀w,dZ w g bs a->Calls Tryz.prog 318 #[.pointer (some ⟨g,0,none⟩),.int .u8 c] w (nZ w g bs a f)) :
 Calls Tryz.prog 396 #[.pointer (some ⟨gr,0,none⟩),.int .u8 c,.int .u64 m] w (qH X (fun n _ v=>v=.int .u64 (f n)) w g bs):=by
 have HN:=aB (hn w h);clear h hn
 go_enter Tryz.func396,Tryz.ntmps396
 go_wp2_with fail;refine(HN.out).mono ?_
 intro e w2 hg;unfold nZ at hg
 cases hu:f_ (bs.drop a) with
 | none=>
  rw[hu] at hX;simp only[hu] at hg;have HX:=aB hX;obtain⟨er,rfl,h2,h3,h4⟩:=hg;have hne:(er != 0)=true:=by rcases h2 with rfl|rfl<;>rfl
  have T4:=aB h4;clear hu h2 h3 h4 hX hc
  go_wp2_with fail;refine⟨rfl,?_⟩
  unfold qH;rw[HX.out];exact⟨⟨_,rfl⟩,T4.out⟩
 | some p=>
  rw[hu] at hX;simp only[hu] at hg hX;obtain⟨rfl,h3,h4⟩:=hg;have T4:=aB h4;have H3:=aB h3;obtain⟨n,r⟩:=p;simp only at hX H3 |-
  by_cases hm:f n<=m
  ·rw[if_pos hm] at hX
   have HX:=aB hX;have hm2:¬f n > m:=ae
   clear hu h3 h4 hX hc
   go_wp2_with fail;refine bodyPost_ret (by simp[results,Tryz.results396,go_sem, *];try rfl) rfl ?_
   unfold qH;rw[HX.out];exact⟨_,rfl,rfl,H3.out,T4.out⟩
  ·rw[if_neg hm] at hX
   have HX:=aB hX;have hm2:f n > m:=ae
   clear hu h3 h4 hX hc
   go_wp2_with fail;refine⟨rfl,?_⟩
   unfold qH;rw[HX.out];exact⟨⟨_,rfl⟩,T4.out⟩
theorem zo(m:Int)(gr g:Nat)(bs:List Int)(a:Nat)(w:World)(h:dZ w g bs a)(hc:w.cell? ⟨gr,0,none⟩=some (.pointer (some ⟨g,0,none⟩)))(hb:qQ bs)(hlen:bs.length<=1000000000000) :
 Calls Tryz.prog 396 #[.pointer (some ⟨gr,0,none⟩),.int .u8 118,.int .u64 m] w (qH (Fq m (bs.drop a)) (fun n _ v=>v=.int .u64 n) w g bs):=
 Ef 118 m id _ gr g bs a w h hc (by unfold Fq;rfl) (fun w h=>vO g bs a w h hb hlen)
theorem zU(gr g:Nat)(bs:List Int)(a:Nat)(w:World)(h:dZ w g bs a)(hc:w.cell? ⟨gr,0,none⟩=some (.pointer (some ⟨g,0,none⟩)))(hb:qQ bs)(hlen:bs.length<=1000000000000) :
 Calls Tryz.prog 396 #[.pointer (some ⟨gr,0,none⟩),.int .u8 118,.int .u64 18446744073709551615] w (qH (f_ (bs.drop a)) (fun n _ v=>v=.int .u64 n) w g bs):=
 Ef 118 _ id _ gr g bs a w h hc (by
  cases hu:f_ (bs.drop a) with
  | none=>rfl
  | some p=>have:=lW (hb.drop a) hu;simp only[id];rw[if_pos ae]) (fun w h=>vO g bs a w h hb hlen)
theorem UZ(gr g:Nat)(bs:List Int)(a:Nat)(w:World)(h:dZ w g bs a)(hc:w.cell? ⟨gr,0,none⟩=some (.pointer (some ⟨g,0,none⟩)))(hb:qQ bs)(hlen:bs.length<=1000000000000) :
 Calls Tryz.prog 396 #[.pointer (some ⟨gr,0,none⟩),.int .u8 122,.int .u64 18446744073709551615] w (qH (f_ (bs.drop a)) (fun n _ v=>v=.int .u64 (ub (Fa n))) w g bs):=
 Ef 122 _ (fun n=>ub (Fa n)) _ gr g bs a w h hc (by
  cases hu:f_ (bs.drop a) with
  | none=>rfl
  | some p=>have:=CO (Fa p.1);simp only;rw[if_pos ae]) (fun w h=>NV g bs a w h hb hlen)
theorem af1{base:Nat}{w:World}{v:Value}{l:List Int}:dN 2 .i64 base w v l<->dI fZ base w v l:=by
 unfold dI dN;rw[qC];rfl
theorem _root_.Go.Proofs.YtkiebccnpheloaaGreat.OwnB.bh9{b b':Nat}{w:World}{v u:Value}{bs:List Int}{l:List Int}(h:OwnB b w v bs)(ho:dN 2 .i64 b' w u l){k:Nat}(hk:v.ownBlock=some k):u.ownBlock≠some k:=by
 intro e
 rcases h.2 with h2|⟨g1,cap,cur,rfl,e2,e3,r⟩
 ·rw[h2.1] at hk;cases hk
 ·rcases ho.2 with h4|⟨g2,cap2,yS,rfl,e5,e6,r2⟩
  ·rw[h4.1] at e;cases e
  ·cases hk
   cases e
   rw[e3] at e6
   cases e6
theorem _root_.Go.Proofs.YtkiebccnpheloaaGreat.dH.bi0{w:World}{g t b:Nat}{cs:Array Value}{v:Value}{l:List Int}(h:dH w g t cs)(ho:dN 2 .i64 b w v l)(ht:t≠2):v.ownBlock≠some g:=by
 intro e
 rcases ho.2 with h2|⟨g',cap,cur,rfl,e2,e3,r⟩
 ·rw[h2.1] at e;cases e
 ·cases e
  unfold dH at h;rw[h] at e3
  cases e3
  exact ht rfl
theorem _root_.Go.Proofs.YtkiebccnpheloaaGreat.dZ.YI{w w':World}{g:Nat}{bs:List Int}{a b:Nat}{u:Value}{l:List Int}(h:dZ w g bs a)(ho:dN 2 .i64 b w u l)(hg:w.grownBy w' u.ownBlock):dZ w' g bs a:=by
 obtain⟨v,h1,h2,h3⟩:=h;exact⟨v,(hg.block g h1.lt (fun e=>h1.bi0 ho af e.symm)).trans h1,dN.stay h2 (fun k hk=>hg.block k (dN.lt h2 k hk).2 (fun e=>h2.bh9 ho hk e.symm)),h3⟩
theorem _root_.Go.Proofs.YtkiebccnpheloaaGreat.dN.away{t:TypeId}{k:IntKind}{base g:Nat}{w w':World}{v:Value}{l:List Int}(h:dN t k base w v l)(ht:Touch (fun k=>k=g) w w')(hg:g<base):dN t k base w' v l:=
 h.stay fun k e=>ht.block k (h.lt k e).2 (fun e2=>by have:=(h.lt k e).1;omega)
theorem GZ{k:Nat}{acc l:List Int}{T:Option (List Int × List Int)}(h:oK (k+1) acc l=T){x:Int × List Int}(hx:f_ l=some x){v:Int}(hv:nxV acc.getLast? x.1=some v):oK k (acc++[v]) x.2=T:=by
 rw[oK,hx] at h;simp only[hv] at h;exact h
theorem G6{k:Nat}{acc l:List Int}{T:Option (List Int × List Int)}(h:oK (k+1) acc l=T)(hx:f_ l=none):T=none:=by
 rw[oK,hx] at h;exact h.symm
theorem U2{k:Nat}{acc l:List Int}{T:Option (List Int × List Int)}(h:oK (k+1) acc l=T){x:Int × List Int}(hx:f_ l=some x)(hv:nxV acc.getLast? x.1=none):T=none:=by
 rw[oK,hx] at h;simp only[hv] at h;exact h.symm
theorem kS.snoc{l:List Int}{v:Int}(h:kS l)(h0:-9223372036854775808<=v)(h1:v<=9223372036854775807):kS (l++[v]):=fun x hx=>by
 rcases cO.1 hx with hx|hx
 ·exact h x hx
 ·simp only[List.mem_singleton] at hx;subst hx;exact⟨h0,h1⟩
theorem PV(gr g:Nat)(bs:List Int)(a:Nat)(w:World)(h:dZ w g bs a)(hc:w.cell? ⟨gr,0,none⟩=some (.pointer (some ⟨g,0,none⟩)))(hne:gr≠g)(hb:qQ bs)(hlen:bs.length<=1000000000000) :
 Calls Tryz.prog 395 #[.pointer (some ⟨gr,0,none⟩)] w (qH (zn (bs.drop a)) (fun l w' v=>dN 2 .i64 w.heap.size w' v l/\kS l) w g bs):=by
 have H:=aB h;have C0:=aB hc;have hlt:=h.lt;have hgr:gr<w.heap.size:=b_ _ _ hc;have HB:=aB hb;have HN1:=aB (zo 4096 gr g bs a w h hc hb hlen);clear h hb hc
 go_enter Tryz.func395,Tryz.ntmps395
 go_wp2_with fail;refine(HN1.out).mono ?_
 intro e w2 hg;unfold qH at hg
 cases hu:Fq 4096 (bs.drop a) with
 | none=>
  simp only[hu] at hg;have HU:Hid (zn (bs.drop a)=none):=aB (by unfold zn;rw[hu])
  obtain⟨⟨pv,rfl⟩,h4⟩:=hg;have T4:=aB h4;clear hu h4
  go_wp2_with fail;refine⟨rfl,?_⟩
  unfold qH;rw[HU.out];exact⟨⟨_,rfl⟩,T4.out⟩
 | some p=>
  obtain⟨n0,r⟩:=p;simp only[hu] at hg;obtain⟨v,rfl,rfl,h3,h4⟩:=hg;obtain⟨hx,hm⟩:=x9 hu;have hbd:=lW (HB.out.drop a) hx;have YJ:=nR hx;obtain⟨n,rfl⟩:∃n:Nat,n0=n:=⟨n0.toNat,by simp only at hbd;omega⟩
  simp only at hm hbd;have T4:=aB h4;have mG:=h4.size;obtain⟨T,hT⟩:∃T,zn (bs.drop a)=T:=⟨_,rfl⟩;have HT:=aB hT;have R0:Hid (oK n [] (bs.drop (bs.length - r.length))=T):=aB (by rw[YJ,<-hT];unfold zn;rw[hu];simp)
  have H3:=aB h3;have C2:Hid (w2.cell? ⟨gr,0,none⟩=some (.pointer (some ⟨g,0,none⟩))):=aB ((h4.cell (o:=0) hgr hne).trans C0.out);have hg2:g<w2.heap.size:=ae
  have U3:gr<w2.heap.size:=ae
  have hwn:(n:Int)<=4096:=ae
  clear hu hT h3 h4 hx YJ hbd;generalize bs.length - r.length=a1 at *
  go_wp2_with fail
  go_loopg [3,4,5,6,10] n (fun q v _ _ _ i wr=>∃(j a':Nat) (acc:List Int),q=n - j/\j<=n/\i=.int .i64 j/\acc.length=j/\Hid (kS acc)/\Hid (dN 2 .i64 w2.heap.size wr v acc)/\Hid (dZ wr g bs a')/\Hid (oK (n - j) acc (bs.drop a')=T)/\Hid (Touch (fun k=>k=g) w2 wr))
  case atStart=>exact⟨0,a1,[],rfl,ae,rfl,rfl,aB (fun x hx=>by simp at hx),aB (dN.nil_ _ _ _ _),H3,R0,aB (Touch.refl _ _)⟩
  case round=>
   obtain⟨j,a',acc,hq,hj,rfl,hacc,HI,HO,HR,HS0,IU⟩:=hrel;have HQ:=aB hq;have hzr:=IU.out.size;have cb:=(IU.out.cell (o:=0) U3 hne).trans C2.out;have hal:acc.length+1<=1099511627776:=ae
   clear hq
   by_cases hlt2:j<n
   ·have hs':=HS0.out
    rw[show n - j=(n - (j+1))+1 by omega] at hs'
    have HS:=aB hs';have hji:(j:Int)<(n:Int):=ae
    clear hs' HS0
    rcases bT j with rfl|hj0
    ·obtain rfl:acc=[]:=aW hacc
     have HNZ:=aB (UZ gr g bs a' wr HR.out cb HB.out hlen);have z0:((0:Nat):Int)=0:=rfl;rw[z0] at hji |-;clear z0 cb
     go_wp2_with fail;refine(HNZ.out).mono ?_
     intro e w3 hg;unfold qH at hg
     cases hA:f_ (bs.drop a') with
     | none=>
      simp only[hA] at hg;have HU:Hid (T=none):=aB (G6 HS.out hA);obtain⟨⟨pv,rfl⟩,h4⟩:=hg;have T5:=aB h4;clear hA h4
      go_wp2_with fail;refine⟨rfl,?_⟩
      unfold qH;rw[HT.out,HU.out];exact⟨⟨_,rfl⟩,tt (tt T4.out IU.out) T5.out⟩
     | some p=>
      obtain⟨z,r1⟩:=p;simp only[hA] at hg;obtain⟨v,rfl,rfl,h3,h4⟩:=hg;have zb:=lW (HB.out.drop a') hA;have zu:=Wv zb.1 zb.2;have zw:=Ib zu.1 zu.2;have E1:=nR hA;have UJ:Hid (oK (n - (0+1)) ([]++[Fa z]) (bs.drop (bs.length - r1.length))=T):=aB (by rw[E1];exact GZ HS.out hA rfl)
      have HI1:=aB (HI.out.snoc zu.1 zu.2);have T5:=aB (tt IU.out h4);have R3:=aB h3;have O3:Hid (dN 2 .i64 w2.heap.size w3 u3 []):=aB (HO.out.away h4 hg2);have hz3:=h4.size;clear hA h3 h4 zb E1;simp only;generalize bs.length - r1.length=a2 at *
      go_wp2_with (first
       | (at_builtin
          go_loud (refine Jv Tryz.underlying236 ah8 rfl (.tmp 15) (.tmp 19) rfl w2.heap.size u3 [] rfl (O3.out.alloc _) _ [Fa z] rfl (iH.dY _ _ _ _ _ rfl) ag (by simp only[aO];omega) ?_)
          intro v6 w6 o6 g6 a6;have hb7:Below w3.heap.size w3 (w3.alloc (.cells #[.int .i64 (Fa z)] 2)):=(aH _ _).alloc (aK _) _;have R6:Hid (dZ w6 g bs a2):=aB ((R3.out.keep hb7).YI (O3.out.alloc _) g6);have T6:Hid (Touch (fun k=>k=g) w2 w6):=aB (((T5.out.alloc _).grown g6 (fun k e=>.inr (O3.out.lt k e).1)))
          have O6:=aB o6;clear o6 g6 a6))
      go_roundg (n - (0+1))
      case measure=>have:=HQ.out;omega
      case rel=>exact⟨1,a2,[]++[Fa z],rfl,ae,ai,rfl,HI1,O6,R6,UJ,T6⟩
    ·obtain⟨s,rfl⟩:∃s,j=s+1:=⟨j - 1,ae⟩
     have hsl:s<acc.length:=ae
     obtain⟨A3,c3,hv3,m3,m4,f3⟩:=HO.out.rd.form;obtain⟨ga,oa,eA,hga,ka⟩:=f3.at_ hsl;have hla:acc.getLast?=some acc[s]:=by
      rw[List.getLast?_eq_getElem?,hacc];simp[aY hsl]
     have hq:=HI.out acc[s] (bu hsl);obtain⟨q,hqq⟩:∃q,acc[s]=q:=⟨_,rfl⟩;rw[hqq] at ka hla hq;rw[hacc] at hv3 m3;subst eA;subst hv3;have HNV:=aB (zU gr g bs a' wr HR.out cb HB.out hlen);have HLA:=aB hla;have hs1:((s+1:Nat):Int) - 1=(s:Int):=ae
     have hst:(s:Int)<(s:Int)+1:=ae
     have ht0':((s+1:Nat):Int)≠0:=ae
     have hws:IntKind.i64.wrap (s:Int)=(s:Int):=IntWalk.i64_in _ ae
     clear cb f3 hla hqq
     go_wp2_with fail;clear ka;refine(HNV.out).mono ?_
     intro e w3 hg;unfold qH at hg
     cases hA:f_ (bs.drop a') with
     | none=>
      simp only[hA] at hg;have HU:Hid (T=none):=aB (G6 HS.out hA);obtain⟨⟨pv,rfl⟩,h4⟩:=hg;have T5:=aB h4;clear hA h4
      go_wp2_with fail;refine⟨rfl,?_⟩
      unfold qH;rw[HT.out,HU.out];exact⟨⟨_,rfl⟩,tt (tt T4.out IU.out) T5.out⟩
     | some p=>
      obtain⟨z,r1⟩:=p;simp only[hA] at hg;obtain⟨v,rfl,rfl,h3,h4⟩:=hg;have zb:=lW (HB.out.drop a') hA;have E1:=nR hA;have EW:Hid (wrap64 (IntKind.u64.wrap (IntKind.u64.wrap q+z))=wrap64 ((ub q+z) % 18446744073709551616)):=aB (by rw[eH,eH];rfl)
      have UY:Hid (wrap64 ((ub q+z) % 18446744073709551616)<q->T=none):=aB fun h=>U2 HS.out hA (by rw[HLA.out];unfold nxV;simp only;rw[if_pos h])
      have HYE:Hid (¬wrap64 ((ub q+z) % 18446744073709551616)<q->oK (n - (s+1+1)) (acc++[wrap64 ((ub q+z) % 18446744073709551616)]) (bs.drop (bs.length - r1.length))=T):=aB fun h=>by
       rw[E1];exact GZ HS.out hA (by rw[HLA.out];unfold nxV;simp only;rw[if_neg h])
      have wb:-9223372036854775808<=wrap64 ((ub q+z) % 18446744073709551616)/\wrap64 ((ub q+z) % 18446744073709551616)<=9223372036854775807:=by unfold wrap64;omega
      obtain⟨x,hx⟩:∃x,wrap64 ((ub q+z) % 18446744073709551616)=x:=⟨_,rfl⟩;rw[hx] at EW UY HYE wb;have HI1:=aB (HI.out.snoc wb.1 wb.2);have T5:=aB (tt IU.out h4);have R3:=aB h3;have O3:=aB (HO.out.away h4 hg2);have hz3:=h4.size;clear hA h3 h4 zb E1 hx;simp only;generalize bs.length - r1.length=a2 at *;have ew:=EW.out
      by_cases hlt:x<q
      ·have HU:=aB (UY.out hlt)
       go_wp2_with fail;refine⟨rfl,?_⟩
       unfold qH;rw[HT.out,HU.out];exact⟨⟨_,rfl⟩,tt T4.out T5.out⟩
      ·have UJ:=aB (HYE.out hlt)
       go_wp2_with (first
        | (at_builtin
           refine Jv Tryz.underlying236 ah8 rfl (.tmp 36) (.tmp 38) rfl w2.heap.size _ acc rfl (O3.out.alloc _) _ [x] rfl (iH.dY _ _ _ _ _ rfl) ae (by simp only[aO];omega) ?_
           intro v6 w6 o6 g6 a6;have hb7:Below w3.heap.size w3 (w3.alloc (.cells #[.int .i64 x] 2)):=(aH _ _).alloc (aK _) _;have R6:Hid (dZ w6 g bs a2):=aB ((R3.out.keep hb7).YI (O3.out.alloc _) g6);have T6:Hid (Touch (fun k=>k=g) w2 w6):=aB (((T5.out.alloc _).grown g6 (fun k e=>.inr (O3.out.lt k e).1)))
           have O6:=aB o6;clear o6 g6 a6))
       go_roundg (n - (s+1+1))
       case measure=>have:=HQ.out;omega
       case rel=>exact⟨s+1+1,a2,acc++[x],rfl,ae,ai,by simp[hacc],HI1,O6,R6,UJ,T6⟩
   ·obtain rfl:j=n:=ae
    have hs':=HS0.out;rw[Nat.sub_self,oK] at hs';have HS:=aB hs';have R7:=aB HR.out;clear hs' HS0
    go_wp2_with fail;refine bodyPost_ret (by simp[results,Tryz.results395,go_sem, *];try rfl) rfl ?_
    unfold qH;rw[HT.out,<-HS.out];have ha':a'<=bs.length:=by obtain⟨_,_,_,h3⟩:=R7.out;exact h3
    refine⟨_,rfl,⟨dN.lift HO.out (fun k e=>bG mG (dN.lt HO.out k e).1),HI.out⟩,?_,tt T4.out IU.out⟩
    simp only[bn];rw[show bs.length - (bs.length - a')=a' by omega]
    exact R7.out
end
section
open Go.RowKit Go.Lib
theorem Lu(c n x:Int)(base:Nat)(vb:Value)(bs:List Int)(w:World)(hb0:base<=w.heap.size)(hO:OwnB base w vb bs)(hl:bs.length<=1000000000000)(hc:(c=118/\x=n/\0<=n/\n<18446744073709551616)\/(c=122/\n=ub x/\-9223372036854775808<=x/\x<=9223372036854775807)) :
 Calls Tryz.prog 187 #[vb,.int .u8 c,.int .u64 n] w fun e w'=>∃v,e=.returned v/\OwnB base w' v (bs++(if c=118 then fC x else zg x))/\Below base w w':=by
 have HO:=aB hO;have C1:=aB (xw c n x w hc);have hlen:(if c=118 then fC x else zg x).length<=10:=by split;exact(dM _).2;exact(dM _).2
 generalize (if c=118 then fC x else zg x)=out at *
 clear hO hc
 go_enter Tryz.func187,Tryz.ntmps187
 go_wp2_with fail;refine(C1.out).mono ?_
 rintro e w1 ⟨v1,rfl,o1,hb1⟩;have O1:=aB o1;have hz1:=hb1.size;clear o1
 go_wp2_with (first
  | (at_builtin
     go_must (refine ji rfl (.tmp 15) (.tmp 16) rfl base vb bs rfl (dN.keep HO.out hb1) v1 out rfl (dN.rd O1.out) ae  ae ?_)
     intro v2 w2 o2 g2 a2;have hb2:Below base w w2:=(hb1.mono hb0).grown g2 ae (fun k hk=>(dN.lt HO.out k hk).1)
     have O2:=aB o2;clear o2 g2 a2))
 go_ret;exact⟨v2,rfl,O2.out,hb2⟩
theorem qI(n:Int)(base:Nat)(vb:Value)(bs:List Int)(w:World)(hb0:base<=w.heap.size)(hO:OwnB base w vb bs)(hl:bs.length<=1000000000000)(n0:0<=n)(n1:n<18446744073709551616) :
 Calls Tryz.prog 187 #[vb,.int .u8 118,.int .u64 n] w fun e w'=>∃v,e=.returned v/\OwnB base w' v (bs++fC n)/\Below base w w':=by
 have h:=Lu 118 n n base vb bs w hb0 hO hl (.inl ⟨rfl,rfl,n0,n1⟩)
 rwa [if_pos rfl] at h
theorem U4(x n:Int)(base:Nat)(vb:Value)(bs:List Int)(w:World)(hb0:base<=w.heap.size)(hO:OwnB base w vb bs)(hl:bs.length<=1000000000000)(hn:n=ub x)(h0:-9223372036854775808<=x)(h1:x<=9223372036854775807) :
 Calls Tryz.prog 187 #[vb,.int .u8 122,.int .u64 n] w fun e w'=>∃v,e=.returned v/\OwnB base w' v (bs++zg x)/\Below base w w':=by
 have h:=Lu 122 n x base vb bs w hb0 hO hl (.inr ⟨rfl,hn,h0,h1⟩)
 rwa [if_neg ae] at h
theorem af2(k:Int)(v:Value)(L:LL)(led:Nat)(w:World)(h:VR w v L)(k0:0<=k)(k1:k<=9223372036854775807)(IP:led<18446744073709551616)(hlen:L.length<=1000)(hcnt:cnt L<=1000000000)(hs:∀j,qA (lvl L j)/\kS (lvl L j)) :
 Calls Tryz.prog 89 #[.int .i64 k,v,.int .u64 led] w fun e w'=>∃v,e=.returned v/\OwnB w.heap.size w' v (EY k L led)/\Below w.heap.size w w':=by
 obtain⟨A,c,rfl,hc1,hc2⟩:=h.form;have HL:=aB h;have HS:=aB hs;have HTL:=aB (fun j=>vH L j)
 have HLC:=aB (fun j=>fB L j)
 have b1:=dM k;have b2:=dM (led:Int);have b3:=dM (L.length:Int);have YK:=aB (show EY k L led=[]++fC k++fC led++fC L.length++jX (L.take L.length) by unfold EY;simp)
 clear h hs
 go_enter Tryz.func89,Tryz.ntmps89
 go_wp2_with fail;refine(qI k w.heap.size _ [] w (aK _) (dN.nil_ _ _ _ _) ag k0 ae).mono ?_
 rintro e w1 ⟨v1,rfl,o1,hb1⟩;have O1:=aB o1;have hz1:=hb1.size;clear o1
 go_wp2_with fail;refine(qI (led:Int) w.heap.size v1 ([]++fC k) w1 hz1 O1.out ah ae  ae).mono ?_
 rintro e w2 ⟨v2,rfl,o2,hb2⟩;have O2:=aB o2;have HB2:=aB (hb1.trans hb2);have hz2:=HB2.out.size;clear o2 hb1 hb2
 go_wp2_with fail;refine(qI (L.length:Int) w.heap.size v2 ([]++fC k++fC led) w2 hz2 O2.out ah ae  ae).mono ?_
 rintro e w3 ⟨v3,rfl,o3,hb3⟩;obtain⟨H,hH⟩:∃H,[]++fC k++fC led++fC (L.length:Int)=H:=⟨_,rfl⟩;have hHl:H.length<=30:=by rw[<-hH];simp;omega
 rw[hH] at o3 YK;have O3:=aB o3;have HB3:=aB (HB2.out.trans hb3);have hz3:=HB3.out.size;clear o3 hb3 hH b1 b2 b3
 go_wp2_with fail
 go_loopg [7,8,9] L.length (fun q v i _ wr=>∃j:Nat,q=L.length - j/\j<=L.length/\i=.int .i64 (j:Int)/\Hid (OwnB w.heap.size wr v (H++jX (L.take j)))/\Hid (Below w.heap.size w wr))
 case atStart=>exact⟨0,ae,ae,rfl,aB (by simpa[jX] using O3.out),HB3⟩
 case round=>
  obtain⟨j,hq,hj,rfl,HO,HB⟩:=hrel;have HQ:=aB hq;clear hq;have hz:=HB.out.size;have htl:=HTL.out j
  by_cases hjl:j<L.length
  ·obtain⟨gl,off,sA,sc,eA,hgl,ca,ra⟩:=HL.out.at_ hjl
   subst eA;obtain⟨_,_,ea,ha3,ha4,fa⟩:=ra.form;injection ea with ea1 ea2 ea3;subst ea1;subst ea3;have HT:=aB (GX hjl);have hlc:=HLC.out j;obtain⟨hsr,hbd⟩:=HS.out j;have hbb:=dM ((lvl L j).length:Int);obtain⟨l,hl⟩:∃l,lvl L j=l:=⟨_,rfl⟩;rw[hl] at ca fa HT hlc hsr hbd hbb ha3;have FA:=aB fa;have CA:=aB ca;have VQ:=aB hsr;have HBD:=aB hbd;have c1:=(HB.out.cell (p:=⟨gl,off+j,none⟩) hgl).trans ca;have hlen1:(H++jX (L.take j)).length<=20000000000:=by rw[aI];omega
   have hji:(j:Int)<(L.length:Int):=ae
   clear hl ra ea2 fa ca hsr hbd
   go_wp2_with fail;refine(qI (l.length:Int) w.heap.size u7 (H++jX (L.take j)) wr hz HO.out ae  ae  ae).mono ?_
   rintro e w4 ⟨v4,rfl,o4,hb4⟩;obtain⟨G,hG⟩:∃G,H++jX (L.take j)++fC (l.length:Int)=G:=⟨_,rfl⟩;have TG:G.length<=20000000010:=by rw[<-hG,aI];omega
   have HGE:Hid (H++jX (L.take (j+1))=G++tY none (l.take l.length)):=aB (by rw[HT.out,<-hG,YE,List.take_length];simp)
   rw[hG] at o4;have O4:=aB o4;have HB4:=aB (HB.out.trans hb4);clear o4 hb4 hG hbb hlen1 c1 HT
   go_wp2_with fail
   go_loopg [7,9] l.length (fun q v i wr=>∃t:Nat,q=l.length - t/\t<=l.length/\i=.int .i64 (t:Int)/\Hid (OwnB w.heap.size wr v (G++tY none (l.take t)))/\Hid (Below w.heap.size w wr))
   case atStart=>exact⟨0,ae,ae,rfl,aB (by simpa[tY] using O4.out),HB4⟩
   case round=>
    obtain⟨t,hq2,ht,rfl,AU,HB2⟩:=hrel;have JP:=aB hq2;clear hq2;have hzw:=HB2.out.size;have c1:=(HB2.out.cell (p:=⟨gl,off+j,none⟩) hgl).trans CA.out
    by_cases Eg:t<l.length
    ·obtain⟨ga,oa,eA,hga,ka⟩:=FA.out.i64 Eg
     subst eA;have hx:=HBD.out l[t] (bu Eg);have hgt:(G++tY none (l.take t)).length<=100000000000:=by
      have:=Bg none (l.take t);have h2:(l.take t).length<=l.length:=by rw[bg];omega
      rw[aI];omega
     have KA:=aB ka;have hti:(t:Int)<(l.length:Int):=ae
     rcases bT t with rfl|ht0
     ·have Bf:=aB (GV Eg)
      have k1:=(HB2.out.cell (p:=⟨ga,oa+0,none⟩) hga).trans ka;obtain⟨x,hxx⟩:∃x,l[0]=x:=⟨_,rfl⟩;simp only[hxx,Nat.add_zero] at k1 hx Bf;have z0:((0:Nat):Int)=0:=rfl;rw[z0];clear hxx ka z0
      go_wp2_with fail;refine(U4 x _ w.heap.size u7 (G++tY none (l.take 0)) wr hzw AU.out ae (by rw[eH];rfl) hx.1 hx.2).mono ?_
      rintro e w5 ⟨v5,rfl,o5,hb5⟩;have O5:Hid (OwnB w.heap.size w5 v5 (G++tY none (l.take 1))):=aB (by rw[Bf.out,<-aS];exact o5)
      have RI:=aB (HB2.out.trans hb5);clear o5 hb5
      go_wp2_with fail
      go_roundg (l.length - (0+1))
      case measure=>have:=JP.out;omega
      case rel=>exact⟨1,rfl,ae,ai,O5,RI⟩
     ·obtain⟨s,rfl⟩:∃s,t=s+1:=⟨t - 1,ae⟩
      have hsl:s<l.length:=ae
      have Bf:=aB (Lr Eg);obtain⟨ga',oa',eA,_,kb⟩:=FA.out.i64 hsl;injection eA with eA;injection eA with Yn Yo;subst Yn;subst Yo;have hle:=Eb VQ.out Eg;have hy:=HBD.out l[s] (bu hsl);have KB:=aB kb;obtain⟨x,hxx⟩:∃x,l[s+1]=x:=⟨_,rfl⟩;obtain⟨y,hyy⟩:∃y,l[s]=y:=⟨_,rfl⟩;simp only[hxx,hyy] at KA KB Bf hx hy hle;have EW:=aB (show IntKind.u64.wrap (IntKind.u64.wrap x - IntKind.u64.wrap y)=x - y by simp only[eH];omega)
      have hs1:((s+1:Nat):Int) - 1=(s:Int):=ae
      have hst:(s:Int)<(l.length:Int):=ae
      have ht0':((s+1:Nat):Int)≠0:=ae
      have ZC:Hid (IntKind.i64.wrap (s:Int)=(s:Int)):=aB (IntWalk.i64_in _ ae)
      obtain⟨wo,rfl⟩:∃wo:World,wo=wr:=⟨_,rfl⟩;clear hxx hyy ka kb
      go_upto_region 13 with fail;clear c1;have lS:=aB (fun w' (hS':(fun w'=>Below w.heap.size w w') w')=>(aN ((hS'.cell (p:=⟨gl,off+j,none⟩) hgl).trans CA.out) (aN ((hS'.cell (p:=⟨ga,oa+(s+1),none⟩) hga).trans KA.out) (aN ((hS'.cell (p:=⟨ga,oa+s,none⟩) hga).trans KB.out) (aN (EW.out) (ZC.out))))))
      refine dD (fun w'=>Below w.heap.size w w') [(0,true),(1,true),(2,true),(3,true),(4,true),(5,true),(6,true),(7,true),(8,true),(9,true),(10,true),(11,true),(12,true),(13,true),(14,true),(15,true),(16,true),(17,true),(18,true),(19,false),(20,true)] (by kernel_rfl) (by kernel_rfl) (HB2.out.drew) ?_
      iterate 19
       refine dC ax  ax (fun R hR=>?_)
       apply aJ
       refine⟨fun w' hS'=>?_,?_⟩
       ·obtain⟨z1,z2,z3,ew,hws⟩:=lS.out w' hS'
        go_simp;exact⟨rfl,rfl⟩
       go_simp;refine hR _ ?_;clear hR R
      refine dE ax  ax (fun K hK=>?_)
      go_simp;refine(qI (x - y) w.heap.size u7 (G++tY none (l.take (s+1))) wo.drew hzw (dN.drew AU.out) ae  ae  ae).mono ?_
      rintro e w5 ⟨v5,rfl,o5,hb5⟩;have O5:Hid (OwnB w.heap.size w5 v5 (G++tY none (l.take (s+1+1)))):=aB (by rw[Bf.out,<-aS];exact o5)
      have RI:Hid (Below w.heap.size w w5):=aB (HB2.out.drew.trans hb5);clear o5 hb5;refine hK _ _ (RI.out) ?_
      clear hK K
      iterate 1
       refine dC ax  ax (fun R hR=>?_)
       apply aJ
       refine⟨fun w' hS'=>?_,?_⟩
       ·obtain⟨z1,z2,z3,ew,hws⟩:=lS.out w' hS'
        go_simp;exact⟨rfl,rfl⟩
       go_simp;refine hR _ ?_;clear hR R
      refine dF ?_
      go_wp2_with fail
      go_roundg (l.length - (s+1+1))
      case measure=>have:=JP.out;omega
      case rel=>exact⟨s+1+1,rfl,ae,ai,O5,RI⟩
    ·obtain rfl:t=l.length:=ae
     go_wp2_with fail
     go_roundg (L.length - (j+1))
     case measure=>have:=HQ.out;omega
     case rel=>exact⟨j+1,rfl,ae,ai,by rw[HGE.out];exact AU,HB2⟩
  ·obtain rfl:j=L.length:=ae
   go_wp2_with fail;refine bodyPost_ret (by simp[results,Tryz.results89,go_sem, *];try rfl) rfl ?_
   exact⟨_,rfl,by rw[YK.out];exact HO.out,HB.out⟩
end
section
open Go.RowKit Go.Lib
theorem LC(w:World):Calls Tryz.prog 247 #[.string ⟨#[118,118,118]⟩] w fun e w'=>e=.returned (.bool true)/\Below w.heap.size w w':=by
 have FO:=fun w=>aB (jB 7 118 w SS)
 go_enter Tryz.func247,Tryz.ntmps247
 go_wp2_with fail
 go_loopg [11] 3 (fun q i wr=>∃j:Nat,q=3 - j/\j<=3/\i=.int .i64 j/\Below w.heap.size w wr)
 case atStart=>exact⟨0,rfl,ae,rfl,aH _ _⟩
 case round=>
  obtain⟨j,hq,hj,rfl,hb⟩:=hrel;have HQ:=aB hq;have hz:=hb.size;clear hq
  rcases(show j=0\/j=1\/j=2\/j=3 by omega) with rfl|rfl|rfl|rfl
  ·go_wp2_with (go_at_call 248;refine((FO _).out).mono ?_;rintro e w1 ⟨rfl,hb1⟩;have hz1:=hb1.size)
   go_roundg 2
   case measure=>have:=HQ.out;omega
   case rel=>exact⟨1,rfl,ae,ai,bw⟩
  ·go_wp2_with (go_at_call 248;refine((FO _).out).mono ?_;rintro e w1 ⟨rfl,hb1⟩;have hz1:=hb1.size)
   go_roundg 1
   case measure=>have:=HQ.out;omega
   case rel=>exact⟨2,rfl,ae,ai,bw⟩
  ·go_wp2_with (go_at_call 248;refine((FO _).out).mono ?_;rintro e w1 ⟨rfl,hb1⟩;have hz1:=hb1.size)
   go_roundg 0
   case measure=>have:=HQ.out;omega
   case rel=>exact⟨3,rfl,ae,ai,bw⟩
  ·go_wp2_with fail
   go_ret;exact⟨rfl,hb⟩
def outs(a b c:Int):Nat->List Int
 | 0=>[]
 | 1=>fC a
 | 2=>fC a++fC b
 | _=>fC a++fC b++fC c
theorem Eh(a b c:Int)(j:Nat):(outs a b c j).length<=30:=by
 have h1:=dM a;have h2:=dM b;have h3:=dM c
 match j with
 | 0=>simp[outs]
 | 1=>simp only[outs];omega
 | 2=>simp only[outs,aI];omega
 | n+3=>simp only[outs,aI];omega
theorem U5(a b c:Int)(v:Value)(w:World)(hr:iH .u64 w v [a,b,c])(a0:0<=a)(a1:a<18446744073709551616)(b0:0<=b)(b1:b<18446744073709551616)(c0:0<=c)(c1:c<18446744073709551616) :
 Calls Tryz.prog 147 #[.string ⟨#[118,118,118]⟩,v] w fun e w'=>∃v,e=.returned (.tuple #[v,.int .i64 0])/\OwnB w.heap.size w' v (outs a b c 3)/\Below w.heap.size w w':=by
 obtain⟨A,cn,rfl,hn,hc,hp⟩:=hr.form;obtain⟨gn,on,rfl,hgn,hcn⟩:=hp.at_ (j:=0) (by simp)
 obtain⟨g',o',e',_,rf⟩:=hp.at_ (j:=1) (by simp)
 simp only[bC,Addr.mk.injEq,and_true] at e';obtain⟨rfl,rfl⟩:=e';obtain⟨g',o',e',_,pU⟩:=hp.at_ (j:=2) (by simp)
 simp only[bC,Addr.mk.injEq,and_true] at e';obtain⟨rfl,rfl⟩:=e';simp only[aP,bf,List.getElem_cons_zero,List.getElem_cons_succ,Nat.add_zero] at hn hcn rf pU |-;have Xo:=aB hcn;have CN1:=aB rf;have CN2:=aB pU;have FO:=fun w=>aB (jB 7 118 w SS)
 have HF:=aB (fun(g:Nat) (n:Int) (bs:List Int) (W:World) h n0 n1 hl=>lY g w.heap.size n 0 bs W h n0 n1 hl)
 have eg:∀args w,(callFunc 416 args).run Tryz.prog w=.ok (.enter 416 args) w:=fun _ _=>rfl
 have Nu:Hid (outs a b c 0++fC a=outs a b c 1):=aB rfl;have AU:Hid (outs a b c 1++fC b=outs a b c 2):=aB rfl;have xu:Hid (outs a b c 2++fC c=outs a b c 3):=aB rfl;have vC:=aB (Eh a b c);have ef7:oO 7=416:=rfl;rw[ef7] at FO;clear hr hp hcn rf pU ef7
 go_enter Tryz.func147,Tryz.ntmps147
 go_wp2_with fail;refine(LC w).mono ?_
 rintro e w1 ⟨rfl,hb1⟩;have hz1:=hb1.size
 go_wp2_with fail;obtain⟨g,hg⟩:∃g,w1.heap.size=g:=⟨_,rfl⟩;have W0:=aB (Wr.new 332 w1 w.heap.size hz1);have hb2:Below w.heap.size w (w1.alloc (.cells #[.slice none 0 0] 332)):=bw;rw[hg] at W0 |-;generalize w1.alloc (.cells #[.slice none 0 0] 332)=w2 at *;clear hg
 go_loopg [25] 3 (fun q i wr=>∃j:Nat,q=3 - j/\j<=3/\i=.int .i64 j/\Hid (Wr 332 w.heap.size wr g (outs a b c j))/\Below w.heap.size w wr)
 case atStart=>exact⟨0,rfl,ae,rfl,W0,hb2⟩
 case round=>
  obtain⟨j,hq,hj,rfl,hw,hb⟩:=hrel;have HQ:=aB hq;have hz:=hb.size;clear hq
  rcases(show j=0\/j=1\/j=2\/j=3 by omega) with rfl|rfl|rfl|rfl
  ·have CQ:=(hb.cell (p:=⟨gn,on,none⟩) hgn).trans Xo.out
   go_wp2_with (first
    | (go_at_call 248;refine((FO _).out).mono ?_;rintro e w3 ⟨rfl,hb3⟩;have hz3:=hb3.size)
    | (go_at_fn 416;refine((HF.out g a (outs a b c 0) _ ((hw.out.keep hb3).keep ((aH _ _).alloc (aK _) _)) a0 a1 (by have:=vC.out 0;omega)).mono ?_);rintro e w4 ⟨rfl,k1,k2⟩;have mG:=k2.size;rw[Nu.out] at k1;have K1:=aB k1;clear k1))
   go_roundg 2
   case measure=>have:=HQ.out;omega
   case rel=>exact⟨1,rfl,ae,ai,K1,bw⟩
  ·have CQ:=(hb.cell (p:=⟨gn,on+1,none⟩) hgn).trans CN1.out
   go_wp2_with (first
    | (go_at_call 248;refine((FO _).out).mono ?_;rintro e w3 ⟨rfl,hb3⟩;have hz3:=hb3.size)
    | (go_at_fn 416;refine((HF.out g b (outs a b c 1) _ ((hw.out.keep hb3).keep ((aH _ _).alloc (aK _) _)) b0 b1 (by have:=vC.out 1;omega)).mono ?_);rintro e w4 ⟨rfl,k1,k2⟩;have mG:=k2.size;rw[AU.out] at k1;have K1:=aB k1;clear k1))
   go_roundg 1
   case measure=>have:=HQ.out;omega
   case rel=>exact⟨2,rfl,ae,ai,K1,bw⟩
  ·have CQ:=(hb.cell (p:=⟨gn,on+2,none⟩) hgn).trans CN2.out
   go_wp2_with (first
    | (go_at_call 248;refine((FO _).out).mono ?_;rintro e w3 ⟨rfl,hb3⟩;have hz3:=hb3.size)
    | (go_at_fn 416;refine((HF.out g c (outs a b c 2) _ ((hw.out.keep hb3).keep ((aH _ _).alloc (aK _) _)) c0 c1 (by have:=vC.out 2;omega)).mono ?_);rintro e w4 ⟨rfl,k1,k2⟩;have mG:=k2.size;rw[xu.out] at k1;have K1:=aB k1;clear k1))
   go_roundg 0
   case measure=>have:=HQ.out;omega
   case rel=>exact⟨3,rfl,ae,ai,K1,bw⟩
  ·obtain⟨hbg,v,hB,hO⟩:=hw.out
   have c0:=hB.cell 0;simp only[aF,aC] at c0;have HO:=aB hO;clear hB hO
   go_wp2_with fail
   go_ret2
   exact⟨v,rfl,HO.out,hb⟩
theorem Ei(pat:Value)(out:List Int)(base:Nat)(vb vn:Value)(bs:List Int)(w:World)(hb0:base<=w.heap.size)(hO:OwnB base w vb bs)(hl:bs.length<=1000000000000)(hout:out.length<=1000)
 (hp:Calls Tryz.prog 147 #[pat,vn] w fun e w'=>∃v,e=.returned (.tuple #[v,.int .i64 0])/\OwnB w.heap.size w' v out/\Below w.heap.size w w') :
 Calls Tryz.prog 158 #[vb,pat,vn] w fun e w'=>∃v,e=.returned v/\OwnB base w' v (bs++out)/\Below base w w':=by
 have HO:=aB hO;have C1:=aB hp;clear hO hp
 go_enter Tryz.func158,Tryz.ntmps158
 go_wp2_with fail;refine(C1.out).mono ?_
 rintro e w1 ⟨v1,rfl,o1,hb1⟩;have O1:=aB o1;have hz1:=hb1.size;clear o1
 go_wp2_with (first
  | (at_builtin
     go_must (refine ji rfl (.tmp 15) (.tmp 16) rfl base vb bs rfl (dN.keep HO.out hb1) v1 out rfl (dN.rd O1.out) ae  ae ?_)
     intro v2 w2 o2 g2 a2;have hb2:Below base w w2:=(hb1.mono hb0).grown g2 ae (fun k hk=>(dN.lt HO.out k hk).1)
     have O2:=aB o2;clear o2 g2 a2))
 go_ret;exact⟨v2,rfl,O2.out,hb2⟩
theorem G8(n:Int)(base:Nat)(vb vn:Value)(bs:List Int)(w:World)(hb0:base<=w.heap.size)(hO:OwnB base w vb bs)(hl:bs.length<=1000000000000)(hr:iH .u64 w vn [n])(n0:0<=n)(n1:n<18446744073709551616) :
 Calls Tryz.prog 158 #[vb,.string ⟨#[118]⟩,vn] w fun e w'=>∃v,e=.returned v/\OwnB base w' v (bs++fC n)/\Below base w w':=
 Ei _ (fC n) base vb vn bs w hb0 hO hl (by have:=dM n;omega) (CV n vn w hr n0 n1)
theorem U6(x:Int)(base:Nat)(vb vn:Value)(bs:List Int)(w:World)(hb0:base<=w.heap.size)(hO:OwnB base w vb bs)(hl:bs.length<=1000000000000)(hr:iH .u64 w vn [ub x])(h0:-9223372036854775808<=x)(h1:x<=9223372036854775807) :
 Calls Tryz.prog 158 #[vb,.string ⟨#[122]⟩,vn] w fun e w'=>∃v,e=.returned v/\OwnB base w' v (bs++zg x)/\Below base w w':=
 Ei _ (zg x) base vb vn bs w hb0 hO hl (by have:=dM (vg x);unfold zg;omega) (CZ x vn w hr h0 h1)
theorem U8(a b c:Int)(base:Nat)(vb vn:Value)(bs:List Int)(w:World)(hb0:base<=w.heap.size)(hO:OwnB base w vb bs)(hl:bs.length<=1000000000000)(hr:iH .u64 w vn [a,b,c])(a0:0<=a)(a1:a<18446744073709551616)(b0:0<=b)(b1:b<18446744073709551616)(c0:0<=c)(c1:c<18446744073709551616) :
 Calls Tryz.prog 158 #[vb,.string ⟨#[118,118,118]⟩,vn] w fun e w'=>∃v,e=.returned v/\OwnB base w' v (bs++outs a b c 3)/\Below base w w':=
 Ei _ (outs a b c 3) base vb vn bs w hb0 hO hl (by have:=Eh a b c 3;omega) (U5 a b c vn w hr a0 a1 b0 b1 c0 c1)
theorem _root_.Go.Proofs.YtkiebccnpheloaaGreat.iH.YL(t:TypeId)(k:IntKind)(w:World)(a b c:Int)(H:Nat)(h:w.heap.size=H):iH k (w.alloc (.cells #[.int k a,.int k b,.int k c] t)) (.slice (some ⟨H,0,none⟩) 3 3) [a,b,c]:=by
 subst h;have h:dN t k w.heap.size (w.alloc (.cells #[.int k a,.int k b,.int k c] t)) (.slice (some ⟨w.heap.size,0,none⟩) 3 3) [a,b,c]:=
  ⟨rfl,.inr ⟨w.heap.size,3,_,rfl,aK _,heap_alloc_new _ _,ag,by unfold maxLen;omega,rfl,ag⟩⟩
 exact h.rd
theorem kS.lvl{L:LL}(h:∀x∈tX L,-9223372036854775808<=x/\x<=9223372036854775807)(j:Nat):kS (lvl L j):=fun x hx=>by
 rcases bJ j L.length with hj|hj
 ·rw[jV hj] at hx
  exact h x (List.mem_flatten.2 ⟨_,bu hj,hx⟩)
 ·rw[qB hj] at hx;simp at hx
theorem PW(vb v:Value)(bs l:List Int)(w0 w:World)(hb:Below w0.heap.size w0 w)(hl:gz fZ w0 v l)(hs:qA l)(hbd:kS l)(hn:l.length<=1000000000)(hO:OwnB w0.heap.size w vb bs)(hbs:bs.length<=100000000000) :
 Calls Tryz.prog 160 #[vb,v] w fun e w'=>∃v',e=.returned v'/\OwnB w0.heap.size w' v' (bs++YE l)/\Below w0.heap.size w0 w':=by
 obtain⟨A,c,rfl,hc1,hc2,fa⟩:=hl.form;have FA:=aB fa;have HS:=aB hs;have HBD:=aB hbd;have HO:=aB hO;have HB:=aB hb;have hz:=hb.size;have hbb:=dM (l.length:Int);clear hl hs hbd hO fa hb
 go_enter Tryz.func160,Tryz.ntmps160
 go_wp2_with fail;refine(G8 (l.length:Int) w0.heap.size vb _ bs _ (by simp only[aO];omega) (dN.alloc HO.out _) ae (iH.dY _ _ _ _ _ rfl) ae  ae).mono ?_
 rintro e w4 ⟨v4,rfl,o4,hb4⟩;obtain⟨G,hG⟩:∃G,bs++fC (l.length:Int)=G:=⟨_,rfl⟩;have TG:G.length<=100000000010:=by rw[<-hG,aI];omega
 have HGE:Hid (bs++YE l=G++tY none (l.take l.length)):=aB (by rw[<-hG,YE,List.take_length];simp)
 rw[hG] at o4;have O4:=aB o4;have HB4:Hid (Below w0.heap.size w0 w4):=aB ((HB.out.alloc ae _).trans hb4)
 clear o4 hb4 hG hbb
 go_wp2_with fail
 go_loopg [0,5,6,15] l.length (fun q v _ _ i wr=>∃t:Nat,q=l.length - t/\t<=l.length/\i=.int .i64 (t:Int)/\Hid (OwnB w0.heap.size wr v (G++tY none (l.take t)))/\Hid (Below w0.heap.size w0 wr))
 case atStart=>exact⟨0,ae,ae,rfl,aB (by simpa[tY] using O4.out),HB4⟩
 case round=>
  obtain⟨t,hq2,ht,rfl,AU,HB2⟩:=hrel;have JP:=aB hq2;clear hq2;have hzw:=HB2.out.size
  by_cases Eg:t<l.length
  ·obtain⟨ga,oa,eA,hga,ka⟩:=FA.out.i64 Eg
   subst eA;have hx:=HBD.out l[t] (bu Eg);have hgt:(G++tY none (l.take t)).length<=1000000000000:=by
    have:=Bg none (l.take t);have h2:(l.take t).length<=l.length:=by rw[bg];omega
    rw[aI];omega
   have hti:(t:Int)<(l.length:Int):=ae
   have k1:=(HB2.out.cell (p:=⟨ga,oa+t,none⟩) hga).trans ka
   rcases bT t with rfl|ht0
   ·have Bf:=aB (GV Eg)
    obtain⟨x,hxx⟩:∃x,l[0]=x:=⟨_,rfl⟩;simp only[hxx,Nat.add_zero] at k1 hx Bf;have z0:((0:Nat):Int)=0:=rfl;rw[z0];clear hxx ka z0
    go_wp2_with fail;refine(U6 x w0.heap.size u0 _ (G++tY none (l.take 0)) _ (by simp only[aO];omega) (dN.alloc AU.out _) ae (by rw[<-show IntKind.u64.wrap x=ub x from eH x];exact iH.dY _ _ _ _ _ rfl) hx.1 hx.2).mono ?_
    rintro e w5 ⟨v5,rfl,o5,hb5⟩;have O5:Hid (OwnB w0.heap.size w5 v5 (G++tY none (l.take 1))):=aB (by rw[Bf.out,<-aS];exact o5)
    have RI:Hid (Below w0.heap.size w0 w5):=aB ((HB2.out.alloc ae _).trans hb5)
    clear o5 hb5
    go_wp2_with fail
    go_roundg (l.length - (0+1))
    case measure=>have:=JP.out;omega
    case rel=>exact⟨1,rfl,ae,ai,O5,RI⟩
   ·obtain⟨s,rfl⟩:∃s,t=s+1:=⟨t - 1,ae⟩
    have hsl:s<l.length:=ae
    have Bf:=aB (Lr Eg);obtain⟨ga',oa',eA,_,kb⟩:=FA.out.i64 hsl;injection eA with eA;injection eA with Yn Yo;subst Yn;subst Yo;have hle:=Eb HS.out Eg;have hy:=HBD.out l[s] (bu hsl);have k2:=(HB2.out.cell (p:=⟨ga,oa+s,none⟩) hga).trans kb;obtain⟨x,hxx⟩:∃x,l[s+1]=x:=⟨_,rfl⟩;obtain⟨y,hyy⟩:∃y,l[s]=y:=⟨_,rfl⟩;simp only[hxx,hyy] at k1 k2 Bf hx hy hle;have EW:=aB (show IntKind.u64.wrap (IntKind.u64.wrap x - IntKind.u64.wrap y)=x - y by simp only[eH];omega)
    have hs1:((s+1:Nat):Int) - 1=(s:Int):=ae
    have hst:(s:Int)<(l.length:Int):=ae
    have ht0':((s+1:Nat):Int)≠0:=ae
    have hws:IntKind.i64.wrap (s:Int)=(s:Int):=IntWalk.i64_in _ ae
    clear hxx hyy ka kb
    go_wp2_with fail;rw[EW.out];refine(G8 (x - y) w0.heap.size u0 _ (G++tY none (l.take (s+1))) _ (by simp only[aO];omega) (dN.alloc AU.out _) ae (iH.dY _ _ _ _ _ rfl) ae  ae).mono ?_
    rintro e w5 ⟨v5,rfl,o5,hb5⟩;have O5:Hid (OwnB w0.heap.size w5 v5 (G++tY none (l.take (s+1+1)))):=aB (by rw[Bf.out,<-aS];exact o5)
    have RI:Hid (Below w0.heap.size w0 w5):=aB ((HB2.out.alloc ae _).trans hb5)
    clear o5 hb5 hws
    go_wp2_with fail
    go_roundg (l.length - (s+1+1))
    case measure=>have:=JP.out;omega
    case rel=>exact⟨s+1+1,rfl,ae,ai,O5,RI⟩
  ·obtain rfl:t=l.length:=ae
   go_wp2_with fail;refine bodyPost_ret (by simp[results,Tryz.results160,go_sem, *];try rfl) rfl ?_
   exact⟨_,rfl,by rw[HGE.out];exact AU.out,HB2.out⟩
theorem YM(k:Int)(L:LL)(led:Nat):EY k L led=outs k led L.length 3++jX (L.take L.length):=by
 unfold EY outs;rw[List.take_length];simp
theorem EP.bi1{base:Nat}{w:World}{A:Option Addr}{n c:Nat}{vs:List Sv}{L:LL}(h:EP base w (.slice A n c) vs L){j:Nat}(hj:j<L.length) :
 ∃gl off sA sc,A=some ⟨gl,off,none⟩/\gl<w.heap.size/\w.cell? ⟨gl,off+j,none⟩=some (.slice sA (lvl L j).length sc)/\gz fZ w (.slice sA (lvl L j).length sc) (lvl L j):=h.llr.at_ hj
theorem Ej{F:Nat->Prop}{g k n led a:Nat}{lv:Value}{vs:List Sv}{L:LL}(w:World)(hs:rV F w g k n led lv vs L)(hok:ja (L,led,a))(hbd:∀j,kS (lvl L j))(hk:k<=1000000) :
 Calls Tryz.prog 67 #[.pointer (some ⟨g,0,none⟩)] w fun e w'=>∃v,e=.returned (.tuple #[v,.int .i64 0])/\OwnB w.heap.size w' v (EY k L led)/\Below w.heap.size w w':=by
 have hlenL:=hok.Ag;have hcnt:=hok.aq0;have IP:led<=4611686018427387904:=hok.led;have HLV:=aB (wK w hs ae  ae)
 have HS:=aB (fun W (hb:Below w.heap.size w W)=>hs.keep hb)
 have VQ:=aB (fun j=>(hok.gY j:qA (lvl L j)))
 have HBD:=aB hbd;have HTL:=aB (fun j=>vH L j)
 have HLC:=aB (fun j=>fB L j)
 have YK:=aB (YM k L led);have hol:=Eh k led L.length 3;clear hs hok hbd
 go_enter Tryz.func67,Tryz.ntmps67
 go_wp2_with fail;refine(HLV.out).mono ?_
 rintro e w1 ⟨v1,vs1,rfl,hlo,hb1⟩;obtain⟨A1,c1,ev,hc1,hc2⟩:=hlo.llr.form;subst ev;have PO:=aB hlo;have HB1:=aB hb1;have GK:=aB (HS.out w1 hb1);have hz1:=hb1.size;clear hlo hb1 HLV HS
 go_wp2_with fail;refine(size_any w1 GK.out).mono ?_
 rintro e w2 ⟨rfl,hw2⟩;subst hw2
 go_wp2_with fail;refine(PR w1 GK.out).mono ?_
 rintro e w2 ⟨rfl,hw2⟩;subst hw2
 go_wp2_with fail;refine(U8 k led L.length w1.heap.size _ _ [] _ ag (dN.nil_ _ _ _ _) ag (iH.YL _ _ _ _ _ _ _ rfl) ae  ae  ae  ae  ae  ae).mono ?_
 rintro e w3 ⟨v3,rfl,o3,hb3⟩;obtain⟨H,hH⟩:∃H,outs (k:Int) led L.length 3=H:=⟨_,rfl⟩;rw[List.nil_append,hH] at o3;rw[hH] at YK hol;have O3:=aB o3;have HB3:Hid (Below w1.heap.size w1 w3):=aB (((aH _ _).alloc ae _).trans hb3)
 clear o3 hb3 hH
 go_wp2_with fail
 go_loopg [5,7,24] L.length (fun q v _ i wr=>∃j:Nat,q=L.length - j/\j<=L.length/\i=.int .i64 (j:Int)/\Hid (OwnB w1.heap.size wr v (H++jX (L.take j)))/\Hid (Below w1.heap.size w1 wr))
 case atStart=>exact⟨0,ae,ae,rfl,aB (by simpa[jX] using O3.out),HB3⟩
 case round=>
  obtain⟨j,hq,hj,rfl,HO,HB⟩:=hrel;have HQ:=aB hq;clear hq;have hz:=HB.out.size;have htl:=HTL.out j
  by_cases hjl:j<L.length
  ·obtain⟨gl,off,sA,sc,eA,hgl,ca,ra⟩:=PO.out.bi1 hjl
   subst eA;have HT:=aB (GX hjl);have hlc:=HLC.out j;have k1:=(HB.out.cell (p:=⟨gl,off+j,none⟩) hgl).trans ca;have HKL:=aB (PW u5 _ (H++jX (L.take j)) (lvl L j) w1 wr HB.out ra (VQ.out j) (HBD.out j) ae HO.out (by rw[aI];omega))
   rw[aS,<-HT.out] at HKL;have hji:(j:Int)<(L.length:Int):=ae
   clear ra ca
   go_wp2_with fail;refine(HKL.out).mono ?_
   rintro e w4 ⟨v4,rfl,o4,hb4⟩;have O4:=aB o4;have HB4:=aB hb4;clear o4 hb4
   go_wp2_with fail
   go_roundg (L.length - (j+1))
   case measure=>have:=HQ.out;omega
   case rel=>exact⟨j+1,rfl,ae,ai,O4,HB4⟩
  ·obtain rfl:j=L.length:=ae
   go_wp2_with fail;refine bodyPost_ret (by simp[results,Tryz.results67,go_sem, *];try rfl) rfl ?_
   exact⟨_,rfl,by rw[YK.out];exact dN.lift HO.out (fun k e=>bG hz1 (dN.lt HO.out k e).1),HB1.out.trans (HB.out.mono hz1)⟩
end
end Go.Proofs.YtkiebccnpheloaaGreat.K
