/- Parts of a proof: what its theorem reaches, words cut short. No condition of its own. -/
import Derived.Test.YtkiebccnpheloaaGreatPk42
set_option maxRecDepth 100000
set_option maxHeartbeats 16000000
set_option linter.unusedVariables false
set_option linter.unusedSimpArgs false
namespace Go.Proofs.YtkiebccnpheloaaGreat.D
open Go.RowKit Go.Lib Go.Shelf
structure Jo(d:Nat)(s:St):Prop where
 fit:Fit d s (195 * d+99)
 len:(s.L.length:Int)<=194 * d+99
 big:d<=300\/s=St.zero
structure rY(q:Nat)(L:K.LL)(led:Nat):Prop where
 fit:K.Fit q L led
 q0:8<=q
 q1:q<=4096
 emp:L.length=0->led=0
 bd:∀j,K.kS (K.lvl L j)
def uX:iM->Prop
 | .h lo hi dg u m _=>wB lo hi dg u m
 | .d a m=>100<=a/\a<=5000/\2<=m/\m<=4096
 | .t d=>10<=d/\d<=1000
 | .k q=>8<=q/\q<=4096
def iM.small:iM->Prop
 | .t e=>e<=300
 | _=>True
def jg(sp:iM)(c:Js):Prop:=match sp with
 | .h lo hi dg u m gr=>jo lo hi dg u m gr c.bk c.l
 | .d a m=>mg a m c.l
 | .t d=>Jo d c.s
 | .k q=>rY q c.L c.led
def iM.new:iM->Js
 | .h _ hi _ u m _=>⟨1+jL u m hi,[],St.zero,[],0⟩
 | _=>⟨0,[],St.zero,[],0⟩
def oL(sp:iM)(c:Js)(v n:Int):Int:=match sp with
 | .h _ _ _ u m gr=>hsE u m gr c.bk c.l v n
 | .d a _=>Oo a c.l v n
 | .t _=>if n=0 then 4 else if 281474976710656 - Go.Proofs.YtkiebccnpheloaaGreat.tot (c.s.L++c.s.W)<n then 6 else 0
 | .k _=>K.rX c.L n.toNat
def jQ(sp:iM)(B:List Int)(v n:Int)(c:Js)(a:Nat):Js × Nat:=match sp with
 | .h _ _ _ u m gr=>({c with bk:=hsB u m gr c.bk c.l v n,l:=hsL u m gr c.bk c.l v n},a)
 | .d ac _=>({c with l:=Kq ac c.l v n},a)
 | .t d=>(if oL (.t d) c v n=0 then {c with s:=c.s.add d v n} else c,a)
 | .k q=>({c with L:=(K.qG q B v n.toNat (c.L,c.led,a)).1,led:=(K.qG q B v n.toNat (c.L,c.led,a)).2.1},(K.qG q B v n.toNat (c.L,c.led,a)).2.2)
def uY(sp:iM)(c t:Js):Int:=match sp with
 | .h ..=>OZ c.l t.l
 | .d ..=>gJ c.l t.l
 | .t _=>gU c.s t.s
 | .k _=>K.gU c.L t.L
def jh(sp:iM)(B:List Int)(t c:Js)(a:Nat):Js × Nat:=match sp with
 | .h ..=>({c with bk:=htB c.l t.l c.bk t.bk,l:=htL c.l t.l},a)
 | .d ..=>({c with l:=Oq c.l t.l},a)
 | .t d=>(if gU c.s t.s=0 then {c with s:=c.s.take d t.s} else c,a)
 | .k q=>({c with L:=(K.kz q B (t.L,t.led) (c.L,c.led,a)).1,led:=(K.kz q B (t.L,t.led) (c.L,c.led,a)).2.1},(K.kz q B (t.L,t.led) (c.L,c.led,a)).2.2)
def LU(sp:iM)(c:Js):Int:=match sp with
 | .h ..=>tot c.l
 | .d ..=>tot c.l
 | .t _=>Go.Proofs.YtkiebccnpheloaaGreat.tot (c.s.L++c.s.W)
 | .k _=>(K.wt c.L:Nat)
def jR(sp:iM)(c:Js):List Int:=match sp with
 | .h lo hi dg u m gr=>hjB lo hi dg (ig u m hi c.bk) gr c.l
 | .d a m=>TR a m (dW m c.l).1 (dW m c.l).2
 | .t d=>wrD d c.s.L c.s.W c.s.lo c.s.hi
 | .k q=>K.EY q c.L c.led
theorem ar2{a m:Nat}(h0:100<=a)(h1:a<=5000)(h2:2<=m)(h3:m<=4096):mg a m []:=
 ⟨h0,h1,h2,h3,List.Pairwise.nil,fun p hp=>by simp at hp,fun p hp=>by simp at hp,by simp[tot]⟩
theorem ba3{d:Nat}(h0:10<=d)(h1:d<=1000):Jo d St.zero:=
 ⟨⟨(St.ZT d ae).more ae,ae,by simp[St.zero,Go.Proofs.YtkiebccnpheloaaGreat.tot],ae,ae⟩,by simp[St.zero];omega,.inr rfl⟩
theorem ba4{q:Nat}(h0:8<=q)(h1:q<=4096):rY q [] 0:=⟨K.Fit.nil_ q,h0,h1,fun _=>rfl,fun j x hx=>by simp[K.lvl] at hx⟩
theorem En{sp:iM}(h:uX sp):jg sp sp.new:=by
 cases sp with
 | h lo hi dg u m gr=>exact an2 h
 | d a m=>exact ar2 h.1 h.2.1 h.2.2.1 h.2.2.2
 | t d=>exact ba3 h.1 h.2
 | k q=>exact ba4 h.1 h.2
theorem ag4{d:Nat}{s:St}{v n:Int}(h:Jo d s)(hd:d<=300)(v0:-9223372036854775808<=v)(v1:v<=9223372036854775807)(n0:0<n)(n1:n<=281474976710656 - Go.Proofs.YtkiebccnpheloaaGreat.tot (s.L++s.W)):Jo d (s.add d v n):=by
 have hd0:=h.fit.d0;have hA:=h.fit.ok.add (d:=(d:Int)) ae v0 v1 n0
 have hT:=St.ah7 d s v n;have hL:((s.add d v n).L.length:Int)<=194 * d+99:=by
  show((gW d s.L s.W (v,n)).length:Int)<=_
  unfold gW
  split
  ·rw[<-aS]
   refine RN (lo:=min s.lo v) (hi:=max s.hi v) ?_ ?_ ae ?_
   ·intro m hm
    rcases cO.1 hm with hm|hm
    ·exact h.fit.ok.ok m hm
    ·simp only[List.mem_singleton] at hm;subst hm;exact⟨v0,v1,n0⟩
   ·intro m hm
    rcases cO.1 hm with hm|hm
    ·have:=h.fit.ok.bd m hm;omega
    ·simp only[List.mem_singleton] at hm;subst hm;show min s.lo v<=v/\v<=max s.hi v;omega
   ·rw[Go.Proofs.YtkiebccnpheloaaGreat.dS];show _+(n+0)<=_;omega
  ·exact h.len
 have hW:=hA.wl;exact⟨⟨⟨hA.ok,hA.bd,hA.We,hA.lo1,hA.hi0,hA.hi1,hA.emp,ae,hA.wl,hA.rise⟩,ae,ae,h.fit.d0,h.fit.d1⟩,hL,.inl hd⟩
theorem YY{d:Nat}{s t:St}(h:Jo d s)(ht:Jo d t)(he:gU s t=0):Jo d (s.take d t):=by
 have hd0:=h.fit.d0
 by_cases hz:Go.Proofs.YtkiebccnpheloaaGreat.tot (t.L++t.W)=0
 ·have:s.take d t=s:=by unfold St.take;rw[if_pos hz]
  rw[this];exact h
 ·rcases ht.big with hd|e
  ·unfold gU at he
   split at he
   ·cases he
   ·obtain⟨k',h1,h2,h3⟩:=h.fit.ok.take ht.fit.ok ae hz ae
    have hW:=h2.wl;have hl:=h2.len;exact⟨⟨h2.more ae,ae,ae,h.fit.d0,h.fit.d1⟩,ae,.inl hd⟩
  ·exact absurd (by rw[e];rfl) hz
theorem RP{L:K.LL}(ht:K.KU L)(hw:K.wt L=0):L=[]:=by
 rcases bT L.length with h0|h0
 ·exact aW h0
 ·have h1:=K.Pe L 1 (L.length - 1)
  have h2:1<=(K.lvl L (L.length - 1)).length:=List.length_pos_iff.2 (ht h0);have h4:1<=2 ^ (L.length - 1):=Nat.one_le_two_pow;have h5:1 * (2 ^ (L.length - 1) * 1)<=(K.lvl L (L.length - 1)).length * (2 ^ (L.length - 1) * 1):=Nat.mul_le_mul_right _ h2;unfold K.wt at hw;omega
theorem P_{L:K.LL}(h:∀j,K.kS (K.lvl L j)):∀x∈K.tX L,-9223372036854775808<=x/\x<=9223372036854775807:=fun x hx=>by
 obtain⟨j,hj⟩:=K.kM.1 hx;exact h j x hj
theorem ag5{q n a led:Nat}{B:List Int}{v:Int}{L:K.LL}(h:rY q L led)(v0:-9223372036854775808<=v)(v1:v<=9223372036854775807)(hn:n<18446744073709551616):rY q (K.qG q B v n (L,led,a)).1 (K.qG q B v n (L,led,a)).2.1:=by
 have hb:=P_ h.bd;have q0:=h.q0;have q1:=h.q1;refine⟨K.Yz (s:=(L,led,a)) h.fit ae q1,q0,q1,fun he=>?_,K.kS.lvl fun x hx=>?_⟩
 ·have hw:=K.ae6 (k:=q) (n:=n) (B:=B) (v:=v) (s:=(L,led,a))
  rw[K.YW he] at hw
  by_cases h0:K.rX L n=0
  ·have:=K.zl h0
   rw[if_pos h0] at hw;simp only at hw;omega
  ·unfold K.qG at he |-
   rw[if_neg h0] at he |-;exact h.emp he
 ·unfold K.qG at hx
  split at hx
  ·rcases K.LQ _ _ _ _ _ (K.He hx) with h1|h1
   ·exact hb x h1
   ·omega
  ·exact hb x hx
theorem YZ{q a led fQ:Nat}{B:List Int}{L M:K.LL}(h:rY q L led)(h2:rY q M fQ):rY q (K.kz q B (M,fQ) (L,led,a)).1 (K.kz q B (M,fQ) (L,led,a)).2.1:=by
 have hb:=P_ h.bd;have hb2:=P_ h2.bd;have q0:=h.q0;have q1:=h.q1;refine⟨K.UW (s:=(L,led,a)) (t:=(M,fQ)) h.fit h2.fit ae q1,q0,q1,fun he=>?_,K.kS.lvl fun x hx=>?_⟩
 ·have hw:=K.YA (k:=q) (B:=B) (s:=(L,led,a)) (t:=(M,fQ))
  rw[K.YW he] at hw
  by_cases h0:K.gU L M=0
  ·rw[if_pos h0] at hw;simp only at hw
   have e1:L=[]:=RP h.fit.ok.top (by show K.wt L=0;omega)
   have e2:M=[]:=RP h2.fit.ok.top (by show K.wt M=0;omega)
   have l1:=h.emp (by rw[e1];rfl)
   have l2:=h2.emp (by rw[e2];rfl)
   subst e1;subst e2;subst l1;subst l2;rfl
  ·unfold K.kz at he |-
   rw[if_neg h0] at he |-;exact h.emp he
 ·unfold K.kz at hx
  split at hx
  ·rcases K.Hf M L M.length (K.He hx) with h1|h1
   ·exact hb x h1
   ·exact hb2 x h1
  ·exact hb x hx
theorem ag6{sp:iM}{c:Js}{B:List Int}{a:Nat}{v n:Int}(h:jg sp c)(hs:sp.small)(v0:-9223372036854775808<=v)(v1:v<=9223372036854775807)(n0:0<=n)(n1:n<18446744073709551616):jg sp (jQ sp B v n c a).1:=by
 cases sp with
 | h lo hi dg u m gr=>exact an4 h v1 n0
 | d a m=>exact am2 h v0 v1 n0
 | t d=>
  show Jo d (if oL (.t d) c v n=0 then {c with s:=c.s.add d v n} else c:Js).s
  by_cases he:oL (.t d) c v n=0
  ·rw[if_pos he]
   simp only[oL] at he
   split at he
   ·cases he
   ·split at he
    ·cases he
    ·exact ag4 h hs v0 v1 ae  ae
  ·rw[if_neg he];exact h
 | k q=>exact ag5 h v0 v1 ae
theorem RQ{sp:iM}{c t:Js}{B:List Int}{a:Nat}(h:jg sp c)(ht:jg sp t):jg sp (jh sp B t c a).1:=by
 cases sp with
 | h lo hi dg u m gr=>exact ac7 h ht
 | d a m=>exact ab6 h ht
 | t d=>
  show Jo d (if gU c.s t.s=0 then {c with s:=c.s.take d t.s} else c:Js).s
  by_cases he:gU c.s t.s=0
  ·rw[if_pos he];exact YY h ht he
  ·rw[if_neg he];exact h
 | k q=>exact YZ h ht
open Go.RowKit Go.Lib Go.Shelf
structure I4 where
 kd:Int
 who:Bool
 v:Int
 n:Int
 B:List Int
instance:Inhabited I4:=⟨⟨0,false,0,0,[]⟩⟩
def I4.fits(o:I4):Prop:=0<=o.kd/\o.kd<=255/\-9223372036854775808<=o.v/\o.v<=9223372036854775807/\0<=o.n/\o.n<18446744073709551616/\∀x∈o.B,0<=x/\x<=255
def LV{α:Type}(S:Nat->α)(i:Nat)(s:α):Nat->α:=fun j=>if j=i then s else S j
theorem Bh{α:Type}{S:Nat->α}{i:Nat}{s:α}:LV S i s i=s:=if_pos rfl
theorem Bi{α:Type}{S:Nat->α}{i j:Nat}{s:α}(h:j≠i):LV S i s j=S j:=if_neg h
def ag7(o:I4):Nat:=if o.who then 1 else 0
def Eo(sp:iM)(o:I4)(s t:Js):Js:=
 if o.kd % 7=5 then(jh sp o.B t s 0).1
 else if o.kd % 7=6 then(jh sp o.B s s 0).1
 else(jQ sp o.B o.v o.n s 0).1
theorem ag8{sp:iM}{o:I4}{s t:Js}(hm:sp.small)(ho:o.fits)(h:jg sp s)(k:jg sp t):jg sp (Eo sp o s t):=by
 obtain⟨_,_,v0,v1,n0,n1,_⟩:=ho;unfold Eo
 split
 ·exact RQ h k
 ·split
  ·exact RQ h h
  ·exact ag6 h hm v0 v1 n0 n1
def doJ(sp:iM)(o:I4)(S:Nat->Js):Nat->Js:=LV S (ag7 o) (Eo sp o (S (ag7 o)) (S (1 - ag7 o)))
def zY(sp:iM)(l:List I4)(S:Nat->Js):Nat->Nat->Js
 | 0=>S
 | k+1=>doJ sp (l.getD k default) (zY sp l S k)
open Go.RowKit Go.Lib Go.Shelf
theorem LW:∀l:List Int,cellsE K.Ru l=l.map (Value.int .u8)
 | []=>rfl
 | x::l=>by rw[iC,LW l];rfl
theorem ar4{w:World}{v:Value}{l:List Int}(h:iH .u8 w v l):gz K.Ru w v l:=by
 unfold gz;rw[LW];exact h
structure Y5(o0:Nat)(w:World)(cv:Value)(B:List Int):Prop where
 rd:gz K.Ru w cv B
 own:∀k,B≠[]->cv.ownBlock=some k->k<o0
theorem Y5.keep{o0:Nat}{w w':World}{cv:Value}{B:List Int}(h:Y5 o0 w cv B)(hz:o0<=w.heap.size)(hb:Below o0 w w'):Y5 o0 w' cv B:=by
 refine⟨?_,h.own⟩
 by_cases hB:B=[]
 ·subst hB
  obtain⟨A,c,rfl,h1,h2,_⟩:=h.rd.form;exact gz.iO h1 h2 fun h0=>absurd h0 ag
 ·exact h.rd.stay (fun k e=>hb.block k (h.own k hB e)) hb.size
theorem Hg(v:Value)(B:List Int)(w:World)(h:gz K.Ru w v B)(hb:K.Byt B) :
 Calls Tryz.prog 34 #[v] w fun e w'=>∃g,e=.returned (.pointer (some ⟨g,0,none⟩))/\(∃H,jb (.pointer (some ⟨g,0,none⟩)) B 0 H w'/\∀k,H k->w.heap.size<=k)/\Below w.heap.size w w':=by
 refine(K.Yj v B w h hb).mono ?_
 rintro e w' ⟨g,r,v',rfl,hg,hr,hk,ho,hw⟩;exact⟨g,rfl,⟨fun k=>k=g\/k=r\/v'.ownBlock=some k,.inr ⟨g,r,v',rfl,hk,.inl rfl,.inr (.inl rfl),fun k e=>.inr (.inr e),fun k e=>e.elim (fun e=>by rw[e];exact hk.blk.lt) (fun e=>e.elim (fun e=>by rw[e];exact hk.rd.blk.lt) (fun e=>(ho k e).2))⟩,fun k e=>e.elim (fun e=>by rw[e];exact hg) (fun e=>e.elim (fun e=>by rw[e];exact hr) (fun e=>(ho k e).1))⟩,hw⟩
theorem Ep{o:Nat}{v:Value}{B:List Int}{w:World}(h:gz K.Ru w v B)(hb:K.Byt B)(hz:o<=w.heap.size)(ho:∀k,B≠[]->v.ownBlock=some k->k<o) :
 gI o (.pointer (some ⟨w.heap.size,0,none⟩)) B 0 (fun k=>k=w.heap.size) (w.alloc (.cells #[v,.int .i64 0] 69)):=by
 by_cases hB:B=[]
 ·subst hB
  obtain⟨A,c,rfl,h1,h2,_⟩:=h.form;exact⟨w.heap.size,.slice none 0 0,rfl,.inr ⟨rfl,rfl,rfl,A,c,h2,dH.new w _ _⟩,rfl,fun k e=>by simp[Value.ownBlock] at e,fun k e=>by rw[show k=w.heap.size from e];simp⟩
 ·exact⟨w.heap.size,v,rfl,.inl ⟨dH.new w _ _,h.keep ((aH _ _).alloc (aK _) _),fun e=>by have:=ho _ hB e;omega,bW _,hb⟩,rfl,fun k e=>.inl (ho k hB e),fun k e=>by rw[show k=w.heap.size from e];simp⟩
section
open Go.ChangeShapes Go.WideShapes Go.Deep
variable {H : Type} {enc : TypeId × Value -> H} {w : World} {base : Nat} {held : Bool}
theorem Y9{cs:List Value}{x:DataW H × List MemPlace}{fuel:Nat}(h:DataW.trod enc Tryz.prog w base (fun _=>true) held fuel 22 cs=some x) :
 ∃cv B,cs=[cv]/\Y5 w.heap.size w cv B/\∀y∈B,0<=y/\y<=255:=by
 rcases open_ints (k:=.u8) Tryz.underlying22 Tryz.underlying5 (by kernel_rfl) h with⟨hcs,_⟩|⟨a1,l1,c1,zs,hcs,_,hl1,hm1,hz,_,hcc,hw⟩
 ·subst hcs
  exact⟨_,[],rfl,⟨gz.nil_ w,fun k h0=>absurd rfl h0⟩,fun y hy=>by cases hy⟩
 ·subst hcs
  simp only[if_true] at hz;have hll:(zs.take l1).length=l1:=by rw[bg];omega
  have hrd:iH .u8 w (.slice (some a1) l1 c1) (zs.take l1):=by
   unfold iH;rw[hll];refine⟨by rw[List.length_map,hll];omega,some a1,c1,rfl,hl1,hm1,fun h0=>?_⟩
   obtain⟨b,off,rfl,hcc⟩:=ints_at hcc ae
   refine⟨b,off,rfl,b_ _ _ (hcc 0 ae),fun j hj=>?_⟩
   have h9:=hcc j ae
   rw[add_plain] at h9;rw[h9];have hj':j<zs.length:=ae
   simp[aY hj',show j<l1 by omega,List.getD]
  refine⟨_,zs.take l1,rfl,⟨ar4 hrd,fun k h0 e=>?_⟩,fun y hy=>bounds_u8 (hw y (List.mem_of_mem_take hy))⟩
  have hp:0<l1:=by
   rcases bT l1 with e0|e0
   ·exact absurd (by rw[e0];rfl) h0
   ·exact e0
  obtain⟨b,off,rfl,hcc⟩:=ints_at hcc ae
  have:=b_ _ _ (hcc 0 ae)
  rw[<-Option.some.inj (show some b=some k from e)];exact this
end
end Go.Proofs.YtkiebccnpheloaaGreat.D
namespace Go.Proofs.YtkiebccnpheloaaGreat
open Go.RowKit Go.Lib
section
open Go.RowKit Go.Lib
theorem zq{w:World}{v:Value}{l:List Int}(h:iH .u8 w v l):(convert 22 9 v).run Tryz.prog w=.ok (.string (strOfNums l)) w:=by
 obtain⟨A,c,rfl,_,_,f⟩:=h.form
 cases A with
 | none=>
  have h0:l=[]:=by
   rcases bT l.length with h0|h0
   ·exact aW h0
   ·obtain⟨g,off,e,_⟩:=f h0;cases e
  subst h0;exact run_convert_bytes_nil w 22 5 Tryz.underlying22 Tryz.underlying5 _ _ _ Tryz.underlying9
 | some a=>
  rcases bT l.length with h0|h0
  ·have h1:l=[]:=aW h0
   subst h1;obtain⟨b,off,spot⟩:=a
   cases spot with
   | none=>exact run_convert_bytes_arg w 22 5 Tryz.underlying22 Tryz.underlying5 b off 0 c [] rfl (fun i hi=>absurd hi ae) _ Tryz.underlying9
   | some s=>rw[run_convert_bytes_string w 22 9 5 _ _ _ Tryz.underlying22 Tryz.underlying5 Tryz.underlying9,run_bytesToString w _ _ c [] (by simp[loadCells,loadCellsFrom])];rfl
  ·obtain⟨g,off,hA,_,hc⟩:=f h0
   cases hA
   exact run_convert_bytes_arg w 22 5 Tryz.underlying22 Tryz.underlying5 g off l.length c l rfl (fun i hi=>by
    rw[hc i hi];simp[List.getD,aY hi]) _ Tryz.underlying9
theorem jY.raw{l:List Mn}(h:jY l)(ht:tot l<=18446744073709551615):ak7 l:=fun m hm=>by
 obtain⟨j,hj,rfl⟩:=List.getElem_of_mem hm;have h1:=h _ (bu hj);have h2:=h.Hy hj;have h3:=(h.xh j).1;have h4:=h1.2.2;exact⟨h1.1,h1.2.1,ae,ae⟩
end
open Go.RowKit Go.Lib
open Go.RowKit Go.Lib
open Go.RowKit Go.Lib
end Go.Proofs.YtkiebccnpheloaaGreat
namespace Go.Proofs.YtkiebccnpheloaaGreat.D
open Go.RowKit Go.Lib Go.Shelf
theorem Es{P C:Ft->World->Prop}(S:mQ P){F H:Ft}{er:Int}{w w1 w':World}{e:Ending}(hb:Below w.heap.size w w1)(h0:∀k,F k->k<w.heap.size)(hm:jc P C F H er w1 e w'):jc P C F H er w e w':=
 ⟨hm.1,S.more hm.2.1 (fun _ h=>h.imp id fun h=>⟨bG hb.size h.1,h.2⟩) (jI h0 (bG hb.size hm.2.2.2.size)),hm.2.2.1,Iq hb hm.2.2.2⟩
section
variable {sp : iM} {c t : Js} {x y a : Nat} {F Fy H : Ft} {cq : Value} {B : List Int}
theorem ar5(v n:Int)(w:World)(h:iE sp c x F w)(ok:jg sp c)(hc:jb cq B a H w)(hq:(∃q,sp=.k q)->cq≠.pointer none)(hd:∀k,H k->¬F k)(v0:-9223372036854775808<=v)(v1:v<=9223372036854775807)(n0:0<=n)(n1:n<18446744073709551616) :
 Calls Tryz.prog 56 #[.pointer (some ⟨x,0,none⟩),.int .i64 v,.int .u64 n,cq] w (jc (iE sp (jQ sp B v n c a).1 x) (jb cq B (jQ sp B v n c a).2) F H (oL sp c v n) w):=by
 obtain⟨p,G,hB,hI,hFx,zS,hGF,hF⟩:=h;have I5:∀k,H k->¬G k:=fun k h1 h2=>hd k h1 (hGF k h2)
 have fin:∀c' a' er e w',jc (uV sp c' p) (jb cq B a') G H er w e w'->jc (iE sp c' x) (jb cq B a') F H er w e w':=fun c' a' er e w' hm=>by
  obtain⟨h1,h2⟩:=IV hB hFx zS hGF hF hm.2.1 hm.2.2.2 hd;exact⟨hm.1,h1,hm.2.2.1,h2⟩
 have low:=(iq sp c p).low hI
 cases sp with
 | h lo hi dg u m gr=>
  refine(Ua (Q:=fun v' w'=>jc (iE (.h lo hi dg u m gr) (jQ (.h lo hi dg u m gr) B v n c a).1 x) (jb cq B (jQ (.h lo hi dg u m gr) B v n c a).2) F H (oL (.h lo hi dg u m gr) c v n) w (.returned v') w') hB ?_).mono ?_
  ·refine(Ul v n w hI ok v0 v1 n0 n1).mono ?_
   rintro e w' ⟨rfl,h2,h3⟩;exact⟨_,rfl,fin _ _ _ _ _ (pJ ⟨rfl,h2,h3⟩ (hc.far h3 I5))⟩
  ·rintro e w' ⟨v',rfl,hm⟩;exact hm
 | d ac m=>
  refine(Ub (Q:=fun v' w'=>jc (iE (.d ac m) (jQ (.d ac m) B v n c a).1 x) (jb cq B (jQ (.d ac m) B v n c a).2) F H (oL (.d ac m) c v n) w (.returned v') w') hB ?_).mono ?_
  ·refine(am5 v n w hI ok v0 v1 n0 n1).mono ?_
   rintro e w' ⟨rfl,h2,h3⟩;exact⟨_,rfl,fin _ _ _ _ _ (pJ ⟨rfl,h2,h3⟩ (hc.far h3 I5))⟩
  ·rintro e w' ⟨v',rfl,hm⟩;exact hm
 | t d=>
  have ft:=Jo.fit ok;have hd1:=ft.d1;refine(Uc (Q:=fun v' w'=>jc (iE (.t d) (jQ (.t d) B v n c a).1 x) (jb cq B (jQ (.t d) B v n c a).2) F H (oL (.t d) c v n) w (.returned v') w') hB ?_).mono ?_
  ·by_cases hn:n=0\/281474976710656 - Go.Proofs.YtkiebccnpheloaaGreat.tot (c.s.L++c.s.W)<n
   ·refine(aa0 v n w hI ft ae v0 v1 n0 ae hn).mono ?_
    rintro e w' ⟨rfl,hb⟩;have e1:oL (.t d) c v n=if n=0 then 4 else 6:=by
     simp only[oL]
     by_cases h0:n=0
     ·rw[if_pos h0,if_pos h0]
     ·rw[if_neg h0,if_neg h0,if_pos (hn.resolve_left h0)]
    have e2:jQ (.t d) B v n c a=(c,a):=by
     simp only[jQ];rw[if_neg (by rw[e1];split<;>decide)]
    rw[e1,e2];exact⟨_,rfl,fin c a _ _ _ (jv (iq (.t d) c p) hI rfl hb (hc.keep hb))⟩
   ·have h0:¬n=0:=fun e=>hn (.inl e)
    have h6:¬281474976710656 - Go.Proofs.YtkiebccnpheloaaGreat.tot (c.s.L++c.s.W)<n:=fun e=>hn (.inr e)
    refine(WJ v n w hI ft ae v0 v1 ae  ae).mono ?_
    rintro e w' ⟨rfl,F',h2,h3,h4⟩;have e1:oL (.t d) c v n=0:=by simp only[oL];rw[if_neg h0,if_neg h6]
    have e2:jQ (.t d) B v n c a=({c with s:=c.s.add d v n},a):=by simp only[jQ];rw[if_pos e1]
    rw[e1,e2];refine⟨_,rfl,fin _ _ _ _ _ ⟨rfl,?_,hc.far h4 I5,h4.mono fun _ h=>.inl h⟩⟩
    exact(iq (.t d) {c with s:=c.s.add d v n} p).gr (F':=F') h3 h2 low h4.size
  ·rintro e w' ⟨v',rfl,hm⟩;exact hm
 | k q=>
  refine(Gt (Q:=fun v' w'=>jc (iE (.k q) (jQ (.k q) B v n c a).1 x) (jb cq B (jQ (.k q) B v n c a).2) F H (oL (.k q) c v n) w (.returned v') w') hB ?_).mono ?_
  ·have hnn:((n.toNat:Nat):Int)=n:=ae
   have C:=ba1 v n.toNat hI (rY.fit ok) hc (hq ⟨q,rfl⟩) I5 (rY.q0 ok) (rY.q1 ok) ae
   rw[hnn] at C;refine C.mono ?_
   rintro e w' hm;obtain⟨rfl,h2,h3,h4⟩:=hm;exact⟨_,rfl,fin _ _ _ _ _ ⟨rfl,h2,h3,h4⟩⟩
  ·rintro e w' ⟨v',rfl,hm⟩;exact hm
theorem LX(w:World)(h:iE sp c x F w)(ok:jg sp c):Calls Tryz.prog 52 #[.pointer (some ⟨x,0,none⟩)] w fun e w'=>e=.returned (.int .u64 (LU sp c))/\w=w':=by
 obtain⟨p,G,hB,hI,hFx,zS,hGF,hF⟩:=h
 cases sp with
 | h lo hi dg u m gr=>
  refine(KD (Q:=fun v' w'=>v'=.int .u64 (LU (.h lo hi dg u m gr) c)/\w=w') hB ?_).mono ?_
  ·refine(XG w hI).mono ?_
   rintro e w' ⟨rfl,rfl⟩;exact⟨_,rfl,rfl,rfl⟩
  ·rintro e w' ⟨v',rfl,rfl,rfl⟩;exact⟨rfl,rfl⟩
 | d ac m=>
  refine(KE (Q:=fun v' w'=>v'=.int .u64 (LU (.d ac m) c)/\w=w') hB ?_).mono ?_
  ·refine(Xk w hI ok).mono ?_
   rintro e w' ⟨rfl,rfl⟩;exact⟨_,rfl,rfl,rfl⟩
  ·rintro e w' ⟨v',rfl,rfl,rfl⟩;exact⟨rfl,rfl⟩
 | t d=>
  refine(KG (Q:=fun v' w'=>v'=.int .u64 (LU (.t d) c)/\w=w') hB ?_).mono ?_
  ·refine(total_any w hI).mono ?_
   rintro e w' ⟨rfl,rfl⟩;exact⟨_,rfl,rfl,rfl⟩
  ·rintro e w' ⟨v',rfl,rfl,rfl⟩;exact⟨rfl,rfl⟩
 | k q=>
  obtain⟨lv,vs,hs⟩:=hI;refine(KH (Q:=fun v' w'=>v'=.int .u64 (LU (.k q) c)/\w=w') hB ?_).mono ?_
  ·refine(K.total_any w hs).mono ?_
   rintro e w' ⟨rfl,rfl⟩;exact⟨_,rfl,rfl,rfl⟩
  ·rintro e w' ⟨v',rfl,rfl,rfl⟩;exact⟨rfl,rfl⟩
theorem yc(w:World)(h:iE sp c x F w)(ok:jg sp c):Calls Tryz.prog 18 #[.pointer (some ⟨x,0,none⟩)] w fun e w'=>∃v,e=.returned v/\OwnB w.heap.size w' v (jR sp c)/\Below w.heap.size w w':=by
 obtain⟨p,G,hB,hI,hFx,zS,hGF,hF⟩:=h
 cases sp with
 | h lo hi dg u m gr=>
  refine OD (Q:=fun v' w'=>OwnB w.heap.size w' v' (jR (.h lo hi dg u m gr) c)/\Below w.heap.size w w') hB ?_
  exact La w hB hI ok
 | d ac m=>
  refine OE (Q:=fun v' w'=>OwnB w.heap.size w' v' (jR (.d ac m) c)/\Below w.heap.size w w') hB ?_
  exact Ou w hI ok
 | t d=>
  refine OG (Q:=fun v' w'=>OwnB w.heap.size w' v' (jR (.t d) c)/\Below w.heap.size w w') hB ?_
  exact N7 p G d c.s _ w hI (Jo.fit ok)
 | k q=>
  refine OI (Q:=fun v' w'=>OwnB w.heap.size w' v' (jR (.k q) c)/\Below w.heap.size w w') hB ?_
  obtain⟨lv,vs,hs⟩:=hI;exact K.Ej w hs ((rY.fit ok).pk (a:=0)) (rY.bd ok) (by have:=rY.q1 ok;omega)
theorem RS(w:World)(h:iE sp c x F w)(ok:jg sp c):Calls Tryz.prog 19 #[.pointer (some ⟨x,0,none⟩)] w fun e w'=>e=.returned sp.v/\Below w.heap.size w w':=by
 obtain⟨p,G,hB,hI,hFx,zS,hGF,hF⟩:=h
 cases sp with
 | h lo hi dg u m gr=>exact vZ hB (fun w1 hb=>oD w1 ((iq (.h lo hi dg u m gr) c p).keep hI hb)) (fun w1 hb=>xR w1 ((iq (.h lo hi dg u m gr) c p).keep hI hb))
 | d ac m=>exact vY hB (fun w1 hb=>yU w1 ((iq (.d ac m) c p).keep hI hb)) (fun w1 hb=>uC w1 ((iq (.d ac m) c p).keep hI hb))
 | t d=>exact vW hB (fun w1 hb=>nC w1 ((iq (.t d) c p).keep hI hb))
 | k q=>exact vX hB (fun w1 hb=>by
  obtain⟨lv,vs,hs⟩:=(iq (.k q) c p).keep hI hb;exact K.size_any w1 hs)
theorem Hl{p p2:Nat}{G G2:Ft}(w:World)(hB:dH w x 117 (sp.five p))(hI:uV sp c p G w)(hFx:F x)(zS:¬G x)(hGF:∀k,G k->F k)(hF:∀k,F k->k<w.heap.size)
 (hB2:dH w y 117 (sp.five p2)) (hI2:uV sp t p2 G2 w) (hxy:(p2=p/\G2=G/\t=c)\/∀k,G k->¬G2 k) (ok:jg sp c) (ok2:jg sp t) (hc:jb cq B a H w) (hq:∀q,sp=.k q->cq=.pointer none->K.gZ q (K.jq c.L t.L)=none) (hd:∀k,H k->¬F k) :
 Calls Tryz.prog 22 #[.pointer (some ⟨x,0,none⟩),.pointer (some ⟨y,0,none⟩),cq] w (jc (iE sp (jh sp B t c a).1 x) (jb cq B (jh sp B t c a).2) F H (uY sp c t) w):=by
 have I5:∀k,H k->¬G k:=fun k h1 h2=>hd k h1 (hGF k h2)
 have low:=(iq sp c p).low hI;have fin:∀c' a' er w1 e w',Below w.heap.size w w1->jc (uV sp c' p) (jb cq B a') G H er w1 e w'->jc (iE sp c' x) (jb cq B a') F H er w e w':=fun c' a' er w1 e w' hb hm=>by
  have hm:=Es (iq sp c' p) hb low hm;obtain⟨h1,h2⟩:=IV hB hFx zS hGF hF hm.2.1 hm.2.2.2 hd;exact⟨hm.1,h1,hm.2.2.1,h2⟩
 have kI:∀w1,Below w.heap.size w w1->uV sp c p G w1:=fun w1 hb=>(iq sp c p).keep hI hb
 have LY:∀w1,Below w.heap.size w w1->uV sp t p2 G2 w1:=fun w1 hb=>(iq sp t p2).keep hI2 hb
 have kc:∀w1,Below w.heap.size w w1->jb cq B a H w1:=fun w1 hb=>hc.keep hb
 clear hI hI2 hc
 cases sp with
 | h lo hi dg u m gr=>
  refine(OQ (Q:=fun v' w'=>jc (iE (.h lo hi dg u m gr) (jh (.h lo hi dg u m gr) B t c a).1 x) (jb cq B (jh (.h lo hi dg u m gr) B t c a).2) F H (uY (.h lo hi dg u m gr) c t) w (.returned v') w') hB hB2 (fun w1 hb=>oD w1 (kI w1 hb)) (fun w1 hb=>xR w1 (kI w1 hb)) (fun w1 hb=>oD w1 (LY w1 hb)) (fun w1 hb=>xR w1 (LY w1 hb)) (fun w1 hb=>?_)).mono ?_
  ·refine(Ya w1 (kI w1 hb) (LY w1 hb) ok ok2).mono ?_
   rintro e w' ⟨rfl,h2,h3⟩;exact⟨_,rfl,fin _ _ _ w1 _ _ hb (pJ ⟨rfl,h2,h3⟩ ((kc w1 hb).far h3 I5))⟩
  ·rintro e w' ⟨v',rfl,hm⟩;exact hm
 | d ac m=>
  refine(OT (Q:=fun v' w'=>jc (iE (.d ac m) (jh (.d ac m) B t c a).1 x) (jb cq B (jh (.d ac m) B t c a).2) F H (uY (.d ac m) c t) w (.returned v') w') hB hB2 (fun w1 hb=>yU w1 (kI w1 hb)) (fun w1 hb=>uC w1 (kI w1 hb)) (fun w1 hb=>yU w1 (LY w1 hb)) (fun w1 hb=>uC w1 (LY w1 hb)) (fun w1 hb=>?_)).mono ?_
  ·refine(ab7 w1 (kI w1 hb) (LY w1 hb) ok ok2 ?_).mono ?_
   ·rcases hxy with⟨h1,_,_⟩|h1
    ·exact .inr h1
    ·exact .inl fun k h2 h3=>h1 k h3 h2
   rintro e w' ⟨rfl,h2,h3⟩;exact⟨_,rfl,fin _ _ _ w1 _ _ hb (pJ ⟨rfl,h2,h3⟩ ((kc w1 hb).far h3 I5))⟩
  ·rintro e w' ⟨v',rfl,hm⟩;exact hm
 | t d=>
  have ft:=Jo.fit ok;have ft2:=Jo.fit ok2;have hd1:=ft.d1;have hxy':(p2=p/\G2=G/\t.s=c.s)\/∀k,G k->¬G2 k:=hxy.imp (fun h=>⟨h.1,h.2.1,by rw[h.2.2]⟩) id
  refine(OJ (Q:=fun v' w'=>jc (iE (.t d) (jh (.t d) B t c a).1 x) (jb cq B (jh (.t d) B t c a).2) F H (uY (.t d) c t) w (.returned v') w') hB hB2 (fun w1 hb=>nC w1 (kI w1 hb)) (fun w1 hb=>nC w1 (LY w1 hb)) (fun w1 hb=>?_)).mono ?_
  ·by_cases hn:281474976710656 - Go.Proofs.YtkiebccnpheloaaGreat.tot (c.s.L++c.s.W)<Go.Proofs.YtkiebccnpheloaaGreat.tot (t.s.L++t.s.W)\/Go.Proofs.YtkiebccnpheloaaGreat.tot (t.s.L++t.s.W)=0
   ·refine(ag3 w1 (kI w1 hb) (LY w1 hb) ft ft2 hn).mono ?_
    rintro e w' ⟨rfl,hb'⟩;have e2:jh (.t d) B t c a=(c,a):=by
     simp only[jh]
     by_cases he:gU c.s t.s=0
     ·rw[if_pos he]
      have hz:Go.Proofs.YtkiebccnpheloaaGreat.tot (t.s.L++t.s.W)=0:=by
       rcases hn with hn|hn
       ·unfold gU at he;rw[if_pos hn] at he;cases he
       ·exact hn
      have:c.s.take d t.s=c.s:=by unfold St.take;rw[if_pos hz]
      rw[this]
     ·rw[if_neg he]
    rw[e2];exact⟨_,rfl,fin c a _ w1 _ _ hb (jv (iq (.t d) c p) (kI w1 hb) rfl hb' ((kc w1 hb).keep hb'))⟩
   ·have h0:¬Go.Proofs.YtkiebccnpheloaaGreat.tot (t.s.L++t.s.W)=0:=fun e=>hn (.inr e)
    have h6:¬281474976710656 - Go.Proofs.YtkiebccnpheloaaGreat.tot (c.s.L++c.s.W)<Go.Proofs.YtkiebccnpheloaaGreat.tot (t.s.L++t.s.W):=fun e=>hn (.inl e)
    have hnn:=ft2.ok.jA;refine(D_ w1 (kI w1 hb) (LY w1 hb) hxy' ft ft2 ae  ae  ae).mono ?_
    rintro e w' ⟨rfl,F',h2,h3,h4⟩;have e1:gU c.s t.s=0:=by unfold gU;rw[if_neg h6]
    have e2:jh (.t d) B t c a=({c with s:=c.s.take d t.s},a):=by simp only[jh];rw[if_pos e1]
    have e3:uY (.t d) c t=0:=e1;rw[e2,e3];refine⟨_,rfl,fin _ _ _ w1 _ _ hb ⟨rfl,?_,(kc w1 hb).far h4 I5,h4.mono fun _ h=>.inl h⟩⟩
    exact(iq (.t d) {c with s:=c.s.take d t.s} p).gr (F':=F') h3 h2 (fun k hk=>aU (low k hk) hb.size) h4.size
  ·rintro e w' ⟨v',rfl,hm⟩;exact hm
 | k q=>
  refine(OM (Q:=fun v' w'=>jc (iE (.k q) (jh (.k q) B t c a).1 x) (jb cq B (jh (.k q) B t c a).2) F H (uY (.k q) c t) w (.returned v') w') hB hB2 (fun w1 hb=>by
   obtain⟨lv,vs,hs⟩:=kI w1 hb;exact K.size_any w1 hs) (fun w1 hb=>by
   obtain⟨lv,vs,hs⟩:=LY w1 hb;exact K.size_any w1 hs) (fun w1 hb=>?_)).mono ?_
  ·refine(ar1 (kI w1 hb) (rY.fit ok) (LY w1 hb) (rY.fit ok2) (kc w1 hb) (hq q rfl) I5 (rY.q0 ok) (rY.q1 ok)).mono ?_
   rintro e w' hm;obtain⟨rfl,h2,h3,h4⟩:=hm;exact⟨_,rfl,fin _ _ _ w1 _ _ hb ⟨rfl,h2,h3,h4⟩⟩
  ·rintro e w' ⟨v',rfl,hm⟩;exact hm
theorem RV(w:World)(h:iE sp c x F w)(h2:iE sp t y Fy w)(hxy:(y=x/\t=c)\/∀k,F k->¬Fy k)(ok:jg sp c)(ok2:jg sp t)(hc:jb cq B a H w)(hq:∀q,sp=.k q->cq=.pointer none->K.gZ q (K.jq c.L t.L)=none)(hd:∀k,H k->¬F k) :
 Calls Tryz.prog 22 #[.pointer (some ⟨x,0,none⟩),.pointer (some ⟨y,0,none⟩),cq] w (jc (iE sp (jh sp B t c a).1 x) (jb cq B (jh sp B t c a).2) F H (uY sp c t) w):=by
 obtain⟨p,G,hB,hI,hFx,zS,hGF,hF⟩:=h
 rcases hxy with⟨rfl,rfl⟩|hxy
 ·exact Hl w hB hI hFx zS hGF hF hB hI (.inl ⟨rfl,rfl,rfl⟩) ok ok2 hc hq hd
 ·obtain⟨p2,G2,hB2,hI2,bj7,bj8,ar6,hF2⟩:=h2
  exact Hl w hB hI hFx zS hGF hF hB2 hI2 (.inr fun k h1 h2=>hxy k (hGF k h1) (ar6 k h2)) ok ok2 hc hq hd
end
open Go.RowKit Go.Lib Go.Shelf
section
variable {y : Nat} {p1 p2 p3 p4 : Value} {w : World} {Q : Value -> World -> Prop} {lo hi dg ac sz : Int} {gr : Bool}
theorem Qa{a n c:Value}(hy:dH w y 146 #[.int .u8 1,.int .i64 lo,.int .i64 hi,.int .i64 dg,.bool gr,.int .i64 ac,.int .i64 sz,p1,p2,p3,p4])(h:Calls Tryz.prog 174 #[p1,a,n] w fun e w'=>∃v,e=.returned v/\Q v w') :
 Calls Tryz.prog 81 #[.pointer (some ⟨y,0,none⟩),a,n,c] w fun e w'=>∃v,e=.returned v/\Q v w':=by
 have C:=aB h;have HY:=aB hy;clear h hy;have f0:=HY.out.cell 0;have f1:=HY.out.cell 7;simp only[aF,aC,aG] at f0 f1
 go_enter Tryz.func81,Tryz.ntmps81
 go_wp2_with fail;refine(C.out).mono ?_
 rintro e w1 ⟨v,rfl,hq⟩;have HQ:=aB hq;clear hq
 go_wp2_with fail
 go_ret;exact⟨_,rfl,HQ.out⟩
theorem Qb{a n c:Value}(hy:dH w y 146 #[.int .u8 2,.int .i64 lo,.int .i64 hi,.int .i64 dg,.bool gr,.int .i64 ac,.int .i64 sz,p1,p2,p3,p4])(h:Calls Tryz.prog 175 #[p2,a,n] w fun e w'=>∃v,e=.returned v/\Q v w') :
 Calls Tryz.prog 81 #[.pointer (some ⟨y,0,none⟩),a,n,c] w fun e w'=>∃v,e=.returned v/\Q v w':=by
 have C:=aB h;have HY:=aB hy;clear h hy;have f0:=HY.out.cell 0;have f1:=HY.out.cell 8;simp only[aF,aC,aG] at f0 f1
 go_enter Tryz.func81,Tryz.ntmps81
 go_wp2_with fail;refine(C.out).mono ?_
 rintro e w1 ⟨v,rfl,hq⟩;have HQ:=aB hq;clear hq
 go_wp2_with fail
 go_ret;exact⟨_,rfl,HQ.out⟩
theorem Qc{a n c:Value}(hy:dH w y 146 #[.int .u8 3,.int .i64 lo,.int .i64 hi,.int .i64 dg,.bool gr,.int .i64 ac,.int .i64 sz,p1,p2,p3,p4])(h:Calls Tryz.prog 176 #[p3,a,n] w fun e w'=>∃v,e=.returned v/\Q v w') :
 Calls Tryz.prog 81 #[.pointer (some ⟨y,0,none⟩),a,n,c] w fun e w'=>∃v,e=.returned v/\Q v w':=by
 have C:=aB h;have HY:=aB hy;clear h hy;have f0:=HY.out.cell 0;have f1:=HY.out.cell 9;simp only[aF,aC,aG] at f0 f1
 go_enter Tryz.func81,Tryz.ntmps81
 go_wp2_with fail;refine(C.out).mono ?_
 rintro e w1 ⟨v,rfl,hq⟩;have HQ:=aB hq;clear hq
 go_wp2_with fail
 go_ret;exact⟨_,rfl,HQ.out⟩
theorem Qd{a n c:Value}(hy:dH w y 146 #[.int .u8 4,.int .i64 lo,.int .i64 hi,.int .i64 dg,.bool gr,.int .i64 ac,.int .i64 sz,p1,p2,p3,p4])(h:Calls Tryz.prog 177 #[p4,a,n,c] w fun e w'=>∃v,e=.returned v/\Q v w') :
 Calls Tryz.prog 81 #[.pointer (some ⟨y,0,none⟩),a,n,c] w fun e w'=>∃v,e=.returned v/\Q v w':=by
 have C:=aB h;have HY:=aB hy;clear h hy;have f0:=HY.out.cell 0;have f1:=HY.out.cell 10;simp only[aF,aC,aG] at f0 f1
 go_enter Tryz.func81,Tryz.ntmps81
 go_wp2_with fail;refine(C.out).mono ?_
 rintro e w1 ⟨v,rfl,hq⟩;have HQ:=aB hq;clear hq
 go_wp2_with fail
 go_ret;exact⟨_,rfl,HQ.out⟩
end
end Go.Proofs.YtkiebccnpheloaaGreat.D
