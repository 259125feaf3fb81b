/- Parts of a proof. No condition. -/
import Derived.Test.YtilcnjbpmoijmaaGreatPw06
import Derived.Defers
import Derived.Recover
set_option maxRecDepth 100000
set_option maxHeartbeats 16000000
set_option linter.unusedVariables false
set_option linter.unusedSimpArgs false
namespace Go.Proofs.YtilcnjbpmoijmaaGreat
open Tryz
section
open Go.RowKit Go.Lib
theorem az4(a:Int)(h0:0<=a)(h1:a<18446744073709551616):bits .xor .u64 a 0=a:=by
 show IntKind.u64.wrap ((BitVec.ofInt 64 a ^^^ BitVec.ofInt 64 0).toNat:Int)=_
 rw[show BitVec.ofInt 64 0=0#64 from rfl,BitVec.xor_zero,BitVec.toNat_ofInt,fF]
 omega
theorem az5(a:Int)(h0:0<=a)(h1:a<18446744073709551616):bits .xor .u64 a 18446744073709551615=18446744073709551615 - a:=by
 show IntKind.u64.wrap ((BitVec.ofInt 64 a ^^^ BitVec.ofInt 64 18446744073709551615).toNat:Int)=_
 rw[show BitVec.ofInt 64 18446744073709551615=BitVec.allOnes 64 from af,BitVec.xor_allOnes,BitVec.toNat_not,BitVec.toNat_ofInt,fF]
 omega
theorem az6(a:Int)(h0:0<=a)(h1:a<9223372036854775808):bits .xor .i64 a 0=a:=by
 show IntKind.i64.wrap ((BitVec.ofInt 64 a ^^^ BitVec.ofInt 64 0).toNat:Int)=_
 rw[show BitVec.ofInt 64 0=0#64 from rfl,BitVec.xor_zero,BitVec.toNat_ofInt]
 simp only[aW];omega
theorem az7(a:Int)(h0:0<=a)(h1:a<9223372036854775808):bits .xor .i64 a (-1)=-a - 1:=by
 show IntKind.i64.wrap ((BitVec.ofInt 64 a ^^^ BitVec.ofInt 64 (-1)).toNat:Int)=_
 rw[show BitVec.ofInt 64 (-1)=BitVec.allOnes 64 from af,BitVec.xor_allOnes,BitVec.toNat_not,BitVec.toNat_ofInt]
 have e:((2 ^ 64 - 1 - (a % ((2 ^ 64:Nat):Int)).toNat:Nat):Int)=-a - 1+18446744073709551616:=ae
 rw[e];simp only[aW];omega
theorem az8(n:Int)(h0:0<=n)(h1:n<18446744073709551616):bits .and .u64 n 1=n % 2:=by
 obtain⟨m,rfl⟩:=Int.eq_ofNat_of_zero_le h0;have h:=bits_and_u64_nat m 1 ae  ae
 rw[Nat.and_one_is_mod] at h;have e:((1:Nat):Int)=1:=rfl;rw[e] at h;rw[h];omega
theorem Nu(v:Int)(w:World)(h0:-9223372036854775808<=v)(h1:v<=9223372036854775807) :
 aH 423 #[.int .i64 v] w fun e w'=>e=.returned (.int .u64 (qA v))/\w=w':=by
 go_enter func423,ntmps423
 go_wp2
 go_ret;refine⟨kK ?_,rfl⟩
 unfold qA
 by_cases h:0<=v
 ·rw[if_pos h,show IntKind.u64.wrap (v / 9223372036854775808)=0 by rw[fF];omega,show IntKind.u64.wrap (IntKind.u64.wrap v * 2)=2 * v by simp only[fF];omega]
  exact az4 _ ae  ae
 ·rw[if_neg h,show IntKind.u64.wrap (v / 9223372036854775808)=18446744073709551615 by rw[fF];omega,show IntKind.u64.wrap (IntKind.u64.wrap v * 2)=18446744073709551616+2 * v by simp only[fF];omega]
  rw[az5 _ ae  ae]
  omega
theorem xQ(n:Int)(w:World)(h0:0<=n)(h1:n<18446744073709551616) :
 aH 424 #[.int .u64 n] w fun e w'=>e=.returned (.int .i64 (lC n))/\w=w':=by
 go_enter func424,ntmps424
 go_wp2
 go_ret;refine⟨kK ?_,rfl⟩
 unfold lC;rw[az8 n h0 h1]
 by_cases h:n % 2=0
 ·rw[if_pos h,h,show wrap64 (-wrap64 0)=0 by simp[wrap64]]
  exact az6 _ ae  ae
 ·rw[if_neg h,show n % 2=1 by omega,show wrap64 (-wrap64 1)=-1 by simp[wrap64]]
  exact az7 _ ae  ae
theorem Fz(v:Int):0<=ub v/\ub v<18446744073709551616:=by unfold ub;omega
theorem qB{v:Int}(h0:-9223372036854775808<=v)(h1:v<=9223372036854775807):wrap64 (ub v)=v:=by unfold ub wrap64;omega
theorem Zt(g base:Nat)(v s:Int)(bs:List Int)(w:World)(h:Wr 325 base w g bs)(h0:-9223372036854775808<=v)(h1:v<=9223372036854775807)(hl:bs.length<=1000000000000) :
 aH 373 #[.pointer (some ⟨g,0,none⟩),.int .u64 (ub v),.int .i64 s] w fun e w'=>e=.returned (.tuple #[])/\Wr 325 base w' g (bs++zg v)/\Below base w w':=by
 have HW:=aI h;have ew:=qB h0 h1;have sb:=jl h0 h1;have ub0:=Fz v;have CL:=aI (pz g base (qA v) s bs w h sb.1 sb.2 hl);have CS:=aI (Nu v w h0 h1);clear h;have HZ:Hid (zg v=eG (qA v)):=aI rfl;generalize qA v=z at *;generalize ub v=u at *
 go_enter func373,ntmps373
 go_wp2_with (first|(go_at_call 423;refine(CS.o).mono ?_;rintro e w' ⟨rfl,rfl⟩)|(go_at_call 371;refine(CL.o).mono ?_;rintro e w' ⟨rfl,k1,k2⟩))
 refine bodyPost_end (v:=.tuple #[]) (by simp[results,Tryz.results373,go_sem, *];try rfl) rfl ?_
 exact⟨rfl,by rw[HZ.o];exact k1,k2⟩
theorem Wr.new(t:TypeId)(w:World)(base:Nat)(hb:base<=w.heap.size):Wr t base (w.alloc (.cells #[.slice none 0 0] t)) w.heap.size []:=
 ⟨hb,_,dK.new _ _ _,dP.nil_ _ _ _ _⟩
theorem Nv(k K:Nat)(c:UInt8)(n:Int)(out:List Int)(v:Value)(w:World)(h:VZ k (c.toNat:Int))(hr:iY .u64 w v [n])(_n0:0<=n)(_n1:n<18446744073709551616)(hK:sF k=K)
 (eg:∀args w,(callFunc K args).run prog w=.ok (.enter K args) w)
 (hf:∀(g base:Nat) (w:World),Wr 325 base w g []->Calls prog K #[.pointer (some ⟨g,0,none⟩),.int .u64 n,.int .i64 0] w fun e w'=>e=.returned (.tuple #[])/\Wr 325 base w' g out/\Below base w w') :
 aH 164 #[.string ⟨#[c]⟩,v] w fun e w'=>∃v,e=.returned (.tuple #[v,.int .i64 0])/\OwnB w.heap.size w' v out/\Below w.heap.size w w':=by
 obtain⟨A,cn,rfl,hn,hc,hp⟩:=hr.form;obtain⟨gn,on,rfl,hgn,hcn⟩:=hp.at_ (j:=0) (by simp)
 simp only[bW,List.getElem_cons_zero,Nat.add_zero] at hn hcn |-;have CN:=aI hcn;have H:=aI h;have HF:=aI hf;clear hr hp hcn h hf;have FO:Hid (∀w,aH 236 #[.int .u8 (c.toNat:Int)] w fun e w'=>e=.returned (.tuple #[.agg #[.int .u8 (c.toNat:Int),.int .i64 0,.func (.func K) #[] #[],.func (.func (Aq k)) #[] #[]],.bool true])/\Below w.heap.size w w'):=fun w=>by
  rw[<-hK];exact jS k (c.toNat:Int) w H.o
 clear hK
 go_enter func164,ntmps164
 go_wp2_with fail;refine(E_ k c w H.o).mono ?_
 rintro e w1 ⟨rfl,hb1⟩;have hz1:=hb1.size
 go_wp2_with fail;obtain⟨g,hg⟩:=aF (w1.heap.size);have W0:=aI (Wr.new 325 w1 w.heap.size hz1);have hb2:Below w.heap.size w (w1.alloc (.cells #[.slice none 0 0] 325)):=bw;rw[hg] at W0 |-;generalize w1.alloc (.cells #[.slice none 0 0] 325)=w2 at *;clear hg
 go_loopg [25] 1 (fun q i wr=>∃j:Nat,q=1 - j/\j<=1/\i=.int .i64 j/\Hid (Wr 325 w.heap.size wr g (if j=0 then [] else out))/\Below w.heap.size w wr)
 case atStart=>exact⟨0,rfl,ae,rfl,W0,hb2⟩
 case round=>
  obtain⟨j,hq,hj,rfl,hw,hb⟩:=hrel;have HQ:=aI hq;have hz:=hb.size;clear hq
  by_cases hlt:j<1
  ·obtain rfl:j=0:=ae
   have Kt:=(hb.cell (p:=⟨gn,on,none⟩) hgn).trans CN.o
   go_wp2_with (first
    | (go_at_call 236;refine(FO.o _).mono ?_;rintro e w3 ⟨rfl,hb3⟩;have hz3:=hb3.size)
    | (go_at_fn K;refine((HF.o g w.heap.size _ ((hw.o.keep hb3).keep ((aO _ _).alloc (aS _) _))).mono ?_);rintro e w4 ⟨rfl,k1,k2⟩;have oC:=k2.size;have K1:=aI k1;clear k1))
   go_roundg 0
   case measure=>have:=HQ.o;omega
   case rel=>exact⟨1,rfl,ae,ai,K1,bw⟩
  ·have hj1:j=1:=ae
   subst hj1;obtain⟨hbg,v,hB,hO⟩:=hw.o;have c0:=hB.cell 0;simp only[aK,aJ] at c0;rw[if_neg ae] at hO
   have HO:=aI hO;clear hB hO
   go_wp2_with fail
   go_ret2
   exact⟨v,rfl,HO.o,hb⟩
theorem FC(n:Int)(v:Value)(w:World)(hr:iY .u64 w v [n])(n0:0<=n)(n1:n<18446744073709551616) :
 aH 164 #[.string ⟨#[118]⟩,v] w fun e w'=>∃v,e=.returned (.tuple #[v,.int .i64 0])/\OwnB w.heap.size w' v (eG n)/\Below w.heap.size w w':=
 Nv 7 371 118 n (eG n) v w Wq hr n0 n1 rfl (fun _ _=>rfl) (fun g base w h=>pz g base n 0 [] w h n0 n1 ag)
theorem FD(x:Int)(v:Value)(w:World)(hr:iY .u64 w v [ub x])(h0:-9223372036854775808<=x)(h1:x<=9223372036854775807) :
 aH 164 #[.string ⟨#[122]⟩,v] w fun e w'=>∃v,e=.returned (.tuple #[v,.int .i64 0])/\OwnB w.heap.size w' v (zg x)/\Below w.heap.size w w':=
 Nv 8 373 122 (ub x) (zg x) v w bk5 hr (Fz x).1 (Fz x).2 rfl (fun _ _=>rfl) (fun g base w h=>Zt g base x 0 [] w h h0 h1 ag)
theorem Touch.cell{F:Nat->Prop}{w w':World}(h:Touch F w w'){k o:Nat}(hk:k<w.heap.size)(hF:¬F k):w'.cell? ⟨k,o,none⟩=w.cell? ⟨k,o,none⟩:=
 cZ (a:=⟨k,o,none⟩) (h.block k hk hF)
theorem WG(c:Int)(w:World)(h:c=118\/c=122) :
 aH 224 #[.int .u8 c] w fun e w'=>e=.returned (.tuple #[.int .i64 0,.bool false])/\w=w':=by
 rcases h with rfl|rfl
 all_goals
  go_enter func224,ntmps224
  go_wp2
  go_ret2
  exact⟨rfl,rfl⟩
theorem I_(x:Int)(w:World)(h0:-9223372036854775808<=x)(h1:x<=9223372036854775807) :
 aH 225 #[.int .u64 (ub x)] w fun e w'=>e=.returned (.int .u64 (qA x))/\w=w':=by
 have hu:=Fz x;have hs:Hid (qA x=if ub x<9223372036854775808 then 2 * ub x else 2 * (18446744073709551615 - ub x)+1):=by show _=_;unfold qA ub;(repeat' split)<;>omega
 generalize ub x=u at *
 by_cases h:u<9223372036854775808
 ·rw[if_pos h] at hs
  go_enter func225,ntmps225
  go_wp2
  go_ret;exact⟨kK hs.o.symm,rfl⟩
 ·rw[if_neg h] at hs
  go_enter func225,ntmps225
  go_wp2
  go_ret;exact⟨kK (by rw[hs.o]),rfl⟩
theorem yV(c n x:Int)(w:World)(hc:(c=118/\x=n/\0<=n/\n<18446744073709551616)\/(c=122/\n=ub x/\-9223372036854775808<=x/\x<=9223372036854775807)) :
 aH 143 #[.int .u8 c,.int .u64 n] w fun e w'=>∃v,e=.returned (.tuple #[v,.bool true])/\OwnB w.heap.size w' v (if c=118 then eG x else zg x)/\Below w.heap.size w w':=by
 obtain⟨m,hm,hm0,hm1,hE⟩:∃m,(if c=118 then x else qA x)=m/\0<=m/\m<18446744073709551616/\(if c=118 then eG x else zg x)=eG m:=by
  rcases hc with⟨rfl,rfl,h0,h1⟩|⟨rfl,rfl,h0,h1⟩
  ·exact⟨_,rfl,by simpa using h0,by simpa using h1,ag⟩
  ·have:=jl h0 h1
   exact⟨_,rfl,by simpa using this.1,by simpa using this.2,by simp[zg]⟩
 rw[hE];clear hE;have FX:=fun w=>aI (WG c w (by rcases hc with h|h;exact .inl h.1;exact .inr h.1))
 have bv0:(c == 110)=false:=by rcases hc with h|h<;>simp[h.1]
 rcases hc with⟨rfl,rfl,h0,h1⟩|⟨rfl,rfl,h0,h1⟩
 all_goals
  try simp only[if_true] at hm
  try (have SG:=aI (I_ x w h0 h1))
  try simp only[show((122:Int)=118)=False by simp,if_false] at hm
  first|(have hm':m=x:=hm.symm;subst hm')|subst hm
  try (generalize qA x=m at *)
  try (generalize ub x=n at *)
  clear bv0
  go_enter func143,ntmps143
  go_wp2_with (first|(go_at_call 224;refine((FX _).o).mono ?_;rintro e w' ⟨rfl,rfl⟩)|(go_at_call 225;refine(SG.o).mono ?_;rintro e w' ⟨rfl,rfl⟩))
  go_loopg [8,11] 9 (fun k b v wr=>∃(q:Int) (acc:List Int),k<=9/\v=.int .u64 q/\0<=q/\q<2 * 128 ^ k/\acc.length<=9 - k/\Hid (acc++jA k q=eG m)/\OwnB w.heap.size wr b acc/\Below w.heap.size w wr)
  case atStart=>exact⟨m,[],ae,rfl,hm0,ae,ag,aI rfl,dP.nil_ _ _ _ _,aO _ _⟩
  case round=>
   obtain⟨q,acc,hk,rfl,q0,q1,ha,he,hO,hb⟩:=hrel;have HO:=aI hO;have hz:=hb.size;have hlen:acc.length+1<=1099511627776:=ae
   obtain⟨A8,k8,Zu,_,_,_⟩:=(dP.rd hO).form;clear hO
   by_cases hq:127<q
   ·obtain⟨r,rfl⟩:∃r,gk=r+1:=by
     rcases bQ gk with h0|h0
     ·subst h0;simp at q1;omega
     ·exact⟨gk - 1,ae⟩
    have bu7:q<18446744073709551616:=by
     have h1:(2:Int) * 128 ^ (r+1)<=2 * 128 ^ 9:=by
      have:(128:Int) ^ (r+1)<=128 ^ 9:=by
       have h2:(128:Nat) ^ (r+1)<=128 ^ 9:=Nat.pow_le_pow_right ae  ae
       exact_mod_cast h2
      omega
     omega
    have hE:=aI (oU r q hq);have hd:q / 128<2 * 128 ^ r:=Int.ediv_lt_of_lt_mul ae (by rw[bU,<-Int.pow_succ];exact q1)
    have HCM:=aI (show q % 128+128=128+q % 128 by omega)
    clear Zu
    go_wp2_with (first
     | (at_builtin
        go_must (refine jH rfl (.tmp 60) (.tmp 65) rfl w.heap.size u8 acc rfl (dP.alloc HO.o _) _ [128+q % 128] rfl (iY.fK _ _ _ _ _ rfl) hlen (by simp only[aV];omega) ?_)
        intro v1 w1 o1 g1 a1;have hb1:Below w.heap.size w w1:=(hb.alloc ae _).grown g1 (by simp only[aV];omega) (fun k hk=>(dP.lt HO.o k hk).1)
        have O1:=aI o1;clear o1 g1 a1))
    go_roundg r
    case measure=>omega
    case rel=>exact⟨q / 128,acc++[128+q % 128],ae,rfl,ae,hd,ah,aI (by rw[aX,<-he.o,hE.o,HCM.o];rfl),O1.o,hb1⟩
   ·have hE:=aI (oV gk q hq)
    have hq8:q % 256=q:=ae
    clear Zu
    go_wp2_with (first
     | (at_builtin
        go_must (refine jH rfl (.tmp 69) (.tmp 72) rfl w.heap.size u8 acc rfl (dP.alloc HO.o _) _ [q] rfl (iY.fK _ _ _ _ _ rfl) hlen (by simp only[aV];omega) ?_)
        intro v1 w1 o1 g1 a1;have hb1:Below w.heap.size w w1:=(hb.alloc ae _).grown g1 (by simp only[aV];omega) (fun k hk=>(dP.lt HO.o k hk).1)
        have O1:=aI o1;clear o1 g1 a1))
    go_ret2
    exact⟨v1,rfl,by rw[<-he.o,hE.o];exact O1.o,hb1⟩
end
section
open Go.RowKit Go.Lib
variable{w:World}{a g j:Nat}{bs l r:List Int}{part x:Int}
theorem yX(v:Value)(l:List Int)(w:World)(h:iY .u8 w v l)(hlen:l.length<=1000000000000) :
 aH 107 #[v] w fun e w'=>∃v',e=.returned v'/\OwnB w.heap.size w' v' l/\Below w.heap.size w w':=by
 obtain⟨A,c,rfl,hn,hc,hp⟩:=h.form;have HR:=aI h;clear h
 by_cases hnil:A=none
 ·subst hnil
  have h0:l=[]:=by
   rcases bQ l.length with h0|h0
   ·exact bz h0
   ·obtain⟨g,off,e,_⟩:=hp h0;cases e
  subst h0;clear hp;have he:(binOp .eql 47 (.slice none 0 c) (.slice none 0 0)).run prog w=.ok (.bool true) w:=Lib.run_eql_slice_nil w _ _ _ _ _ _ _ underlying47
  go_enter func107,ntmps107
  go_wp2_with fail
  go_ret;exact⟨_,rfl,dP.nil_ _ _ _ _,bw⟩
 ·obtain⟨a,rfl⟩:∃a,A=some a:=by
   cases A with
   | none=>exact absurd rfl hnil
   | some a=>exact⟨a,rfl⟩
  clear hnil hp;have O0:∀W:World,OwnB W.heap.size (W.alloc (.cells #[] 5)) (.slice (some ⟨W.heap.size,0,none⟩) 0 0) []:=fun W=>
   ⟨rfl,.inr ⟨W.heap.size,0,_,rfl,aS _,heap_alloc_new _ _,ag,by unfold maxLen;omega,rfl,ag⟩⟩
  have HO0:=aI O0;clear O0;have he:(binOp .eql 47 (.slice (some a) l.length c) (.slice none 0 0)).run prog w=.ok (.bool false) w:=Lib.run_eql_slice_nil w _ _ _ _ _ _ _ underlying47
  go_enter func107,ntmps107
  go_wp2_with (first
   | (at_builtin
      go_must (refine jH rfl (.tmp 5) (.tmp 6) rfl w.heap.size _ [] rfl (HO0.o w) _ l rfl (Rd.alloc HR.o _) ah ag ?_)
      intro v2 w2 o2 g2 a2;have hb2:Below w.heap.size w w2:=((aO _ _).alloc (aS _) _).grown g2 ag (fun k hk=>(dP.lt (HO0.o w) k hk).1)
      have O2:=aI o2;clear o2 g2 a2))
  go_ret;exact⟨v2,rfl,O2.o,hb2⟩
def dU(w:World)(g:Nat)(bs:List Int)(a:Nat):Prop:=∃v,dK w g 436 #[v,.int .i64 a]/\OwnB 0 w v bs/\a<=bs.length
theorem dU.lt{w:World}{g:Nat}{bs:List Int}{a:Nat}(h:dU w g bs a):g<w.heap.size:=by
 obtain⟨v,h1,_⟩:=h;exact h1.lt
theorem dU.keep{w w':World}{g:Nat}{bs:List Int}{a:Nat}(h:dU w g bs a)(hb:Below w.heap.size w w'):dU w' g bs a:=by
 obtain⟨v,h1,h2,h3⟩:=h;exact⟨v,h1.keep hb,dP.keep h2 hb,h3⟩
theorem dU.drewN{w:World}{g:Nat}{bs:List Int}{a:Nat}(h:dU w g bs a)(n:Nat):dU (w.drewN n) g bs a:=h
theorem dU.put(h:dU w g bs a)(a':Nat)(ha:a'<=bs.length):dU (w.setCell ⟨g,1,none⟩ (.int .i64 a')) g bs a':=by
 obtain⟨v,h1,h2,h3⟩:=h;exact⟨v,h1.dQ 1 _,h2.far (fun e=>h1.J9 h2 af e) _,ha⟩
theorem uV(v:Value)(bs:List Int)(w:World)(h:iY .u8 w v bs)(hlen:bs.length<=1000000000000) :
 aH 266 #[v] w fun e w'=>∃g,e=.returned (.pointer (some ⟨g,0,none⟩))/\w.heap.size<=g/\dU w' g bs 0/\Below w.heap.size w w':=by
 have C1:=aI (yX v bs w h hlen);clear h
 go_enter func266,ntmps266
 go_wp2_with fail;refine(C1.o).mono ?_
 rintro e w1 ⟨v1,rfl,o1,hb1⟩;have O1:=aI o1;have hz1:=hb1.size;obtain⟨A1,c1,hv1,_,_,_⟩:=(dP.rd o1).form;generalize bs.length=N at hv1;subst hv1;clear o1
 go_wp2_with fail
 go_ret;refine⟨w1.heap.size,rfl,hz1,⟨_,dK.new _ _ _,dP.lift (dP.alloc O1.o _) (fun _ _=>df _),df _⟩,bw⟩
theorem mX(g:Nat)(bs:List Int)(a:Nat)(w:World)(h:dU w g bs a)(cd8:bs.length<=1000000000000) :
 aH 283 #[.pointer (some ⟨g,0,none⟩)] w fun e w'=>e=.returned (.int .i64 ((bs.length:Int) - a))/\∃n,w'=w.drewN n:=by
 obtain⟨v,h1,h2,h3⟩:=h;obtain⟨A1,k1,rfl,_,_,_⟩:=(dP.rd h2).form;obtain⟨c0,c1⟩:=h1.c2;have ew:IntKind.i64.wrap ((bs.length:Int) - a)=(bs.length:Int) - a:=IntWalk.i64_in _ ae
 clear h1 h2
 go_enter func283,ntmps283
 go_wp2_with fail
 go_quiet (fail)
 clear ew
 go_wp2_with fail
 go_ret;exact⟨rfl,_,rfl⟩
theorem yY(g:Nat)(bs:List Int)(a:Nat)(w:World)(h:dU w g bs a) :
 aH 268 #[.pointer (some ⟨g,0,none⟩)] w fun e w'=>e=.returned (.int .i64 a)/\w=w':=by
 obtain⟨v,h1,h2,h3⟩:=h;have c1:=h1.cell 1;simp only[aK,aN,aJ] at c1;clear h1 h2
 go_enter func268,ntmps268
 go_wp2_with fail
 go_ret;exact⟨rfl,rfl⟩
theorem Az(part y:Int)(j:Nat)(hj:j<=9)(p0:0<=part)(p1:part<128 ^ j)(y0:0<=y)(y1:y<128)(y9:j=9->y<=1) :
 bits .or .u64 part (IntKind.u64.wrap (y * 2 ^ (7 * j)))=part+128 ^ j * y:=by
 obtain⟨a,rfl⟩:=Int.eq_ofNat_of_zero_le p0;obtain⟨b,rfl⟩:=Int.eq_ofNat_of_zero_le y0;have e1:(2:Nat) ^ (7 * j)=128 ^ j:=by rw[Nat.pow_mul]
 have hb:b * 2 ^ (7 * j)<18446744073709551616:=by
  rw[e1]
  by_cases h9:j=9
  ·subst h9;have:=y9 rfl;omega
  ·have h2:(128:Nat) ^ j<=128 ^ 8:=Nat.pow_le_pow_right ae  ae
   have h3:b * 128 ^ j<=127 * 128 ^ 8:=Nat.mul_le_mul ae h2
   omega
 have ha:a<2 ^ (7 * j):=by rw[e1];exact_mod_cast p1
 have bv1:a<18446744073709551616:=by
  have h2:(128:Nat) ^ j<=128 ^ 9:=Nat.pow_le_pow_right ae  ae
  rw[e1] at ha;omega
 have e2:((b:Int) * 2 ^ (7 * j))=((b * 2 ^ (7 * j):Nat):Int):=ag
 rw[e2,show IntKind.u64.wrap ((b * 2 ^ (7 * j):Nat):Int)=((b * 2 ^ (7 * j):Nat):Int) from by rw[fF];omega,bits_or_u64_nat a _ bv1 hb]
 have h:=Nat.two_pow_add_eq_or_of_lt ha b;rw[Nat.or_comm,dC b,<-h,e1];simp
 omega
def jM(l:List Int)(j:Nat)(part:Int):Prop:=dW l=(Ed (10 - j) (l.drop j)).map (fun p=>(part+128 ^ j * p.1,p.2))
theorem jM.start(l:List Int):jM l 0 0:=by
 unfold jM dW
 cases h:Ed 10 l with
 | none=>simp[h]
 | some p=>simp[h]
theorem jM.more(h:jM l j part)(hl:l.drop j=x::r)(hj:j<9)(hx:127<x):jM l (j+1) (part+128 ^ j * (x - 128)):=by
 unfold jM at *;have e:l.drop (j+1)=r:=by
  have:=congrArg List.tail hl
  simpa[List.tail_drop] using this
 rw[h,hl,show 10 - j=(9 - j)+1 by omega,Ed,if_neg ae,if_pos hx,e,show 10 - (j+1)=9 - j by omega]
 cases hu:Ed (9 - j) r with
 | none=>simp
 | some p=>
  simp only[Option.map_some,bH,Prod.mk.injEq,and_true];rw[Int.pow_succ,Int.mul_add,bU];omega
theorem jM.last(h:jM l j part)(hl:l.drop j=x::r)(hj:j<=9)(h1:¬(j=9/\1<x))(hx:¬127<x)(hz:¬(x=0/\0<j)):dW l=some (part+128 ^ j * x,r):=by
 unfold jM at h;rw[h,hl,show 10 - j=(9 - j)+1 by omega,Ed,if_neg ae,if_neg hx,if_neg ae]
 rfl
theorem jM.none_(h:jM l j part)(hl:l.drop j=[])(hj:j<=9):dW l=none:=by
 unfold jM at h;rw[h,hl,show 10 - j=(9 - j)+1 by omega]
 simp[Ed]
theorem jM.bad(h:jM l j part)(hl:l.drop j=x::r)(hj:j<=9)(h1:(j=9/\1<x)\/(¬127<x/\x=0/\0<j)):dW l=none:=by
 unfold jM at h;rw[h,hl,show 10 - j=(9 - j)+1 by omega,Ed]
 rcases h1 with h1|⟨h1,h2,h3⟩
 ·rw[if_pos ae];rfl
 ·rw[if_neg ae,if_neg h1,if_pos ae];rfl
theorem pF(w:World)(n g i:Nat)(v:Value):Touch (fun k=>k=g) w ((w.drewN n).setCell ⟨g,i,none⟩ v):=((Touch.refl (fun k=>k=g) w).drewN n).setCell (p:=⟨g,i,none⟩) (.inl rfl) v
theorem qC(w:World)(n g:Nat):Touch (fun k=>k=g) w (w.drewN n):=(Touch.refl (fun k=>k=g) w).drewN n
def bk9(e:Int):Prop:=e=20\/e=21
def nM(w:World)(g:Nat)(bs:List Int)(a:Nat)(f:Int->Int)(e:Ending)(w':World):Prop:=
 match dW (bs.drop a) with
 | some p=>e=.returned (.tuple #[.int .u64 (f p.1),.int .i64 0])/\dU w' g bs (bs.length - p.2.length)/\Touch (fun k=>k=g) w w'
 | none=>∃er,e=.returned (.tuple #[.int .u64 (f 0),.int .i64 er])/\bk9 er/\dU w' g bs a/\Touch (fun k=>k=g) w w'
theorem Nw(g:Nat)(s:Int)(bs:List Int)(a:Nat)(w:World)(h:dU w g bs a)(hb:iD bs)(hlen:bs.length<=1000000000000) :
 aH 372 #[.pointer (some ⟨g,0,none⟩),.int .i64 s] w (nM w g bs a id):=by
 have H:=aI h;obtain⟨v,h1,h2,h3⟩:=h;obtain⟨A1,k1,rfl,_,m1,f1⟩:=(dP.rd h2).form;have c0:=h1.cell 0;have c1:=h1.cell 1;have fz:=h1.frozen 1;simp only[aK,aN,aJ] at c0 c1;have F1:=aI f1;have HB:=aI hb;clear h1 h2 f1 hb
 go_enter func372,ntmps372
 go_wp2_with fail
 go_loopg [6,7] 10 (fun q n i wr=>∃(j:Nat) (part:Int),q=10 - j/\j<=9/\a+j<=bs.length/\i=.int .i64 j/\n=.int .u64 part/\(0<=part/\part<128 ^ j)/\Hid (jM (bs.drop a) j part)/\∃nq,wr=w.drewN nq)
 case atStart=>exact⟨0,0,rfl,ae,ae,rfl,rfl,⟨by omega,ag⟩,aI (jM.start _),0,rfl⟩
 case round=>
  obtain⟨j,part,hq,hj,haj,rfl,rfl,⟨p0,p1⟩,hm,nq,rfl⟩:=hrel;have HQ:=aI hq;clear hq;have ew:=IntWalk.i64_in ((a:Int)+(j:Int)) ae
  have p64:part<9223372036854775808:=by
   have h1:(128:Int) ^ j<=128 ^ 9:=by
    have h2:(128:Nat) ^ j<=128 ^ 9:=Nat.pow_le_pow_right ae  ae
    exact_mod_cast h2
   omega
  by_cases hlt:a+j<bs.length
  ·obtain⟨gb,ob,rfl,hgb,e0⟩:=F1.o.at_ hlt
   have hdr:(bs.drop a).drop j=bs[a+j]::bs.drop (a+j+1):=by rw[List.drop_drop];exact List.drop_eq_getElem_cons hlt
   have HDR:=aI hdr;have hbx:=HB.o bs[a+j] (bf hlt);have ajt:((a:Int)+(j:Int)).toNat=a+j:=ae
   have aj0:(0:Int)<=(a:Int)+(j:Int):=ae
   have aj1:(a:Int)+(j:Int)<(bs.length:Int):=ae
   have dge:decide ((bs.length:Int)<=(a:Int)+(j:Int))=false:=decide_eq_false ae
   have hrl:(bs.drop (a+j+1)).length=bs.length - (a+j+1):=bu;have HRL:=aI hrl;clear hdr hrl;generalize bs.drop (a+j+1)=r at *;generalize bs[a+j]=x at *;have a7:=Zk x hbx.1 hbx.2
   go_wp2_with fail
   go_quiet (fail)
   go_wp2_with fail
   go_quiet (fail)
   clear ew ajt
   by_cases hx9:j=9/\1<x
   ·obtain⟨rfl,hx1⟩:=hx9
    have hN:Hid (dW (bs.drop a)=none):=aI (hm.o.bad HDR.o ae (.inl ⟨rfl,hx1⟩))
    have ce8:decide ((1:Int)<x)=true:=decide_eq_true hx1
    go_wp2_with fail
    go_ret2
    unfold nM;rw[hN.o];exact⟨21,rfl,.inr rfl,H.o,qC w _ g⟩
   ·have HX9:=aI hx9
    have hnot:(((j:Int) == 9) && decide ((1:Int)<x))=false:=by
     by_cases h9:j=9
     ·have:decide ((1:Int)<x)=false:=decide_eq_false (fun h=>hx9 ⟨h9,h⟩)
      rw[this];simp
     ·have:((j:Int) == 9)=false:=beq_eq_false_iff_ne.2 ae
      rw[this];rfl
    by_cases hx:127<x
    ·have hj9:j<9:=ae
     have j9:((j:Int) == 9)=false:=beq_eq_false_iff_ne.2 ae
     have hO:=Az part (x % 128) j ae p0 p1 ae  ae  ae
     have hM:=hm.o.more HDR.o hj9 hx;rw[show x - 128=x % 128 by omega] at hM
     have HO:=aI hO;have HM:=aI hM;have hps:Hid (0<=part+128 ^ j * (x % 128)/\part+128 ^ j * (x % 128)<128 ^ (j+1)):=by
      have h1:(0:Int)<128 ^ j:=Int.pow_pos ae
      have h2:(128:Int) ^ j * (x % 128)<=128 ^ j * 127:=Int.mul_le_mul_of_nonneg_left ae  ae
      have h3:0<=(128:Int) ^ j * (x % 128):=Int.mul_nonneg ae  ae
      exact aI ⟨by omega,by rw[Int.pow_succ];omega⟩
     clear hO hM hnot hx9
     go_wp2_with fail
     go_roundg (10 - (j+1))
     case measure=>have:=HQ.o;omega
     case rel=>exact⟨j+1,_,rfl,ae,ae,ai,by rw[HO.o],hps.o,HM,_,rfl⟩
    ·by_cases hz:x=0/\0<j
     ·have hN:Hid (dW (bs.drop a)=none):=aI (hm.o.bad HDR.o hj (.inr ⟨hx,hz.1,hz.2⟩))
      obtain⟨rfl,hj0⟩:=hz;have j0:decide ((0:Int)<(j:Int))=true:=decide_eq_true ae
      clear hnot hx9
      by_cases h9:j=9
      ·subst h9
       go_wp2_with fail
       go_ret2
       unfold nM;rw[hN.o];exact⟨21,rfl,.inr rfl,H.o,qC w _ g⟩
      ·have j9:((j:Int) == 9)=false:=beq_eq_false_iff_ne.2 ae
       go_wp2_with fail
       go_ret2
       unfold nM;rw[hN.o];exact⟨21,rfl,.inr rfl,H.o,qC w _ g⟩
     ·have hL:=hm.o.last HDR.o hj hx9 hx hz
      have hO:=Az part (x % 128) j ae p0 p1 ae  ae (by intro h9;omega)
      rw[show x % 128=x by omega] at hO
      have HL:=aI hL;have HO:=aI hO;have hm8:x % 128=x:=ae
      have PUT:∀(n:Nat) (q:Int),q=((a+j+1:Nat):Int)->Hid (dU ((w.drewN n).setCell ⟨g,1,none⟩ (.int .i64 q)) g bs (a+j+1)):=fun n q hq=>by
       subst hq;exact aI ((H.o.drewN n).put (a+j+1) ae)
      clear hnot hx9
      by_cases h9:j=9
      ·obtain rfl:x=1:=by have:=HX9.o;omega
       subst h9;have f1:decide ((1:Int)<1)=false:=af
       have O9:bits .or .u64 part 9223372036854775808=part+128 ^ 9 * 1:=by
        have h:=Az part 1 9 ae p0 p1 ae  ae  ae
        rwa [show IntKind.u64.wrap (1 * 2 ^ (7 * 9))=9223372036854775808 from by rw[fF];decide +kernel] at h
       have Zv:=aI O9;clear hO O9
       go_wp2_with fail
       go_ret2
       unfold nM;rw[HL.o];refine⟨by rw[<-Zv.o];rfl,?_,pF w _ g 1 _⟩
       simp only;rw[HRL.o,show bs.length - (bs.length - (a+9+1))=a+9+1 by omega]
       exact(PUT _ _ ae).o
      ·have j9:((j:Int) == 9)=false:=beq_eq_false_iff_ne.2 ae
       by_cases hx0:x=0
       ·obtain rfl:j=0:=ae
        subst hx0;have O0:bits .or .u64 part 0=part+128 ^ 0 * 0:=by
         have h:=Az part 0 0 ae p0 p1 ae  ae  ae
         rwa [show IntKind.u64.wrap (0 * 2 ^ (7 * 0))=0 from by rw[fF];decide +kernel] at h
        have HO0:=aI O0;clear hO O0
        go_wp2_with fail
        go_ret2
        unfold nM;rw[HL.o];refine⟨by rw[<-HO0.o];rfl,?_,pF w _ g 1 _⟩
        simp only;rw[HRL.o,show bs.length - (bs.length - (a+0+1))=a+0+1 by omega]
        exact(PUT _ _ ae).o
       ·have x0:(x == 0)=false:=beq_eq_false_iff_ne.2 hx0
        clear hx0
        go_wp2_with fail
        go_ret2
        unfold nM;rw[HL.o];refine⟨rfl,?_,pF w _ g 1 _⟩
        simp only;rw[HRL.o,show bs.length - (bs.length - (a+j+1))=a+j+1 by omega]
        exact(PUT _ _ ae).o
  ·have hdr:(bs.drop a).drop j=[]:=by rw[List.drop_drop];exact List.drop_eq_nil_of_le ae
   have hN:Hid (dW (bs.drop a)=none):=aI (hm.o.none_ hdr hj);have dge:decide ((bs.length:Int)<=(a:Int)+(j:Int))=true:=decide_eq_true ae
   go_wp2_with fail
   go_quiet (fail)
   clear ew
   go_wp2_with fail
   go_ret2
   unfold nM;rw[hN.o];exact⟨20,rfl,.inl rfl,H.o,(qC w _ g).drewN _⟩
theorem nM.first{w1:World}{f:Int->Int}{e:Ending}{w':World}(hb:Below w.heap.size w w1)(h:nM w1 g bs a f e w'):nM w g bs a f e w':=by
 have ht:∀{x:World},Touch (fun k=>k=g) w1 x->Touch (fun k=>k=g) w x:=fun t=>(Touch.of_below hb (aS _)).trans t (fun i hi=>.inl hi)
 unfold nM at *
 cases hu:dW (bs.drop a) with
 | none=>rw[hu] at h;obtain⟨er,h1,h2,h3,h4⟩:=h;exact⟨er,h1,h2,h3,ht h4⟩
 | some p=>rw[hu] at h;obtain⟨h1,h2,h3⟩:=h;exact⟨h1,h2,ht h3⟩
theorem Zw(g:Nat)(s:Int)(bs:List Int)(a:Nat)(w:World)(h:dU w g bs a)(hb:iD bs)(hlen:bs.length<=1000000000000) :
 aH 374 #[.pointer (some ⟨g,0,none⟩),.int .i64 s] w (nM w g bs a (fun n=>ub (lC n))):=by
 have C1:=Nw g s bs a w h hb hlen;unfold nM at *
 cases hu:dW (bs.drop a) with
 | none=>
  simp only[hu] at C1 |-;have C2:=aI C1;have CU:=fun w=>aI (xQ 0 w ae  ae)
  have E0:Hid (ub (lC 0)=0):=aI af
  have U0:Hid (lC 0=0):=aI af
  rw[E0.o];rw[U0.o] at CU;clear C1 hu h hb
  go_enter func374,ntmps374
  go_wp2_with fail;refine(C2.o).mono ?_
  rintro e w1 ⟨er,rfl,h2,h3,h4⟩;simp only[id]
  go_wp2_with fail;refine((CU w1).o).mono ?_
  rintro e w' ⟨rfl,rfl⟩
  go_wp2_with fail
  go_ret2
  exact⟨er,rfl,h2,h3,h4⟩
 | some p=>
  have pb:=gY (hb.drop a) hu;obtain⟨z,r⟩:=p;simp only[hu] at C1 pb |-;have C2:=aI C1;have CU:=fun w=>aI (xQ z w pb.1 pb.2)
  have EU:Hid (IntKind.u64.wrap (lC z)=ub (lC z)):=aI (fF _);have ub0:=xK pb.1 pb.2;rw[<-EU.o];clear C1 hu h hb EU
  go_enter func374,ntmps374
  go_wp2_with fail;refine(C2.o).mono ?_
  rintro e w1 ⟨rfl,h3,h4⟩;simp only[id];have H3:=aI h3;have H4:=aI h4;clear h3 h4
  go_wp2_with fail;refine((CU w1).o).mono ?_
  rintro e w' ⟨rfl,rfl⟩
  go_wp2_with fail
  go_ret2
  exact⟨rfl,H3.o,H4.o⟩
theorem Ja(k K:Nat)(c:Int)(f:Int->Int)(g:Nat)(bs:List Int)(a:Nat)(w:World)(h:dU w g bs a)(hv:VZ k c)(hK:Aq k=K)
 (eg:∀args w,(callFunc K args).run prog w=.ok (.enter K args) w)
 (hf:∀w,dU w g bs a->Calls prog K #[.pointer (some ⟨g,0,none⟩),.int .i64 0] w (nM w g bs a f)) :
 aH 267 #[.pointer (some ⟨g,0,none⟩),.int .u8 c] w (nM w g bs a f):=by
 have H:=aI h;have HF:=aI hf;have FO:Hid (aH 236 #[.int .u8 c] w fun e w'=>e=.returned (.tuple #[.agg #[.int .u8 c,.int .i64 0,.func (.func (sF k)) #[] #[],.func (.func K) #[] #[]],.bool true])/\Below w.heap.size w w'):=by
  rw[<-hK];exact aI (jS k c w hv)
 clear h hf hK hv
 go_enter func267,ntmps267
 go_wp2_with fail;refine(FO.o).mono ?_
 rintro e w1 ⟨rfl,hb1⟩;have hz1:=hb1.size;have hb2:∀cs,Below w.heap.size w (w1.alloc (.cells cs 329)):=fun cs=>bw
 go_wp2_with (go_at_fn K;refine(HF.o _ (H.o.keep (hb2 _))).mono ?_)
 rintro e w2 hg;have HG:=aI (nM.first (hb2 _) hg);unfold nM at hg
 cases hu:dW (bs.drop a) with
 | none=>
  rw[hu] at hg;obtain⟨er,rfl,h2,h3,h4⟩:=hg;clear hu h2 h3 h4
  go_wp2_with fail
  go_ret2
  exact HG.o
 | some p=>
  rw[hu] at hg;obtain⟨rfl,h3,h4⟩:=hg;clear hu h3 h4
  go_wp2_with fail
  go_ret2
  exact HG.o
theorem sJ(g:Nat)(bs:List Int)(a:Nat)(w:World)(h:dU w g bs a)(hb:iD bs)(hlen:bs.length<=1000000000000) :
 aH 267 #[.pointer (some ⟨g,0,none⟩),.int .u8 118] w (nM w g bs a id):=
 Ja 7 372 118 id g bs a w h Wq rfl (fun _ _=>rfl) (fun w h=>Nw g 0 bs a w h hb hlen)
theorem xR(g:Nat)(bs:List Int)(a:Nat)(w:World)(h:dU w g bs a)(hb:iD bs)(hlen:bs.length<=1000000000000) :
 aH 267 #[.pointer (some ⟨g,0,none⟩),.int .u8 122] w (nM w g bs a (fun n=>ub (lC n))):=
 Ja 8 374 122 _ g bs a w h bk5 rfl (fun _ _=>rfl) (fun w h=>Zw g 0 bs a w h hb hlen)
theorem suf{m:Nat}(h:r=bs.drop m):bs.drop (bs.length - r.length)=r:=by
 subst h;rw[bu]
 rcases Nat.le_total m bs.length with h|h
 ·rw[show bs.length - (bs.length - m)=m by omega]
 ·rw[show bs.length - (bs.length - m)=bs.length by omega,List.drop_eq_nil_of_le (aS _),List.drop_eq_nil_of_le h]
theorem f_{z:Int}(h:dW (bs.drop a)=some (z,r)):bs.drop (bs.length - r.length)=r:=by
 obtain⟨_,j,hj⟩:=lD h;exact suf (m:=a+j) (by rw[<-List.drop_drop];exact hj)
theorem tt{a b:World}(t1:Touch (fun k=>k=g) w a)(t2:Touch (fun k=>k=g) a b):Touch (fun k=>k=g) w b:=t1.trans t2 (fun _i hi=>.inl hi)
theorem QX{m:List Int}(hl:l.length=m.length)(h:∀i (h1:i<l.length) (h2:i<m.length),l[i]=m[i]):l=m:=List.ext_getElem hl fun i h1 h2=>h i h1 h2
theorem lF(u v:Value)(l m:List Int)(w:World)(hu:iY .u8 w u l)(hv:iY .u8 w v m)(hl:l.length<=1000000000000)(hm:m.length<=1000000000000) :
 aH 133 #[u,v] w (aG w (.bool (decide (l=m)))):=by
 obtain⟨A,ca,rfl,_,_,fa⟩:=hu.form;obtain⟨B,cb,rfl,_,_,fb⟩:=hv.form;have FA:=aI fa;have FB:=aI fb;clear hu hv fa fb
 by_cases hlm:l.length=m.length
 ·have d0:((l.length:Int) != (m.length:Int))=false:=by rw[hlm];simp
  have HLM:=aI hlm;clear hlm
  go_enter func133,ntmps133
  go_wp2_with fail
  go_loopg [13] l.length (fun q i wr=>∃j:Nat,q=l.length - j/\j<=l.length/\i=.int .i64 j/\Hid (∀i (h1:i<l.length) (h2:i<m.length),i<j->l[i]=m[i])/\∃n,wr=w.drewN n)
  case atStart=>exact⟨0,rfl,ae,rfl,aI (fun i h1 h2 h3=>absurd h3 ae),0,rfl⟩
  case round=>
   obtain⟨j,hq,hj,rfl,he,n,rfl⟩:=hrel;have HQ:=aI hq;clear hq
   by_cases hlt:j<l.length
   ·have hlt2:j<m.length:=by have:=HLM.o;omega
    obtain⟨g1,o1,rfl,_,e1⟩:=FA.o.at_ hlt;obtain⟨g2,o2,rfl,_,e2⟩:=FB.o.at_ hlt2;have j1:(j:Int)<(l.length:Int):=ae
    have j2:(j:Int)<(m.length:Int):=ae
    by_cases hx:l[j]=m[j]
    ·have HN:Hid (∀i (h1:i<l.length) (h2:i<m.length),i<j+1->l[i]=m[i]):=aI (fun i h1 h2 h3=>by
      rcases bV i j with h|h
      ·exact he.o i h1 h2 h
      ·obtain rfl:i=j:=ae
       exact hx)
     rw[<-hx] at e2;have dx:(l[j] != l[j])=false:=ag
     generalize l[j]=x at *;clear hx
     go_wp2_with fail
     go_quiet (fail)
     go_wp2_with fail
     go_roundg (l.length - (j+1))
     case measure=>have:=HQ.o;omega
     case rel=>exact⟨j+1,rfl,ae,ai,HN,_,rfl⟩
    ·have HD:Hid (decide (l=m)=false):=aI (decide_eq_false (fun h=>hx (by subst h;rfl)))
     have dx:(l[j] != m[j])=true:=by simpa using hx
     generalize l[j]=x at *;generalize m[j]=y at *;clear hx
     go_wp2_with fail
     go_quiet (fail)
     go_wp2_with fail
     go_ret;exact⟨uJ HD.o.symm,bw⟩
   ·have HD:Hid (decide (l=m)=true):=aI (decide_eq_true (QX HLM.o (fun i h1 h2=>he.o i h1 h2 ae)))
    go_wp2_with fail
    go_ret;exact⟨uJ HD.o.symm,bw⟩
 ·have d0:((l.length:Int) != (m.length:Int))=true:=ah
  have HD:Hid (decide (l=m)=false):=aI (decide_eq_false (fun h=>hlm (by rw[h])))
  clear hlm
  go_enter func133,ntmps133
  go_wp2_with fail
  go_ret;exact⟨uJ HD.o.symm,bw⟩
end
end Go.Proofs.YtilcnjbpmoijmaaGreat
