/- Parts of a proof: what its theorem reaches, words cut short. No condition of its own. -/
import Derived.Test.YtingnldfpokckaaGreatPm06
import Derived.Test.YtingnldfpokckaaGreatPm07
import Derived.Defers
import Derived.Recover
set_option maxRecDepth 100000
set_option maxHeartbeats 16000000
set_option linter.unusedVariables false
set_option linter.unusedSimpArgs false
namespace Go.Proofs.YtingnldfpokckaaGreat
section
open Go.RowKit Go.Lib
theorem xor0_u(a:Int)(h0:0<=a)(h1:a<18446744073709551616):bits .xor .u64 a 0=a:=by
 show IntKind.u64.wrap ((BitVec.ofInt 64 a ^^^ BitVec.ofInt 64 0).toNat:Int)=_
 rw[show BitVec.ofInt 64 0=0#64 from rfl,BitVec.xor_zero,BitVec.toNat_ofInt,u64w]
 omega
theorem xor1_u(a:Int)(h0:0<=a)(h1:a<18446744073709551616):bits .xor .u64 a 18446744073709551615=18446744073709551615 - a:=by
 show IntKind.u64.wrap ((BitVec.ofInt 64 a ^^^ BitVec.ofInt 64 18446744073709551615).toNat:Int)=_
 rw[show BitVec.ofInt 64 18446744073709551615=BitVec.allOnes 64 from by decide,BitVec.xor_allOnes,BitVec.toNat_not,BitVec.toNat_ofInt,u64w]
 omega
theorem xor0_i(a:Int)(h0:0<=a)(h1:a<9223372036854775808):bits .xor .i64 a 0=a:=by
 show IntKind.i64.wrap ((BitVec.ofInt 64 a ^^^ BitVec.ofInt 64 0).toNat:Int)=_
 rw[show BitVec.ofInt 64 0=0#64 from rfl,BitVec.xor_zero,BitVec.toNat_ofInt]
 simp only[IntKind.wrap_i64]
 omega
theorem xor1_i(a:Int)(h0:0<=a)(h1:a<9223372036854775808):bits .xor .i64 a (-1)=-a - 1:=by
 show IntKind.i64.wrap ((BitVec.ofInt 64 a ^^^ BitVec.ofInt 64 (-1)).toNat:Int)=_
 rw[show BitVec.ofInt 64 (-1)=BitVec.allOnes 64 from by decide,BitVec.xor_allOnes,BitVec.toNat_not,BitVec.toNat_ofInt]
 have e:((2 ^ 64 - 1 - (a % ((2 ^ 64:Nat):Int)).toNat:Nat):Int)=-a - 1+18446744073709551616:=by omega
 rw[e]
 simp only[IntKind.wrap_i64]
 omega
theorem and1_u(n:Int)(h0:0<=n)(h1:n<18446744073709551616):bits .and .u64 n 1=n % 2:=by
 obtain⟨m,rfl⟩:=Int.eq_ofNat_of_zero_le h0
 have h:=bits_and_u64_nat m 1 (by omega) (by omega)
 rw[Nat.and_one_is_mod] at h
 have e:((1:Nat):Int)=1:=rfl
 rw[e] at h
 rw[h]
 omega
theorem sign_any(v:Int)(w:World)(h0:-9223372036854775808<=v)(h1:v<=9223372036854775807) :
 Calls Tryz.prog 408 #[.int .i64 v] w fun e w'=>e=.returned (.int .u64 (sgn v))/\w=w':=by
 go_enter Tryz.func408,Tryz.ntmps408
 go_wp2
 go_ret
 refine⟨ret_int ?_,rfl⟩
 unfold sgn
 by_cases h:0<=v
 ·rw[if_pos h,show IntKind.u64.wrap (v / 9223372036854775808)=0 by rw[u64w];omega,show IntKind.u64.wrap (IntKind.u64.wrap v * 2)=2 * v by simp only[u64w];omega]
  exact xor0_u _ (by omega) (by omega)
 ·rw[if_neg h,show IntKind.u64.wrap (v / 9223372036854775808)=18446744073709551615 by rw[u64w];omega,show IntKind.u64.wrap (IntKind.u64.wrap v * 2)=18446744073709551616+2 * v by simp only[u64w];omega]
  rw[xor1_u _ (by omega) (by omega)]
  omega
theorem unsign_any(n:Int)(w:World)(h0:0<=n)(h1:n<18446744073709551616) :
 Calls Tryz.prog 409 #[.int .u64 n] w fun e w'=>e=.returned (.int .i64 (uns n))/\w=w':=by
 go_enter Tryz.func409,Tryz.ntmps409
 go_wp2
 go_ret
 refine⟨ret_int ?_,rfl⟩
 unfold uns
 rw[and1_u n h0 h1]
 by_cases h:n % 2=0
 ·rw[if_pos h,h,show wrap64 (-wrap64 0)=0 by simp[wrap64]]
  exact xor0_i _ (by omega) (by omega)
 ·rw[if_neg h,show n % 2=1 by omega,show wrap64 (-wrap64 1)=-1 by simp[wrap64]]
  exact xor1_i _ (by omega) (by omega)
theorem ub_bd(v:Int):0<=ub v/\ub v<18446744073709551616:=by unfold ub;omega
theorem wrap_ub{v:Int}(h0:-9223372036854775808<=v)(h1:v<=9223372036854775807):wrap64 (ub v)=v:=by unfold ub wrap64;omega
theorem wzig_any(g base:Nat)(v s:Int)(bs:List Int)(w:World)(h:Wr 291 base w g bs)(h0:-9223372036854775808<=v)(h1:v<=9223372036854775807)(hl:bs.length<=1000000000000) :
 Calls Tryz.prog 358 #[.pointer (some ⟨g,0,none⟩),.int .u64 (ub v),.int .i64 s] w fun e w'=>e=.returned (.tuple #[])/\Wr 291 base w' g (bs++zg v)/\Below base w w':=by
 have HW:=Lib.hid h
 have ew:=wrap_ub h0 h1
 have sb:=sgn_bd h0 h1
 have ub0:=ub_bd v
 have CL:=Lib.hid (wleb_any g base (sgn v) s bs w h sb.1 sb.2 hl)
 have CS:=Lib.hid (sign_any v w h0 h1)
 clear h
 have HZ:Hid (zg v=leb (sgn v)):=Lib.hid rfl
 generalize sgn v=z at *
 generalize ub v=u at *
 go_enter Tryz.func358,Tryz.ntmps358
 go_wp2_with (first|(go_at_call 408;refine(CS.out).mono ?_;rintro e w' ⟨rfl,rfl⟩)|(go_at_call 356;refine(CL.out).mono ?_;rintro e w' ⟨rfl,k1,k2⟩))
 refine bodyPost_end (v:=.tuple #[]) (by simp[results,Tryz.results358,go_sem, *];try rfl) rfl ?_
 exact⟨rfl,by rw[HZ.out];exact k1,k2⟩
theorem Wr.new(t:TypeId)(w:World)(base:Nat)(hb:base<=w.heap.size):Wr t base (w.alloc (.cells #[.slice none 0 0] t)) w.heap.size []:=
 ⟨hb,_,Blk.new _ _ _,OwnI.nil_ _ _ _ _⟩
theorem wput_any(k K:Nat)(c:UInt8)(n:Int)(out:List Int)(v:Value)(w:World)(h:VZ k (c.toNat:Int))(hr:RdI .u64 w v [n])(_n0:0<=n)(_n1:n<18446744073709551616)(hK:fPut k=K)
 (eg:∀args w,(callFunc K args).run Tryz.prog w=.ok (.enter K args) w)
 (hf:∀(g base:Nat) (w:World),Wr 291 base w g []->Calls Tryz.prog K #[.pointer (some ⟨g,0,none⟩),.int .u64 n,.int .i64 0] w fun e w'=>e=.returned (.tuple #[])/\Wr 291 base w' g out/\Below base w w') :
 Calls Tryz.prog 113 #[.string ⟨#[c]⟩,v] w fun e w'=>∃v,e=.returned (.tuple #[v,.int .i64 0])/\OwnB w.heap.size w' v out/\Below w.heap.size w w':=by
 obtain⟨A,cn,rfl,hn,hc,hp⟩:=hr.form
 obtain⟨gn,on,rfl,hgn,hcn⟩:=hp.at_ (j:=0) (by simp)
 simp only[List.length_singleton,List.getElem_cons_zero,Nat.add_zero] at hn hcn |-
 have CN:=Lib.hid hcn
 have H:=Lib.hid h
 have HF:=Lib.hid hf
 clear hr hp hcn h hf
 have FO:Hid (∀w,Calls Tryz.prog 200 #[.int .u8 (c.toNat:Int)] w fun e w'=>e=.returned (.tuple #[.agg #[.int .u8 (c.toNat:Int),.int .i64 0,.func (.func K) #[] #[],.func (.func (fGet k)) #[] #[]],.bool true])/\Below w.heap.size w w'):=fun w=>by
  rw[<-hK];exact formOf_any k (c.toNat:Int) w H.out
 clear hK
 go_enter Tryz.func113,Tryz.ntmps113
 go_wp2_with fail
 refine(wright_any k c w H.out).mono ?_
 rintro e w1 ⟨rfl,hb1⟩
 have hz1:=hb1.size
 go_wp2_with fail
 obtain⟨g,hg⟩:∃g,w1.heap.size=g:=⟨_,rfl⟩
 have W0:=Lib.hid (Wr.new 291 w1 w.heap.size hz1)
 have hb2:Below w.heap.size w (w1.alloc (.cells #[.slice none 0 0] 291)):=by(repeat' (first|(with_reducible exact Below.refl _ _)|(with_reducible refine Below.alloc ?_ ?_ _)|(with_reducible refine Below.drew ?_)|(with_reducible refine below_drewN ?_ _)|(with_reducible refine Below.setCell ?_ ?_ _)|(with_reducible refine below_of (by assumption) ?_ ?_)|go_size))
 rw[hg] at W0 |-
 generalize w1.alloc (.cells #[.slice none 0 0] 291)=w2 at *
 clear hg
 go_loopg [25] 1 (fun q i wr=>∃j:Nat,q=1 - j/\j<=1/\i=.int .i64 j/\Hid (Wr 291 w.heap.size wr g (if j=0 then [] else out))/\Below w.heap.size w wr)
 case atStart=>exact⟨0,rfl,by omega,rfl,W0,hb2⟩
 case round=>
  obtain⟨j,hq,hj,rfl,hw,hb⟩:=hrel
  have HQ:=Lib.hid hq
  have hz:=hb.size
  clear hq
  by_cases hlt:j<1
  ·obtain rfl:j=0:=by omega
   have cn':=(hb.cell (p:=⟨gn,on,none⟩) hgn).trans CN.out
   go_wp2_with (first
    | (go_at_call 200;refine(FO.out _).mono ?_;rintro e w3 ⟨rfl,hb3⟩;have hz3:=hb3.size)
    | (go_at_fn K;refine((HF.out g w.heap.size _ ((hw.out.keep hb3).keep ((Below.refl _ _).alloc (Nat.le_refl _) _))).mono ?_);rintro e w4 ⟨rfl,k1,k2⟩;have hz4:=k2.size;have K1:=Lib.hid k1;clear k1))
   go_roundg 0
   case measure=>have:=HQ.out;omega
   case rel=>exact⟨1,rfl,by omega,by go_num,K1,by(repeat' (first|(with_reducible exact Below.refl _ _)|(with_reducible refine Below.alloc ?_ ?_ _)|(with_reducible refine Below.drew ?_)|(with_reducible refine below_drewN ?_ _)|(with_reducible refine Below.setCell ?_ ?_ _)|(with_reducible refine below_of (by assumption) ?_ ?_)|go_size))⟩
  ·have hj1:j=1:=by omega
   subst hj1
   obtain⟨hbg,v,hB,hO⟩:=hw.out
   have c0:=hB.cell 0
   simp only[List.getElem?_toArray,List.getElem?_cons_zero] at c0
   rw[if_neg (by omega)] at hO
   have HO:=Lib.hid hO
   clear hB hO
   go_wp2_with fail
   go_ret2
   exact⟨v,rfl,HO.out,hb⟩
theorem putv_any(n:Int)(v:Value)(w:World)(hr:RdI .u64 w v [n])(n0:0<=n)(n1:n<18446744073709551616) :
 Calls Tryz.prog 113 #[.string ⟨#[118]⟩,v] w fun e w'=>∃v,e=.returned (.tuple #[v,.int .i64 0])/\OwnB w.heap.size w' v (leb n)/\Below w.heap.size w w':=
 wput_any 7 356 118 n (leb n) v w vz_v hr n0 n1 rfl (fun _ _=>rfl) (fun g base w h=>wleb_any g base n 0 [] w h n0 n1 (by simp))
theorem putz_any(x:Int)(v:Value)(w:World)(hr:RdI .u64 w v [ub x])(h0:-9223372036854775808<=x)(h1:x<=9223372036854775807) :
 Calls Tryz.prog 113 #[.string ⟨#[122]⟩,v] w fun e w'=>∃v,e=.returned (.tuple #[v,.int .i64 0])/\OwnB w.heap.size w' v (zg x)/\Below w.heap.size w w':=
 wput_any 8 358 122 (ub x) (zg x) v w vz_z hr (ub_bd x).1 (ub_bd x).2 rfl (fun _ _=>rfl) (fun g base w h=>wzig_any g base x 0 [] w h h0 h1 (by simp))
theorem Touch.cell{F:Nat->Prop}{w w':World}(h:Touch F w w'){k o:Nat}(hk:k<w.heap.size)(hF:¬F k):w'.cell? ⟨k,o,none⟩=w.cell? ⟨k,o,none⟩:=
 World.cell?_of_block (a:=⟨k,o,none⟩) (h.block k hk hF)
theorem fixed_any(c:Int)(w:World)(h:c=118\/c=122) :
 Calls Tryz.prog 241 #[.int .u8 c] w fun e w'=>e=.returned (.tuple #[.int .i64 0,.bool false])/\w=w':=by
 rcases h with rfl|rfl
 all_goals
  go_enter Tryz.func241,Tryz.ntmps241
  go_wp2
  go_ret2
  exact⟨rfl,rfl⟩
theorem rsign_any(x:Int)(w:World)(h0:-9223372036854775808<=x)(h1:x<=9223372036854775807) :
 Calls Tryz.prog 242 #[.int .u64 (ub x)] w fun e w'=>e=.returned (.int .u64 (sgn x))/\w=w':=by
 have hu:=ub_bd x
 have hs:Hid (sgn x=if ub x<9223372036854775808 then 2 * ub x else 2 * (18446744073709551615 - ub x)+1):=by show _=_;unfold sgn ub;(repeat' split)<;>omega
 generalize ub x=u at *
 by_cases h:u<9223372036854775808
 ·rw[if_pos h] at hs
  go_enter Tryz.func242,Tryz.ntmps242
  go_wp2
  go_ret
  exact⟨ret_int hs.out.symm,rfl⟩
 ·rw[if_neg h] at hs
  go_enter Tryz.func242,Tryz.ntmps242
  go_wp2
  go_ret
  exact⟨ret_int (by rw[hs.out]),rfl⟩
theorem rone_any(c n x:Int)(w:World)(hc:(c=118/\x=n/\0<=n/\n<18446744073709551616)\/(c=122/\n=ub x/\-9223372036854775808<=x/\x<=9223372036854775807)) :
 Calls Tryz.prog 151 #[.int .u8 c,.int .u64 n] w fun e w'=>∃v,e=.returned (.tuple #[v,.bool true])/\OwnB w.heap.size w' v (if c=118 then leb x else zg x)/\Below w.heap.size w w':=by
 obtain⟨m,hm,hm0,hm1,hE⟩:∃m,(if c=118 then x else sgn x)=m/\0<=m/\m<18446744073709551616/\(if c=118 then leb x else zg x)=leb m:=by
  rcases hc with⟨rfl,rfl,h0,h1⟩|⟨rfl,rfl,h0,h1⟩
  ·exact⟨_,rfl,by simpa using h0,by simpa using h1,by simp⟩
  ·have:=sgn_bd h0 h1
   exact⟨_,rfl,by simpa using this.1,by simpa using this.2,by simp[zg]⟩
 rw[hE]
 clear hE
 have FX:=fun w=>Lib.hid (fixed_any c w (by rcases hc with h|h;exact .inl h.1;exact .inr h.1))
 have c110:(c == 110)=false:=by rcases hc with h|h<;>simp[h.1]
 rcases hc with⟨rfl,rfl,h0,h1⟩|⟨rfl,rfl,h0,h1⟩
 all_goals
  try simp only[if_true] at hm
  try (have SG:=Lib.hid (rsign_any x w h0 h1))
  try simp only[show((122:Int)=118)=False by simp,if_false] at hm
  first|(have hm':m=x:=hm.symm;subst hm')|subst hm
  try (generalize sgn x=m at *)
  try (generalize ub x=n at *)
  clear c110
  go_enter Tryz.func151,Tryz.ntmps151
  go_wp2_with (first|(go_at_call 241;refine((FX _).out).mono ?_;rintro e w' ⟨rfl,rfl⟩)|(go_at_call 242;refine(SG.out).mono ?_;rintro e w' ⟨rfl,rfl⟩))
  go_loopg [8,11] 9 (fun k b v wr=>∃(q:Int) (acc:List Int),k<=9/\v=.int .u64 q/\0<=q/\q<2 * 128 ^ k/\acc.length<=9 - k/\Hid (acc++lebF k q=leb m)/\OwnB w.heap.size wr b acc/\Below w.heap.size w wr)
  case atStart=>exact⟨m,[],by omega,rfl,hm0,by omega,by simp,Lib.hid rfl,OwnI.nil_ _ _ _ _,Below.refl _ _⟩
  case round=>
   obtain⟨q,acc,hk,rfl,q0,q1,ha,he,hO,hb⟩:=hrel
   have HO:=Lib.hid hO
   have hz:=hb.size
   have hlen:acc.length+1<=1099511627776:=by omega
   obtain⟨A8,k8,hv8,_,_,_⟩:=(OwnI.rd hO).form
   clear hO
   by_cases hq:127<q
   ·obtain⟨r,rfl⟩:∃r,gk=r+1:=by
     rcases Nat.eq_zero_or_pos gk with h0|h0
     ·subst h0;simp at q1;omega
     ·exact⟨gk - 1,by omega⟩
    have hm64:q<18446744073709551616:=by
     have h1:(2:Int) * 128 ^ (r+1)<=2 * 128 ^ 9:=by
      have:(128:Int) ^ (r+1)<=128 ^ 9:=by
       have h2:(128:Nat) ^ (r+1)<=128 ^ 9:=Nat.pow_le_pow_right (by omega) (by omega)
       exact_mod_cast h2
      omega
     omega
    have hE:=Lib.hid (lebF_more r q hq)
    have hd:q / 128<2 * 128 ^ r:=Int.ediv_lt_of_lt_mul (by omega) (by rw[Int.mul_assoc,<-Int.pow_succ];exact q1)
    have HCM:=Lib.hid (show q % 128+128=128+q % 128 by omega)
    clear hv8
    go_wp2_with (first
     | (at_builtin
        go_must (refine append_B rfl (.tmp 60) (.tmp 65) rfl w.heap.size u8 acc rfl (OwnI.alloc HO.out _) _ [128+q % 128] rfl (RdI.one_at _ _ _ _ _ rfl) hlen (by simp only[World.size_alloc];omega) ?_)
        intro v1 w1 o1 g1 a1
        have hb1:Below w.heap.size w w1:=(hb.alloc (by omega) _).grown g1 (by simp only[World.size_alloc];omega) (fun k hk=>(OwnI.lt HO.out k hk).1)
        have O1:=Lib.hid o1
        clear o1 g1 a1))
    go_roundg r
    case measure=>omega
    case rel=>exact⟨q / 128,acc++[128+q % 128],by omega,rfl,by omega,hd,by simp;omega,Lib.hid (by rw[List.append_assoc,<-he.out,hE.out,HCM.out];rfl),O1.out,hb1⟩
   ·have hE:=Lib.hid (lebF_last gk q hq)
    have hq8:q % 256=q:=by omega
    clear hv8
    go_wp2_with (first
     | (at_builtin
        go_must (refine append_B rfl (.tmp 69) (.tmp 72) rfl w.heap.size u8 acc rfl (OwnI.alloc HO.out _) _ [q] rfl (RdI.one_at _ _ _ _ _ rfl) hlen (by simp only[World.size_alloc];omega) ?_)
        intro v1 w1 o1 g1 a1
        have hb1:Below w.heap.size w w1:=(hb.alloc (by omega) _).grown g1 (by simp only[World.size_alloc];omega) (fun k hk=>(OwnI.lt HO.out k hk).1)
        have O1:=Lib.hid o1
        clear o1 g1 a1))
    go_ret2
    exact⟨v1,rfl,by rw[<-he.out,hE.out];exact O1.out,hb1⟩
end
section
open Go.RowKit Go.Lib
theorem clone_B(v:Value)(l:List Int)(w:World)(h:RdI .u8 w v l)(hlen:l.length<=1000000000000) :
 Calls Tryz.prog 111 #[v] w fun e w'=>∃v',e=.returned v'/\OwnB w.heap.size w' v' l/\Below w.heap.size w w':=by
 obtain⟨A,c,rfl,hn,hc,hp⟩:=h.form
 have HR:=Lib.hid h
 clear h
 by_cases hnil:A=none
 ·subst hnil
  have h0:l=[]:=by
   rcases Nat.eq_zero_or_pos l.length with h0|h0
   ·exact List.eq_nil_of_length_eq_zero h0
   ·obtain⟨g,off,e,_⟩:=hp h0;cases e
  subst h0
  clear hp
  have he:(binOp .eql 44 (.slice none 0 c) (.slice none 0 0)).run Tryz.prog w=.ok (.bool true) w:=Lib.run_eql_slice_nil w _ _ _ _ _ _ _ Tryz.underlying44
  go_enter Tryz.func111,Tryz.ntmps111
  go_wp2_with fail
  go_ret
  exact⟨_,rfl,OwnI.nil_ _ _ _ _,by(repeat' (first|(with_reducible exact Below.refl _ _)|(with_reducible refine Below.alloc ?_ ?_ _)|(with_reducible refine Below.drew ?_)|(with_reducible refine below_drewN ?_ _)|(with_reducible refine Below.setCell ?_ ?_ _)|(with_reducible refine below_of (by assumption) ?_ ?_)|go_size))⟩
 ·obtain⟨a,rfl⟩:∃a,A=some a:=by
   cases A with
   | none=>exact absurd rfl hnil
   | some a=>exact⟨a,rfl⟩
  clear hnil hp
  have O0:∀W:World,OwnB W.heap.size (W.alloc (.cells #[] 5)) (.slice (some ⟨W.heap.size,0,none⟩) 0 0) []:=fun W=>
   ⟨rfl,.inr ⟨W.heap.size,0,_,rfl,Nat.le_refl _,heap_alloc_new _ _,by simp,by unfold maxLen;omega,rfl,by simp⟩⟩
  have HO0:=Lib.hid O0
  clear O0
  have he:(binOp .eql 44 (.slice (some a) l.length c) (.slice none 0 0)).run Tryz.prog w=.ok (.bool false) w:=Lib.run_eql_slice_nil w _ _ _ _ _ _ _ Tryz.underlying44
  go_enter Tryz.func111,Tryz.ntmps111
  go_wp2_with (first
   | (at_builtin
      go_must (refine append_B rfl (.tmp 5) (.tmp 6) rfl w.heap.size _ [] rfl (HO0.out w) _ l rfl (Rd.alloc HR.out _) (by simp;omega) (by simp) ?_)
      intro v2 w2 o2 g2 a2
      have hb2:Below w.heap.size w w2:=((Below.refl _ _).alloc (Nat.le_refl _) _).grown g2 (by simp) (fun k hk=>(OwnI.lt (HO0.out w) k hk).1)
      have O2:=Lib.hid o2
      clear o2 g2 a2))
  go_ret
  exact⟨v2,rfl,O2.out,hb2⟩
def RdrAt(w:World)(g:Nat)(bs:List Int)(a:Nat):Prop:=∃v,Blk w g 371 #[v,.int .i64 a]/\OwnB 0 w v bs/\a<=bs.length
theorem RdrAt.lt{w:World}{g:Nat}{bs:List Int}{a:Nat}(h:RdrAt w g bs a):g<w.heap.size:=by
 obtain⟨v,h1,_⟩:=h;exact h1.lt
theorem RdrAt.keep{w w':World}{g:Nat}{bs:List Int}{a:Nat}(h:RdrAt w g bs a)(hb:Below w.heap.size w w'):RdrAt w' g bs a:=by
 obtain⟨v,h1,h2,h3⟩:=h
 exact⟨v,h1.keep hb,OwnI.keep h2 hb,h3⟩
theorem RdrAt.drewN{w:World}{g:Nat}{bs:List Int}{a:Nat}(h:RdrAt w g bs a)(n:Nat):RdrAt (w.drewN n) g bs a:=h
theorem RdrAt.put{w:World}{g:Nat}{bs:List Int}{a:Nat}(h:RdrAt w g bs a)(a':Nat)(ha:a'<=bs.length):RdrAt (w.setCell ⟨g,1,none⟩ (.int .i64 a')) g bs a':=by
 obtain⟨v,h1,h2,h3⟩:=h
 exact⟨v,h1.set_ 1 _,h2.far (fun e=>h1.notB h2 (by decide) e) _,ha⟩
theorem rnew_any(v:Value)(bs:List Int)(w:World)(h:RdI .u8 w v bs)(hlen:bs.length<=1000000000000) :
 Calls Tryz.prog 194 #[v] w fun e w'=>∃g,e=.returned (.pointer (some ⟨g,0,none⟩))/\w.heap.size<=g/\RdrAt w' g bs 0/\Below w.heap.size w w':=by
 have C1:=Lib.hid (clone_B v bs w h hlen)
 clear h
 go_enter Tryz.func194,Tryz.ntmps194
 go_wp2_with fail
 refine(C1.out).mono ?_
 rintro e w1 ⟨v1,rfl,o1,hb1⟩
 have O1:=Lib.hid o1
 have hz1:=hb1.size
 obtain⟨A1,c1,hv1,_,_,_⟩:=(OwnI.rd o1).form
 generalize bs.length=N at hv1
 subst hv1
 clear o1
 go_wp2_with fail
 go_ret
 refine⟨w1.heap.size,rfl,hz1,⟨_,Blk.new _ _ _,OwnI.lift (OwnI.alloc O1.out _) (fun _ _=>Nat.zero_le _),Nat.zero_le _⟩,by(repeat' (first|(with_reducible exact Below.refl _ _)|(with_reducible refine Below.alloc ?_ ?_ _)|(with_reducible refine Below.drew ?_)|(with_reducible refine below_drewN ?_ _)|(with_reducible refine Below.setCell ?_ ?_ _)|(with_reducible refine below_of (by assumption) ?_ ?_)|go_size))⟩
theorem rleft_any(g:Nat)(bs:List Int)(a:Nat)(w:World)(h:RdrAt w g bs a)(_hlen:bs.length<=1000000000000) :
 Calls Tryz.prog 224 #[.pointer (some ⟨g,0,none⟩)] w fun e w'=>e=.returned (.int .i64 ((bs.length:Int) - a))/\∃n,w'=w.drewN n:=by
 obtain⟨v,h1,h2,h3⟩:=h
 obtain⟨A1,k1,rfl,_,_,_⟩:=(OwnI.rd h2).form
 have c0:=h1.cell 0
 have c1:=h1.cell 1
 simp only[List.getElem?_toArray,List.getElem?_cons_succ,List.getElem?_cons_zero] at c0 c1
 have ew:IntKind.i64.wrap ((bs.length:Int) - a)=(bs.length:Int) - a:=IntWalk.i64_in _ (by omega)
 clear h1 h2
 go_enter Tryz.func224,Tryz.ntmps224
 go_wp2_with fail
 go_quiet (fail)
 clear ew
 go_wp2_with fail
 go_ret
 exact⟨rfl,_,rfl⟩
theorem orPart(part y:Int)(j:Nat)(hj:j<=9)(p0:0<=part)(p1:part<128 ^ j)(y0:0<=y)(y1:y<128)(y9:j=9->y<=1) :
 bits .or .u64 part (IntKind.u64.wrap (y * 2 ^ (7 * j)))=part+128 ^ j * y:=by
 obtain⟨a,rfl⟩:=Int.eq_ofNat_of_zero_le p0
 obtain⟨b,rfl⟩:=Int.eq_ofNat_of_zero_le y0
 have e1:(2:Nat) ^ (7 * j)=128 ^ j:=by rw[Nat.pow_mul]
 have hb:b * 2 ^ (7 * j)<18446744073709551616:=by
  rw[e1]
  by_cases h9:j=9
  ·subst h9;have:=y9 rfl;omega
  ·have h2:(128:Nat) ^ j<=128 ^ 8:=Nat.pow_le_pow_right (by omega) (by omega)
   have h3:b * 128 ^ j<=127 * 128 ^ 8:=Nat.mul_le_mul (by omega) h2
   omega
 have ha:a<2 ^ (7 * j):=by rw[e1];exact_mod_cast p1
 have ha64:a<18446744073709551616:=by
  have h2:(128:Nat) ^ j<=128 ^ 9:=Nat.pow_le_pow_right (by omega) (by omega)
  rw[e1] at ha
  omega
 have e2:((b:Int) * 2 ^ (7 * j))=((b * 2 ^ (7 * j):Nat):Int):=by simp
 rw[e2,show IntKind.u64.wrap ((b * 2 ^ (7 * j):Nat):Int)=((b * 2 ^ (7 * j):Nat):Int) from by rw[u64w];omega,bits_or_u64_nat a _ ha64 hb]
 have h:=Nat.two_pow_add_eq_or_of_lt ha b
 rw[Nat.or_comm,Nat.mul_comm b,<-h,e1]
 simp
 omega
def LebMid(l:List Int)(j:Nat)(part:Int):Prop:=unleb l=(unF (10 - j) (l.drop j)).map (fun p=>(part+128 ^ j * p.1,p.2))
theorem LebMid.start(l:List Int):LebMid l 0 0:=by
 unfold LebMid unleb
 cases h:unF 10 l with
 | none=>simp[h]
 | some p=>simp[h]
theorem LebMid.more{l:List Int}{j:Nat}{part x:Int}{r:List Int}(h:LebMid l j part)(hl:l.drop j=x::r)(hj:j<9)(hx:127<x):LebMid l (j+1) (part+128 ^ j * (x - 128)):=by
 unfold LebMid at *
 have e:l.drop (j+1)=r:=by
  have:=congrArg List.tail hl
  simpa[List.tail_drop] using this
 rw[h,hl,show 10 - j=(9 - j)+1 by omega,unF,if_neg (by omega),if_pos hx,e,show 10 - (j+1)=9 - j by omega]
 cases hu:unF (9 - j) r with
 | none=>simp
 | some p=>
  simp only[Option.map_some,Option.some.injEq,Prod.mk.injEq,and_true]
  rw[Int.pow_succ,Int.mul_add,Int.mul_assoc]
  omega
theorem LebMid.last{l:List Int}{j:Nat}{part x:Int}{r:List Int}(h:LebMid l j part)(hl:l.drop j=x::r)(hj:j<=9)(h1:¬(j=9/\1<x))(hx:¬127<x)(hz:¬(x=0/\0<j)):unleb l=some (part+128 ^ j * x,r):=by
 unfold LebMid at h
 rw[h,hl,show 10 - j=(9 - j)+1 by omega,unF,if_neg (by omega),if_neg hx,if_neg (by omega)]
 rfl
theorem LebMid.none_{l:List Int}{j:Nat}{part:Int}(h:LebMid l j part)(hl:l.drop j=[])(hj:j<=9):unleb l=none:=by
 unfold LebMid at h
 rw[h,hl,show 10 - j=(9 - j)+1 by omega]
 simp[unF]
theorem LebMid.bad{l:List Int}{j:Nat}{part x:Int}{r:List Int}(h:LebMid l j part)(hl:l.drop j=x::r)(hj:j<=9)(h1:(j=9/\1<x)\/(¬127<x/\x=0/\0<j)):unleb l=none:=by
 unfold LebMid at h
 rw[h,hl,show 10 - j=(9 - j)+1 by omega,unF]
 rcases h1 with h1|⟨h1,h2,h3⟩
 ·rw[if_pos (by omega)];rfl
 ·rw[if_neg (by omega),if_neg h1,if_pos (by omega)];rfl
theorem touch_at(w:World)(n g i:Nat)(v:Value):Touch (fun k=>k=g) w ((w.drewN n).setCell ⟨g,i,none⟩ v):=((Touch.refl (fun k=>k=g) w).drewN n).setCell (p:=⟨g,i,none⟩) (.inl rfl) v
theorem touch_drawn(w:World)(n g:Nat):Touch (fun k=>k=g) w (w.drewN n):=(Touch.refl (fun k=>k=g) w).drewN n
def NoNum(e:Int):Prop:=e=20\/e=21
def GotN(w:World)(g:Nat)(bs:List Int)(a:Nat)(f:Int->Int)(e:Ending)(w':World):Prop:=
 match unleb (bs.drop a) with
 | some p=>e=.returned (.tuple #[.int .u64 (f p.1),.int .i64 0])/\RdrAt w' g bs (bs.length - p.2.length)/\Touch (fun k=>k=g) w w'
 | none=>∃er,e=.returned (.tuple #[.int .u64 (f 0),.int .i64 er])/\NoNum er/\RdrAt w' g bs a/\Touch (fun k=>k=g) w w'
theorem rleb_any(g:Nat)(s:Int)(bs:List Int)(a:Nat)(w:World)(h:RdrAt w g bs a)(hb:byL bs)(hlen:bs.length<=1000000000000) :
 Calls Tryz.prog 357 #[.pointer (some ⟨g,0,none⟩),.int .i64 s] w (GotN w g bs a id):=by
 have H:=Lib.hid h
 obtain⟨v,h1,h2,h3⟩:=h
 obtain⟨A1,k1,rfl,_,m1,f1⟩:=(OwnI.rd h2).form
 have c0:=h1.cell 0
 have c1:=h1.cell 1
 have fz:=h1.frozen 1
 simp only[List.getElem?_toArray,List.getElem?_cons_succ,List.getElem?_cons_zero] at c0 c1
 have F1:=Lib.hid f1
 have HB:=Lib.hid hb
 clear h1 h2 f1 hb
 go_enter Tryz.func357,Tryz.ntmps357
 go_wp2_with fail
 go_loopg [6,7] 10 (fun q n i wr=>∃(j:Nat) (part:Int),q=10 - j/\j<=9/\a+j<=bs.length/\i=.int .i64 j/\n=.int .u64 part/\(0<=part/\part<128 ^ j)/\Hid (LebMid (bs.drop a) j part)/\∃nq,wr=w.drewN nq)
 case atStart=>exact⟨0,0,rfl,by omega,by omega,rfl,rfl,⟨by omega,by simp⟩,Lib.hid (LebMid.start _),0,rfl⟩
 case round=>
  obtain⟨j,part,hq,hj,haj,rfl,rfl,⟨p0,p1⟩,hm,nq,rfl⟩:=hrel
  have HQ:=Lib.hid hq
  clear hq
  have ew:=IntWalk.i64_in ((a:Int)+(j:Int)) (by omega)
  have p64:part<9223372036854775808:=by
   have h1:(128:Int) ^ j<=128 ^ 9:=by
    have h2:(128:Nat) ^ j<=128 ^ 9:=Nat.pow_le_pow_right (by omega) (by omega)
    exact_mod_cast h2
   omega
  by_cases hlt:a+j<bs.length
  ·obtain⟨gb,ob,rfl,hgb,e0⟩:=F1.out.at_ hlt
   have hdr:(bs.drop a).drop j=bs[a+j]::bs.drop (a+j+1):=by rw[List.drop_drop];exact List.drop_eq_getElem_cons hlt
   have HDR:=Lib.hid hdr
   have hbx:=HB.out bs[a+j] (List.getElem_mem hlt)
   have ajt:((a:Int)+(j:Int)).toNat=a+j:=by omega
   have aj0:(0:Int)<=(a:Int)+(j:Int):=by omega
   have aj1:(a:Int)+(j:Int)<(bs.length:Int):=by omega
   have dge:decide ((bs.length:Int)<=(a:Int)+(j:Int))=false:=decide_eq_false (by omega)
   have hrl:(bs.drop (a+j+1)).length=bs.length - (a+j+1):=List.length_drop
   have HRL:=Lib.hid hrl
   clear hdr hrl
   generalize bs.drop (a+j+1)=r at *
   generalize bs[a+j]=x at *
   have a7:=and127 x hbx.1 hbx.2
   go_wp2_with fail
   go_quiet (fail)
   go_wp2_with fail
   go_quiet (fail)
   clear ew ajt
   by_cases hx9:j=9/\1<x
   ·obtain⟨rfl,hx1⟩:=hx9
    have hN:Hid (unleb (bs.drop a)=none):=Lib.hid (hm.out.bad HDR.out (by omega) (.inl ⟨rfl,hx1⟩))
    have hx1':decide ((1:Int)<x)=true:=decide_eq_true hx1
    go_wp2_with fail
    go_ret2
    unfold GotN
    rw[hN.out]
    exact⟨21,rfl,.inr rfl,H.out,touch_drawn w _ g⟩
   ·have HX9:=Lib.hid hx9
    have hnot:(((j:Int) == 9) && decide ((1:Int)<x))=false:=by
     by_cases h9:j=9
     ·have:decide ((1:Int)<x)=false:=decide_eq_false (fun h=>hx9 ⟨h9,h⟩)
      rw[this];simp
     ·have:((j:Int) == 9)=false:=beq_eq_false_iff_ne.2 (by omega)
      rw[this];rfl
    by_cases hx:127<x
    ·have hj9:j<9:=by omega
     have j9:((j:Int) == 9)=false:=beq_eq_false_iff_ne.2 (by omega)
     have hO:=orPart part (x % 128) j (by omega) p0 p1 (by omega) (by omega) (by omega)
     have hM:=hm.out.more HDR.out hj9 hx
     rw[show x - 128=x % 128 by omega] at hM
     have HO:=Lib.hid hO
     have HM:=Lib.hid hM
     have hps:Hid (0<=part+128 ^ j * (x % 128)/\part+128 ^ j * (x % 128)<128 ^ (j+1)):=by
      have h1:(0:Int)<128 ^ j:=Int.pow_pos (by omega)
      have h2:(128:Int) ^ j * (x % 128)<=128 ^ j * 127:=Int.mul_le_mul_of_nonneg_left (by omega) (by omega)
      have h3:0<=(128:Int) ^ j * (x % 128):=Int.mul_nonneg (by omega) (by omega)
      exact Lib.hid ⟨by omega,by rw[Int.pow_succ];omega⟩
     clear hO hM hnot hx9
     go_wp2_with fail
     go_roundg (10 - (j+1))
     case measure=>have:=HQ.out;omega
     case rel=>exact⟨j+1,_,rfl,by omega,by omega,by go_num,by rw[HO.out],hps.out,HM,_,rfl⟩
    ·by_cases hz:x=0/\0<j
     ·have hN:Hid (unleb (bs.drop a)=none):=Lib.hid (hm.out.bad HDR.out hj (.inr ⟨hx,hz.1,hz.2⟩))
      obtain⟨rfl,hj0⟩:=hz
      have j0:decide ((0:Int)<(j:Int))=true:=decide_eq_true (by omega)
      clear hnot hx9
      by_cases h9:j=9
      ·subst h9
       go_wp2_with fail
       go_ret2
       unfold GotN
       rw[hN.out]
       exact⟨21,rfl,.inr rfl,H.out,touch_drawn w _ g⟩
      ·have j9:((j:Int) == 9)=false:=beq_eq_false_iff_ne.2 (by omega)
       go_wp2_with fail
       go_ret2
       unfold GotN
       rw[hN.out]
       exact⟨21,rfl,.inr rfl,H.out,touch_drawn w _ g⟩
     ·have hL:=hm.out.last HDR.out hj hx9 hx hz
      have hO:=orPart part (x % 128) j (by omega) p0 p1 (by omega) (by omega) (by intro h9;omega)
      rw[show x % 128=x by omega] at hO
      have HL:=Lib.hid hL
      have HO:=Lib.hid hO
      have hm8:x % 128=x:=by omega
      have PUT:∀(n:Nat) (q:Int),q=((a+j+1:Nat):Int)->Hid (RdrAt ((w.drewN n).setCell ⟨g,1,none⟩ (.int .i64 q)) g bs (a+j+1)):=fun n q hq=>by
       subst hq;exact Lib.hid ((H.out.drewN n).put (a+j+1) (by omega))
      clear hnot hx9
      by_cases h9:j=9
      ·obtain rfl:x=1:=by have:=HX9.out;omega
       subst h9
       have f1:decide ((1:Int)<1)=false:=by decide
       have O9:bits .or .u64 part 9223372036854775808=part+128 ^ 9 * 1:=by
        have h:=orPart part 1 9 (by omega) p0 p1 (by omega) (by omega) (by omega)
        rwa [show IntKind.u64.wrap (1 * 2 ^ (7 * 9))=9223372036854775808 from by rw[u64w];decide +kernel] at h
       have HO9:=Lib.hid O9
       clear hO O9
       go_wp2_with fail
       go_ret2
       unfold GotN
       rw[HL.out]
       refine⟨by rw[<-HO9.out];rfl,?_,touch_at w _ g 1 _⟩
       simp only
       rw[HRL.out,show bs.length - (bs.length - (a+9+1))=a+9+1 by omega]
       exact(PUT _ _ (by omega)).out
      ·have j9:((j:Int) == 9)=false:=beq_eq_false_iff_ne.2 (by omega)
       by_cases hx0:x=0
       ·obtain rfl:j=0:=by omega
        subst hx0
        have O0:bits .or .u64 part 0=part+128 ^ 0 * 0:=by
         have h:=orPart part 0 0 (by omega) p0 p1 (by omega) (by omega) (by omega)
         rwa [show IntKind.u64.wrap (0 * 2 ^ (7 * 0))=0 from by rw[u64w];decide +kernel] at h
        have HO0:=Lib.hid O0
        clear hO O0
        go_wp2_with fail
        go_ret2
        unfold GotN
        rw[HL.out]
        refine⟨by rw[<-HO0.out];rfl,?_,touch_at w _ g 1 _⟩
        simp only
        rw[HRL.out,show bs.length - (bs.length - (a+0+1))=a+0+1 by omega]
        exact(PUT _ _ (by omega)).out
       ·have x0:(x == 0)=false:=beq_eq_false_iff_ne.2 hx0
        clear hx0
        go_wp2_with fail
        go_ret2
        unfold GotN
        rw[HL.out]
        refine⟨rfl,?_,touch_at w _ g 1 _⟩
        simp only
        rw[HRL.out,show bs.length - (bs.length - (a+j+1))=a+j+1 by omega]
        exact(PUT _ _ (by omega)).out
  ·have hdr:(bs.drop a).drop j=[]:=by rw[List.drop_drop];exact List.drop_eq_nil_of_le (by omega)
   have hN:Hid (unleb (bs.drop a)=none):=Lib.hid (hm.out.none_ hdr hj)
   have dge:decide ((bs.length:Int)<=(a:Int)+(j:Int))=true:=decide_eq_true (by omega)
   go_wp2_with fail
   go_quiet (fail)
   clear ew
   go_wp2_with fail
   go_ret2
   unfold GotN
   rw[hN.out]
   exact⟨20,rfl,.inl rfl,H.out,(touch_drawn w _ g).drewN _⟩
theorem GotN.first{w w1:World}{g:Nat}{bs:List Int}{a:Nat}{f:Int->Int}{e:Ending}{w':World}(hb:Below w.heap.size w w1)(h:GotN w1 g bs a f e w'):GotN w g bs a f e w':=by
 have ht:∀{x:World},Touch (fun k=>k=g) w1 x->Touch (fun k=>k=g) w x:=fun t=>(Touch.of_below hb (Nat.le_refl _)).trans t (fun i hi=>.inl hi)
 unfold GotN at *
 cases hu:unleb (bs.drop a) with
 | none=>rw[hu] at h;obtain⟨er,h1,h2,h3,h4⟩:=h;exact⟨er,h1,h2,h3,ht h4⟩
 | some p=>rw[hu] at h;obtain⟨h1,h2,h3⟩:=h;exact⟨h1,h2,ht h3⟩
theorem rzig_any(g:Nat)(s:Int)(bs:List Int)(a:Nat)(w:World)(h:RdrAt w g bs a)(hb:byL bs)(hlen:bs.length<=1000000000000) :
 Calls Tryz.prog 359 #[.pointer (some ⟨g,0,none⟩),.int .i64 s] w (GotN w g bs a (fun n=>ub (uns n))):=by
 have C1:=rleb_any g s bs a w h hb hlen
 unfold GotN at *
 cases hu:unleb (bs.drop a) with
 | none=>
  simp only[hu] at C1 |-
  have C2:=Lib.hid C1
  have CU:=fun w=>Lib.hid (unsign_any 0 w (by omega) (by omega))
  have E0:Hid (ub (uns 0)=0):=Lib.hid (by decide)
  have U0:Hid (uns 0=0):=Lib.hid (by decide)
  rw[E0.out]
  rw[U0.out] at CU
  clear C1 hu h hb
  go_enter Tryz.func359,Tryz.ntmps359
  go_wp2_with fail
  refine(C2.out).mono ?_
  rintro e w1 ⟨er,rfl,h2,h3,h4⟩
  simp only[id]
  go_wp2_with fail
  refine((CU w1).out).mono ?_
  rintro e w' ⟨rfl,rfl⟩
  go_wp2_with fail
  go_ret2
  exact⟨er,rfl,h2,h3,h4⟩
 | some p=>
  have pb:=unleb_bd (hb.drop a) hu
  obtain⟨z,r⟩:=p
  simp only[hu] at C1 pb |-
  have C2:=Lib.hid C1
  have CU:=fun w=>Lib.hid (unsign_any z w pb.1 pb.2)
  have EU:Hid (IntKind.u64.wrap (uns z)=ub (uns z)):=Lib.hid (u64w _)
  have ub0:=uns_bd pb.1 pb.2
  rw[<-EU.out]
  clear C1 hu h hb EU
  go_enter Tryz.func359,Tryz.ntmps359
  go_wp2_with fail
  refine(C2.out).mono ?_
  rintro e w1 ⟨rfl,h3,h4⟩
  simp only[id]
  have H3:=Lib.hid h3
  have H4:=Lib.hid h4
  clear h3 h4
  go_wp2_with fail
  refine((CU w1).out).mono ?_
  rintro e w' ⟨rfl,rfl⟩
  go_wp2_with fail
  go_ret2
  exact⟨rfl,H3.out,H4.out⟩
theorem wnext_any(k K:Nat)(c:Int)(f:Int->Int)(g:Nat)(bs:List Int)(a:Nat)(w:World)(h:RdrAt w g bs a)(hv:VZ k c)(hK:fGet k=K)
 (eg:∀args w,(callFunc K args).run Tryz.prog w=.ok (.enter K args) w)
 (hf:∀w,RdrAt w g bs a->Calls Tryz.prog K #[.pointer (some ⟨g,0,none⟩),.int .i64 0] w (GotN w g bs a f)) :
 Calls Tryz.prog 208 #[.pointer (some ⟨g,0,none⟩),.int .u8 c] w (GotN w g bs a f):=by
 have H:=Lib.hid h
 have HF:=Lib.hid hf
 have FO:Hid (Calls Tryz.prog 200 #[.int .u8 c] w fun e w'=>e=.returned (.tuple #[.agg #[.int .u8 c,.int .i64 0,.func (.func (fPut k)) #[] #[],.func (.func K) #[] #[]],.bool true])/\Below w.heap.size w w'):=by
  rw[<-hK];exact Lib.hid (formOf_any k c w hv)
 clear h hf hK hv
 go_enter Tryz.func208,Tryz.ntmps208
 go_wp2_with fail
 refine(FO.out).mono ?_
 rintro e w1 ⟨rfl,hb1⟩
 have hz1:=hb1.size
 have hb2:∀cs,Below w.heap.size w (w1.alloc (.cells cs 295)):=fun cs=>by(repeat' (first|(with_reducible exact Below.refl _ _)|(with_reducible refine Below.alloc ?_ ?_ _)|(with_reducible refine Below.drew ?_)|(with_reducible refine below_drewN ?_ _)|(with_reducible refine Below.setCell ?_ ?_ _)|(with_reducible refine below_of (by assumption) ?_ ?_)|go_size))
 go_wp2_with (go_at_fn K;refine(HF.out _ (H.out.keep (hb2 _))).mono ?_)
 rintro e w2 hg
 have HG:=Lib.hid (GotN.first (hb2 _) hg)
 unfold GotN at hg
 cases hu:unleb (bs.drop a) with
 | none=>
  rw[hu] at hg
  obtain⟨er,rfl,h2,h3,h4⟩:=hg
  clear hu h2 h3 h4
  go_wp2_with fail
  go_ret2
  exact HG.out
 | some p=>
  rw[hu] at hg
  obtain⟨rfl,h3,h4⟩:=hg
  clear hu h3 h4
  go_wp2_with fail
  go_ret2
  exact HG.out
theorem rnextv_any(g:Nat)(bs:List Int)(a:Nat)(w:World)(h:RdrAt w g bs a)(hb:byL bs)(hlen:bs.length<=1000000000000) :
 Calls Tryz.prog 208 #[.pointer (some ⟨g,0,none⟩),.int .u8 118] w (GotN w g bs a id):=
 wnext_any 7 357 118 id g bs a w h vz_v rfl (fun _ _=>rfl) (fun w h=>rleb_any g 0 bs a w h hb hlen)
theorem rnextz_any(g:Nat)(bs:List Int)(a:Nat)(w:World)(h:RdrAt w g bs a)(hb:byL bs)(hlen:bs.length<=1000000000000) :
 Calls Tryz.prog 208 #[.pointer (some ⟨g,0,none⟩),.int .u8 122] w (GotN w g bs a (fun n=>ub (uns n))):=
 wnext_any 8 359 122 _ g bs a w h vz_z rfl (fun _ _=>rfl) (fun w h=>rzig_any g 0 bs a w h hb hlen)
theorem suf{bs r:List Int}{m:Nat}(h:r=bs.drop m):bs.drop (bs.length - r.length)=r:=by
 subst h
 rw[List.length_drop]
 rcases Nat.le_total m bs.length with h|h
 ·rw[show bs.length - (bs.length - m)=m by omega]
 ·rw[show bs.length - (bs.length - m)=bs.length by omega,List.drop_eq_nil_of_le (Nat.le_refl _),List.drop_eq_nil_of_le h]
theorem suf_unleb{bs:List Int}{a:Nat}{z:Int}{r:List Int}(h:unleb (bs.drop a)=some (z,r)):bs.drop (bs.length - r.length)=r:=by
 obtain⟨_,j,hj⟩:=unleb_len h
 exact suf (m:=a+j) (by rw[<-List.drop_drop];exact hj)
theorem tt{g:Nat}{w a b:World}(t1:Touch (fun k=>k=g) w a)(t2:Touch (fun k=>k=g) a b):Touch (fun k=>k=g) w b:=t1.trans t2 (fun _i hi=>.inl hi)
theorem eq_of_take{l m:List Int}(hl:l.length=m.length)(h:∀i (h1:i<l.length) (h2:i<m.length),l[i]=m[i]):l=m:=List.ext_getElem hl fun i h1 h2=>h i h1 h2
theorem equal_any(u v:Value)(l m:List Int)(w:World)(hu:RdI .u8 w u l)(hv:RdI .u8 w v m)(hl:l.length<=1000000000000)(hm:m.length<=1000000000000) :
 Calls Tryz.prog 112 #[u,v] w fun e w'=>e=.returned (.bool (decide (l=m)))/\Below w.heap.size w w':=by
 obtain⟨A,ca,rfl,_,_,fa⟩:=hu.form
 obtain⟨B,cb,rfl,_,_,fb⟩:=hv.form
 have FA:=Lib.hid fa
 have FB:=Lib.hid fb
 clear hu hv fa fb
 by_cases hlm:l.length=m.length
 ·have d0:((l.length:Int) != (m.length:Int))=false:=by rw[hlm];simp
  have HLM:=Lib.hid hlm
  clear hlm
  go_enter Tryz.func112,Tryz.ntmps112
  go_wp2_with fail
  go_loopg [13] l.length (fun q i wr=>∃j:Nat,q=l.length - j/\j<=l.length/\i=.int .i64 j/\Hid (∀i (h1:i<l.length) (h2:i<m.length),i<j->l[i]=m[i])/\∃n,wr=w.drewN n)
  case atStart=>exact⟨0,rfl,by omega,rfl,Lib.hid (fun i h1 h2 h3=>absurd h3 (by omega)),0,rfl⟩
  case round=>
   obtain⟨j,hq,hj,rfl,he,n,rfl⟩:=hrel
   have HQ:=Lib.hid hq
   clear hq
   by_cases hlt:j<l.length
   ·have hlt2:j<m.length:=by have:=HLM.out;omega
    obtain⟨g1,o1,rfl,_,e1⟩:=FA.out.at_ hlt
    obtain⟨g2,o2,rfl,_,e2⟩:=FB.out.at_ hlt2
    have j1:(j:Int)<(l.length:Int):=by omega
    have j2:(j:Int)<(m.length:Int):=by omega
    by_cases hx:l[j]=m[j]
    ·have HN:Hid (∀i (h1:i<l.length) (h2:i<m.length),i<j+1->l[i]=m[i]):=Lib.hid (fun i h1 h2 h3=>by
      rcases Nat.lt_or_ge i j with h|h
      ·exact he.out i h1 h2 h
      ·obtain rfl:i=j:=by omega
       exact hx)
     rw[<-hx] at e2
     have dx:(l[j] != l[j])=false:=by simp
     generalize l[j]=x at *
     clear hx
     go_wp2_with fail
     go_quiet (fail)
     go_wp2_with fail
     go_roundg (l.length - (j+1))
     case measure=>have:=HQ.out;omega
     case rel=>exact⟨j+1,rfl,by omega,by go_num,HN,_,rfl⟩
    ·have HD:Hid (decide (l=m)=false):=Lib.hid (decide_eq_false (fun h=>hx (by subst h;rfl)))
     have dx:(l[j] != m[j])=true:=by simpa using hx
     generalize l[j]=x at *
     generalize m[j]=y at *
     clear hx
     go_wp2_with fail
     go_quiet (fail)
     go_wp2_with fail
     go_ret
     exact⟨ret_bool HD.out.symm,by(repeat' (first|(with_reducible exact Below.refl _ _)|(with_reducible refine Below.alloc ?_ ?_ _)|(with_reducible refine Below.drew ?_)|(with_reducible refine below_drewN ?_ _)|(with_reducible refine Below.setCell ?_ ?_ _)|(with_reducible refine below_of (by assumption) ?_ ?_)|go_size))⟩
   ·have HD:Hid (decide (l=m)=true):=Lib.hid (decide_eq_true (eq_of_take HLM.out (fun i h1 h2=>he.out i h1 h2 (by omega))))
    go_wp2_with fail
    go_ret
    exact⟨ret_bool HD.out.symm,by(repeat' (first|(with_reducible exact Below.refl _ _)|(with_reducible refine Below.alloc ?_ ?_ _)|(with_reducible refine Below.drew ?_)|(with_reducible refine below_drewN ?_ _)|(with_reducible refine Below.setCell ?_ ?_ _)|(with_reducible refine below_of (by assumption) ?_ ?_)|go_size))⟩
 ·have d0:((l.length:Int) != (m.length:Int))=true:=by simp;omega
  have HD:Hid (decide (l=m)=false):=Lib.hid (decide_eq_false (fun h=>hlm (by rw[h])))
  clear hlm
  go_enter Tryz.func112,Tryz.ntmps112
  go_wp2_with fail
  go_ret
  exact⟨ret_bool HD.out.symm,by(repeat' (first|(with_reducible exact Below.refl _ _)|(with_reducible refine Below.alloc ?_ ?_ _)|(with_reducible refine Below.drew ?_)|(with_reducible refine below_drewN ?_ _)|(with_reducible refine Below.setCell ?_ ?_ _)|(with_reducible refine below_of (by assumption) ?_ ?_)|go_size))⟩
end
end Go.Proofs.YtingnldfpokckaaGreat
