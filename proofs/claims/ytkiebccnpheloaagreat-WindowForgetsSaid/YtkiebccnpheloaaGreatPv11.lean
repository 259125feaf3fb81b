/- Parts of a proof: what its theorem reaches, words cut short. No condition of its own. -/
import Derived.Test.YtkiebccnpheloaaGreatPv05
import Derived.Test.YtkiebccnpheloaaGreatPv06
import Derived.Defers
import Derived.Recover
set_option maxRecDepth 100000
set_option maxHeartbeats 16000000
set_option linter.unusedVariables false
set_option linter.unusedSimpArgs false
namespace Go.Proofs.YtkiebccnpheloaaGreat
section
open Go.RowKit Go.Lib
theorem xor0_u(a:Int)(h0:0<=a)(h1:a<18446744073709551616):bits .xor .u64 a 0=a:=by
 show IntKind.u64.wrap ((BitVec.ofInt 64 a ^^^ BitVec.ofInt 64 0).toNat:Int)=_
 rw[show BitVec.ofInt 64 0=0#64 from rfl,BitVec.xor_zero,BitVec.toNat_ofInt,u64w]
 omega
theorem xor1_u(a:Int)(h0:0<=a)(h1:a<18446744073709551616):bits .xor .u64 a 18446744073709551615=18446744073709551615 - a:=by
 show IntKind.u64.wrap ((BitVec.ofInt 64 a ^^^ BitVec.ofInt 64 18446744073709551615).toNat:Int)=_
 rw[show BitVec.ofInt 64 18446744073709551615=BitVec.allOnes 64 from by decide,BitVec.xor_allOnes,BitVec.toNat_not,BitVec.toNat_ofInt,u64w]
 omega
theorem sign_any(v:Int)(w:World)(h0:-9223372036854775808<=v)(h1:v<=9223372036854775807) :
 Calls Tryz.prog 476 #[.int .i64 v] w fun e w'=>e=.returned (.int .u64 (sgn v))/\w=w':=by
 go_enter Tryz.func476,Tryz.ntmps476
 go_wp2
 go_ret
 refine⟨ret_int ?_,rfl⟩
 unfold sgn
 by_cases h:0<=v
 ·rw[if_pos h,show IntKind.u64.wrap (v / 9223372036854775808)=0 by rw[u64w];omega,show IntKind.u64.wrap (IntKind.u64.wrap v * 2)=2 * v by simp only[u64w];omega]
  exact xor0_u _ (by omega) (by omega)
 ·rw[if_neg h,show IntKind.u64.wrap (v / 9223372036854775808)=18446744073709551615 by rw[u64w];omega,show IntKind.u64.wrap (IntKind.u64.wrap v * 2)=18446744073709551616+2 * v by simp only[u64w];omega]
  rw[xor1_u _ (by omega) (by omega)]
  omega
theorem ub_bd(v:Int):0<=ub v/\ub v<18446744073709551616:=by unfold ub;omega
theorem wrap_ub{v:Int}(h0:-9223372036854775808<=v)(h1:v<=9223372036854775807):wrap64 (ub v)=v:=by unfold ub wrap64;omega
theorem wzig_any(g base:Nat)(v s:Int)(bs:List Int)(w:World)(h:Wr 332 base w g bs)(h0:-9223372036854775808<=v)(h1:v<=9223372036854775807)(hl:bs.length<=1000000000000) :
 Calls Tryz.prog 418 #[.pointer (some ⟨g,0,none⟩),.int .u64 (ub v),.int .i64 s] w fun e w'=>e=.returned (.tuple #[])/\Wr 332 base w' g (bs++zg v)/\Below base w w':=by
 have HW:=Lib.hid h
 have ew:=wrap_ub h0 h1
 have sb:=sgn_bd h0 h1
 have ub0:=ub_bd v
 have CL:=Lib.hid (wleb_any g base (sgn v) s bs w h sb.1 sb.2 hl)
 have CS:=Lib.hid (sign_any v w h0 h1)
 clear h
 have HZ:Hid (zg v=leb (sgn v)):=Lib.hid rfl
 generalize sgn v=z at *
 generalize ub v=u at *
 go_enter Tryz.func418,Tryz.ntmps418
 go_wp2_with (first|(go_at_call 476;refine(CS.out).mono ?_;rintro e w' ⟨rfl,rfl⟩)|(go_at_call 416;refine(CL.out).mono ?_;rintro e w' ⟨rfl,k1,k2⟩))
 refine bodyPost_end (v:=.tuple #[]) (by simp[results,Tryz.results418,go_sem, *];try rfl) rfl ?_
 exact⟨rfl,by rw[HZ.out];exact k1,k2⟩
theorem Wr.new(t:TypeId)(w:World)(base:Nat)(hb:base<=w.heap.size):Wr t base (w.alloc (.cells #[.slice none 0 0] t)) w.heap.size []:=
 ⟨hb,_,Blk.new _ _ _,OwnI.nil_ _ _ _ _⟩
theorem wput_any(k K:Nat)(c:UInt8)(n:Int)(out:List Int)(v:Value)(w:World)(h:VZ k (c.toNat:Int))(hr:RdI .u64 w v [n])(_n0:0<=n)(_n1:n<18446744073709551616)(hK:fPut k=K)
 (eg:∀args w,(callFunc K args).run Tryz.prog w=.ok (.enter K args) w)
 (hf:∀(g base:Nat) (w:World),Wr 332 base w g []->Calls Tryz.prog K #[.pointer (some ⟨g,0,none⟩),.int .u64 n,.int .i64 0] w fun e w'=>e=.returned (.tuple #[])/\Wr 332 base w' g out/\Below base w w') :
 Calls Tryz.prog 147 #[.string ⟨#[c]⟩,v] w fun e w'=>∃v,e=.returned (.tuple #[v,.int .i64 0])/\OwnB w.heap.size w' v out/\Below w.heap.size w w':=by
 obtain⟨A,cn,rfl,hn,hc,hp⟩:=hr.form
 obtain⟨gn,on,rfl,hgn,hcn⟩:=hp.at_ (j:=0) (by simp)
 simp only[List.length_singleton,List.getElem_cons_zero,Nat.add_zero] at hn hcn |-
 have CN:=Lib.hid hcn
 have H:=Lib.hid h
 have HF:=Lib.hid hf
 clear hr hp hcn h hf
 have FO:Hid (∀w,Calls Tryz.prog 248 #[.int .u8 (c.toNat:Int)] w fun e w'=>e=.returned (.tuple #[.agg #[.int .u8 (c.toNat:Int),.int .i64 0,.func (.func K) #[] #[],.func (.func (fGet k)) #[] #[]],.bool true])/\Below w.heap.size w w'):=fun w=>by
  rw[<-hK];exact formOf_any k (c.toNat:Int) w H.out
 clear hK
 go_enter Tryz.func147,Tryz.ntmps147
 go_wp2_with fail
 refine(wright_any k c w H.out).mono ?_
 rintro e w1 ⟨rfl,hb1⟩
 have hz1:=hb1.size
 go_wp2_with fail
 obtain⟨g,hg⟩:∃g,w1.heap.size=g:=⟨_,rfl⟩
 have W0:=Lib.hid (Wr.new 332 w1 w.heap.size hz1)
 have hb2:Below w.heap.size w (w1.alloc (.cells #[.slice none 0 0] 332)):=by(repeat' (first|(with_reducible exact Below.refl _ _)|(with_reducible refine Below.alloc ?_ ?_ _)|(with_reducible refine Below.drew ?_)|(with_reducible refine below_drewN ?_ _)|(with_reducible refine Below.setCell ?_ ?_ _)|(with_reducible refine below_of (by assumption) ?_ ?_)|go_size))
 rw[hg] at W0 |-
 generalize w1.alloc (.cells #[.slice none 0 0] 332)=w2 at *
 clear hg
 go_loopg [25] 1 (fun q i wr=>∃j:Nat,q=1 - j/\j<=1/\i=.int .i64 j/\Hid (Wr 332 w.heap.size wr g (if j=0 then [] else out))/\Below w.heap.size w wr)
 case atStart=>exact⟨0,rfl,by omega,rfl,W0,hb2⟩
 case round=>
  obtain⟨j,hq,hj,rfl,hw,hb⟩:=hrel
  have HQ:=Lib.hid hq
  have hz:=hb.size
  clear hq
  by_cases hlt:j<1
  ·obtain rfl:j=0:=by omega
   have cn':=(hb.cell (p:=⟨gn,on,none⟩) hgn).trans CN.out
   go_wp2_with (first
    | (go_at_call 248;refine(FO.out _).mono ?_;rintro e w3 ⟨rfl,hb3⟩;have hz3:=hb3.size)
    | (go_at_fn K;refine((HF.out g w.heap.size _ ((hw.out.keep hb3).keep ((Below.refl _ _).alloc (Nat.le_refl _) _))).mono ?_);rintro e w4 ⟨rfl,k1,k2⟩;have hz4:=k2.size;have K1:=Lib.hid k1;clear k1))
   go_roundg 0
   case measure=>have:=HQ.out;omega
   case rel=>exact⟨1,rfl,by omega,by go_num,K1,by(repeat' (first|(with_reducible exact Below.refl _ _)|(with_reducible refine Below.alloc ?_ ?_ _)|(with_reducible refine Below.drew ?_)|(with_reducible refine below_drewN ?_ _)|(with_reducible refine Below.setCell ?_ ?_ _)|(with_reducible refine below_of (by assumption) ?_ ?_)|go_size))⟩
  ·have hj1:j=1:=by omega
   subst hj1
   obtain⟨hbg,v,hB,hO⟩:=hw.out
   have c0:=hB.cell 0
   simp only[List.getElem?_toArray,List.getElem?_cons_zero] at c0
   rw[if_neg (by omega)] at hO
   have HO:=Lib.hid hO
   clear hB hO
   go_wp2_with fail
   go_ret2
   exact⟨v,rfl,HO.out,hb⟩
theorem putv_any(n:Int)(v:Value)(w:World)(hr:RdI .u64 w v [n])(n0:0<=n)(n1:n<18446744073709551616) :
 Calls Tryz.prog 147 #[.string ⟨#[118]⟩,v] w fun e w'=>∃v,e=.returned (.tuple #[v,.int .i64 0])/\OwnB w.heap.size w' v (leb n)/\Below w.heap.size w w':=
 wput_any 7 416 118 n (leb n) v w vz_v hr n0 n1 rfl (fun _ _=>rfl) (fun g base w h=>wleb_any g base n 0 [] w h n0 n1 (by simp))
theorem putz_any(x:Int)(v:Value)(w:World)(hr:RdI .u64 w v [ub x])(h0:-9223372036854775808<=x)(h1:x<=9223372036854775807) :
 Calls Tryz.prog 147 #[.string ⟨#[122]⟩,v] w fun e w'=>∃v,e=.returned (.tuple #[v,.int .i64 0])/\OwnB w.heap.size w' v (zg x)/\Below w.heap.size w w':=
 wput_any 8 418 122 (ub x) (zg x) v w vz_z hr (ub_bd x).1 (ub_bd x).2 rfl (fun _ _=>rfl) (fun g base w h=>wzig_any g base x 0 [] w h h0 h1 (by simp))
theorem Touch.cell{F:Nat->Prop}{w w':World}(h:Touch F w w'){k o:Nat}(hk:k<w.heap.size)(hF:¬F k):w'.cell? ⟨k,o,none⟩=w.cell? ⟨k,o,none⟩:=
 World.cell?_of_block (a:=⟨k,o,none⟩) (h.block k hk hF)
theorem fixed_any(c:Int)(w:World)(h:c=118\/c=122) :
 Calls Tryz.prog 276 #[.int .u8 c] w fun e w'=>e=.returned (.tuple #[.int .i64 0,.bool false])/\w=w':=by
 rcases h with rfl|rfl
 all_goals
  go_enter Tryz.func276,Tryz.ntmps276
  go_wp2
  go_ret2
  exact⟨rfl,rfl⟩
theorem rsign_any(x:Int)(w:World)(h0:-9223372036854775808<=x)(h1:x<=9223372036854775807) :
 Calls Tryz.prog 277 #[.int .u64 (ub x)] w fun e w'=>e=.returned (.int .u64 (sgn x))/\w=w':=by
 have hu:=ub_bd x
 have hs:Hid (sgn x=if ub x<9223372036854775808 then 2 * ub x else 2 * (18446744073709551615 - ub x)+1):=by show _=_;unfold sgn ub;(repeat' split)<;>omega
 generalize ub x=u at *
 by_cases h:u<9223372036854775808
 ·rw[if_pos h] at hs
  go_enter Tryz.func277,Tryz.ntmps277
  go_wp2
  go_ret
  exact⟨ret_int hs.out.symm,rfl⟩
 ·rw[if_neg h] at hs
  go_enter Tryz.func277,Tryz.ntmps277
  go_wp2
  go_ret
  exact⟨ret_int (by rw[hs.out]),rfl⟩
theorem rone_any(c n x:Int)(w:World)(hc:(c=118/\x=n/\0<=n/\n<18446744073709551616)\/(c=122/\n=ub x/\-9223372036854775808<=x/\x<=9223372036854775807)) :
 Calls Tryz.prog 181 #[.int .u8 c,.int .u64 n] w fun e w'=>∃v,e=.returned (.tuple #[v,.bool true])/\OwnB w.heap.size w' v (if c=118 then leb x else zg x)/\Below w.heap.size w w':=by
 obtain⟨m,hm,hm0,hm1,hE⟩:∃m,(if c=118 then x else sgn x)=m/\0<=m/\m<18446744073709551616/\(if c=118 then leb x else zg x)=leb m:=by
  rcases hc with⟨rfl,rfl,h0,h1⟩|⟨rfl,rfl,h0,h1⟩
  ·exact⟨_,rfl,by simpa using h0,by simpa using h1,by simp⟩
  ·have:=sgn_bd h0 h1
   exact⟨_,rfl,by simpa using this.1,by simpa using this.2,by simp[zg]⟩
 rw[hE]
 clear hE
 have FX:=fun w=>Lib.hid (fixed_any c w (by rcases hc with h|h;exact .inl h.1;exact .inr h.1))
 have c110:(c == 110)=false:=by rcases hc with h|h<;>simp[h.1]
 rcases hc with⟨rfl,rfl,h0,h1⟩|⟨rfl,rfl,h0,h1⟩
 all_goals
  try simp only[if_true] at hm
  try (have SG:=Lib.hid (rsign_any x w h0 h1))
  try simp only[show((122:Int)=118)=False by simp,if_false] at hm
  first|(have hm':m=x:=hm.symm;subst hm')|subst hm
  try (generalize sgn x=m at *)
  try (generalize ub x=n at *)
  clear c110
  go_enter Tryz.func181,Tryz.ntmps181
  go_wp2_with (first|(go_at_call 276;refine((FX _).out).mono ?_;rintro e w' ⟨rfl,rfl⟩)|(go_at_call 277;refine(SG.out).mono ?_;rintro e w' ⟨rfl,rfl⟩))
  go_loopg [8,11] 9 (fun k b v wr=>∃(q:Int) (acc:List Int),k<=9/\v=.int .u64 q/\0<=q/\q<2 * 128 ^ k/\acc.length<=9 - k/\Hid (acc++lebF k q=leb m)/\OwnB w.heap.size wr b acc/\Below w.heap.size w wr)
  case atStart=>exact⟨m,[],by omega,rfl,hm0,by omega,by simp,Lib.hid rfl,OwnI.nil_ _ _ _ _,Below.refl _ _⟩
  case round=>
   obtain⟨q,acc,hk,rfl,q0,q1,ha,he,hO,hb⟩:=hrel
   have HO:=Lib.hid hO
   have hz:=hb.size
   have hlen:acc.length+1<=1099511627776:=by omega
   obtain⟨A8,k8,hv8,_,_,_⟩:=(OwnI.rd hO).form
   clear hO
   by_cases hq:127<q
   ·obtain⟨r,rfl⟩:∃r,gk=r+1:=by
     rcases Nat.eq_zero_or_pos gk with h0|h0
     ·subst h0;simp at q1;omega
     ·exact⟨gk - 1,by omega⟩
    have hm64:q<18446744073709551616:=by
     have h1:(2:Int) * 128 ^ (r+1)<=2 * 128 ^ 9:=by
      have:(128:Int) ^ (r+1)<=128 ^ 9:=by
       have h2:(128:Nat) ^ (r+1)<=128 ^ 9:=Nat.pow_le_pow_right (by omega) (by omega)
       exact_mod_cast h2
      omega
     omega
    have hE:=Lib.hid (lebF_more r q hq)
    have hd:q / 128<2 * 128 ^ r:=Int.ediv_lt_of_lt_mul (by omega) (by rw[Int.mul_assoc,<-Int.pow_succ];exact q1)
    have HCM:=Lib.hid (show q % 128+128=128+q % 128 by omega)
    clear hv8
    go_wp2_with (first
     | (at_builtin
        go_must (refine append_B rfl (.tmp 60) (.tmp 65) rfl w.heap.size u8 acc rfl (OwnI.alloc HO.out _) _ [128+q % 128] rfl (RdI.one_at _ _ _ _ _ rfl) hlen (by simp only[World.size_alloc];omega) ?_)
        intro v1 w1 o1 g1 a1
        have hb1:Below w.heap.size w w1:=(hb.alloc (by omega) _).grown g1 (by simp only[World.size_alloc];omega) (fun k hk=>(OwnI.lt HO.out k hk).1)
        have O1:=Lib.hid o1
        clear o1 g1 a1))
    go_roundg r
    case measure=>omega
    case rel=>exact⟨q / 128,acc++[128+q % 128],by omega,rfl,by omega,hd,by simp;omega,Lib.hid (by rw[List.append_assoc,<-he.out,hE.out,HCM.out];rfl),O1.out,hb1⟩
   ·have hE:=Lib.hid (lebF_last gk q hq)
    have hq8:q % 256=q:=by omega
    clear hv8
    go_wp2_with (first
     | (at_builtin
        go_must (refine append_B rfl (.tmp 69) (.tmp 72) rfl w.heap.size u8 acc rfl (OwnI.alloc HO.out _) _ [q] rfl (RdI.one_at _ _ _ _ _ rfl) hlen (by simp only[World.size_alloc];omega) ?_)
        intro v1 w1 o1 g1 a1
        have hb1:Below w.heap.size w w1:=(hb.alloc (by omega) _).grown g1 (by simp only[World.size_alloc];omega) (fun k hk=>(OwnI.lt HO.out k hk).1)
        have O1:=Lib.hid o1
        clear o1 g1 a1))
    go_ret2
    exact⟨v1,rfl,by rw[<-he.out,hE.out];exact O1.out,hb1⟩
end
end Go.Proofs.YtkiebccnpheloaaGreat
