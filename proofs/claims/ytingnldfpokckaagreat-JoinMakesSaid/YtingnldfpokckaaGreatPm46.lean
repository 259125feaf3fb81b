/- Parts of a proof: what its theorem reaches, words cut short. No condition of its own. -/
import Derived.Test.YtingnldfpokckaaGreatPm35
set_option maxRecDepth 100000
set_option maxHeartbeats 16000000
set_option linter.unusedVariables false
set_option linter.unusedSimpArgs false
namespace Go.Proofs.YtingnldfpokckaaGreat.D
open Go.RowKit Go.Lib
theorem fixedn_any(w:World):Calls Tryz.prog 241 #[.int .u8 110] w fun e w'=>e=.returned (.tuple #[.int .i64 0,.bool false])/\w=w':=by
 go_enter Tryz.func241,Tryz.ntmps241
 go_wp2
 go_ret2
 exact⟨rfl,rfl⟩
theorem fixedW_any(w:World):Calls Tryz.prog 241 #[.int .u8 87] w fun e w'=>e=.returned (.tuple #[.int .i64 4,.bool true])/\w=w':=by
 go_enter Tryz.func241,Tryz.ntmps241
 go_wp2
 go_ret2
 exact⟨rfl,rfl⟩
theorem fixedQ_any(w:World):Calls Tryz.prog 241 #[.int .u8 81] w fun e w'=>e=.returned (.tuple #[.int .i64 8,.bool true])/\w=w':=by
 go_enter Tryz.func241,Tryz.ntmps241
 go_wp2
 go_ret2
 exact⟨rfl,rfl⟩
theorem ronen_any(x:Int)(w:World)(h0:-9223372036854775808<=x)(h1:x<=9223372036854775807) :
 Calls Tryz.prog 151 #[.int .u8 110,.int .u64 (ub x)] w fun e w'=>∃v,e=.returned (.tuple #[v,.bool true])/\OwnB w.heap.size w' v (nn x)/\Below w.heap.size w w':=by
 have sb:=sgn_bd h0 h1
 have FX:=fun w=>Lib.hid (fixedn_any w)
 have SG:=Lib.hid (rsign_any x w h0 h1)
 have HN:Hid (nn x=lebF 8 (sgn x)):=Lib.hid rfl
 rw[HN.out]
 clear HN
 generalize sgn x=m at *
 generalize ub x=n at *
 go_enter Tryz.func151,Tryz.ntmps151
 go_wp2_with (first|(go_at_call 241;refine((FX _).out).mono ?_;rintro e w' ⟨rfl,rfl⟩)|(go_at_call 242;refine(SG.out).mono ?_;rintro e w' ⟨rfl,rfl⟩))
 go_loopg [8,11] 8 (fun k b v wr=>∃(q:Int) (acc:List Int),k+acc.length=8/\v=.int .u64 q/\0<=q/\q<256 * 128 ^ k/\Hid (acc++lebF k q=lebF 8 m)/\Hid (OwnB w.heap.size wr b acc)/\Below w.heap.size w wr)
 case atStart=>exact⟨m,[],rfl,rfl,sb.1,by omega,Lib.hid rfl,Lib.hid (OwnI.nil_ _ _ _ _),Below.refl _ _⟩
 case round=>
  obtain⟨q,acc,hk,rfl,q0,q1,he,HO,hb⟩:=hrel
  have hz:=hb.size
  have hlen:acc.length+1<=1099511627776:=by omega
  obtain⟨A8,k8,hv8,_,_,_⟩:=(OwnI.rd HO.out).form
  obtain⟨n8,hn8⟩:∃z,acc.length=z:=⟨_,rfl⟩
  rw[hn8] at hv8
  subst hv8
  have HOE:=Lib.hid (ownB_E.1 HO.out)
  have HEND:Hid (∀(y:Int) (v2:Value) (w2:World),OwnE bE w.heap.size w2 v2 (acc++[y])->(wr.alloc (.cells #[.int .u8 y] 5)).grownBy w2 (Value.slice A8 n8 k8).ownBlock->Below w.heap.size w w2):=Lib.hid (fun y v2 w2 _ g2=>(hb.alloc hz _).grown g2 (by simp only[World.size_alloc];omega) (fun k hk=>(HOE.out.lt k hk).1))
  by_cases hk0:gk=0
  ·subst hk0
   obtain rfl:n8=8:=by omega
   have hq8:q % 256=q:=by simp at q1;omega
   have EB:Hid (IntKind.u8.wrap q=q):=Lib.hid hq8
   have he0:acc++[q]=lebF 8 m:=he.out
   have HE0:=Lib.hid he0
   clear he he0 hn8 q1 hq8
   have eb:=EB.out
   by_cases hq:127<q
   ·go_wp2_with (at_builtin;refine apL tyB rfl (.tmp 69) (.tmp 72) rfl (HOE.out.alloc _) rfl _ [q] rfl (RdE.one_at (E:=bE) _ q _ rfl _ rfl _ (by simp)) hlen (by go_size) ?_;intro v2 w2 o2 g2 _;have hb2:=HEND.out q _ w2 o2 g2;have O2:=Lib.hid (ownB_E.2 o2);clear o2 g2)
    go_ret2
    exact⟨_,rfl,by rw[<-HE0.out];exact O2.out,hb2⟩
   ·go_wp2_with (at_builtin;refine apL tyB rfl (.tmp 69) (.tmp 72) rfl (HOE.out.alloc _) rfl _ [q] rfl (RdE.one_at (E:=bE) _ q _ rfl _ rfl _ (by simp)) hlen (by go_size) ?_;intro v2 w2 o2 g2 _;have hb2:=HEND.out q _ w2 o2 g2;have O2:=Lib.hid (ownB_E.2 o2);clear o2 g2)
    go_ret2
    exact⟨_,rfl,by rw[<-HE0.out];exact O2.out,hb2⟩
  ·obtain⟨r,rfl⟩:∃r,gk=r+1:=⟨gk - 1,by omega⟩
   have hn88:((n8:Int) == 8)=false:=by simp;omega
   by_cases hq:127<q
   ·have hE:=Lib.hid (lebF_more r q hq)
    have hd:q / 128<256 * 128 ^ r:=Int.ediv_lt_of_lt_mul (by omega) (by rw[Int.mul_assoc,<-Int.pow_succ];exact q1)
    have HCM:=Lib.hid (show q % 128+128=128+q % 128 by omega)
    have hq64:q<18446744073709551616:=by
     have h1:(128:Int) ^ (r+1)<=128 ^ 8:=by
      have h2:(128:Nat) ^ (r+1)<=128 ^ 8:=Nat.pow_le_pow_right (by omega) (by omega)
      exact_mod_cast h2
     omega
    clear q1 hn8
    go_wp2_with (at_builtin;refine apL tyB rfl (.tmp 60) (.tmp 65) rfl (HOE.out.alloc _) rfl _ [128+q % 128] rfl (RdE.one_at (E:=bE) _ (128+q % 128) _ rfl _ rfl _ (by simp)) hlen (by go_size) ?_;intro v2 w2 o2 g2 _;have hb2:=HEND.out _ _ w2 o2 g2;have O2:=Lib.hid (ownB_E.2 o2);clear o2 g2)
    go_roundg r
    case measure=>omega
    case rel=>exact⟨q / 128,acc++[128+q % 128],by simp;omega,rfl,by omega,hd,Lib.hid (by rw[List.append_assoc,<-he.out,hE.out,HCM.out];rfl),O2,hb2⟩
   ·have hE:=Lib.hid (lebF_last (r+1) q hq)
    have hq8:q % 256=q:=by omega
    have EB:Hid (IntKind.u8.wrap q=q):=Lib.hid hq8
    clear q1 hn8 hq8
    have eb:=EB.out
    go_wp2_with (at_builtin;refine apL tyB rfl (.tmp 69) (.tmp 72) rfl (HOE.out.alloc _) rfl _ [q] rfl (RdE.one_at (E:=bE) _ q _ rfl _ rfl _ (by simp)) hlen (by go_size) ?_;intro v2 w2 o2 g2 _;have hb2:=HEND.out q _ w2 o2 g2;have O2:=Lib.hid (ownB_E.2 o2);clear o2 g2)
    go_ret2
    exact⟨_,rfl,by rw[<-he.out,hE.out];exact O2.out,hb2⟩
theorem beN_cons:∀(j:Nat) (n:Int),beN (j+1) n=(n / 2 ^ (8 * j) % 256)::beN j n
 | 0,n=>by simp[beN]
 | j+1,n=>by
  have e:n / 256 / 2 ^ (8 * j)=n / 2 ^ (8 * (j+1)):=by
   rw[Int.ediv_ediv_of_nonneg (by omega)]
   congr 1
   rw[Nat.mul_add,Int.pow_add,Int.mul_comm];rfl
  rw[beN,beN_cons j (n / 256),e]
  rfl
theorem roneh_any(K:Nat)(c n:Int)(w:World)(hf:∀w,Calls Tryz.prog 241 #[.int .u8 c] w fun e w'=>e=.returned (.tuple #[.int .i64 K,.bool true])/\w=w')(k0:0<K)(k1:K<=8)(n0:0<=n)(n1:n<18446744073709551616)(nK:n / 2 ^ (8 * K)=0) :
 Calls Tryz.prog 151 #[.int .u8 c,.int .u64 n] w fun e w'=>∃v,e=.returned (.tuple #[v,.bool true])/\OwnB w.heap.size w' v (beN K n)/\Below w.heap.size w w':=by
 have FX:=fun w=>Lib.hid (hf w)
 have hk0:(0:Int)<(K:Int):=by omega
 have NK:=Lib.hid nK
 clear hf nK
 go_enter Tryz.func151,Tryz.ntmps151
 go_wp2_with (go_at_call 241;refine((FX _).out).mono ?_;rintro e w' ⟨rfl,rfl⟩)
 go_loopg [8,9,10] K (fun k b v i wr=>∃j:Nat,k=K - j/\j<=K/\i=.int .i64 j/\v=.int .u64 (n / 2 ^ (8 * j))/\Hid (OwnB w.heap.size wr b (beN j n))/\Below w.heap.size w wr)
 case atStart=>exact⟨0,rfl,by omega,rfl,by simp,Lib.hid (OwnI.nil_ _ _ _ _),Below.refl _ _⟩
 case round=>
  obtain⟨j,hq,hj,rfl,rfl,HO,hb⟩:=hrel
  have HQ:=Lib.hid hq
  have hz:=hb.size
  clear hq
  by_cases hlt:j<K
  ·have hji:(j:Int)<(K:Int):=by omega
   obtain⟨m,hm⟩:∃m,n / 2 ^ (8 * j)=m:=⟨_,rfl⟩
   have hm0:0<=m:=by rw[<-hm];exact Int.ediv_nonneg n0 (Int.le_of_lt (Int.pow_pos (by omega)))
   have hmn:m<=n:=by rw[<-hm];exact Int.ediv_le_self _ n0
   have HM:Hid (n / 2 ^ (8 * (j+1))=m / 256):=Lib.hid (by
    rw[<-hm,Int.ediv_ediv_of_nonneg (Int.le_of_lt (Int.pow_pos (by omega)))]
    congr 1
    rw[Nat.mul_add,Int.pow_add];rfl)
   have HC:Hid (beN (j+1) n=[m % 256]++beN j n):=Lib.hid (by rw[beN_cons,hm];rfl)
   have EB:Hid (IntKind.u8.wrap (m % 256)=m % 256):=Lib.hid (by rw[show IntKind.u8.wrap (m % 256)=m % 256 % 256 from rfl];omega)
   have hl:=beN_len j n
   rw[hm]
   obtain⟨A8,k8,hv8,_,_,_⟩:=(OwnI.rd HO.out).form
   obtain⟨n8,hn8⟩:∃z,(beN j n).length=z:=⟨_,rfl⟩
   rw[hn8] at hv8
   subst hv8
   have hlen:[m % 256].length+(beN j n).length<=1099511627776:=by simp;omega
   have HR:Hid (RdE bE (wr.alloc (.cells #[.int .u8 (m % 256)] 5)) (.slice A8 n8 k8) (beN j n)):=Lib.hid ((ownB_E.1 HO.out).alloc _).rd
   have HW:Hid (OwnE bE wr.heap.size (wr.alloc (.cells #[.int .u8 (m % 256)] 5)) (.slice (some ⟨wr.heap.size,0,none⟩) 1 1) [m % 256]):=Lib.hid (OwnE.one (E:=bE) wr (m % 256) _ rfl _ rfl)
   have eb:=EB.out
   clear hm hn8
   go_wp2_with (at_builtin;refine apL tyB rfl (.tmp 29) (.tmp 30) rfl HW.out rfl _ (beN j n) rfl HR.out hlen (by go_size) ?_;intro v2 w2 o2 g2 _;have O2:=Lib.hid (ownB_E.2 (o2.more hz));have hb2:Below w.heap.size w w2:=(hb.alloc hz _).grown g2 (by simp only[World.size_alloc];omega) (fun k hk=>by have:=(OwnE.lt HW.out k hk).1;omega);clear o2 g2)
   go_roundg (K - (j+1))
   case measure=>have:=HQ.out;omega
   case rel=>exact⟨j+1,rfl,by omega,by go_num,by rw[HM.out],by rw[HC.out];exact O2,hb2⟩
  ·obtain rfl:j=K:=by omega
   rw[NK.out]
   go_wp2_with fail
   go_ret2
   exact⟨_,rfl,HO.out,hb⟩
open Go.RowKit Go.Lib Go.Shelf
theorem r19one_any(c n:Int)(out:List Int)(w:World)(h:Calls Tryz.prog 151 #[.int .u8 c,.int .u64 n] w fun e w'=>∃v,e=.returned (.tuple #[v,.bool true])/\OwnB w.heap.size w' v out/\Below w.heap.size w w') :
 Calls Tryz.prog 153 #[.int .u8 c,.int .u64 n] w fun e w'=>∃v,e=.returned v/\OwnB w.heap.size w' v out/\Below w.heap.size w w':=by
 have C:=Lib.hid h
 clear h
 go_enter Tryz.func153,Tryz.ntmps153
 go_wp2_with fail
 refine(C.out).mono ?_
 rintro e w1 ⟨v1,rfl,o1,hb1⟩
 go_wp2_with fail
 go_ret
 exact⟨v1,rfl,o1,hb1⟩
theorem r19n_any(x n:Int)(w:World)(hn:n=ub x)(h0:-9223372036854775808<=x)(h1:x<=9223372036854775807):Calls Tryz.prog 153 #[.int .u8 110,.int .u64 n] w fun e w'=>∃v,e=.returned v/\OwnB w.heap.size w' v (nn x)/\Below w.heap.size w w':=by
 subst hn
 exact r19one_any 110 _ _ w (ronen_any x w h0 h1)
theorem r19W_any(n:Int)(w:World)(h0:0<=n)(h1:n<4294967296):Calls Tryz.prog 153 #[.int .u8 87,.int .u64 n] w fun e w'=>∃v,e=.returned v/\OwnB w.heap.size w' v (beN 4 n)/\Below w.heap.size w w':=
 r19one_any 87 _ _ w (roneh_any 4 87 n w fixedW_any (by omega) (by omega) h0 (by omega) (by show n / 4294967296=0;omega))
theorem r19Q_any(n:Int)(w:World)(h0:0<=n)(h1:n<18446744073709551616):Calls Tryz.prog 153 #[.int .u8 81,.int .u64 n] w fun e w'=>∃v,e=.returned v/\OwnB w.heap.size w' v (beN 8 n)/\Below w.heap.size w w':=
 r19one_any 81 _ _ w (roneh_any 8 81 n w fixedQ_any (by omega) (by omega) h0 (by omega) (by show n / 18446744073709551616=0;omega))
theorem app_B{base:Nat}{w w1 w2:World}{v v2:Value}{bs out:List Int}(hb0:base<=w.heap.size)(hb1:Below w.heap.size w w1)(hO:OwnB base w v bs)(o2:OwnE bE base w2 v2 (bs++out))(g2:w1.grownBy w2 v.ownBlock):OwnB base w2 v2 (bs++out)/\Below base w w2:=
 ⟨ownB_E.2 o2,(hb1.mono hb0).grown g2 (by have:=hb1.size;omega) (fun k hk=>(OwnI.lt hO k hk).1)⟩
theorem rcounts_any{lo hi dg u m bk:Nat}{gr:Bool}{l:List Pr}(v:Value)(w:World)(h:RdE prE w v l)(ok:HsOk lo hi dg u m gr bk l):Calls Tryz.prog 152 #[v] w fun e w'=>∃v',e=.returned v'/\OwnB w.heap.size w' v' (cntA l)/\Below w.heap.size w w':=by
 obtain⟨A,c,rfl,_,_,hf⟩:=h.form
 have HF:=Lib.hid hf
 have PB:=Lib.hid ok.pb
 have hlen:=ok.len
 have KB:=Lib.hid ok.kb
 clear h hf ok
 go_enter Tryz.func152,Tryz.ntmps152
 go_wp2_with fail
 go_loopg [3,4,5] l.length (fun q b s i wr=>∃j:Nat,q=l.length - j/\j<=l.length/\i=.int .i64 j/\s=.int .i64 (endH 0 (l.take j))/\Hid (OwnB w.heap.size wr b (nnB (nmB 0 (l.take j))))/\Below w.heap.size w wr)
 case atStart=>exact⟨0,rfl,by omega,rfl,rfl,Lib.hid (OwnI.nil_ _ _ _ _),Below.refl _ _⟩
 case round=>
  obtain⟨j,hq,hj,rfl,rfl,HO,hb⟩:=hrel
  have HQ:=Lib.hid hq
  have hz:=hb.size
  clear hq
  by_cases hlt:j<l.length
  ·obtain⟨gp,off,rfl,hgp,c0,c1⟩:=pr_at HF.out hlt
   have hgr:gp<wr.heap.size:=by omega
   have CC:=Lib.hid (And.intro ((hb.cell (p:=⟨gp,off+j * 2,none⟩) hgp).trans c0) ((hb.cell (p:=⟨gp,off+j * 2+1,none⟩) hgp).trans c1))
   have hji:(j:Int)<(l.length:Int):=by omega
   have hbd:=PB.out _ (List.getElem_mem hlt)
   have hed:=endH_bd (l:=l.take j) (fun p hp=>KB.out p (List.mem_of_mem_take hp)) 0 (by omega) (by omega)
   have hnl:=nnB_len (nmB 0 (l.take j))
   have hnm:=nmB_len (l.take j) 0
   have htl:(l.take j).length<=16777217:=by rw[List.length_take];omega
   have HTK:Hid (nnB (nmB 0 (l.take (j+1)))=nnB (nmB 0 (l.take j))++nnB (gapN (l[j].1 - endH 0 (l.take j)))++nn l[j].2/\endH 0 (l.take (j+1))=l[j].1+1):=Lib.hid (by
    rw[List.take_succ_eq_append_getElem hlt,nmB_snoc,endH_snoc,nnB_append,nnB_append,List.append_assoc]
    refine⟨?_,rfl⟩
    congr 2
    simp[nnB])
   clear c0 c1
   generalize l[j].1=x at *
   generalize l[j].2=n at *
   generalize endH 0 (l.take j)=at_ at *
   generalize nnB (nmB 0 (l.take j))=BS at *
   have EX:Hid (IntKind.i64.wrap (x - at_)=x - at_/\IntKind.i64.wrap (x+1)=x+1):=Lib.hid ⟨by rw[IntKind.wrap_i64];omega,by rw[IntKind.wrap_i64];omega⟩
   have CN:Hid (∀w1:World,_):=Lib.hid (fun w1=>r19n_any n n w1 (by unfold ub;omega) (by omega) (by omega))
   have hn9:=nn_len n
   obtain⟨A8,k8,hv8,_,_,_⟩:=(OwnI.rd HO.out).form
   obtain⟨n8,hn8⟩:∃z,BS.length=z:=⟨_,rfl⟩
   have hl8:BS.length<=1000000000:=by omega
   rw[hn8] at hv8
   subst hv8
   clear hn8
   by_cases g1:x - at_=1
   ·have hg1:(x - at_ == 1)=true:=by simpa using g1
    have hg2:¬1<x - at_:=by omega
    have HG:Hid (nnB (gapN (x - at_))=nn 0):=Lib.hid (by rw[g1];decide +kernel)
    have C0:Hid (∀w1:World,_):=Lib.hid (fun w1=>r19n_any 0 0 w1 rfl (by omega) (by omega))
    have h09:=nn_len 0
    rw[HG.out] at HTK
    clear g1 HG
    have cc:=CC.out
    obtain⟨c0,c1⟩:=cc
    obtain⟨e1,e2⟩:=EX.out
    go_wp2_with fail
    refine(C0.out wr).mono ?_
    rintro e w1 ⟨v1,rfl,o1,hb1⟩
    have O1:=Lib.hid o1
    clear o1 c0 c1
    generalize nn 0=Z at *
    go_wp2_with (at_builtin;refine apL tyB rfl (.tmp 22) (.tmp 23) rfl ((ownB_E.1 HO.out).keep hb1) rfl _ Z rfl (ownB_E.1 O1.out).rd (by omega) (by have:=hb1.size;omega) ?_;intro v2 w2 o2 g2 _;have P2:=Lib.hid (app_B hz hb1 HO.out o2 g2);have c1:=(P2.out.2.cell (p:=⟨gp,off+j * 2+1,none⟩) (by show gp<_;omega)).trans CC.out.2;obtain⟨A2,k2,hv2,_,_,_⟩:=o2.form;obtain⟨n2,hn2⟩:∃z,(BS++Z).length=z:=⟨_,rfl⟩;rw[hn2] at hv2;subst hv2;clear o2 g2)
    have hz2:=P2.out.2.size
    refine(CN.out w2).mono ?_
    rintro e w3 ⟨v3,rfl,o3,hb3⟩
    have O3:=Lib.hid o3
    clear o3 c1
    have c0:=(hb3.cell (p:=⟨gp,off+j * 2,none⟩) (by show gp<_;omega)).trans ((P2.out.2.cell (p:=⟨gp,off+j * 2,none⟩) (by show gp<_;omega)).trans CC.out.1)
    generalize nn n=Y at *
    have hl2:(BS++Z).length<=2000000000:=by rw[List.length_append];omega
    clear hn2
    go_wp2_with (at_builtin;refine apL tyB rfl (.tmp 34) (.tmp 40) rfl ((ownB_E.1 P2.out.1).keep hb3) rfl _ Y rfl (ownB_E.1 O3.out).rd (by omega) (by have:=hb3.size;omega) ?_;intro v4 w4 o4 g4 _;have P4:=Lib.hid (app_B (by omega) hb3 P2.out.1 o4 g4);have c0:=(P4.out.2.cell (p:=⟨gp,off+j * 2,none⟩) (by show gp<_;omega)).trans ((P2.out.2.cell (p:=⟨gp,off+j * 2,none⟩) (by show gp<_;omega)).trans CC.out.1);clear o4 g4)
    go_roundg (l.length - (j+1))
    case measure=>have:=HQ.out;omega
    case rel=>exact⟨j+1,rfl,by omega,by go_num,by rw[HTK.out.2],by rw[HTK.out.1];exact Lib.hid P4.out.1,(hb.trans P2.out.2).trans P4.out.2⟩
   ·have hg1:(x - at_ == 1)=false:=by simpa using g1
    by_cases g2:1<x - at_
    ·have HG:Hid (nnB (gapN (x - at_))=nn (-(x - at_))):=Lib.hid (by unfold gapN;rw[if_neg g1,if_pos g2];simp[nnB])
     have EU:Hid (IntKind.i64.wrap (x - at_ - 1)=x - at_ - 1/\IntKind.u64.wrap (x - at_ - 1)=x - at_ - 1/\IntKind.u64.wrap (18446744073709551615 - (x - at_ - 1))=18446744073709551615 - (x - at_ - 1)):=Lib.hid ⟨by rw[IntKind.wrap_i64];omega,by rw[u64w];omega,by rw[u64w];omega⟩
     have C0:Hid (∀w1:World,_):=Lib.hid (fun w1=>r19n_any (-(x - at_)) (18446744073709551615 - (x - at_ - 1)) w1 (by unfold ub;omega) (by omega) (by omega))
     have h09:=nn_len (-(x - at_))
     rw[HG.out] at HTK
     clear g1 HG
     have cc:=CC.out
     obtain⟨c0,c1⟩:=cc
     obtain⟨e1,e2⟩:=EX.out
     obtain⟨e3,e4,e5⟩:=EU.out
     go_wp2_with fail
     refine(C0.out wr).mono ?_
     rintro e w1 ⟨v1,rfl,o1,hb1⟩
     have O1:=Lib.hid o1
     clear o1 c0 c1 e3 e4 e5
     generalize nn (-(x - at_))=Z at *
     go_wp2_with (at_builtin;refine apL tyB rfl (.tmp 27) (.tmp 32) rfl ((ownB_E.1 HO.out).keep hb1) rfl _ Z rfl (ownB_E.1 O1.out).rd (by omega) (by have:=hb1.size;omega) ?_;intro v2 w2 o2 g2 _;have P2:=Lib.hid (app_B hz hb1 HO.out o2 g2);have c1:=(P2.out.2.cell (p:=⟨gp,off+j * 2+1,none⟩) (by show gp<_;omega)).trans CC.out.2;obtain⟨A2,k2,hv2,_,_,_⟩:=o2.form;obtain⟨n2,hn2⟩:∃z,(BS++Z).length=z:=⟨_,rfl⟩;rw[hn2] at hv2;subst hv2;clear o2 g2)
     have hz2:=P2.out.2.size
     refine(CN.out w2).mono ?_
     rintro e w3 ⟨v3,rfl,o3,hb3⟩
     have O3:=Lib.hid o3
     clear o3 c1
     have c0:=(hb3.cell (p:=⟨gp,off+j * 2,none⟩) (by show gp<_;omega)).trans ((P2.out.2.cell (p:=⟨gp,off+j * 2,none⟩) (by show gp<_;omega)).trans CC.out.1)
     generalize nn n=Y at *
     have hl2:(BS++Z).length<=2000000000:=by rw[List.length_append];omega
     clear hn2
     go_wp2_with (at_builtin;refine apL tyB rfl (.tmp 34) (.tmp 40) rfl ((ownB_E.1 P2.out.1).keep hb3) rfl _ Y rfl (ownB_E.1 O3.out).rd (by omega) (by have:=hb3.size;omega) ?_;intro v4 w4 o4 g4 _;have P4:=Lib.hid (app_B (by omega) hb3 P2.out.1 o4 g4);have c0:=(P4.out.2.cell (p:=⟨gp,off+j * 2,none⟩) (by show gp<_;omega)).trans ((P2.out.2.cell (p:=⟨gp,off+j * 2,none⟩) (by show gp<_;omega)).trans CC.out.1);clear o4 g4)
     go_roundg (l.length - (j+1))
     case measure=>have:=HQ.out;omega
     case rel=>exact⟨j+1,rfl,by omega,by go_num,by rw[HTK.out.2],by rw[HTK.out.1];exact Lib.hid P4.out.1,(hb.trans P2.out.2).trans P4.out.2⟩
    ·have HG:Hid (nnB (gapN (x - at_))=[]):=Lib.hid (by unfold gapN;rw[if_neg g1,if_neg g2];rfl)
     rw[HG.out,List.append_nil] at HTK
     clear g1 HG
     have cc:=CC.out
     obtain⟨c0,c1⟩:=cc
     obtain⟨e1,e2⟩:=EX.out
     go_wp2_with fail
     refine(CN.out wr).mono ?_
     rintro e w3 ⟨v3,rfl,o3,hb3⟩
     have O3:=Lib.hid o3
     clear o3
     have c0:=(hb3.cell (p:=⟨gp,off+j * 2,none⟩) hgr).trans CC.out.1
     generalize nn n=Y at *
     go_wp2_with (at_builtin;refine apL tyB rfl (.tmp 34) (.tmp 40) rfl ((ownB_E.1 HO.out).keep hb3) rfl _ Y rfl (ownB_E.1 O3.out).rd (by omega) (by have:=hb3.size;omega) ?_;intro v4 w4 o4 g4 _;have P4:=Lib.hid (app_B hz hb3 HO.out o4 g4);have c0:=(P4.out.2.cell (p:=⟨gp,off+j * 2,none⟩) (by show gp<_;omega)).trans CC.out.1;clear o4 g4)
     go_roundg (l.length - (j+1))
     case measure=>have:=HQ.out;omega
     case rel=>exact⟨j+1,rfl,by omega,by go_num,by rw[HTK.out.2],by rw[HTK.out.1];exact Lib.hid P4.out.1,hb.trans P4.out.2⟩
  ·obtain rfl:j=l.length:=by omega
   have HO9:=HO
   rw[List.take_of_length_le (Nat.le_refl _)] at HO9
   clear HO
   by_cases hl0:l.length=0
   ·have e:l=[]:=List.eq_nil_of_length_eq_zero hl0
    subst e
    have C0:=Lib.hid (r19n_any 0 0 wr rfl (by omega) (by omega))
    go_wp2_with fail
    refine(C0.out).mono ?_
    rintro e w4 ⟨v4,rfl,o4,hb4⟩
    go_wp2_with fail
    go_ret
    exact⟨_,rfl,by rw[show cntA []=nn 0 by decide +kernel];exact OwnI.lift o4 (fun k hk=>by have:=(OwnI.lt o4 k hk).1;omega),hb.trans (hb4.mono hz)⟩
   ·have hl1:((l.length:Int) == 0)=false:=by simpa using hl0
    go_wp2_with fail
    go_ret
    have hne:l≠[]:=fun e=>hl0 (by rw[e];rfl)
    exact⟨_,rfl,by unfold cntA nmA;rw[if_neg hne];exact HO9.out,hb⟩
open Go.RowKit Go.Lib Go.Shelf
theorem rwrite19_any{lo hi dg u m bk:Nat}{gr:Bool}{l:List Pr}(v:Value)(w:World)(h:RdE prE w v l)(ok:HsOk lo hi dg u m gr bk l):Calls Tryz.prog 83 #[.int .i64 lo,.int .i64 (reachN u m hi bk),.int .i64 dg,v] w fun e w'=>∃v',e=.returned v'/\OwnB w.heap.size w' v' (hwB lo (reachN u m hi bk) dg l)/\Below w.heap.size w w':=by
 have C1:=Lib.hid (rcounts_any v w h ok)
 have hrb:=reach_bd ok.sh ok.b1 (bk:=bk)
 have hcl:=cntA_len l
 have hll:=ok.len
 have hlo:lo<=9223372036854775807:=by have:=ok.sh.h0;have:=ok.sh.h1;omega
 have hdg:=ok.sh.d1
 generalize reachN u m hi bk=R at *
 have HB:Hid (hwB lo R dg l=beN 4 478450451++beN 4 (cntA l).length++beN 4 0++beN 4 dg++beN 8 lo++beN 8 R++beN 8 4607182418800017408++cntA l):=Lib.hid rfl
 rw[HB.out]
 clear HB h ok
 generalize cntA l=CN at *
 obtain⟨N,hN⟩:∃N,CN.length=N:=⟨_,rfl⟩
 have HN:=Lib.hid hN
 rw[hN] at hcl |-
 clear hN
 have EU:Hid (IntKind.u64.wrap (N:Int)=(N:Int)/\IntKind.u64.wrap (dg:Int)=(dg:Int)/\IntKind.u64.wrap (lo:Int)=(lo:Int)/\IntKind.u64.wrap (R:Int)=(R:Int)):=Lib.hid ⟨by rw[u64w];omega,by rw[u64w];omega,by rw[u64w];omega,by rw[u64w];omega⟩
 have D0:Hid (∀w1,_):=Lib.hid (fun w1=>r19W_any 478450451 w1 (by omega) (by omega))
 have L0:=beN_len 4 478450451
 have D1:Hid (∀w1,_):=Lib.hid (fun w1=>r19W_any (N:Int) w1 (by omega) (by omega))
 have L1:=beN_len 4 (N:Int)
 have D2:Hid (∀w1,_):=Lib.hid (fun w1=>r19W_any 0 w1 (by omega) (by omega))
 have L2:=beN_len 4 0
 have D3:Hid (∀w1,_):=Lib.hid (fun w1=>r19W_any (dg:Int) w1 (by omega) (by omega))
 have L3:=beN_len 4 (dg:Int)
 have D4:Hid (∀w1,_):=Lib.hid (fun w1=>r19Q_any (lo:Int) w1 (by omega) (by omega))
 have L4:=beN_len 8 (lo:Int)
 have D5:Hid (∀w1,_):=Lib.hid (fun w1=>r19Q_any (R:Int) w1 (by omega) (by omega))
 have L5:=beN_len 8 (R:Int)
 have D6:Hid (∀w1,_):=Lib.hid (fun w1=>r19Q_any 4607182418800017408 w1 (by omega) (by omega))
 have L6:=beN_len 8 4607182418800017408
 obtain⟨e1,e2,e3,e4⟩:=EU.out
 generalize beN 4 478450451=X0 at *
 generalize beN 4 (N:Int)=X1 at *
 generalize beN 4 0=X2 at *
 generalize beN 4 (dg:Int)=X3 at *
 generalize beN 8 (lo:Int)=X4 at *
 generalize beN 8 (R:Int)=X5 at *
 generalize beN 8 4607182418800017408=X6 at *
 go_enter Tryz.func83,Tryz.ntmps83
 go_wp2_with fail
 refine(C1.out).mono ?_
 rintro e w1 ⟨vc,rfl,oc,hb0⟩
 have OC:=Lib.hid oc
 obtain⟨Ac,kc,evc,_,_,_⟩:=(OwnI.rd oc).form
 rw[HN.out] at evc
 subst evc
 clear oc
 have OB:Hid (OwnB w1.heap.size w1 (.slice none 0 0) []):=Lib.hid (OwnI.nil_ _ _ _ _)
 have hbb:Below w1.heap.size w1 w1:=Below.refl _ _
 have hz0:=hbb.size
 go_wp2_with fail
 refine(D0.out w1).mono ?_
 rintro e wa0 ⟨va0,rfl,oa0,ha0⟩
 have OA0:=Lib.hid oa0
 clear oa0
 go_wp2_with (at_builtin;refine apL tyB rfl (.tmp 13) (.tmp 14) rfl ((ownB_E.1 OB.out).keep ha0) rfl _ X0 rfl (ownB_E.1 OA0.out).rd (by simp only[List.length_append,List.length_nil];omega) (by have:=ha0.size;omega) ?_;intro vb0 wb0 ob0 gb0 _;have PB0:=Lib.hid (app_B hz0 ha0 OB.out ob0 gb0);clear ob0 gb0)
 have hbb0:=hbb.trans PB0.out.2
 have hz1:=hbb0.size
 skip
 refine(D1.out wb0).mono ?_
 rintro e wa1 ⟨va1,rfl,oa1,ha1⟩
 have OA1:=Lib.hid oa1
 clear oa1
 go_wp2_with (at_builtin;refine apL tyB rfl (.tmp 16) (.tmp 20) rfl ((ownB_E.1 PB0.out.1).keep ha1) rfl _ X1 rfl (ownB_E.1 OA1.out).rd (by simp only[List.length_append,List.length_nil];omega) (by have:=ha1.size;omega) ?_;intro vb1 wb1 ob1 gb1 _;have PB1:=Lib.hid (app_B hz1 ha1 PB0.out.1 ob1 gb1);clear ob1 gb1)
 have hbb1:=hbb0.trans PB1.out.2
 have hz2:=hbb1.size
 skip
 refine(D2.out wb1).mono ?_
 rintro e wa2 ⟨va2,rfl,oa2,ha2⟩
 have OA2:=Lib.hid oa2
 clear oa2
 go_wp2_with (at_builtin;refine apL tyB rfl (.tmp 22) (.tmp 23) rfl ((ownB_E.1 PB1.out.1).keep ha2) rfl _ X2 rfl (ownB_E.1 OA2.out).rd (by simp only[List.length_append,List.length_nil];omega) (by have:=ha2.size;omega) ?_;intro vb2 wb2 ob2 gb2 _;have PB2:=Lib.hid (app_B hz2 ha2 PB1.out.1 ob2 gb2);clear ob2 gb2)
 have hbb2:=hbb1.trans PB2.out.2
 have hz3:=hbb2.size
 skip
 refine(D3.out wb2).mono ?_
 rintro e wa3 ⟨va3,rfl,oa3,ha3⟩
 have OA3:=Lib.hid oa3
 clear oa3
 go_wp2_with (at_builtin;refine apL tyB rfl (.tmp 25) (.tmp 28) rfl ((ownB_E.1 PB2.out.1).keep ha3) rfl _ X3 rfl (ownB_E.1 OA3.out).rd (by simp only[List.length_append,List.length_nil];omega) (by have:=ha3.size;omega) ?_;intro vb3 wb3 ob3 gb3 _;have PB3:=Lib.hid (app_B hz3 ha3 PB2.out.1 ob3 gb3);clear ob3 gb3)
 have hbb3:=hbb2.trans PB3.out.2
 have hz4:=hbb3.size
 skip
 refine(D4.out wb3).mono ?_
 rintro e wa4 ⟨va4,rfl,oa4,ha4⟩
 have OA4:=Lib.hid oa4
 clear oa4
 go_wp2_with (at_builtin;refine apL tyB rfl (.tmp 30) (.tmp 33) rfl ((ownB_E.1 PB3.out.1).keep ha4) rfl _ X4 rfl (ownB_E.1 OA4.out).rd (by simp only[List.length_append,List.length_nil];omega) (by have:=ha4.size;omega) ?_;intro vb4 wb4 ob4 gb4 _;have PB4:=Lib.hid (app_B hz4 ha4 PB3.out.1 ob4 gb4);clear ob4 gb4)
 have hbb4:=hbb3.trans PB4.out.2
 have hz5:=hbb4.size
 skip
 refine(D5.out wb4).mono ?_
 rintro e wa5 ⟨va5,rfl,oa5,ha5⟩
 have OA5:=Lib.hid oa5
 clear oa5
 go_wp2_with (at_builtin;refine apL tyB rfl (.tmp 35) (.tmp 38) rfl ((ownB_E.1 PB4.out.1).keep ha5) rfl _ X5 rfl (ownB_E.1 OA5.out).rd (by simp only[List.length_append,List.length_nil];omega) (by have:=ha5.size;omega) ?_;intro vb5 wb5 ob5 gb5 _;have PB5:=Lib.hid (app_B hz5 ha5 PB4.out.1 ob5 gb5);clear ob5 gb5)
 have hbb5:=hbb4.trans PB5.out.2
 have hz6:=hbb5.size
 skip
 refine(D6.out wb5).mono ?_
 rintro e wa6 ⟨va6,rfl,oa6,ha6⟩
 have OA6:=Lib.hid oa6
 clear oa6
 go_wp2_with (first|(at_builtin;refine apL tyB rfl (.tmp 40) (.tmp 41) rfl ((ownB_E.1 PB5.out.1).keep ha6) rfl _ X6 rfl (ownB_E.1 OA6.out).rd (by simp only[List.length_append,List.length_nil];omega) (by have:=ha6.size;omega) ?_;intro vb6 wb6 ob6 gb6 _;have PB6:=Lib.hid (app_B hz6 ha6 PB5.out.1 ob6 gb6);clear ob6 gb6;have hbb6:=hbb5.trans PB6.out.2;have OC9:=Lib.hid (OwnI.keep OC.out hbb6);have hz9:=hbb6.size;have hN:=HN.out)|(at_builtin;refine apL tyB rfl (.tmp 43) (.tmp 44) rfl (ownB_E.1 PB6.out.1) rfl _ CN rfl (ownB_E.1 OC9.out).rd (by simp only[List.length_append,List.length_nil];omega) hz9 ?_;intro v9 w9 o9 g9 _;have P9:=Lib.hid (app_B hz9 (Below.refl _ _) PB6.out.1 o9 g9);clear o9 g9))
 go_ret
 refine⟨_,rfl,?_,hb0.trans ((hbb6.trans P9.out.2).mono hb0.size)⟩
 have:=OwnI.lift P9.out.1 (base':=w.heap.size) (fun k hk=>by have:=(OwnI.lt P9.out.1 k hk).1;have:=hb0.size;omega)
 unfold OwnB
 simpa using this
end Go.Proofs.YtingnldfpokckaaGreat.D
