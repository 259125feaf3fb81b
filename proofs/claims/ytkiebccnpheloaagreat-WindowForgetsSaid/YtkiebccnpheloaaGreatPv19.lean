/- Parts of a proof: what its theorem reaches, words cut short. No condition of its own. -/
import Derived.Test.YtkiebccnpheloaaGreatPv18
set_option maxRecDepth 100000
set_option maxHeartbeats 16000000
set_option linter.unusedVariables false
set_option linter.unusedSimpArgs false
namespace Go.Proofs.YtkiebccnpheloaaGreat.D
open Go.RowKit
theorem tot_take_le{l:List Pr}(hp:PosP l)(j:Nat):0<=tot (l.take j)/\tot (l.take j)<=tot l:=by
 have e:tot l=tot (l.take j)+tot (l.drop j):=by rw[<-tot_append,List.take_append_drop]
 have h1:=tot_nonneg (l:=l.take j) (fun p h=>hp p (List.mem_of_mem_take h))
 have h2:=tot_nonneg (l:=l.drop j) (fun p h=>hp p (List.mem_of_mem_drop h))
 omega
theorem tot_take_succ{l:List Pr}{j:Nat}(hj:j<l.length):tot (l.take (j+1))=tot (l.take j)+l[j].2:=by rw[List.take_succ_eq_append_getElem hj,tot_append];simp
theorem rtot_any(v:Value)(l:List Pr)(w:World)(h:RdE prE w v l)(hp:PosP l)(ht:tot l<=9223372036854775807)(hl:l.length<=1000000000) :
 Calls Tryz.prog 127 #[v] w fun e w'=>e=.returned (.int .u64 (tot l))/\w=w':=by
 obtain⟨A,c,rfl,_,_,hf⟩:=h.form
 have HF:=Lib.hid hf
 have HB:Hid (∀j,0<=tot (l.take j)/\tot (l.take j)<=9223372036854775807):=Lib.hid (fun j=>by have:=tot_take_le hp j;omega)
 clear h hf hp
 go_enter Tryz.func127,Tryz.ntmps127
 go_wp2_with fail
 go_loopg [3,4] l.length (fun q s x wr=>(∃j:Nat,q=l.length - j/\j<=l.length/\x=.int .i64 j/\s=.int .u64 (tot (l.take j)))/\w=wr)
 case atStart=>exact⟨⟨0,rfl,by omega,rfl,rfl⟩,rfl⟩
 case round=>
  obtain⟨⟨j,hq,hj,rfl,rfl⟩,rfl⟩:=hrel
  have HQ:=Lib.hid hq
  clear hq
  by_cases hlt:j<l.length
  ·obtain⟨g,off,rfl,hg,c0,c1⟩:=pr_at HF.out hlt
   have HS:=Lib.hid (tot_take_succ hlt)
   have b1:=HB.out j
   have b2:=HB.out (j+1)
   rw[HS.out] at b2
   have hji:(j:Int)<(l.length:Int):=by omega
   obtain⟨s,hs⟩:∃s,tot (l.take j)=s:=⟨_,rfl⟩
   rw[hs] at HS b1 b2 |-
   clear hs
   generalize l[j].1=x at *
   generalize l[j].2=n at *
   go_wp2_with fail
   go_roundg (l.length - (j+1))
   case measure=>have:=HQ.out;omega
   case rel=>exact⟨⟨j+1,rfl,by omega,by go_num,by rw[HS.out]⟩,rfl⟩
  ·obtain rfl:j=l.length:=by omega
   rw[List.take_of_length_le (Nat.le_refl _)]
   go_wp2_with fail
   go_ret
   exact⟨rfl,rfl⟩
theorem put_split{k n:Int}:∀{l:List Pr} {i:Nat},(∀(t:Nat) (h:t<l.length),t<i->l[t].1<k)->putP k n l=l.take i++putP k n (l.drop i)
 | _,0,_=>by simp
 | [],i+1,_=>by simp
 | p::l,i+1,h=>by
  have h0:p.1<k:=h 0 (by simp) (by omega)
  have ih:=put_split (k:=k) (n:=n) (l:=l) (i:=i) (fun t ht hti=>h (t+1) (by simp;omega) (by omega))
  rw[putP,if_pos h0,ih];simp
def PutAt(l:List Pr)(k n:Int)(i:Nat)(d:Bool)(out:List Pr):Prop:=if d then out++l.drop i=putP k n l else out=l.take i/\∀(t:Nat) (h:t<l.length),t<i->l[t].1<k
theorem PutAt.len{l:List Pr}{k n:Int}{i:Nat}{d:Bool}{out:List Pr}(h:PutAt l k n i d out):out.length<=l.length+1:=by
 unfold PutAt at h
 split at h
 ·have h1:=congrArg List.length h
  have:=put_length k n l
  rw[List.length_append] at h1;omega
 ·rw[h.1,List.length_take];omega
theorem PutAt.pass{l:List Pr}{k n:Int}{i:Nat}{out:List Pr}(h:PutAt l k n i false out)(hi:i<l.length)(hk:l[i].1<k):PutAt l k n (i+1) false (out++[l[i]]):=by
 obtain⟨h1,h2⟩:=h
 refine⟨by rw[h1,List.take_succ_eq_append_getElem hi],fun t ht hti=>?_⟩
 rcases Nat.lt_or_ge t i with h|h
 ·exact h2 t ht h
 ·obtain rfl:t=i:=by omega
  exact hk
theorem PutAt.same{l:List Pr}{k n:Int}{i:Nat}{out:List Pr}(h:PutAt l k n i false out)(hi:i<l.length)(hk:l[i].1=k):PutAt l k n (i+1) true (out++[(k,l[i].2+n)]):=by
 obtain⟨h1,h2⟩:=h
 show _++_=_
 rw[put_split h2,h1,List.drop_eq_getElem_cons hi,putP,if_neg (by omega),if_pos hk];simp
theorem PutAt.hit{l:List Pr}{k n:Int}{i:Nat}{out:List Pr}(h:PutAt l k n i false out)(hi:i<l.length)(hk:k<l[i].1):PutAt l k n (i+1) true (out++[(k,n)]++[l[i]]):=by
 obtain⟨h1,h2⟩:=h
 show _++_=_
 rw[put_split h2,h1,List.drop_eq_getElem_cons hi,putP,if_neg (by omega),if_neg (by omega)];simp
theorem PutAt.rest{l:List Pr}{k n:Int}{i:Nat}{out:List Pr}(h:PutAt l k n i true out)(hi:i<l.length):PutAt l k n (i+1) true (out++[l[i]]):=by
 have h:out++l.drop i=putP k n l:=h
 rw[List.drop_eq_getElem_cons hi] at h
 show _++_=_
 rw[<-h];simp
theorem PutAt.fin1{l:List Pr}{k n:Int}{out:List Pr}(h:PutAt l k n l.length true out):out=putP k n l:=by
 have h:out++l.drop l.length=putP k n l:=h
 simpa using h
theorem PutAt.fin0{l:List Pr}{k n:Int}{out:List Pr}(h:PutAt l k n l.length false out):out++[(k,n)]=putP k n l:=by
 obtain⟨h1,h2⟩:=h
 rw[put_split h2,h1];simp[putP]
theorem rput13_any(v:Value)(k n:Int)(l:List Pr)(w:World)(h:RdE prE w v l)(hp:PosP l)(n0:0<=n)(ht:tot l+n<=9223372036854775807)(hl:l.length<=1000000000) :
 Calls Tryz.prog 188 #[v,.int .i64 k,.int .u64 n] w fun e w'=>∃v',e=.returned v'/\OwnE prE w.heap.size w' v' (putP k n l)/\Below w.heap.size w w':=by
 obtain⟨A,c,rfl,_,_,hf⟩:=h.form
 have HF:=Lib.hid hf
 have HB:Hid (∀(j:Nat) (h:j<l.length),0<=l[j].2/\l[j].2+n<=9223372036854775807):=Lib.hid (fun j h=>by
  have h1:=hp _ (List.getElem_mem h)
  have h2:=pos_le hp _ (List.getElem_mem h)
  omega)
 clear h hf hp
 go_enter Tryz.func188,Tryz.ntmps188
 go_wp2_with fail
 go_loopg [7,8,9] l.length (fun q u d x wr=>∃(j:Nat) (b:Bool) (out:List Pr),q=l.length - j/\j<=l.length/\x=.int .i64 j/\d=.bool b/\Hid (PutAt l k n j b out)/\Hid (OwnE prE w.heap.size wr u out)/\Below w.heap.size w wr)
 case atStart=>exact⟨0,false,[],rfl,by omega,rfl,rfl,Lib.hid ⟨rfl,fun t _ h=>absurd h (by omega)⟩,Lib.hid (OwnE.nil_ _ _),Below.refl _ _⟩
 case round=>
  obtain⟨j,b,out,hq,hj,rfl,rfl,HT,HO,hb⟩:=hrel
  have HQ:=Lib.hid hq
  have hz:=hb.size
  have hol:=HT.out.len
  clear hq
  obtain⟨A5,c5,rfl,_,_,_⟩:=HO.out.form
  by_cases hlt:j<l.length
  ·obtain⟨g,off,rfl,hg,c0w,c1w⟩:=pr_at HF.out hlt
   have c0:=(hb.cell (p:=⟨g,off+j * 2,none⟩) hg).trans c0w
   have c1:=(hb.cell (p:=⟨g,off+j * 2+1,none⟩) hg).trans c1w
   have CW:=Lib.hid (And.intro c0w c1w)
   clear c0w c1w
   have hji:(j:Int)<(l.length:Int):=by omega
   have hbd:=HB.out j hlt
   have HX:Hid (l[j]=(l[j].1,l[j].2)):=Lib.hid rfl
   cases b
   ·rcases Int.lt_trichotomy l[j].1 k with hk|hk|hk
    ·have HN:=Lib.hid (HT.out.pass hlt hk)
     rw[HX.out] at HN
     have hk':¬k<=l[j].1:=by omega
     generalize l[j].1=x at *
     generalize l[j].2=m at *
     go_wp2_with (at_builtin;refine apL tyPr rfl (.tmp 52) (.tmp 57) rfl (HO.out.alloc _) rfl _ [(x,m)] rfl (RdE.one_at (E:=prE) _ (x,m) _ rfl _ rfl _ (by simp)) (by simp;omega) (by go_size) ?_;intro v6 w6 o6 g6 _;have HB6:Hid (Below w.heap.size w w6):=Lib.hid ((hb.alloc hz _).grown g6 (by simp;omega) (fun k hk=>(HO.out.lt k hk).1));have O6:=Lib.hid o6;clear o6 g6)
     go_roundg (l.length - (j+1))
     case measure=>have:=HQ.out;omega
     case rel=>exact⟨j+1,false,_,rfl,by omega,by go_num,rfl,HN,O6,HB6.out⟩
    ·have HN:=Lib.hid (HT.out.same hlt hk)
     have hk':(l[j].1 == k)=true:=by simpa using hk
     have hkk:k<=l[j].1:=by omega
     generalize l[j].1=x at *
     generalize l[j].2=m at *
     clear hk HX
     go_wp2_with (at_builtin;refine apL tyPr rfl (.tmp 34) (.tmp 44) rfl (HO.out.alloc _) rfl _ [(k,m+n)] rfl (RdE.one_at (E:=prE) _ (k,m+n) _ rfl _ rfl _ (by simp)) (by simp;omega) (by go_size) ?_;intro v6 w6 o6 g6 _;have HB6:Hid (Below w.heap.size w w6):=Lib.hid ((hb.alloc hz _).grown g6 (by simp;omega) (fun k hk=>(HO.out.lt k hk).1));have O6:=Lib.hid o6;clear o6 g6)
     go_roundg (l.length - (j+1))
     case measure=>have:=HQ.out;omega
     case rel=>exact⟨j+1,true,_,rfl,by omega,by go_num,rfl,HN,O6,HB6.out⟩
    ·have HN:=Lib.hid (HT.out.hit hlt hk)
     rw[HX.out] at HN
     have hk':(l[j].1 == k)=false:=beq_eq_false_iff_ne.2 (by omega)
     have hkk:k<=l[j].1:=by omega
     generalize l[j].1=x at *
     generalize l[j].2=m at *
     have hol':(out++[(k,n)]).length+1<=1099511627776:=by simp;omega
     go_wp2_with (first
      | (at_builtin
         refine apL tyPr rfl (.tmp 46) (.tmp 50) rfl (HO.out.alloc _) rfl _ [(k,n)] rfl (RdE.one_at (E:=prE) _ (k,n) _ rfl _ rfl _ (by simp)) (by simp;omega) (by go_size) ?_
         intro v6 w6 o6 g6 _
         have hb6:Below w.heap.size w w6:=(hb.alloc hz _).grown g6 (by simp;omega) (fun k hk=>(HO.out.lt k hk).1)
         have c2:=(hb6.cell (p:=⟨g,off+j * 2,none⟩) hg).trans CW.out.1
         have c3:=(hb6.cell (p:=⟨g,off+j * 2+1,none⟩) hg).trans CW.out.2
         have hz6:=hb6.size
         have O6:=Lib.hid o6
         clear o6 g6)
      | (at_builtin
         refine apL tyPr rfl (.tmp 52) (.tmp 57) rfl (O6.out.alloc _) rfl _ [(x,m)] rfl (RdE.one_at (E:=prE) _ (x,m) _ rfl _ rfl _ (by simp)) hol' (by go_size) ?_
         intro v7 w7 o7 g7 _
         have hb7:Below w.heap.size w w7:=(hb6.alloc hz6 _).grown g7 (by simp;omega) (fun k hk=>(O6.out.lt k hk).1)
         have O7:=Lib.hid o7
         clear o7 g7))
     go_roundg (l.length - (j+1))
     case measure=>have:=HQ.out;omega
     case rel=>exact⟨j+1,true,_,rfl,by omega,by go_num,rfl,HN,O7,hb7⟩
   ·have HN:=Lib.hid (HT.out.rest hlt)
    rw[HX.out] at HN
    generalize l[j].1=x at *
    generalize l[j].2=m at *
    go_wp2_with (at_builtin;refine apL tyPr rfl (.tmp 52) (.tmp 57) rfl (HO.out.alloc _) rfl _ [(x,m)] rfl (RdE.one_at (E:=prE) _ (x,m) _ rfl _ rfl _ (by simp)) (by simp;omega) (by go_size) ?_;intro v6 w6 o6 g6 _;have HB6:Hid (Below w.heap.size w w6):=Lib.hid ((hb.alloc hz _).grown g6 (by simp;omega) (fun k hk=>(HO.out.lt k hk).1));have O6:=Lib.hid o6;clear o6 g6)
    go_roundg (l.length - (j+1))
    case measure=>have:=HQ.out;omega
    case rel=>exact⟨j+1,true,_,rfl,by omega,by go_num,rfl,HN,O6,HB6.out⟩
  ·obtain rfl:j=l.length:=by omega
   cases b
   ·have HE:=Lib.hid HT.out.fin0
    go_wp2_with (at_builtin;refine apL tyPr rfl (.tmp 61) (.tmp 65) rfl (HO.out.alloc _) rfl _ [(k,n)] rfl (RdE.one_at (E:=prE) _ (k,n) _ rfl _ rfl _ (by simp)) (by simp;omega) (by go_size) ?_;intro v6 w6 o6 g6 _;have HB6:Hid (Below w.heap.size w w6):=Lib.hid ((hb.alloc hz _).grown g6 (by simp;omega) (fun k hk=>(HO.out.lt k hk).1));have O6:=Lib.hid o6;clear o6 g6)
    go_ret
    exact⟨_,rfl,by rw[<-HE.out];exact O6.out,HB6.out⟩
   ·have HE:=Lib.hid HT.out.fin1
    go_wp2_with fail
    go_ret
    exact⟨_,rfl,by rw[<-HE.out];exact HO.out,hb⟩
def RAddP(er:Int)(v:Value)(M:List Pr)(w:World)(e:Ending)(w':World):Prop:=∃v',e=.returned (.tuple #[v',.int .i64 er])/\(er=0->OwnE prE w.heap.size w' v' M)/\(er≠0->v'=v)/\Below w.heap.size w w'
theorem radd13_any(v:Value)(k n:Int)(l:List Pr)(w:World)(h:RdE prE w v l)(hp:PosP l)(n0:0<=n)(n1:n<18446744073709551616)(ht:tot l<=4611686018427387904)(hl:l.length<=1000000000) :
 Calls Tryz.prog 270 #[v,.int .i64 k,.int .u64 n,.int .i64 0] w (RAddP (saddE l k n) v (putP k n l) w):=by
 have HE:Hid (saddE l k n=if n=0 then 4 else if k < -1048576\/1048576<k then 5 else if 4611686018427387904<tot l+n then 6 else 0):=Lib.hid rfl
 have C1:=Lib.hid (rtot_any v l w h hp (by omega) hl)
 have t0:=tot_nonneg hp
 obtain⟨A,c,rfl,_,_,_⟩:=h.form
 have C2:Hid (tot l+n<=4611686018427387904->_):=Lib.hid (fun hx=>rput13_any (.slice A l.length c) k n l w h hp n0 (by omega) hl)
 clear h hp
 generalize saddE l k n=er at *
 generalize tot l=t at *
 by_cases h1:n=0
 ·obtain rfl:er=4:=by rw[HE.out,if_pos h1]
  go_enter Tryz.func270,Tryz.ntmps270
  go_wp2_with fail
  go_ret2
  exact⟨_,rfl,fun h=>absurd h (by decide),fun _=>rfl,Below.refl _ _⟩
 ·by_cases h2:k < -1048576
  ·obtain rfl:er=5:=by rw[HE.out,if_neg h1,if_pos (.inl h2)]
   go_enter Tryz.func270,Tryz.ntmps270
   go_wp2_with fail
   go_ret2
   exact⟨_,rfl,fun h=>absurd h (by decide),fun _=>rfl,Below.refl _ _⟩
  ·by_cases h3:1048576<k
   ·obtain rfl:er=5:=by rw[HE.out,if_neg h1,if_pos (.inr h3)]
    go_enter Tryz.func270,Tryz.ntmps270
    go_wp2_with fail
    go_ret2
    exact⟨_,rfl,fun h=>absurd h (by decide),fun _=>rfl,Below.refl _ _⟩
   ·by_cases h4:4611686018427387904<t+n
    ·obtain rfl:er=6:=by rw[HE.out,if_neg h1,if_neg (by omega),if_pos h4]
     have h5:4611686018427387904 - t<n:=by omega
     go_enter Tryz.func270,Tryz.ntmps270
     go_wp2_with fail
     refine(C1.out).mono ?_
     rintro e w' ⟨rfl,rfl⟩
     go_wp2_with fail
     go_ret2
     exact⟨_,rfl,fun h=>absurd h (by decide),fun _=>rfl,Below.refl _ _⟩
    ·obtain rfl:er=0:=by rw[HE.out,if_neg h1,if_neg (by omega),if_neg h4]
     have h5:¬4611686018427387904 - t<n:=by omega
     have C3:=Lib.hid (C2.out (by omega))
     clear C2
     go_enter Tryz.func270,Tryz.ntmps270
     go_wp2_with fail
     refine(C1.out).mono ?_
     rintro e w' ⟨rfl,rfl⟩
     go_wp2_with fail
     refine(C3.out).mono ?_
     rintro e w1 ⟨v1,rfl,o1,hb1⟩
     go_wp2_with fail
     go_ret2
     exact⟨_,rfl,fun _=>o1,fun h=>absurd rfl h,hb1⟩
open Go.RowKit
theorem rcut_any(v:Value)(l:List Pr)(m:Nat)(w:World)(h:RdE prE w v l)(hp:PosP l)(ht:tot l<=4611686018427387904)(hm:0<m)(hm1:m<=1000000)(hl:l.length<=1000000000) :
 Calls Tryz.prog 216 #[v,.int .i64 m] w fun e w'=>∃v',e=.returned (.tuple #[v',.int .u64 (cutP m l).2])/\RdE prE w' v' (cutP m l).1/\Below w.heap.size w w':=by
 obtain⟨A,c,rfl,_,_,hf⟩:=h.form
 have HF:=Lib.hid hf
 have HR:=Lib.hid h
 by_cases hle:l.length<=m
 ·rw[cut_few hle]
  clear h hf hp
  go_enter Tryz.func216,Tryz.ntmps216
  go_wp2_with fail
  go_ret2
  exact⟨_,rfl,HR.out,Below.refl _ _⟩
 ·have HB:Hid (∀j,0<=tot (l.take j)/\tot (l.take j)<=4611686018427387904):=Lib.hid (fun j=>by have:=tot_take_le hp j;omega)
  obtain⟨z,hz⟩:∃z,l.length=z+m:=⟨l.length - m,by omega⟩
  have hcu:cutP m l=(bump (tot (l.take z)) (l.drop z),tot (l.take z)):=by unfold cutP;rw[show l.length - m=z by omega]
  have HPB:Hid (∀(j:Nat) (h:j<l.length),0<l[j].2/\l[j].2<=4611686018427387904):=Lib.hid (fun j h=>⟨hp _ (List.getElem_mem h),by have:=pos_le hp _ (List.getElem_mem h);omega⟩)
  rw[hcu]
  obtain⟨s,hs⟩:∃s,tot (l.take z)=s:=⟨_,rfl⟩
  have hb0:=HB.out z
  rw[hs] at hb0 |-
  have HSE:=Lib.hid hs
  have hdl:(l.drop z).length=m:=by rw[List.length_drop];omega
  obtain⟨BB,hBB⟩:∃x,bump s (l.drop z)=x:=⟨_,rfl⟩
  have hbl:BB.length=m:=by rw[<-hBB,bump_length,hdl]
  have HBL:=Lib.hid hbl
  have HB0:Hid (∀h:z<l.length,BB.take 1=[(l[z].1,l[z].2+s)]):=Lib.hid (fun h=>by
   rw[<-hBB,List.drop_eq_getElem_cons h];rfl)
  have HB1:Hid (∀k (h:z+k<l.length),0<k->BB.take (k+1)=BB.take k++[(l[z+k].1,l[z+k].2)]):=Lib.hid (fun k h h0=>by
   have hk:k<BB.length:=by omega
   rw[List.take_succ_eq_append_getElem hk]
   congr 2
   have hj:z<l.length:=by omega
   have e:BB[k]?=some l[z+k]:=by
    rw[<-hBB,List.drop_eq_getElem_cons hj]
    show((l[z].1,l[z].2+s)::l.drop (z+1))[k]?=_
    obtain⟨k',rfl⟩:∃k',k=k'+1:=⟨k - 1,by omega⟩
    rw[List.getElem?_cons_succ,List.getElem?_drop,show z+1+k'=z+(k'+1) by omega,List.getElem?_eq_getElem h]
   exact(List.getElem?_eq_some_iff.1 e).2)
  rw[hBB]
  have hlz:(l.length:Int) - (m:Int)=(z:Int):=by omega
  have hzl:z+m<=l.length/\l.length<=z+m:=by omega
  clear h hf hp hcu hBB hbl hdl hs hz
  go_enter Tryz.func216,Tryz.ntmps216
  go_wp2_with fail
  go_loopg [6,7] z (fun q s x wr=>(∃j:Nat,q=z - j/\j<=z/\x=.int .i64 j/\s=.int .u64 (tot (l.take j)))/\w=wr)
  case atStart=>exact⟨⟨0,rfl,by omega,rfl,rfl⟩,rfl⟩
  case round=>
   obtain⟨⟨j,hq,hj,rfl,rfl⟩,rfl⟩:=hrel
   have HQ:=Lib.hid hq
   clear hq
   by_cases hlt:j<z
   ·have hjl:j<l.length:=by omega
    obtain⟨g,off,rfl,hg,c0,c1⟩:=pr_at HF.out hjl
    have HS:=Lib.hid (tot_take_succ hjl)
    have b1:=HB.out j
    have b2:=HB.out (j+1)
    rw[HS.out] at b2
    have hji:(j:Int)<(l.length:Int):=by omega
    have hjz:(j:Int)<(z:Int):=by omega
    obtain⟨s',hs⟩:∃s,tot (l.take j)=s:=⟨_,rfl⟩
    rw[hs] at HS b1 b2 |-
    clear hs
    generalize l[j].1=x at *
    generalize l[j].2=n at *
    go_wp2_with fail
    go_roundg (z - (j+1))
    case measure=>have:=HQ.out;omega
    case rel=>exact⟨⟨j+1,rfl,by omega,by go_num,by rw[HS.out]⟩,rfl⟩
   ·obtain rfl:j=z:=by omega
    rw[HSE.out]
    go_wp2_with fail
    go_loopg [8,9] m (fun q u x wr=>∃(k:Nat) (out:List Pr),q=m - k/\k<=m/\x=.int .i64 ((j+k:Nat):Int)/\Hid (OwnE prE w.heap.size wr u out)/\Hid (out=BB.take k)/\Below w.heap.size w wr)
    case atStart=>exact⟨0,[],rfl,by omega,by simp,Lib.hid (OwnE.nil_ _ _),Lib.hid (by simp),Below.refl _ _⟩
    case round=>
     obtain⟨k,out,hq,hk,rfl,HO,HE,hb⟩:=hrel
     have HQ:=Lib.hid hq
     have hz2:=hb.size
     clear hq
     obtain⟨A5,c5,rfl,_,_,_⟩:=HO.out.form
     by_cases hlt:k<m
     ·have hjl:j+k<l.length:=by omega
      obtain⟨g,off,rfl,hg,c0w,c1w⟩:=pr_at HF.out hjl
      have c0:=(hb.cell (p:=⟨g,off+(j+k) * 2,none⟩) hg).trans c0w
      have c1:=(hb.cell (p:=⟨g,off+(j+k) * 2+1,none⟩) hg).trans c1w
      clear c0w c1w
      have hji:((j+k:Nat):Int)<(l.length:Int):=by omega
      have hpb:=HPB.out _ hjl
      have hol:out.length=k:=by rw[HE.out,List.length_take];have:=HBL.out;omega
      by_cases hk0:k=0
      ·subst hk0
       obtain rfl:out=[]:=List.eq_nil_of_length_eq_zero hol
       have HN:=Lib.hid (HB0.out hjl)
       simp only[Nat.add_zero] at c0 c1 hji hpb
       generalize l[j].1=x at *
       generalize l[j].2=n at *
       clear hol
       go_wp2_with (at_builtin;refine apL tyPr rfl (.tmp 55) (.tmp 57) rfl ((HO.out.alloc _).alloc _) rfl _ [(x,n+s)] rfl (RdE.one_at (E:=prE) _ (x,n+s) _ rfl _ rfl _ (by simp)) (by simp) (by go_size) ?_;intro v6 w6 o6 g6 _;have HB6:Hid (Below w.heap.size w w6):=Lib.hid (((hb.alloc hz2 _).alloc (by simp;omega) _).grown g6 (by simp;omega) (fun k hk=>(HO.out.lt k hk).1));have O6:=Lib.hid o6;clear o6 g6)
       go_roundg (m - 1)
       case measure=>have:=HQ.out;omega
       case rel=>exact⟨1,_,rfl,by omega,by go_num,O6,Lib.hid (by rw[HN.out];rfl),HB6.out⟩
      ·have HN:=Lib.hid (HB1.out k hjl (by omega))
       have hl0:((out.length:Int) == 0)=false:=by rw[hol];simp;omega
       have hol2:out.length<=1000000:=by omega
       generalize l[j+k].1=x at *
       generalize l[j+k].2=n at *
       clear hol
       go_wp2_with (at_builtin;refine apL tyPr rfl (.tmp 55) (.tmp 57) rfl ((HO.out.alloc _).alloc _) rfl _ [(x,n)] rfl (RdE.one_at (E:=prE) _ (x,n) _ rfl _ rfl _ (by simp)) (by simp;omega) (by go_size) ?_;intro v6 w6 o6 g6 _;have HB6:Hid (Below w.heap.size w w6):=Lib.hid (((hb.alloc hz2 _).alloc (by simp;omega) _).grown g6 (by simp;omega) (fun k hk=>(HO.out.lt k hk).1));have O6:=Lib.hid o6;clear o6 g6)
       go_roundg (m - (k+1))
       case measure=>have:=HQ.out;omega
       case rel=>exact⟨k+1,_,rfl,by omega,by go_num,O6,Lib.hid (by rw[HN.out,HE.out]),HB6.out⟩
     ·obtain rfl:k=m:=by omega
      have hjk:¬((j+k:Nat):Int)<(l.length:Int):=by omega
      have HE2:Hid (out=BB):=Lib.hid (by rw[HE.out,List.take_of_length_le (by have:=HBL.out;omega)])
      go_wp2_with fail
      go_ret2
      exact⟨_,rfl,by rw[<-HE2.out];exact HO.out.rd,hb⟩
theorem rkept_any(v:Value)(l:List Pr)(m:Nat)(w:World)(h:RdE prE w v l)(hp:PosP l)(ht:tot l<=4611686018427387904)(hm:0<m)(hm1:m<=1000000)(hl:l.length<=1000000000) :
 Calls Tryz.prog 111 #[v,.int .i64 m] w fun e w'=>∃v',e=.returned (.tuple #[v',.int .u64 (cutP m l).2])/\RdE prE w' v' (cutP m l).1/\Below w.heap.size w w':=by
 have C:=Lib.hid (rcut_any v l m w h hp ht hm hm1 hl)
 clear h hp
 go_enter Tryz.func111,Tryz.ntmps111
 go_wp2_with fail
 refine(C.out).mono ?_
 rintro e w1 ⟨v1,rfl,r1,hb1⟩
 go_wp2_with fail
 go_ret2
 exact⟨_,rfl,r1,hb1⟩
open Go.RowKit
theorem ret2{k j:IntKind}{a b c d:Int}(h:a=b)(g:c=d):Ending.returned (.tuple #[.int k a,.int j c])=.returned (.tuple #[.int k b,.int j d]):=by rw[h,g]
def kyS(l:List Sp)(v:Int):Nat:=l.findIdx fun s=>decide (v<=s.high)
def kyP(a:Nat)(v:Int):Int:=if v=0 then 0 else if 0<v then 1+(kyS (spans a) v:Nat) else -(1+(kyS (spans a) (-v):Nat))
def hiP(l:List Sp)(v:Int)(i:Nat):Bool:=match l[i]? with
 | some s=>decide (v<=s.high)
 | none=>true
theorem ky_lt{a:Nat}(ha:100<=a)(hb:a<=5000){v:Int}(hv:v<=9223372036854775807):kyS (spans a) v<(spans a).length/\(spans a).length<=2100:=by
 obtain⟨_,_,h3,s,h4,h5⟩:=spans_facts ha hb
 refine⟨List.findIdx_lt_length_of_exists ⟨s,List.mem_of_getLast? h4,?_⟩,h3⟩
 simp only[decide_eq_true_eq];omega
theorem ky_bd{a:Nat}(ha:100<=a)(hb:a<=5000){v:Int}(h0:-9223372036854775808<v)(h1:v<=9223372036854775807):-2100<=kyP a v/\kyP a v<=2100:=by
 have e1:=ky_lt ha hb h1
 have e2:=ky_lt ha hb (v:=-v) (by omega)
 unfold kyP
 split
 ·omega
 ·split<;>omega
theorem ky_found{l:List Sp}{v:Int}{i:Nat}(hi:i<=l.length)(h1:∀t,t<i->hiP l v t=false)(h2:∀t,i<=t->t<l.length->hiP l v t=true):i=kyS l v:=by
 unfold kyS
 rcases Nat.lt_or_ge i l.length with h|h
 ·refine((List.findIdx_eq h).2 ⟨?_,fun j hj=>?_⟩).symm
  ·have:=h2 i (Nat.le_refl _) h
   unfold hiP at this
   rwa [List.getElem?_eq_getElem h] at this
  ·have:=h1 j hj
   unfold hiP at this
   rwa [List.getElem?_eq_getElem (by omega)] at this
 ·obtain rfl:i=l.length:=by omega
  refine(List.findIdx_eq_length_of_false fun s hs=>?_).symm
  obtain⟨j,hj,rfl⟩:=List.mem_iff_getElem.1 hs
  have:=h1 j hj
  unfold hiP at this
  rwa [List.getElem?_eq_getElem hj] at this
theorem hi_mono'{a:Nat}(ha:100<=a)(hb:a<=5000)(v:Int)(i j:Nat)(hij:i<=j)(hj:j<(spans a).length)(h:hiP (spans a) v i=true):hiP (spans a) v j=true:=by
 obtain⟨h1,h2,_⟩:=spans_facts ha hb
 unfold hiP at *
 rw[List.getElem?_eq_getElem hj]
 rw[List.getElem?_eq_getElem (by omega)] at h
 simp only[decide_eq_true_eq] at *
 rcases Nat.lt_or_eq_of_le hij with h3|rfl
 ·have h4:=List.pairwise_iff_getElem.1 h2 i j (by omega) hj h3
  have h5:=h1 _ (List.getElem_mem hj)
  omega
 ·exact h
theorem ScAt.keep{base:Nat}{w w':World}{b a:Nat}(h:ScAt base w b a)(hb:Below w.heap.size w w'):ScAt base w' b a:=by
 obtain⟨h1,v,h2,h3⟩:=h
 exact⟨h1,v,h2.keep hb,h3.keep hb⟩
theorem acc_any{base b a:Nat}(w:World)(h:ScAt base w b a):Calls Tryz.prog 162 #[.pointer (some ⟨b,0,none⟩)] w fun e w'=>e=.returned (.int .i64 a)/\w=w':=by
 obtain⟨_,v,h2,_⟩:=h
 have c0:=h2.cell 0
 simp only[List.getElem?_toArray,List.getElem?_cons_zero] at c0
 go_enter Tryz.func162,Tryz.ntmps162
 go_wp2
 go_ret
 exact⟨rfl,rfl⟩
theorem key1_any(p q b g off c:Nat)(l:List Sp)(x v:Int)(i:Nat)(W:World)(hi:i<l.length)(hl:l.length<=2100)
 (hp:W.cell? ⟨p,0,none⟩=some (.pointer (some ⟨b,0,none⟩))) (hq:W.cell? ⟨q,0,none⟩=some (.int .i64 v)) (hb:W.cell? ⟨b,1,none⟩=some (.slice (some ⟨g,off,none⟩) l.length c)) (hc:W.cell? ⟨g,off+i * 3+2,none⟩=some (.int .i64 x)) :
 Calls Tryz.prog 305 (#[.int .i64 i]++#[.pointer (some ⟨p,0,none⟩),.pointer (some ⟨q,0,none⟩)]) W fun e w'=>e=.returned (.bool (decide (v<=x)))/\∃q,w'=W.drewN q:=by
 have hiz:(i:Int)<(l.length:Int):=by omega
 have hi0:(0:Int)<=(i:Int):=by omega
 go_enter Tryz.func305,Tryz.ntmps305
 go_wp2_with fail
 go_quiet (fail)
 go_wp2_with fail
 go_ret
 exact⟨rfl,_,rfl⟩
theorem key_pos{base b a:Nat}(v:Int)(w:World)(h:ScAt base w b a)(ha:100<=a)(hb:a<=5000)(h0:0<v)(h1:v<=9223372036854775807) :
 Calls Tryz.prog 207 #[.pointer (some ⟨b,0,none⟩),.int .i64 v] w fun e w'=>e=.returned (.tuple #[.int .i64 (1+(kyS (spans a) v:Nat)),.int .i64 0])/\Below w.heap.size w w':=by
 have hmo:=hi_mono' ha hb v
 have hlt:=ky_lt ha hb h1
 obtain⟨hb0,sv,hB,hO⟩:=h
 obtain⟨l,hl⟩:∃l,spans a=l:=⟨_,rfl⟩
 rw[hl] at hmo hlt hO |-
 clear hl ha hb
 obtain⟨g,c,rfl,_,hg,_,_⟩:=hO.pos (by omega)
 have k1:=hB.cell 1
 simp only[List.getElem?_toArray,List.getElem?_cons_zero,List.getElem?_cons_succ] at k1
 have hbl:=hB.lt
 have hce:∀i (hi:i<l.length),w.cell? ⟨g,0+i * 3+2,none⟩=some (.int .i64 (l[i]).high):=fun i hi=>by
  rw[Nat.zero_add];exact hO.cellAt hi 2 (by decide)
 have HC:=Lib.hid hce
 have K1:=Lib.hid k1
 have HM:=Lib.hid hmo
 clear hce hB hO hb0 hmo k1
 have hv0:¬v=-9223372036854775808:=by omega
 have hv1:¬v=0:=by omega
 have hv2:¬v<0:=by omega
 have eg:∀args w,(callFunc 305 args).run Tryz.prog w=.ok (.enter 305 args) w:=fun _ _=>rfl
 have HW:Hid (Below w.heap.size w ((w.alloc (.cells #[.pointer (some ⟨b,0,none⟩)] 242)).alloc (.cells #[.int .i64 v] 2))):=Lib.hid (by(repeat' (first|(with_reducible exact Below.refl _ _)|(with_reducible refine Below.alloc ?_ ?_ _)|(with_reducible refine Below.drew ?_)|(with_reducible refine below_drewN ?_ _)|(with_reducible refine Below.setCell ?_ ?_ _)|(with_reducible refine below_of (by assumption) ?_ ?_)|go_size)))
 have P0:Hid (((w.alloc (.cells #[.pointer (some ⟨b,0,none⟩)] 242)).alloc (.cells #[.int .i64 v] 2)).cell? ⟨w.heap.size,0,none⟩=some (.pointer (some ⟨b,0,none⟩))):=Lib.hid (by simp[World.cell?_alloc_new])
 have P1:Hid (((w.alloc (.cells #[.pointer (some ⟨b,0,none⟩)] 242)).alloc (.cells #[.int .i64 v] 2)).cell? ⟨w.heap.size+1,0,none⟩=some (.int .i64 v)):=Lib.hid (by simp[World.cell?_alloc_new])
 have HK:Hid (Calls Tryz.prog 211 #[.int .i64 l.length,.func (.func 305) #[] #[.pointer (some ⟨w.heap.size,0,none⟩),.pointer (some ⟨w.heap.size+1,0,none⟩)]] ((w.alloc (.cells #[.pointer (some ⟨b,0,none⟩)] 242)).alloc (.cells #[.int .i64 v] 2)) (Found l.length (hiP l v) ((w.alloc (.cells #[.pointer (some ⟨b,0,none⟩)] 242)).alloc (.cells #[.int .i64 v] 2)))):=by
  generalize (w.alloc (.cells #[.pointer (some ⟨b,0,none⟩)] 242)).alloc (.cells #[.int .i64 v] 2)=W at *
  refine Lib.hid (search_any 305 _ l.length (hiP l v) W eg (by omega) (fun m i hi=>?_) HM.out)
  have hc:=(HW.out.cell (p:=⟨g,0+i * 3+2,none⟩) hg).trans (HC.out i hi)
  have hk:=(HW.out.cell (p:=⟨b,1,none⟩) hbl).trans K1.out
  have:=key1_any w.heap.size (w.heap.size+1) b g 0 c l (l[i]).high v i (W.drewN m) hi (by omega) P0.out P1.out hk hc
  unfold hiP
  rw[List.getElem?_eq_getElem hi]
  exact this
 have k1:=K1.out
 clear HM eg HC K1 P0 P1
 go_enter Tryz.func207,Tryz.ntmps207
 go_wp2_with fail
 refine(HK.out).mono ?_
 rintro e w' ⟨i,q,rfl,hi,f1,f2,rfl⟩
 obtain rfl:=ky_found hi f1 f2
 clear f1 f2
 go_wp2_with fail
 go_ret2
 exact⟨rfl,below_drewN HW.out _⟩
theorem key_any{base b a:Nat}(v:Int)(w:World)(h:ScAt base w b a)(ha:100<=a)(hb:a<=5000)(h0:-9223372036854775808<v)(h1:v<=9223372036854775807) :
 Calls Tryz.prog 207 #[.pointer (some ⟨b,0,none⟩),.int .i64 v] w fun e w'=>e=.returned (.tuple #[.int .i64 (kyP a v),.int .i64 0])/\Below w.heap.size w w':=by
 by_cases hp:0<v
 ·have e:kyP a v=1+(kyS (spans a) v:Nat):=by unfold kyP;rw[if_neg (by omega),if_pos hp]
  rw[e]
  exact key_pos v w h ha hb hp h1
 ·have hv0:¬v=-9223372036854775808:=by omega
  by_cases hz:v=0
  ·subst hz
   have e:kyP a 0=0:=rfl
   rw[e]
   go_enter Tryz.func207,Tryz.ntmps207
   go_wp2_with fail
   go_ret2
   exact⟨rfl,by(repeat' (first|(with_reducible exact Below.refl _ _)|(with_reducible refine Below.alloc ?_ ?_ _)|(with_reducible refine Below.drew ?_)|(with_reducible refine below_drewN ?_ _)|(with_reducible refine Below.setCell ?_ ?_ _)|(with_reducible refine below_of (by assumption) ?_ ?_)|go_size))⟩
  ·have hn:v<0:=by omega
   have e:kyP a v=-(1+(kyS (spans a) (-v):Nat)):=by unfold kyP;rw[if_neg hz,if_neg hp]
   rw[e]
   have hb1:Below w.heap.size w ((w.alloc (.cells #[.pointer (some ⟨b,0,none⟩)] 242)).alloc (.cells #[.int .i64 v] 2)):=by(repeat' (first|(with_reducible exact Below.refl _ _)|(with_reducible refine Below.alloc ?_ ?_ _)|(with_reducible refine Below.drew ?_)|(with_reducible refine below_drewN ?_ _)|(with_reducible refine Below.setCell ?_ ?_ _)|(with_reducible refine below_of (by assumption) ?_ ?_)|go_size))
   have C1:=Lib.hid (key_pos (-v) _ (h.keep hb1) ha hb (by omega) (by omega))
   have hk:=ky_lt ha hb (v:=-v) (by omega)
   generalize kyS (spans a) (-v)=k at *
   clear hb1 e
   go_enter Tryz.func207,Tryz.ntmps207
   go_wp2_with fail
   refine(C1.out).mono ?_
   rintro e w1 ⟨rfl,hb1⟩
   have hz1:=hb1.size
   go_wp2_with fail
   go_ret2
   exact⟨ret2 (by omega) rfl,by(repeat' (first|(with_reducible exact Below.refl _ _)|(with_reducible refine Below.alloc ?_ ?_ _)|(with_reducible refine Below.drew ?_)|(with_reducible refine below_drewN ?_ _)|(with_reducible refine Below.setCell ?_ ?_ _)|(with_reducible refine below_of (by assumption) ?_ ?_)|go_size))⟩
theorem key_min{base b a:Nat}(w:World)(_h:ScAt base w b a) :
 Calls Tryz.prog 207 #[.pointer (some ⟨b,0,none⟩),.int .i64 (-9223372036854775808)] w fun e w'=>e=.returned (.tuple #[.int .i64 0,.int .i64 5])/\Below w.heap.size w w':=by
 go_enter Tryz.func207,Tryz.ntmps207
 go_wp2_with fail
 go_ret2
 exact⟨rfl,by(repeat' (first|(with_reducible exact Below.refl _ _)|(with_reducible refine Below.alloc ?_ ?_ _)|(with_reducible refine Below.drew ?_)|(with_reducible refine below_drewN ?_ _)|(with_reducible refine Below.setCell ?_ ?_ _)|(with_reducible refine below_of (by assumption) ?_ ?_)|go_size))⟩
theorem rkey_any{a:Nat}(vl:Value)(v:Int)(w:World)(h:RdE (spE 187) w vl (spans a))(ha:100<=a)(hb:a<=5000)(h0:-9223372036854775808<v)(h1:v<=9223372036854775807) :
 Calls Tryz.prog 112 #[vl,.int .i64 v] w fun e w'=>e=.returned (.int .i64 (kyP a v))/\w=w':=by
 by_cases hz:v=0
 ·subst hz
  have e:kyP a 0=0:=rfl
  rw[e]
  go_enter Tryz.func112,Tryz.ntmps112
  go_wp2_with fail
  go_ret
  exact⟨rfl,rfl⟩
 ·obtain⟨m,hm⟩:∃m,(if v<0 then -v else v)=m:=⟨_,rfl⟩
  have hm0:0<m/\m<=9223372036854775807:=by rw[<-hm];split<;>omega
  have hlt:=ky_lt ha hb hm0.2
  have hmo:=hi_mono' ha hb m
  have hr:Hid (kyP a v=if v<0 then -((kyS (spans a) m:Nat):Int) - 1 else((kyS (spans a) m:Nat):Int)+1):=by
   show _=_
   unfold kyP
   rw[if_neg hz]
   by_cases hn:v<0
   ·rw[if_pos hn] at hm |-
    rw[if_neg (by omega),hm];omega
   ·rw[if_neg hn] at hm |-
    rw[if_pos (by omega),hm];omega
  have hvm:(v<0/\v=-m)\/(¬v<0/\m=v):=by split at hm<;>omega
  clear hm
  obtain⟨l,hl⟩:∃l,spans a=l:=⟨_,rfl⟩
  rw[hl] at hmo hlt h hr
  clear hl ha hb
  obtain⟨A,c,rfl,_,_,hf⟩:=h.form
  obtain⟨g,off,rfl,hg,hc⟩:=hf (by omega)
  have HC:Hid (∀j (hj:j<l.length),w.cell? ⟨g,off+j * 3+2,none⟩=some (.int .i64 (l[j]).high)):=Lib.hid (fun j hj=>hc j hj 2 (by decide))
  have HO:=Lib.hid hmo
  clear hc hmo h hf
  have hkl:=hlt.1
  rcases hvm with⟨hn,rfl⟩|⟨hn,rfl⟩
  all_goals
   go_enter Tryz.func112,Tryz.ntmps112
   go_wp2_with fail
   go_loopg [6] l.length (fun q x wr=>(∃k:Nat,q=l.length - k/\k<=l.length/\x=.int .i64 k/\Hid (∀t,t<k->hiP l m t=false))/\w=wr)
   case atStart=>exact⟨⟨0,rfl,by omega,rfl,Lib.hid (fun t ht=>absurd ht (by omega))⟩,rfl⟩
   case round=>
    obtain⟨⟨k,hq,hk,rfl,HT⟩,rfl⟩:=hrel
    have HQ:=Lib.hid hq
    clear hq
    by_cases hlt2:k<l.length
    ·have hc:=HC.out k hlt2
     have hkz:(k:Int)<(l.length:Int):=by omega
     have HE:Hid (hiP l m k=decide (m<=(l[k]).high)):=Lib.hid (by unfold hiP;rw[List.getElem?_eq_getElem hlt2])
     generalize (l[k]).high=y at *
     by_cases hy:y<m
     ·go_wp2_with fail
      go_roundg (l.length - (k+1))
      case measure=>have:=HQ.out;omega
      case rel=>exact⟨⟨k+1,rfl,by omega,by go_num,Lib.hid (fun t ht=>by
       rcases Nat.lt_or_ge t k with h|h
       ·exact HT.out t h
       ·obtain rfl:t=k:=by omega
        rw[HE.out];exact decide_eq_false (by omega))⟩,rfl⟩
     ·have HK:Hid (k=kyS l m):=Lib.hid (ky_found hk HT.out (fun t h3 h4=>HO.out k t h3 h4 (by rw[HE.out];exact decide_eq_true (by omega))))
      go_wp2_with fail
      go_ret
      refine⟨ret_int ?_,rfl⟩
      rw[hr.out,<-HK.out]
      first|rw[if_pos hn]|rw[if_neg (by omega)]
    ·obtain rfl:k=l.length:=by omega
     have HK:Hid (l.length=kyS l m):=Lib.hid (ky_found hk HT.out (fun t h3 h4=>by omega))
     have:=HK.out
     omega
end Go.Proofs.YtkiebccnpheloaaGreat.D
